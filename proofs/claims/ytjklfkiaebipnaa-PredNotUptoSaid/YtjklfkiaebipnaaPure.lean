/- The functions that the laws come to, as plain Lean functions over numbers and lists (none: Go would panic, or the bound on rounds is used up). Printed by wip/eng/gen.py. -/
import Derived.Test.YtjklfkiaebipnaaEngL
import Derived.Lib.IndexMore
namespace Go.Proofs.Ytjklfkiaebipnaa.M
open Go Go.Eng Go.Proofs Go.RowKit
set_option linter.unusedVariables false
set_option maxRecDepth 100000
noncomputable section

structure api_Value where
  Kind : Int
  N : Int
  S : ByteArray
  H : Arr8
  deriving DecidableEq
def ty_api_Value : Ty api_Value := Ty.flat 11 (fun x => [.int .i64 x.Kind, .int .i64 x.N, .string x.S, .int .i64 x.H.a0, .int .i64 x.H.a1, .int .i64 x.H.a2, .int .i64 x.H.a3, .int .i64 x.H.a4, .int .i64 x.H.a5, .int .i64 x.H.a6, .int .i64 x.H.a7]) (fun _ => rfl) (fun _ => all_cons rfl (all_cons rfl (all_cons rfl (all_cons rfl (all_cons rfl (all_cons rfl (all_cons rfl (all_cons rfl (all_cons rfl (all_cons rfl (all_cons rfl (all_nil))))))))))))
def ok_api_Value (x : api_Value) : Prop := (fun x => (Lit.int .i64 x).wf = true) x.Kind ∧ (fun x => (Lit.int .i64 x).wf = true) x.N ∧ (fun s => s.size ≤ 140737488351232) x.S ∧ ok_Arr8 x.H

structure api_Agg where
  Kind : Int
  Col : ByteArray
  deriving DecidableEq
def ty_api_Agg : Ty api_Agg := Ty.flat 2 (fun x => [.int .i64 x.Kind, .string x.Col]) (fun _ => rfl) (fun _ => all_cons rfl (all_cons rfl (all_nil)))
def ok_api_Agg (x : api_Agg) : Prop := (fun x => (Lit.int .i64 x).wf = true) x.Kind ∧ (fun s => s.size ≤ 140737488351232) x.Col

structure api_Node where
  Kind : Int
  S : ByteArray
  N : Int
  From : Int
  To : Int
  V : api_Value
  L : List Int
  Names : List ByteArray
  Aggs : List api_Agg
  deriving DecidableEq
def ty_api_Node : Ty api_Node where
  n := 19
  rep := fun R cs x => ∃ v0 v1 v2, cs = [.int .i64 x.Kind, .string x.S, .int .i64 x.N, .int .i64 x.From, .int .i64 x.To, .int .i64 x.V.Kind, .int .i64 x.V.N, .string x.V.S, .int .i64 x.V.H.a0, .int .i64 x.V.H.a1, .int .i64 x.V.H.a2, .int .i64 x.V.H.a3, .int .i64 x.V.H.a4, .int .i64 x.V.H.a5, .int .i64 x.V.H.a6, .int .i64 x.V.H.a7, v0, v1, v2] ∧ SlR (tyInt .i64) R v0 x.L ∧ SlR tyStr R v1 x.Names ∧ SlR ty_api_Agg R v2 x.Aggs
  mono := fun hR ⟨v0, v1, v2, h, h0, h1, h2⟩ => ⟨v0, v1, v2, h, h0.mono hR, h1.mono hR, h2.mono hR⟩
  len := fun ⟨v0, v1, v2, h, h0, h1, h2⟩ => by subst h; rfl
  one := fun ⟨v0, v1, v2, h, h0, h1, h2⟩ => by subst h; exact all_cons rfl (all_cons rfl (all_cons rfl (all_cons rfl (all_cons rfl (all_cons rfl (all_cons rfl (all_cons rfl (all_cons rfl (all_cons rfl (all_cons rfl (all_cons rfl (all_cons rfl (all_cons rfl (all_cons rfl (all_cons rfl (all_cons h0.one (all_cons h1.one (all_cons h2.one (all_nil)))))))))))))))))))
def ok_api_Node (x : api_Node) : Prop := (fun x => (Lit.int .i64 x).wf = true) x.Kind ∧ (fun s => s.size ≤ 140737488351232) x.S ∧ (fun x => (Lit.int .i64 x).wf = true) x.N ∧ (fun x => (Lit.int .i64 x).wf = true) x.From ∧ (fun x => (Lit.int .i64 x).wf = true) x.To ∧ ok_api_Value x.V ∧ (fun xs => xs.length * 8 ≤ 140737488351232 ∧ ∀ x ∈ xs, (fun x => (Lit.int .i64 x).wf = true) x) x.L ∧ (fun xs => xs.length * 16 ≤ 140737488351232 ∧ ∀ x ∈ xs, (fun s => s.size ≤ 140737488351232) x) x.Names ∧ (fun xs => xs.length * 24 ≤ 140737488351232 ∧ ∀ x ∈ xs, ok_api_Agg x) x.Aggs

structure api_Query where
  N : List api_Node
  deriving DecidableEq
def ty_api_Query : Ty api_Query where
  n := 1
  rep := fun R cs x => ∃ v0, cs = [v0] ∧ SlR ty_api_Node R v0 x.N
  mono := fun hR ⟨v0, h, h0⟩ => ⟨v0, h, h0.mono hR⟩
  len := fun ⟨v0, h, h0⟩ => by subst h; rfl
  one := fun ⟨v0, h, h0⟩ => by subst h; exact all_cons h0.one (all_nil)
def ok_api_Query (x : api_Query) : Prop := (fun xs => xs.length * 216 ≤ 140737488351232 ∧ ∀ x ∈ xs, ok_api_Node x) x.N

structure api_Col where
  Name : ByteArray
  Kind : Int
  deriving DecidableEq
def ty_api_Col : Ty api_Col := Ty.flat 2 (fun x => [.string x.Name, .int .i64 x.Kind]) (fun _ => rfl) (fun _ => all_cons rfl (all_cons rfl (all_nil)))
def ok_api_Col (x : api_Col) : Prop := (fun s => s.size ≤ 140737488351232) x.Name ∧ (fun x => (Lit.int .i64 x).wf = true) x.Kind

structure api_Table where
  Cols : List api_Col
  Rows : List (List api_Value)
  deriving DecidableEq
def ty_api_Table : Ty api_Table where
  n := 2
  rep := fun R cs x => ∃ v0 v1, cs = [v0, v1] ∧ SlR ty_api_Col R v0 x.Cols ∧ SlR (tySl ty_api_Value) R v1 x.Rows
  mono := fun hR ⟨v0, v1, h, h0, h1⟩ => ⟨v0, v1, h, h0.mono hR, h1.mono hR⟩
  len := fun ⟨v0, v1, h, h0, h1⟩ => by subst h; rfl
  one := fun ⟨v0, v1, h, h0, h1⟩ => by subst h; exact all_cons h0.one (all_cons h1.one (all_nil))
def ok_api_Table (x : api_Table) : Prop := (fun xs => xs.length * 24 ≤ 140737488351232 ∧ ∀ x ∈ xs, ok_api_Col x) x.Cols ∧ (fun xs => xs.length * 24 ≤ 140737488351232 ∧ ∀ x ∈ xs, (fun xs => xs.length * 96 ≤ 140737488351232 ∧ ∀ x ∈ xs, ok_api_Value x) x) x.Rows

structure api_Token where
  Kind : Int
  S : ByteArray
  N : Int
  At : Int
  deriving DecidableEq
def ty_api_Token : Ty api_Token := Ty.flat 4 (fun x => [.int .i64 x.Kind, .string x.S, .int .i64 x.N, .int .i64 x.At]) (fun _ => rfl) (fun _ => all_cons rfl (all_cons rfl (all_cons rfl (all_cons rfl (all_nil)))))
def ok_api_Token (x : api_Token) : Prop := (fun x => (Lit.int .i64 x).wf = true) x.Kind ∧ (fun s => s.size ≤ 140737488351232) x.S ∧ (fun x => (Lit.int .i64 x).wf = true) x.N ∧ (fun x => (Lit.int .i64 x).wf = true) x.At

structure catchmentref12_reader where
  L : List api_Token
  At : Int
  Q : List api_Node
  E : Int
  Depth : Int
  deriving DecidableEq
def ty_catchmentref12_reader : Ty catchmentref12_reader where
  n := 5
  rep := fun R cs x => ∃ v0 v1, cs = [v0, .int .i64 x.At, v1, .int .i64 x.E, .int .i64 x.Depth] ∧ SlR ty_api_Token R v0 x.L ∧ SlR ty_api_Node R v1 x.Q
  mono := fun hR ⟨v0, v1, h, h0, h1⟩ => ⟨v0, v1, h, h0.mono hR, h1.mono hR⟩
  len := fun ⟨v0, v1, h, h0, h1⟩ => by subst h; rfl
  one := fun ⟨v0, v1, h, h0, h1⟩ => by subst h; exact all_cons h0.one (all_cons rfl (all_cons h1.one (all_cons rfl (all_cons rfl (all_nil)))))
def ok_catchmentref12_reader (x : catchmentref12_reader) : Prop := (fun xs => xs.length * 40 ≤ 140737488351232 ∧ ∀ x ∈ xs, ok_api_Token x) x.L ∧ (fun x => (Lit.int .i64 x).wf = true) x.At ∧ (fun xs => xs.length * 216 ≤ 140737488351232 ∧ ∀ x ∈ xs, ok_api_Node x) x.Q ∧ (fun x => (Lit.int .i64 x).wf = true) x.E ∧ (fun x => (Lit.int .i64 x).wf = true) x.Depth

/-! ### catchment/catchmentref11.letter -/
def ref11_letter (a0 : Int) : Option Bool :=
  (if (decide (a0 ≥ 97)) = true then some (decide (a0 ≤ 122)) else some false)

/-! ### catchment/catchmentref11.digit -/
def ref11_digit (a0 : Int) : Option Bool :=
  (if (decide (a0 ≥ 48)) = true then some (decide (a0 ≤ 57)) else some false)

/-! ### catchment/catchmentref11.inner -/
def ref11_inner (a0 : Int) : Option Bool :=
  ((ref11_letter a0).bind fun y_1 => (if y_1 = true then some true else ((ref11_digit a0).bind fun y_4 => (if y_4 = true then some true else some (a0 == 95)))))

/-! ### catchment/catchmentref11.text -/
def ref11_text.j1 (kl0 : (List Int) → Int → Option (ByteArray × Int × Bool)) (a0 : ByteArray) (x_59 : List Int) (x_139 : Int) (x_140 : Int) : Option (ByteArray × Int × Bool) :=
  ((apd 1 x_59 [x_140]).bind fun y_161 => (kl0 y_161 (IntKind.i64.wrap (x_139 + 1))))

def ref11_text.j2 (kl0 : (List Int) → Int → Option (ByteArray × Int × Bool)) (a0 : ByteArray) (x_59 : List Int) (x_63 : Int) (x_149 : Bool) : Option (ByteArray × Int × Bool) :=
  (if x_149 = true then some ((⟨#[]⟩ : ByteArray), 0, false) else ((ixs a0 (IntKind.i64.wrap (x_63 + 1))).bind fun y_158 => (ref11_text.j1 kl0 a0 x_59 (IntKind.i64.wrap (x_63 + 1)) y_158)))

def ref11_text.l0 (a0 : ByteArray) : Nat → (List Int) → Int → Option (ByteArray × Int × Bool)
  | 0, _, _ => none
  | k + 1, x_59, x_63 => (if (decide (x_63 < (a0.size : Int))) = true then ((ixs a0 x_63).bind fun y_118 => (if (y_118 == 34) = true then some (bstr x_59, IntKind.i64.wrap (x_63 + 1), decide ((x_59.length : Int) ≤ 64)) else (if (y_118 == 92) = true then (if (decide ((IntKind.i64.wrap (x_63 + 1)) ≥ (a0.size : Int))) = true then (ref11_text.j2 (ref11_text.l0 a0 k) a0 x_59 x_63 true) else ((ixs a0 (IntKind.i64.wrap (x_63 + 1))).bind fun y_152 => (if (y_152 != 34) = true then ((ixs a0 (IntKind.i64.wrap (x_63 + 1))).bind fun y_155 => (ref11_text.j2 (ref11_text.l0 a0 k) a0 x_59 x_63 (y_155 != 92))) else (ref11_text.j2 (ref11_text.l0 a0 k) a0 x_59 x_63 false)))) else (ref11_text.j1 (ref11_text.l0 a0 k) a0 x_59 x_63 y_118)))) else some ((⟨#[]⟩ : ByteArray), 0, false))

def ref11_text (a0 : ByteArray) : Option (ByteArray × Int × Bool) :=
  (ref11_text.l0 a0 (((a0.size : Int) - 1).toNat + 1) [] 1)

/-! ### catchment/catchmentref11.number -/
def ref11_number.l1 (y_1 : Int) (x_6 : ByteArray) : Nat → Int → Int → Option (Int × Bool)
  | 0, _, _ => none
  | k + 1, x_16, x_17 => (if (decide (x_17 < (x_6.size : Int))) = true then ((ixs x_6 x_17).bind fun y_24 => (if (decide (x_16 < (IntKind.i64.wrap ((IntKind.i64.wrap ((-9223372036854775808) + (IntKind.i64.wrap (IntKind.u8.wrap (y_24 - 48))))).tdiv 10)))) = true then some (0, false) else (ref11_number.l1 y_1 x_6 k (IntKind.i64.wrap ((IntKind.i64.wrap (10 * x_16)) - (IntKind.i64.wrap (IntKind.u8.wrap (y_24 - 48))))) (IntKind.i64.wrap (x_17 + 1))))) else (if (y_1 == 45) = true then some (x_16, true) else some (IntKind.i64.wrap (0 - x_16), decide (x_16 > (-9223372036854775808)))))

def ref11_number.j0 (y_1 : Int) (x_6 : ByteArray) : Option (Int × Bool) :=
  (ref11_number.l1 y_1 x_6 (((x_6.size : Int) - 0).toNat + 1) 0 0)

def ref11_number (a0 : ByteArray) : Option (Int × Bool) :=
  ((ixs a0 0).bind fun y_1 => (if (y_1 == 45) = true then ((cuts a0 1 a0.size).bind fun y_9 => (ref11_number.j0 y_1 y_9)) else (ref11_number.j0 y_1 a0)))

/-! ### catchment/catchmentref11.sign -/
def ref11_sign.j1 (kl0 : (List ByteArray) → Int → Option ByteArray) (x_65 : List ByteArray) (x_69 : Int) (x_152 : Bool) : Option ByteArray :=
  (if x_152 = true then ((ix x_65 x_69).bind fun y_177 => some y_177) else (kl0 x_65 (IntKind.i64.wrap (x_69 + 1))))

def ref11_sign.l2 (a0 : ByteArray) : Nat → Int → Option ByteArray
  | 0, _ => none
  | k + 1, x_198 => (if (decide (x_198 < ((⟨#[124, 44, 40, 41, 58, 61, 60, 62]⟩ : ByteArray).size : Int))) = true then ((ixs a0 0).bind fun y_217 => ((ixs (⟨#[124, 44, 40, 41, 58, 61, 60, 62]⟩ : ByteArray) x_198).bind fun y_219 => (if (y_217 == y_219) = true then ((cuts a0 0 1).bind fun y_222 => some y_222) else (ref11_sign.l2 a0 k (IntKind.i64.wrap (x_198 + 1)))))) else some (⟨#[]⟩ : ByteArray))

def ref11_sign.l0 (a0 : ByteArray) : Nat → (List ByteArray) → Int → Option ByteArray
  | 0, _, _ => none
  | k + 1, x_65, x_69 => (if (decide (x_69 < (x_65.length : Int))) = true then (if (decide ((a0.size : Int) ≥ 2)) = true then ((cuts a0 0 2).bind fun y_166 => ((ix x_65 x_69).bind fun y_168 => (ref11_sign.j1 (ref11_sign.l0 a0 k) x_65 x_69 (y_166.toList == y_168.toList)))) else (ref11_sign.j1 (ref11_sign.l0 a0 k) x_65 x_69 false)) else (ref11_sign.l2 a0 ((((⟨#[124, 44, 40, 41, 58, 61, 60, 62]⟩ : ByteArray).size : Int) - 0).toNat + 1) 0))

def ref11_sign (a0 : ByteArray) : Option ByteArray :=
  (ref11_sign.l0 a0 (((3 : Int) - 0).toNat + 1) [(⟨#[33, 61]⟩ : ByteArray), (⟨#[60, 61]⟩ : ByteArray), (⟨#[62, 61]⟩ : ByteArray)] 0)

/-! ### catchment/catchmentref11.one -/
def ref11_one.j7 (a0 : ByteArray) (x_106 : Int) (x_172 : Bool) : Option (api_Token × Int) :=
  (if x_172 = true then some ((⟨0, (⟨#[]⟩ : ByteArray), 0, 0⟩ : api_Token), 0) else ((cuts a0 0 x_106).bind fun y_182 => ((ref11_number y_182).bind fun y_184 => (if y_184.2 = true then some ((⟨2, (⟨#[]⟩ : ByteArray), y_184.1, 0⟩ : api_Token), x_106) else some ((⟨0, (⟨#[]⟩ : ByteArray), 0, 0⟩ : api_Token), 0)))))

def ref11_one.j6 (a0 : ByteArray) (x_106 : Int) (x_146 : ByteArray) (x_157 : Bool) : Option (api_Token × Int) :=
  (if x_157 = true then (ref11_one.j7 a0 x_106 true) else (if (decide ((x_146.size : Int) > 19)) = true then (ref11_one.j7 a0 x_106 true) else (if (decide (x_106 < (a0.size : Int))) = true then ((ixs a0 x_106).bind fun y_177 => ((ref11_inner y_177).bind fun y_179 => (ref11_one.j7 a0 x_106 y_179))) else (ref11_one.j7 a0 x_106 false))))

def ref11_one.j5 (a0 : ByteArray) (x_106 : Int) (x_146 : ByteArray) : Option (api_Token × Int) :=
  ((ixs x_146 0).bind fun y_159 => (if (y_159 == 48) = true then (if (decide ((x_146.size : Int) > 1)) = true then (ref11_one.j6 a0 x_106 x_146 true) else ((ixs a0 0).bind fun y_163 => (ref11_one.j6 a0 x_106 x_146 (y_163 == 45)))) else (ref11_one.j6 a0 x_106 x_146 false)))

def ref11_one.j4 (kl3 : Int → Option (api_Token × Int)) (a0 : ByteArray) (x_106 : Int) (x_131 : Bool) : Option (api_Token × Int) :=
  (if x_131 = true then (kl3 (IntKind.i64.wrap (x_106 + 1))) else ((cuts a0 0 x_106).bind fun y_139 => ((ixs y_139 0).bind fun y_141 => (if (y_141 == 45) = true then ((cuts y_139 1 y_139.size).bind fun y_149 => (ref11_one.j5 a0 x_106 y_149)) else (ref11_one.j5 a0 x_106 y_139)))))

def ref11_one.l3 (a0 : ByteArray) : Nat → Int → Option (api_Token × Int)
  | 0, _ => none
  | k + 1, x_106 => (if (decide (x_106 < (a0.size : Int))) = true then ((ixs a0 x_106).bind fun y_134 => ((ref11_digit y_134).bind fun y_136 => (ref11_one.j4 (ref11_one.l3 a0 k) a0 x_106 y_136))) else (ref11_one.j4 (ref11_one.l3 a0 k) a0 x_106 false))

def ref11_one.j2 (a0 : ByteArray) (x_76 : Bool) : Option (api_Token × Int) :=
  (if x_76 = true then (ref11_one.l3 a0 (((a0.size : Int) - 1).toNat + 1) 1) else ((ref11_sign a0).bind fun y_187 => some ((⟨4, y_187, 0, 0⟩ : api_Token), (y_187.size : Int))))

def ref11_one.j1 (kl0 : Int → Option (api_Token × Int)) (a0 : ByteArray) (x_21 : Int) (x_46 : Bool) : Option (api_Token × Int) :=
  (if x_46 = true then (kl0 (IntKind.i64.wrap (x_21 + 1))) else (if (decide (x_21 ≤ 24)) = true then ((cuts a0 0 x_21).bind fun y_55 => some ((⟨1, y_55, 0, 0⟩ : api_Token), x_21)) else some ((⟨0, (⟨#[]⟩ : ByteArray), 0, 0⟩ : api_Token), 0)))

def ref11_one.l0 (a0 : ByteArray) : Nat → Int → Option (api_Token × Int)
  | 0, _ => none
  | k + 1, x_21 => (if (decide (x_21 < (a0.size : Int))) = true then ((ixs a0 x_21).bind fun y_49 => ((ref11_inner y_49).bind fun y_51 => (ref11_one.j1 (ref11_one.l0 a0 k) a0 x_21 y_51))) else (ref11_one.j1 (ref11_one.l0 a0 k) a0 x_21 false))

def ref11_one (a0 : ByteArray) : Option (api_Token × Int) :=
  ((ixs a0 0).bind fun y_2 => ((ref11_letter y_2).bind fun y_4 => (if y_4 = true then (ref11_one.l0 a0 (((a0.size : Int) - 0).toNat + 1) 0) else ((ixs a0 0).bind fun y_57 => (if (y_57 == 34) = true then ((ref11_text a0).bind fun y_60 => (if y_60.2.2 = true then some ((⟨3, y_60.1, 0, 0⟩ : api_Token), y_60.2.1) else some ((⟨0, (⟨#[]⟩ : ByteArray), 0, 0⟩ : api_Token), 0))) else ((ixs a0 0).bind fun y_78 => ((ref11_digit y_78).bind fun y_80 => (if y_80 = true then (ref11_one.j2 a0 true) else ((ixs a0 0).bind fun y_83 => (if (y_83 == 45) = true then (if (decide ((a0.size : Int) > 1)) = true then ((ixs a0 1).bind fun y_87 => ((ref11_digit y_87).bind fun y_89 => (ref11_one.j2 a0 y_89))) else (ref11_one.j2 a0 false)) else (ref11_one.j2 a0 false)))))))))))

/-! ### catchment/catchmentref11.Lex -/
def ref11_Lex.j1 (kl0 : (List api_Token) → Int → Option ((List api_Token) × Int × Int)) (a0 : ByteArray) (x_238 : List api_Token) (x_242 : Int) : Option ((List api_Token) × Int × Int) :=
  (kl0 x_238 x_242)

def ref11_Lex.j2 (kl0 : (List api_Token) → Int → Option ((List api_Token) × Int × Int)) (a0 : ByteArray) (x_100 : List api_Token) (x_104 : Int) (x_255 : Bool) : Option ((List api_Token) × Int × Int) :=
  (if x_255 = true then (ref11_Lex.j1 kl0 a0 x_100 (IntKind.i64.wrap (x_104 + 1))) else ((cuts a0 x_104 a0.size).bind fun y_269 => ((ref11_one y_269).bind fun y_271 => (if (y_271.2 == 0) = true then some (([] : List api_Token), x_104, 110) else ((apd 40 x_100 [(⟨y_271.1.Kind, y_271.1.S, y_271.1.N, x_104⟩ : api_Token)]).bind fun y_278 => (ref11_Lex.j1 kl0 a0 y_278 (IntKind.i64.wrap (x_104 + y_271.2))))))))

def ref11_Lex.l0 (a0 : ByteArray) : Nat → (List api_Token) → Int → Option ((List api_Token) × Int × Int)
  | 0, _, _ => none
  | k + 1, x_100, x_104 => (if (decide (x_104 < (a0.size : Int))) = true then ((ixs a0 x_104).bind fun y_257 => (if (y_257 == 32) = true then (ref11_Lex.j2 (ref11_Lex.l0 a0 k) a0 x_100 x_104 true) else ((ixs a0 x_104).bind fun y_260 => (if (y_260 == 9) = true then (ref11_Lex.j2 (ref11_Lex.l0 a0 k) a0 x_100 x_104 true) else ((ixs a0 x_104).bind fun y_263 => (if (y_263 == 10) = true then (ref11_Lex.j2 (ref11_Lex.l0 a0 k) a0 x_100 x_104 true) else ((ixs a0 x_104).bind fun y_266 => (ref11_Lex.j2 (ref11_Lex.l0 a0 k) a0 x_100 x_104 (y_266 == 13))))))))) else some (x_100, 0, 0))

def ref11_Lex (a0 : ByteArray) : Option ((List api_Token) × Int × Int) :=
  (if (decide ((a0.size : Int) > 2048)) = true then some (([] : List api_Token), 0, 2) else (ref11_Lex.l0 a0 (((a0.size : Int) - 0).toNat + 1) [] 0))

/-! ### (*catchment/catchmentref12.reader).is -/
def ref12_reader_is (a0 : catchmentref12_reader) (a1 : ByteArray) : Option Bool :=
  (if (a0.E == 0) = true then (if (decide (a0.At < (a0.L.length : Int))) = true then ((ix a0.L a0.At).bind fun y_43 => (if (y_43.Kind == 1) = true then ((ix a0.L a0.At).bind fun y_53 => some (y_53.S.toList == a1.toList)) else ((ix a0.L a0.At).bind fun y_62 => (if (y_62.Kind == 4) = true then ((ix a0.L a0.At).bind fun y_72 => some (y_72.S.toList == a1.toList)) else some false)))) else some false) else some false)

/-! ### (*catchment/catchmentref12.reader).sees -/
def ref12_reader_sees (a0 : catchmentref12_reader) (a1 : ByteArray) : Option (Bool × catchmentref12_reader) :=
  ((ref12_reader_is a0 a1).bind fun y_1 => (if (!y_1) = true then some (false, a0) else some (true, (⟨a0.L, IntKind.i64.wrap (a0.At + 1), a0.Q, a0.E, a0.Depth⟩ : catchmentref12_reader))))

/-! ### (*catchment/catchmentref12.reader).deeper -/
def ref12_reader_deeper.j0 (a0 : catchmentref12_reader) (x_3 : List api_Node) (x_7 : Bool) : Option catchmentref12_reader :=
  (if x_7 = true then some (⟨a0.L, IntKind.i64.wrap (a0.At - 1), x_3, 2, IntKind.i64.wrap (a0.Depth + 1)⟩ : catchmentref12_reader) else some (⟨a0.L, a0.At, x_3, a0.E, IntKind.i64.wrap (a0.Depth + 1)⟩ : catchmentref12_reader))

def ref12_reader_deeper (a0 : catchmentref12_reader) : Option catchmentref12_reader :=
  (if (a0.E == 0) = true then (ref12_reader_deeper.j0 a0 a0.Q (decide (a0.Depth ≥ 16))) else (ref12_reader_deeper.j0 a0 a0.Q false))

/-! ### (*catchment/catchmentref12.reader).lay -/
def ref12_reader_lay (a0 : catchmentref12_reader) (a1 : api_Node) : Option (Int × catchmentref12_reader) :=
  (if (a0.E == 0) = true then ((apd 216 a0.Q [a1]).bind fun y_11 => some (IntKind.i64.wrap ((y_11.length : Int) - 1), (⟨a0.L, a0.At, y_11, a0.E, a0.Depth⟩ : catchmentref12_reader))) else some (IntKind.i64.wrap ((a0.Q.length : Int) - 1), a0))

/-! ### (*catchment/catchmentref12.reader).fail -/
def ref12_reader_fail (a0 : catchmentref12_reader) : Option catchmentref12_reader :=
  (if (a0.E == 0) = true then some (⟨a0.L, a0.At, a0.Q, 120, a0.Depth⟩ : catchmentref12_reader) else some a0)

/-! ### (*catchment/catchmentref12.reader).wants -/
def ref12_reader_wants (a0 : catchmentref12_reader) (a1 : ByteArray) : Option catchmentref12_reader :=
  ((ref12_reader_sees a0 a1).bind fun y_1 => (if (!y_1.1) = true then ((ref12_reader_fail y_1.2).bind fun y_14 => some y_14) else some y_1.2))

/-! ### (*catchment/catchmentref12.reader).kind -/
def ref12_reader_kind.j0 (a0 : catchmentref12_reader) (x_22 : Bool) : Option (api_Token × catchmentref12_reader) :=
  (if x_22 = true then ((ref12_reader_fail a0).bind fun y_45 => some ((⟨0, (⟨#[]⟩ : ByteArray), 0, 0⟩ : api_Token), y_45)) else ((ix a0.L (IntKind.i64.wrap ((IntKind.i64.wrap (a0.At + 1)) - 1))).bind fun y_65 => some (y_65, (⟨a0.L, IntKind.i64.wrap (a0.At + 1), a0.Q, a0.E, a0.Depth⟩ : catchmentref12_reader))))

def ref12_reader_kind (a0 : catchmentref12_reader) (a1 : Int) : Option (api_Token × catchmentref12_reader) :=
  (if (a0.E != 0) = true then (ref12_reader_kind.j0 a0 true) else (if (decide (a0.At ≥ (a0.L.length : Int))) = true then (ref12_reader_kind.j0 a0 true) else ((ix a0.L a0.At).bind fun y_36 => (ref12_reader_kind.j0 a0 (y_36.Kind != a1)))))

/-! ### (*catchment/catchmentref12.reader).value -/
def ref12_reader_value.j0 (y_15 : Bool × catchmentref12_reader) (x_46 : Bool) : Option (api_Value × catchmentref12_reader) :=
  (if x_46 = true then ((ref12_reader_kind y_15.2 2).bind fun y_67 => some ((⟨1, y_67.1.N, (⟨#[]⟩ : ByteArray), (⟨0, 0, 0, 0, 0, 0, 0, 0⟩ : Arr8)⟩ : api_Value), y_67.2)) else ((ref12_reader_kind y_15.2 3).bind fun y_79 => some ((⟨2, 0, y_79.1.S, (⟨0, 0, 0, 0, 0, 0, 0, 0⟩ : Arr8)⟩ : api_Value), y_79.2)))

def ref12_reader_value (a0 : catchmentref12_reader) : Option (api_Value × catchmentref12_reader) :=
  ((ref12_reader_sees a0 (⟨#[116, 114, 117, 101]⟩ : ByteArray)).bind fun y_2 => (if y_2.1 = true then some ((⟨3, 1, (⟨#[]⟩ : ByteArray), (⟨0, 0, 0, 0, 0, 0, 0, 0⟩ : Arr8)⟩ : api_Value), y_2.2) else ((ref12_reader_sees y_2.2 (⟨#[102, 97, 108, 115, 101]⟩ : ByteArray)).bind fun y_15 => (if y_15.1 = true then some ((⟨3, 0, (⟨#[]⟩ : ByteArray), (⟨0, 0, 0, 0, 0, 0, 0, 0⟩ : Arr8)⟩ : api_Value), y_15.2) else (if (decide (y_15.2.At < (y_15.2.L.length : Int))) = true then ((ix y_15.2.L y_15.2.At).bind fun y_58 => (ref12_reader_value.j0 y_15 (y_58.Kind == 2))) else (ref12_reader_value.j0 y_15 false))))))

/-! ### (*catchment/catchmentref12.reader).not -/
def ref12_reader_not.j2 (kl0 : (List api_Token) → Int → (List api_Node) → Int → Int → Int → (List ByteArray) → Int → Option (Int × catchmentref12_reader)) (x_200 : List ByteArray) (x_204 : Int) (y_251 : Bool × catchmentref12_reader) (x_264 : Int) : Option (Int × catchmentref12_reader) :=
  (kl0 y_251.2.L y_251.2.At y_251.2.Q y_251.2.E y_251.2.Depth x_264 x_200 (IntKind.i64.wrap (x_204 + 1)))

def ref12_reader_not.j1 (kl0 : (List api_Token) → Int → (List api_Node) → Int → Int → Int → (List ByteArray) → Int → Option (Int × catchmentref12_reader)) (y_104 : api_Token × catchmentref12_reader) (x_186 : List api_Token) (x_190 : Int) (x_192 : List api_Node) (x_196 : Int) (x_197 : Int) (x_198 : Int) (x_200 : List ByteArray) (x_204 : Int) (x_239 : Bool) : Option (Int × catchmentref12_reader) :=
  (if x_239 = true then ((ix x_200 x_204).bind fun y_243 => ((ref12_reader_sees (⟨x_186, x_190, x_192, x_196, x_197⟩ : catchmentref12_reader) y_243).bind fun y_251 => (if y_251.1 = true then (ref12_reader_not.j2 kl0 x_200 x_204 y_251 x_204) else (ref12_reader_not.j2 kl0 x_200 x_204 y_251 x_198)))) else (if (x_198 == 0) = true then ((ref12_reader_fail (⟨x_186, x_190, x_192, x_196, x_197⟩ : catchmentref12_reader)).bind fun y_268 => some (0, y_268)) else ((ref12_reader_value (⟨x_186, x_190, x_192, x_196, x_197⟩ : catchmentref12_reader)).bind fun y_280 => ((ref12_reader_lay y_280.2 (⟨14, y_104.1.S, x_198, 0, 0, y_280.1, [], [], []⟩ : api_Node)).bind fun y_292 => some (y_292.1, y_292.2)))))

def ref12_reader_not.l0 (y_104 : api_Token × catchmentref12_reader) : Nat → (List api_Token) → Int → (List api_Node) → Int → Int → Int → (List ByteArray) → Int → Option (Int × catchmentref12_reader)
  | 0, _, _, _, _, _, _, _, _ => none
  | k + 1, x_186, x_190, x_192, x_196, x_197, x_198, x_200, x_204 => (if (decide (x_204 < 7)) = true then (ref12_reader_not.j1 (ref12_reader_not.l0 y_104 k) y_104 x_186 x_190 x_192 x_196 x_197 x_198 x_200 x_204 (x_198 == 0)) else (ref12_reader_not.j1 (ref12_reader_not.l0 y_104 k) y_104 x_186 x_190 x_192 x_196 x_197 x_198 x_200 x_204 false))

def ref12_reader_not.b (kr_38 : catchmentref12_reader → Option (Int × catchmentref12_reader)) (kr_67 : catchmentref12_reader → Option (Int × catchmentref12_reader)) (a0 : catchmentref12_reader) : Option (Int × catchmentref12_reader) :=
  (if (a0.E != 0) = true then some (0, a0) else ((ref12_reader_sees a0 (⟨#[110, 111, 116]⟩ : ByteArray)).bind fun y_2 => (if y_2.1 = true then ((ref12_reader_deeper y_2.2).bind fun y_15 => ((kr_67 y_15).bind fun y_27 => ((ref12_reader_lay (⟨y_27.2.L, y_27.2.At, y_27.2.Q, y_27.2.E, IntKind.i64.wrap (y_27.2.Depth - 1)⟩ : catchmentref12_reader) (⟨13, (⟨#[]⟩ : ByteArray), 0, 0, 0, (⟨0, 0, (⟨#[]⟩ : ByteArray), (⟨0, 0, 0, 0, 0, 0, 0, 0⟩ : Arr8)⟩ : api_Value), [y_27.1], [], []⟩ : api_Node)).bind fun y_43 => some (y_43.1, y_43.2)))) else ((ref12_reader_sees y_2.2 (⟨#[40]⟩ : ByteArray)).bind fun y_55 => (if y_55.1 = true then ((ref12_reader_deeper y_55.2).bind fun y_68 => ((kr_38 y_68).bind fun y_80 => ((ref12_reader_wants y_80.2 (⟨#[41]⟩ : ByteArray)).bind fun y_92 => some (y_80.1, (⟨y_92.L, y_92.At, y_92.Q, y_92.E, IntKind.i64.wrap (y_92.Depth - 1)⟩ : catchmentref12_reader))))) else ((ref12_reader_kind y_55.2 1).bind fun y_104 => ((ref12_reader_sees y_104.2 (⟨#[104, 97, 115]⟩ : ByteArray)).bind fun y_117 => (if y_117.1 = true then ((ref12_reader_kind y_117.2 3).bind fun y_130 => ((ref12_reader_lay y_130.2 (⟨15, y_104.1.S, 0, 0, 0, (⟨2, 0, y_130.1.S, (⟨0, 0, 0, 0, 0, 0, 0, 0⟩ : Arr8)⟩ : api_Value), [], [], []⟩ : api_Node)).bind fun y_142 => some (y_142.1, y_142.2))) else (ref12_reader_not.l0 y_104 (((7 : Int) - 1).toNat + 1) y_117.2.L y_117.2.At y_117.2.Q y_117.2.E y_117.2.Depth 0 [(⟨#[]⟩ : ByteArray), (⟨#[61]⟩ : ByteArray), (⟨#[33, 61]⟩ : ByteArray), (⟨#[60]⟩ : ByteArray), (⟨#[60, 61]⟩ : ByteArray), (⟨#[62]⟩ : ByteArray), (⟨#[62, 61]⟩ : ByteArray)] 1)))))))))

def ref12_reader_not.r (kr_38 : catchmentref12_reader → Option (Int × catchmentref12_reader)) : Nat → catchmentref12_reader → Option (Int × catchmentref12_reader)
  | 0, _ => none
  | k + 1, a0 => ref12_reader_not.b kr_38 (ref12_reader_not.r kr_38 k) a0

def ref12_reader_not (kr_38 : catchmentref12_reader → Option (Int × catchmentref12_reader)) (a0 : catchmentref12_reader) : Option (Int × catchmentref12_reader) := ref12_reader_not.r kr_38 (a0.L.length + 2) a0

/-! ### (*catchment/catchmentref12.reader).both -/
def ref12_reader_both.l0 (a0 : catchmentref12_reader) (kr_38 : catchmentref12_reader → Option (Int × catchmentref12_reader)) : Nat → (List api_Token) → Int → (List api_Node) → Int → Int → Int → Option (Int × catchmentref12_reader)
  | 0, _, _, _, _, _, _ => none
  | k + 1, x_56, x_60, x_62, x_66, x_67, x_68 => ((ref12_reader_sees (⟨x_56, x_60, x_62, x_66, x_67⟩ : catchmentref12_reader) (⟨#[97, 110, 100]⟩ : ByteArray)).bind fun y_112 => (if y_112.1 = true then ((ref12_reader_not kr_38 y_112.2).bind fun y_125 => ((ref12_reader_lay y_125.2 (⟨11, (⟨#[]⟩ : ByteArray), 0, 0, 0, (⟨0, 0, (⟨#[]⟩ : ByteArray), (⟨0, 0, 0, 0, 0, 0, 0, 0⟩ : Arr8)⟩ : api_Value), [x_68, y_125.1], [], []⟩ : api_Node)).bind fun y_141 => (ref12_reader_both.l0 a0 kr_38 k y_141.2.L y_141.2.At y_141.2.Q y_141.2.E y_141.2.Depth y_141.1))) else some (x_68, y_112.2)))

def ref12_reader_both (kr_38 : catchmentref12_reader → Option (Int × catchmentref12_reader)) (a0 : catchmentref12_reader) : Option (Int × catchmentref12_reader) :=
  ((ref12_reader_not kr_38 a0).bind fun y_1 => (ref12_reader_both.l0 a0 kr_38 (a0.L.length + 1) y_1.2.L y_1.2.At y_1.2.Q y_1.2.E y_1.2.Depth y_1.1))

/-! ### (*catchment/catchmentref12.reader).cond -/
def ref12_reader_cond.l0 (a0 : catchmentref12_reader) (kr_38 : catchmentref12_reader → Option (Int × catchmentref12_reader)) : Nat → (List api_Token) → Int → (List api_Node) → Int → Int → Int → Option (Int × catchmentref12_reader)
  | 0, _, _, _, _, _, _ => none
  | k + 1, x_56, x_60, x_62, x_66, x_67, x_68 => ((ref12_reader_sees (⟨x_56, x_60, x_62, x_66, x_67⟩ : catchmentref12_reader) (⟨#[111, 114]⟩ : ByteArray)).bind fun y_112 => (if y_112.1 = true then ((ref12_reader_both kr_38 y_112.2).bind fun y_125 => ((ref12_reader_lay y_125.2 (⟨12, (⟨#[]⟩ : ByteArray), 0, 0, 0, (⟨0, 0, (⟨#[]⟩ : ByteArray), (⟨0, 0, 0, 0, 0, 0, 0, 0⟩ : Arr8)⟩ : api_Value), [x_68, y_125.1], [], []⟩ : api_Node)).bind fun y_141 => (ref12_reader_cond.l0 a0 kr_38 k y_141.2.L y_141.2.At y_141.2.Q y_141.2.E y_141.2.Depth y_141.1))) else some (x_68, y_112.2)))

def ref12_reader_cond.b (kr_38 : catchmentref12_reader → Option (Int × catchmentref12_reader)) (a0 : catchmentref12_reader) : Option (Int × catchmentref12_reader) :=
  ((ref12_reader_both kr_38 a0).bind fun y_1 => (ref12_reader_cond.l0 a0 kr_38 (a0.L.length + 1) y_1.2.L y_1.2.At y_1.2.Q y_1.2.E y_1.2.Depth y_1.1))

def ref12_reader_cond.r : Nat → catchmentref12_reader → Option (Int × catchmentref12_reader)
  | 0, _ => none
  | k + 1, a0 => ref12_reader_cond.b (ref12_reader_cond.r k) a0

def ref12_reader_cond (a0 : catchmentref12_reader) : Option (Int × catchmentref12_reader) := ref12_reader_cond.r (a0.L.length + 2) a0

/-! ### (*catchment/catchmentref12.reader).end -/
def ref12_reader_end.j1 (x_22 : List api_Token) (x_26 : Int) (x_28 : List api_Node) (x_32 : Int) (x_33 : Int) : Option (api_Query × Int × Int) :=
  (if (x_32 != 0) = true then some ((⟨([] : List api_Node)⟩ : api_Query), x_26, x_32) else (if (decide ((x_28.length : Int) > 128)) = true then some ((⟨([] : List api_Node)⟩ : api_Query), 0, 2) else some ((⟨x_28⟩ : api_Query), 0, 0)))

def ref12_reader_end.j0 (a0 : catchmentref12_reader) (x_4 : Bool) : Option (api_Query × Int × Int) :=
  (if x_4 = true then ((ref12_reader_fail a0).bind fun y_37 => (ref12_reader_end.j1 y_37.L y_37.At y_37.Q y_37.E y_37.Depth)) else (ref12_reader_end.j1 a0.L a0.At a0.Q a0.E a0.Depth))

def ref12_reader_end (a0 : catchmentref12_reader) : Option (api_Query × Int × Int) :=
  (if (a0.E == 0) = true then (ref12_reader_end.j0 a0 (decide (a0.At < (a0.L.length : Int)))) else (ref12_reader_end.j0 a0 false))

/-! ### catchment/catchmentref12.Cond -/
def ref12_Cond (a0 : List api_Token) : Option (api_Query × Int × Int) :=
  (if (decide ((a0.length : Int) > 1024)) = true then some ((⟨([] : List api_Node)⟩ : api_Query), 0, 2) else ((ref12_reader_cond (⟨a0, 0, ([] : List api_Node), 0, 0⟩ : catchmentref12_reader)).bind fun y_9 => ((ref12_reader_end y_9.2).bind fun y_21 => some (y_21.1, y_21.2.1, y_21.2.2))))

/-! ### catchment/catchmentlaw15.cond -/
def law15_cond (a0 : ByteArray) : Option api_Query :=
  ((ref11_Lex a0).bind fun y_2 => ((ref12_Cond y_2.1).bind fun y_10 => some y_10.1))

/-! ### catchment/table.Find$1 -/
def table_Find_1_cp (a0 : api_Col) (a1 : ByteArray) : Option Bool :=
  some (a0.Name.toList == a1.toList)

/-! ### slices.IndexFunc[[]catchment/api.Col,catchment/api.Col] -/
def slices_IndexFunc_api_Col_api_Col_f_table_Find_1p.l0 (a0 : List api_Col) (a1_0 : ByteArray) : Nat → Int → Option Int
  | 0, _ => none
  | k + 1, x_15 => (if (decide (x_15 < (a0.length : Int))) = true then ((ix a0 x_15).bind fun y_31 => ((table_Find_1_cp y_31 a1_0).bind fun y_40 => (if y_40 = true then some x_15 else (slices_IndexFunc_api_Col_api_Col_f_table_Find_1p.l0 a0 a1_0 k (IntKind.i64.wrap (x_15 + 1)))))) else some (-1))

def slices_IndexFunc_api_Col_api_Col_f_table_Find_1p (a0 : List api_Col) (a1_0 : ByteArray) : Option Int :=
  (slices_IndexFunc_api_Col_api_Col_f_table_Find_1p.l0 a0 a1_0 (((a0.length : Int) - 0).toNat + 1) 0)

/-! ### catchment/table.Find -/
def table_Find (a0 : List api_Col) (a1 : ByteArray) : Option Int :=
  ((slices_IndexFunc_api_Col_api_Col_f_table_Find_1p a0 a1).bind fun y_2 => some y_2)

/-! ### catchment/pred.Holds$1 -/
def pred_Holds_1_cp_cp.j0 (a2 : List api_Value) (y_3 : Int) (x_6 : Bool) : Option (api_Value × Bool) :=
  (if x_6 = true then some ((⟨0, 0, (⟨#[]⟩ : ByteArray), (⟨0, 0, 0, 0, 0, 0, 0, 0⟩ : Arr8)⟩ : api_Value), false) else ((ix a2 y_3).bind fun y_10 => some (y_10, true)))

def pred_Holds_1_cp_cp (a0 : api_Node) (a1 : List api_Col) (a2 : List api_Value) : Option (api_Value × Bool) :=
  ((table_Find a1 a0.S).bind fun y_3 => (if (decide (y_3 < 0)) = true then (pred_Holds_1_cp_cp.j0 a2 y_3 true) else (pred_Holds_1_cp_cp.j0 a2 y_3 (decide (y_3 ≥ (a2.length : Int))))))

/-! ### cmp.isNaN[int] -/
def cmp_isNaN_int (a0 : Int) : Option Bool :=
  some (a0 != a0)

/-! ### cmp.Compare[int] -/
def cmp_Compare_int (a0 : Int) (a1 : Int) : Option Int :=
  ((cmp_isNaN_int a0).bind fun y_1 => ((cmp_isNaN_int a1).bind fun y_3 => (if y_1 = true then (if y_3 = true then some 0 else some (-1)) else (if y_3 = true then some 1 else (if (decide (a0 < a1)) = true then some (-1) else (if (decide (a0 > a1)) = true then some 1 else some 0))))))

/-! ### internal/bytealg.CompareString -/
def internal_bytealg_CompareString (a0 : ByteArray) (a1 : ByteArray) : Option Int :=
  some (Lib.compareBytes a0.data.toList a1.data.toList)

/-! ### strings.Compare -/
def strings_Compare (a0 : ByteArray) (a1 : ByteArray) : Option Int :=
  ((internal_bytealg_CompareString a0 a1).bind fun y_1 => some y_1)

/-! ### slices.Compare[[]int,int] -/
def slices_Compare_int_int.l0 (a0 : List Int) (a1 : List Int) : Nat → Int → Option Int
  | 0, _ => none
  | k + 1, x_25 => (if (decide (x_25 < (a0.length : Int))) = true then ((ix a0 x_25).bind fun y_51 => (if (decide (x_25 ≥ (a1.length : Int))) = true then some 1 else ((ix a1 x_25).bind fun y_61 => ((cmp_Compare_int y_51 y_61).bind fun y_70 => (if (y_70 != 0) = true then some y_70 else (slices_Compare_int_int.l0 a0 a1 k (IntKind.i64.wrap (x_25 + 1)))))))) else (if (decide ((a0.length : Int) < (a1.length : Int))) = true then some (-1) else some 0))

def slices_Compare_int_int (a0 : List Int) (a1 : List Int) : Option Int :=
  (slices_Compare_int_int.l0 a0 a1 (((a0.length : Int) - 0).toNat + 1) 0)

/-! ### cmp.Or[int] -/
def cmp_Or_int.l0 (a0 : List Int) : Nat → Int → Option Int
  | 0, _ => none
  | k + 1, x_13 => (if (decide (x_13 < (a0.length : Int))) = true then ((ix a0 x_13).bind fun y_27 => (if (y_27 != 0) = true then some y_27 else (cmp_Or_int.l0 a0 k (IntKind.i64.wrap (x_13 + 1))))) else some 0)

def cmp_Or_int (a0 : List Int) : Option Int :=
  (cmp_Or_int.l0 a0 (((a0.length : Int) - 0).toNat + 1) 0)

/-! ### catchment/value.Compare -/
def value_Compare (a0 : api_Value) (a1 : api_Value) : Option Int :=
  ((cmp_Compare_int a0.Kind a1.Kind).bind fun y_14 => ((cmp_Compare_int a0.N a1.N).bind fun y_16 => ((strings_Compare a0.S a1.S).bind fun y_18 => ((slices_Compare_int_int a0.H.list a1.H.list).bind fun y_20 => ((cmp_Or_int [y_14, y_16, y_18, y_20]).bind fun y_23 => some y_23)))))

/-! ### catchment/value.Holds -/
def value_Holds (a0 : Int) (a1 : api_Value) (a2 : api_Value) : Option Bool :=
  ((value_Compare a1 a2).bind fun y_3 => (if (a1.Kind != a2.Kind) = true then some false else (if (a0 == 1) = true then some (y_3 == 0) else (if (a0 == 2) = true then some (y_3 != 0) else (if (a0 == 3) = true then some (decide (y_3 < 0)) else (if (a0 == 4) = true then some (decide (y_3 ≤ 0)) else (if (a0 == 5) = true then some (decide (y_3 > 0)) else (if (a0 == 6) = true then some (decide (y_3 ≥ 0)) else some false))))))))

/-! ### strings.Contains -/
def strings_Contains (a0 : ByteArray) (a1 : ByteArray) : Option Bool := if a0.size < 4294967281 then some (Lib.contains a0.data.toList a1.data.toList) else none

/-! ### catchment/pred.Holds$2$1 -/
def pred_Holds_2_1_cp (a0 : Int) (a1 : Int) : Option Bool :=
  (if (decide (a0 < 0)) = true then some true else some (decide (a0 ≥ a1)))

/-! ### slices.IndexFunc[[]int,int] -/
def slices_IndexFunc_int_int_f_pred_Holds_2_1p.l0 (a0 : List Int) (a1_0 : Int) : Nat → Int → Option Int
  | 0, _ => none
  | k + 1, x_15 => (if (decide (x_15 < (a0.length : Int))) = true then ((ix a0 x_15).bind fun y_31 => ((pred_Holds_2_1_cp y_31 a1_0).bind fun y_40 => (if y_40 = true then some x_15 else (slices_IndexFunc_int_int_f_pred_Holds_2_1p.l0 a0 a1_0 k (IntKind.i64.wrap (x_15 + 1)))))) else some (-1))

def slices_IndexFunc_int_int_f_pred_Holds_2_1p (a0 : List Int) (a1_0 : Int) : Option Int :=
  (slices_IndexFunc_int_int_f_pred_Holds_2_1p.l0 a0 a1_0 (((a0.length : Int) - 0).toNat + 1) 0)

/-! ### slices.ContainsFunc[[]int,int] -/
def slices_ContainsFunc_int_int_f_pred_Holds_2_1p (a0 : List Int) (a1_0 : Int) : Option Bool :=
  ((slices_IndexFunc_int_int_f_pred_Holds_2_1p a0 a1_0).bind fun y_1 => some (decide (y_1 ≥ 0)))

/-! ### catchment/pred.Holds$2 -/
def pred_Holds_2_cp_cp (a0 : Int) (a1 : api_Node) (a2 : Int) : Option Bool :=
  (if ((a1.L.length : Int) == a0) = true then ((slices_ContainsFunc_int_int_f_pred_Holds_2_1p a1.L a2).bind fun y_2 => some (!y_2)) else some false)

/-! ### catchment/pred.Holds -/
def pred_Holds.j2 (kl1 : (List Bool) → Int → Option Bool) (y_15 : List api_Node) (x_18274 : Int) (x_45655 : List Bool) : Option Bool :=
  (kl1 x_45655 (IntKind.i64.wrap (x_18274 + 1)))

def pred_Holds.j4 (kl1 : (List Bool) → Int → Option Bool) (y_15 : List api_Node) (x_18274 : Int) (x_50269 : List Bool) : Option Bool :=
  (pred_Holds.j2 kl1 y_15 x_18274 x_50269)

def pred_Holds.j6 (kl1 : (List Bool) → Int → Option Bool) (y_15 : List api_Node) (x_18274 : Int) (x_52600 : List Bool) : Option Bool :=
  (pred_Holds.j4 kl1 y_15 x_18274 x_52600)

def pred_Holds.j8 (kl1 : (List Bool) → Int → Option Bool) (y_15 : List api_Node) (x_18274 : Int) (x_53780 : List Bool) : Option Bool :=
  (pred_Holds.j6 kl1 y_15 x_18274 x_53780)

def pred_Holds.j10 (kl1 : (List Bool) → Int → Option Bool) (y_15 : List api_Node) (x_18274 : Int) (x_54440 : List Bool) : Option Bool :=
  (pred_Holds.j8 kl1 y_15 x_18274 x_54440)

def pred_Holds.j11 (kl1 : (List Bool) → Int → Option Bool) (y_15 : List api_Node) (x_18274 : Int) (x_54607 : List Bool) : Option Bool :=
  (pred_Holds.j10 kl1 y_15 x_18274 x_54607)

def pred_Holds.j3 (kl1 : (List Bool) → Int → Option Bool) (y_15 : List api_Node) (x_18274 : Int) (x_45715 : List Bool) : Option Bool :=
  (pred_Holds.j2 kl1 y_15 x_18274 x_45715)

def pred_Holds.j5 (kl1 : (List Bool) → Int → Option Bool) (y_15 : List api_Node) (x_18274 : Int) (x_50353 : List Bool) : Option Bool :=
  (pred_Holds.j4 kl1 y_15 x_18274 x_50353)

def pred_Holds.j7 (kl1 : (List Bool) → Int → Option Bool) (y_15 : List api_Node) (x_18274 : Int) (x_52697 : List Bool) : Option Bool :=
  (pred_Holds.j6 kl1 y_15 x_18274 x_52697)

def pred_Holds.j9 (kl1 : (List Bool) → Int → Option Bool) (y_15 : List api_Node) (x_18274 : Int) (x_53947 : List Bool) : Option Bool :=
  (pred_Holds.j8 kl1 y_15 x_18274 x_53947)

def pred_Holds.l1 (a1 : Int) (a2 : List api_Col) (a3 : List api_Value) (y_15 : List api_Node) : Nat → (List Bool) → Int → Option Bool
  | 0, _, _ => none
  | k + 1, x_18270, x_18274 => (if (decide (x_18274 < (y_15.length : Int))) = true then ((ix y_15 x_18274).bind fun y_36525 => (if (y_36525.Kind == 14) = true then ((pred_Holds_1_cp_cp y_36525 a2 a3).bind fun y_45661 => (if y_45661.2 = true then ((value_Holds y_36525.N y_45661.1 y_36525.V).bind fun y_45746 => ((ix x_18270 x_18274).bind fun y_45748 => (pred_Holds.j3 (pred_Holds.l1 a1 a2 a3 y_15 k) y_15 x_18274 (upd x_18270 x_18274 y_45746)))) else ((ix x_18270 x_18274).bind fun y_45759 => (pred_Holds.j3 (pred_Holds.l1 a1 a2 a3 y_15 k) y_15 x_18274 (upd x_18270 x_18274 false))))) else (if (y_36525.Kind == 15) = true then ((pred_Holds_1_cp_cp y_36525 a2 a3).bind fun y_50275 => (if y_50275.2 = true then (if (y_50275.1.Kind == 2) = true then ((strings_Contains y_50275.1.S y_36525.V.S).bind fun y_50397 => ((ix x_18270 x_18274).bind fun y_50399 => (pred_Holds.j5 (pred_Holds.l1 a1 a2 a3 y_15 k) y_15 x_18274 (upd x_18270 x_18274 y_50397)))) else ((ix x_18270 x_18274).bind fun y_50410 => (pred_Holds.j5 (pred_Holds.l1 a1 a2 a3 y_15 k) y_15 x_18274 (upd x_18270 x_18274 false)))) else ((ix x_18270 x_18274).bind fun y_50421 => (pred_Holds.j5 (pred_Holds.l1 a1 a2 a3 y_15 k) y_15 x_18274 (upd x_18270 x_18274 false))))) else (if (y_36525.Kind == 13) = true then ((pred_Holds_2_cp_cp 1 y_36525 x_18274).bind fun y_52747 => (if y_52747 = true then ((ix y_36525.L 0).bind fun y_52750 => ((ix x_18270 y_52750).bind fun y_52759 => ((ix x_18270 x_18274).bind fun y_52767 => (pred_Holds.j7 (pred_Holds.l1 a1 a2 a3 y_15 k) y_15 x_18274 (upd x_18270 x_18274 (!y_52759)))))) else ((ix x_18270 x_18274).bind fun y_52781 => (pred_Holds.j7 (pred_Holds.l1 a1 a2 a3 y_15 k) y_15 x_18274 (upd x_18270 x_18274 false))))) else (if (y_36525.Kind == 11) = true then ((pred_Holds_2_cp_cp 2 y_36525 x_18274).bind fun y_54032 => (if y_54032 = true then ((ix y_36525.L 0).bind fun y_54035 => ((ix x_18270 y_54035).bind fun y_54044 => (if y_54044 = true then ((ix y_36525.L 1).bind fun y_54053 => ((ix x_18270 y_54053).bind fun y_54062 => ((ix x_18270 x_18274).bind fun y_54070 => (pred_Holds.j9 (pred_Holds.l1 a1 a2 a3 y_15 k) y_15 x_18274 (upd x_18270 x_18274 y_54062))))) else ((ix x_18270 x_18274).bind fun y_54087 => (pred_Holds.j9 (pred_Holds.l1 a1 a2 a3 y_15 k) y_15 x_18274 (upd x_18270 x_18274 false)))))) else ((ix x_18270 x_18274).bind fun y_54101 => (pred_Holds.j9 (pred_Holds.l1 a1 a2 a3 y_15 k) y_15 x_18274 (upd x_18270 x_18274 false))))) else (if (y_36525.Kind == 12) = true then ((pred_Holds_2_cp_cp 2 y_36525 x_18274).bind fun y_54692 => (if y_54692 = true then ((ix y_36525.L 0).bind fun y_54695 => ((ix x_18270 y_54695).bind fun y_54704 => (if y_54704 = true then ((ix x_18270 x_18274).bind fun y_54713 => (pred_Holds.j11 (pred_Holds.l1 a1 a2 a3 y_15 k) y_15 x_18274 (upd x_18270 x_18274 true))) else ((ix y_36525.L 1).bind fun y_54727 => ((ix x_18270 y_54727).bind fun y_54736 => ((ix x_18270 x_18274).bind fun y_54744 => (pred_Holds.j11 (pred_Holds.l1 a1 a2 a3 y_15 k) y_15 x_18274 (upd x_18270 x_18274 y_54736)))))))) else ((ix x_18270 x_18274).bind fun y_54761 => (pred_Holds.j11 (pred_Holds.l1 a1 a2 a3 y_15 k) y_15 x_18274 (upd x_18270 x_18274 false))))) else (pred_Holds.j10 (pred_Holds.l1 a1 a2 a3 y_15 k) y_15 x_18274 x_18270))))))) else ((ix x_18270 a1).bind fun y_54772 => some y_54772))

def pred_Holds.j0 (a0 : api_Query) (a1 : Int) (a2 : List api_Col) (a3 : List api_Value) (x_5 : Bool) : Option Bool :=
  (if x_5 = true then some false else ((mkS 1 (IntKind.i64.wrap (a1 + 1)) false).bind fun y_9 => ((cut a0.N 0 (IntKind.i64.wrap (a1 + 1))).bind fun y_15 => (pred_Holds.l1 a1 a2 a3 y_15 (((y_15.length : Int) - 0).toNat + 1) y_9 0))))

def pred_Holds (a0 : api_Query) (a1 : Int) (a2 : List api_Col) (a3 : List api_Value) : Option Bool :=
  (if (decide (a1 < 0)) = true then (pred_Holds.j0 a0 a1 a2 a3 true) else (pred_Holds.j0 a0 a1 a2 a3 (decide (a1 ≥ (a0.N.length : Int)))))

/-! ### catchment/catchmentlaw15.holds -/
def law15_holds (a0 : ByteArray) : Option Bool :=
  ((law15_cond a0).bind fun y_1 => ((pred_Holds y_1 (IntKind.i64.wrap ((y_1.N.length : Int) - 1)) [(⟨(⟨#[104, 111, 115, 116]⟩ : ByteArray), 2⟩ : api_Col), (⟨(⟨#[110]⟩ : ByteArray), 1⟩ : api_Col)] [(⟨2, 0, (⟨#[119, 101, 98, 49]⟩ : ByteArray), (⟨0, 0, 0, 0, 0, 0, 0, 0⟩ : Arr8)⟩ : api_Value), (⟨1, 5, (⟨#[]⟩ : ByteArray), (⟨0, 0, 0, 0, 0, 0, 0, 0⟩ : Arr8)⟩ : api_Value)]).bind fun y_12 => some y_12))

/-! ### catchment/catchmentlaw15.shown -/
def law15_shown : Option Bool :=
  ((law15_holds (⟨#[104, 111, 115, 116, 32, 104, 97, 115, 32, 34, 101, 98, 34]⟩ : ByteArray)).bind fun y_1 => (if y_1 = true then ((law15_holds (⟨#[104, 111, 115, 116, 32, 104, 97, 115, 32, 34, 120, 34]⟩ : ByteArray)).bind fun y_4 => (if (!y_4) = true then ((law15_holds (⟨#[110, 32, 62, 32, 52, 32, 97, 110, 100, 32, 110, 111, 116, 32, 104, 111, 115, 116, 32, 61, 32, 34, 119, 101, 98, 34]⟩ : ByteArray)).bind fun y_7 => (if y_7 = true then ((law15_holds (⟨#[121, 32, 61, 32, 49]⟩ : ByteArray)).bind fun y_10 => some (!y_10)) else some false)) else some false)) else some false))

/-! ### catchment/catchmentlaw15.few -/
def law15_few (a0 : api_Query) : Option api_Query :=
  (if (decide ((a0.N.length : Int) > 100)) = true then ((cut a0.N 0 100).bind fun y_4 => some (⟨y_4⟩ : api_Query)) else some a0)

/-! ### catchment/catchmentlaw15.cut -/
def law15_cut (a0 : api_Table) : Option api_Table :=
  (if (decide ((a0.Rows.length : Int) > 100)) = true then ((cut a0.Rows 0 100).bind fun y_4 => some (⟨a0.Cols, y_4⟩ : api_Table)) else some a0)

/-! ### catchment/catchmentref02.Find -/
def ref02_Find.l0 (a0 : List api_Col) (a1 : ByteArray) : Nat → Int → Option Int
  | 0, _ => none
  | k + 1, x_13 => (if (decide (x_13 < (a0.length : Int))) = true then ((ix a0 x_13).bind fun y_27 => (if (y_27.Name.toList == a1.toList) = true then some x_13 else (ref02_Find.l0 a0 a1 k (IntKind.i64.wrap (x_13 + 1))))) else some (-1))

def ref02_Find (a0 : List api_Col) (a1 : ByteArray) : Option Int :=
  (ref02_Find.l0 a0 a1 (((a0.length : Int) - 0).toNat + 1) 0)

/-! ### catchment/catchmentref01.order -/
def ref01_order (a0 : Int) (a1 : Int) : Option Int :=
  (if (decide (a0 < a1)) = true then some (-1) else (if (decide (a0 > a1)) = true then some 1 else some 0))

/-! ### catchment/catchmentref01.Compare -/
def ref01_Compare.l2 (a0 : api_Value) (a1 : api_Value) : Nat → Int → Option Int
  | 0, _ => none
  | k + 1, x_100 => (if (decide (x_100 < 8)) = true then ((Arr8.ix a0.H x_100).bind fun y_129 => ((Arr8.ix a1.H x_100).bind fun y_131 => (if (y_129 != y_131) = true then ((Arr8.ix a0.H x_100).bind fun y_140 => ((Arr8.ix a1.H x_100).bind fun y_142 => ((ref01_order y_140 y_142).bind fun y_144 => some y_144))) else (ref01_Compare.l2 a0 a1 k (IntKind.i64.wrap (x_100 + 1)))))) else some 0)

def ref01_Compare.j1 (kl0 : Int → Option Int) (a0 : api_Value) (a1 : api_Value) (x_36 : Int) (x_66 : Bool) : Option Int :=
  (if x_66 = true then ((ixs a0.S x_36).bind fun y_74 => ((ixs a1.S x_36).bind fun y_76 => (if (y_74 != y_76) = true then ((ixs a0.S x_36).bind fun y_85 => ((ixs a1.S x_36).bind fun y_87 => ((ref01_order (IntKind.i64.wrap y_85) (IntKind.i64.wrap y_87)).bind fun y_89 => some y_89))) else (kl0 (IntKind.i64.wrap (x_36 + 1)))))) else (if ((a0.S.size : Int) != (a1.S.size : Int)) = true then ((ref01_order (a0.S.size : Int) (a1.S.size : Int)).bind fun y_92 => some y_92) else (ref01_Compare.l2 a0 a1 (((8 : Int) - 0).toNat + 1) 0)))

def ref01_Compare.l0 (a0 : api_Value) (a1 : api_Value) : Nat → Int → Option Int
  | 0, _ => none
  | k + 1, x_36 => (if (decide (x_36 < (a0.S.size : Int))) = true then (ref01_Compare.j1 (ref01_Compare.l0 a0 a1 k) a0 a1 x_36 (decide (x_36 < (a1.S.size : Int)))) else (ref01_Compare.j1 (ref01_Compare.l0 a0 a1 k) a0 a1 x_36 false))

def ref01_Compare (a0 : api_Value) (a1 : api_Value) : Option Int :=
  (if (a0.Kind != a1.Kind) = true then ((ref01_order a0.Kind a1.Kind).bind fun y_4 => some y_4) else (if (a0.N != a1.N) = true then ((ref01_order a0.N a1.N).bind fun y_7 => some y_7) else (ref01_Compare.l0 a0 a1 (((a0.S.size : Int) - 0).toNat + 1) 0)))

/-! ### catchment/catchmentref01.Holds -/
def ref01_Holds (a0 : Int) (a1 : api_Value) (a2 : api_Value) : Option Bool :=
  (if (a1.Kind != a2.Kind) = true then some false else ((ref01_Compare a1 a2).bind fun y_4 => (if (a0 == 1) = true then some (y_4 == 0) else (if (a0 == 2) = true then some (y_4 != 0) else (if (a0 == 3) = true then some (decide (y_4 < 0)) else (if (a0 == 4) = true then some (decide (y_4 ≤ 0)) else (if (a0 == 5) = true then some (decide (y_4 > 0)) else (if (a0 == 6) = true then some (decide (y_4 ≥ 0)) else some false))))))))

/-! ### catchment/catchmentref15.part -/
def ref15_part.l0 (a0 : ByteArray) (a1 : ByteArray) : Nat → Int → Option Bool
  | 0, _ => none
  | k + 1, x_6 => (if (decide ((IntKind.i64.wrap (x_6 + (a0.size : Int))) ≤ (a1.size : Int))) = true then ((cuts a1 x_6 (IntKind.i64.wrap (x_6 + (a0.size : Int)))).bind fun y_13 => (if (y_13.toList == a0.toList) = true then some true else (ref15_part.l0 a0 a1 k (IntKind.i64.wrap (x_6 + 1))))) else some false)

def ref15_part (a0 : ByteArray) (a1 : ByteArray) : Option Bool :=
  (ref15_part.l0 a0 a1 (((a1.size : Int) - (IntKind.i64.wrap (0 + (a0.size : Int)))).toNat + 2) 0)

/-! ### catchment/catchmentref15.Holds -/
def ref15_Holds.j5 (kl3 : Bool → Int → Option Bool) (y_20252 : api_Node) (x_20319 : Int) (x_20391 : Bool) : Option Bool :=
  (kl3 x_20391 (IntKind.i64.wrap (x_20319 + 1)))

def ref15_Holds.j7 (kl1 : (List Bool) → Int → Option Bool) (a1 : Int) (x_10134 : Int) (x_25390 : List Bool) : Option Bool :=
  (kl1 x_25390 (IntKind.i64.wrap (x_10134 + 1)))

def ref15_Holds.j9 (kl1 : (List Bool) → Int → Option Bool) (a1 : Int) (x_10134 : Int) (x_27950 : List Bool) : Option Bool :=
  (ref15_Holds.j7 kl1 a1 x_10134 x_27950)

def ref15_Holds.j10 (kl1 : (List Bool) → Int → Option Bool) (a1 : Int) (x_10134 : Int) (x_28067 : List Bool) : Option Bool :=
  (ref15_Holds.j9 kl1 a1 x_10134 x_28067)

def ref15_Holds.j11 (kl1 : (List Bool) → Int → Option Bool) (a1 : Int) (x_10134 : Int) (x_29272 : List Bool) : Option Bool :=
  (ref15_Holds.j9 kl1 a1 x_10134 x_29272)

def ref15_Holds.j12 (kl1 : (List Bool) → Int → Option Bool) (a1 : Int) (x_10134 : Int) (x_29322 : List Bool) : Option Bool :=
  (ref15_Holds.j11 kl1 a1 x_10134 x_29322)

def ref15_Holds.j13 (kl1 : (List Bool) → Int → Option Bool) (a1 : Int) (x_10134 : Int) (x_29866 : List Bool) : Option Bool :=
  (ref15_Holds.j11 kl1 a1 x_10134 x_29866)

def ref15_Holds.j14 (kl1 : (List Bool) → Int → Option Bool) (a1 : Int) (x_10134 : Int) (x_29951 : List Bool) : Option Bool :=
  (ref15_Holds.j13 kl1 a1 x_10134 x_29951)

def ref15_Holds.j15 (kl1 : (List Bool) → Int → Option Bool) (a1 : Int) (x_10134 : Int) (x_30198 : List Bool) : Option Bool :=
  (ref15_Holds.j13 kl1 a1 x_10134 x_30198)

def ref15_Holds.j16 (kl1 : (List Bool) → Int → Option Bool) (a1 : Int) (x_10134 : Int) (x_30283 : List Bool) : Option Bool :=
  (ref15_Holds.j15 kl1 a1 x_10134 x_30283)

def ref15_Holds.j8 (kl1 : (List Bool) → Int → Option Bool) (a1 : Int) (x_10134 : Int) (x_25465 : List Bool) : Option Bool :=
  (ref15_Holds.j7 kl1 a1 x_10134 x_25465)

def ref15_Holds.j6 (kl1 : (List Bool) → Int → Option Bool) (a1 : Int) (a3 : List api_Value) (x_10130 : List Bool) (x_10134 : Int) (y_20252 : api_Node) (x_20318 : Bool) (y_20412 : Int) (x_20415 : Bool) : Option Bool :=
  (if (y_20252.Kind == 14) = true then (if x_20415 = true then ((ix a3 y_20412).bind fun y_25505 => ((ref01_Holds y_20252.N y_25505 y_20252.V).bind fun y_25514 => ((ix x_10130 x_10134).bind fun y_25516 => (ref15_Holds.j8 kl1 a1 x_10134 (upd x_10130 x_10134 y_25514))))) else ((ix x_10130 x_10134).bind fun y_25527 => (ref15_Holds.j8 kl1 a1 x_10134 (upd x_10130 x_10134 false)))) else (if (y_20252.Kind == 15) = true then (if x_20415 = true then ((ix a3 y_20412).bind fun y_28128 => (if (y_28128.Kind == 2) = true then ((ix a3 y_20412).bind fun y_28138 => ((ref15_part y_20252.V.S y_28138.S).bind fun y_28147 => ((ix x_10130 x_10134).bind fun y_28149 => (ref15_Holds.j10 kl1 a1 x_10134 (upd x_10130 x_10134 y_28147))))) else ((ix x_10130 x_10134).bind fun y_28160 => (ref15_Holds.j10 kl1 a1 x_10134 (upd x_10130 x_10134 false))))) else ((ix x_10130 x_10134).bind fun y_28171 => (ref15_Holds.j10 kl1 a1 x_10134 (upd x_10130 x_10134 false)))) else (if (y_20252.Kind == 13) = true then (if x_20318 = true then ((ix y_20252.L 0).bind fun y_29328 => ((ix x_10130 y_29328).bind fun y_29337 => ((ix x_10130 x_10134).bind fun y_29345 => (ref15_Holds.j12 kl1 a1 x_10134 (upd x_10130 x_10134 (!y_29337)))))) else ((ix x_10130 x_10134).bind fun y_29359 => (ref15_Holds.j12 kl1 a1 x_10134 (upd x_10130 x_10134 false)))) else (if (y_20252.Kind == 11) = true then (if x_20318 = true then ((ix y_20252.L 0).bind fun y_29957 => ((ix x_10130 y_29957).bind fun y_29966 => (if y_29966 = true then ((ix y_20252.L 1).bind fun y_29975 => ((ix x_10130 y_29975).bind fun y_29984 => ((ix x_10130 x_10134).bind fun y_29992 => (ref15_Holds.j14 kl1 a1 x_10134 (upd x_10130 x_10134 y_29984))))) else ((ix x_10130 x_10134).bind fun y_30009 => (ref15_Holds.j14 kl1 a1 x_10134 (upd x_10130 x_10134 false)))))) else ((ix x_10130 x_10134).bind fun y_30023 => (ref15_Holds.j14 kl1 a1 x_10134 (upd x_10130 x_10134 false)))) else (if (y_20252.Kind == 12) = true then (if x_20318 = true then ((ix y_20252.L 0).bind fun y_30289 => ((ix x_10130 y_30289).bind fun y_30298 => (if y_30298 = true then ((ix x_10130 x_10134).bind fun y_30307 => (ref15_Holds.j16 kl1 a1 x_10134 (upd x_10130 x_10134 true))) else ((ix y_20252.L 1).bind fun y_30321 => ((ix x_10130 y_30321).bind fun y_30330 => ((ix x_10130 x_10134).bind fun y_30338 => (ref15_Holds.j16 kl1 a1 x_10134 (upd x_10130 x_10134 y_30330)))))))) else ((ix x_10130 x_10134).bind fun y_30355 => (ref15_Holds.j16 kl1 a1 x_10134 (upd x_10130 x_10134 false)))) else (ref15_Holds.j15 kl1 a1 x_10134 x_10130))))))

def ref15_Holds.j4 (kl1 : (List Bool) → Int → Option Bool) (kl3 : Bool → Int → Option Bool) (a1 : Int) (a2 : List api_Col) (a3 : List api_Value) (x_10130 : List Bool) (x_10134 : Int) (y_20252 : api_Node) (x_20318 : Bool) (x_20319 : Int) (x_20368 : Bool) : Option Bool :=
  (if x_20368 = true then ((ix y_20252.L x_20319).bind fun y_20393 => (if (decide (y_20393 ≥ 0)) = true then ((ix y_20252.L x_20319).bind fun y_20403 => (ref15_Holds.j5 kl3 y_20252 x_20319 (decide (y_20403 < x_10134)))) else (ref15_Holds.j5 kl3 y_20252 x_20319 false))) else ((ref02_Find a2 y_20252.S).bind fun y_20412 => (if (decide (y_20412 ≥ 0)) = true then (ref15_Holds.j6 kl1 a1 a3 x_10130 x_10134 y_20252 x_20318 y_20412 (decide (y_20412 < (a3.length : Int)))) else (ref15_Holds.j6 kl1 a1 a3 x_10130 x_10134 y_20252 x_20318 y_20412 false))))

def ref15_Holds.l3 (kl1 : (List Bool) → Int → Option Bool) (a1 : Int) (a2 : List api_Col) (a3 : List api_Value) (x_10130 : List Bool) (x_10134 : Int) (y_20252 : api_Node) : Nat → Bool → Int → Option Bool
  | 0, _, _ => none
  | k + 1, x_20318, x_20319 => (if (decide (x_20319 < (y_20252.L.length : Int))) = true then (ref15_Holds.j4 kl1 (ref15_Holds.l3 kl1 a1 a2 a3 x_10130 x_10134 y_20252 k) a1 a2 a3 x_10130 x_10134 y_20252 x_20318 x_20319 x_20318) else (ref15_Holds.j4 kl1 (ref15_Holds.l3 kl1 a1 a2 a3 x_10130 x_10134 y_20252 k) a1 a2 a3 x_10130 x_10134 y_20252 x_20318 x_20319 false))

def ref15_Holds.j2 (kl1 : (List Bool) → Int → Option Bool) (a1 : Int) (a2 : List api_Col) (a3 : List api_Value) (x_10130 : List Bool) (x_10134 : Int) (y_20252 : api_Node) (x_20269 : Int) : Option Bool :=
  (ref15_Holds.l3 kl1 a1 a2 a3 x_10130 x_10134 y_20252 (((y_20252.L.length : Int) - 0).toNat + 1) ((y_20252.L.length : Int) == x_20269) 0)

def ref15_Holds.l1 (a0 : api_Query) (a1 : Int) (a2 : List api_Col) (a3 : List api_Value) : Nat → (List Bool) → Int → Option Bool
  | 0, _, _ => none
  | k + 1, x_10130, x_10134 => (if (decide (x_10134 ≤ a1)) = true then ((ix a0.N x_10134).bind fun y_20252 => (if (y_20252.Kind == 13) = true then (ref15_Holds.j2 (ref15_Holds.l1 a0 a1 a2 a3 k) a1 a2 a3 x_10130 x_10134 y_20252 1) else (ref15_Holds.j2 (ref15_Holds.l1 a0 a1 a2 a3 k) a1 a2 a3 x_10130 x_10134 y_20252 2))) else ((ix x_10130 a1).bind fun y_30366 => some y_30366))

def ref15_Holds.j0 (a0 : api_Query) (a1 : Int) (a2 : List api_Col) (a3 : List api_Value) (x_3 : Bool) : Option Bool :=
  (if x_3 = true then some false else ((mkS 1 (IntKind.i64.wrap (a1 + 1)) false).bind fun y_7 => (ref15_Holds.l1 a0 a1 a2 a3 ((a1 - 0).toNat + 2) y_7 0)))

def ref15_Holds (a0 : api_Query) (a1 : Int) (a2 : List api_Col) (a3 : List api_Value) : Option Bool :=
  (if (decide (a1 < 0)) = true then (ref15_Holds.j0 a0 a1 a2 a3 true) else (ref15_Holds.j0 a0 a1 a2 a3 (decide (a1 ≥ (a0.N.length : Int)))))

/-! ### catchment/catchmentlaw15.PredHolds -/
def law15_PredHolds.l0 (a1 : Int) (y_3 : Bool) (y_5 : api_Query) (y_11 : api_Table) : Nat → Int → Option Bool
  | 0, _ => none
  | k + 1, x_74 => (if (decide (x_74 < (y_11.Rows.length : Int))) = true then ((ix y_11.Rows x_74).bind fun y_157 => ((ix y_11.Rows x_74).bind fun y_168 => ((pred_Holds y_5 a1 y_11.Cols y_157).bind fun y_179 => ((ref15_Holds y_5 a1 y_11.Cols y_168).bind fun y_181 => (if (!(y_179 == y_181)) = true then some false else (law15_PredHolds.l0 a1 y_3 y_5 y_11 k (IntKind.i64.wrap (x_74 + 1)))))))) else (if y_3 = true then ((pred_Holds y_5 a1 y_11.Cols ([] : List api_Value)).bind fun y_190 => ((ref15_Holds y_5 a1 y_11.Cols ([] : List api_Value)).bind fun y_192 => some (y_190 == y_192))) else some false))

def law15_PredHolds (a0 : api_Query) (a1 : Int) (a2 : api_Table) : Option Bool :=
  ((law15_shown).bind fun y_3 => ((law15_few a0).bind fun y_5 => ((law15_cut a2).bind fun y_11 => (law15_PredHolds.l0 a1 y_3 y_5 y_11 (((y_11.Rows.length : Int) - 0).toNat + 1) 0))))

/-! ### slices.Clone[[]catchment/api.Col,catchment/api.Col] -/
def slices_Clone_api_Col_api_Col (a0 : List api_Col) : Option (List api_Col) :=
  ((apd 24 ([] : List api_Col) a0).bind fun y_4 => some y_4)

/-! ### slices.Clone[[]catchment/api.Value,catchment/api.Value] -/
def slices_Clone_api_Value_api_Value (a0 : List api_Value) : Option (List api_Value) :=
  ((apd 96 ([] : List api_Value) a0).bind fun y_4 => some y_4)

/-! ### catchment/pred.Where -/
def pred_Where.j1 (kl0 : (List (List api_Value)) → Int → Option api_Table) (a0 : api_Table) (x_151 : Int) (x_328 : List (List api_Value)) : Option api_Table :=
  (kl0 x_328 (IntKind.i64.wrap (x_151 + 1)))

def pred_Where.l0 (a0 : api_Table) (a1 : api_Query) (a2 : Int) (y_4 : List api_Col) : Nat → (List (List api_Value)) → Int → Option api_Table
  | 0, _, _ => none
  | k + 1, x_146, x_151 => (if (decide (x_151 < (a0.Rows.length : Int))) = true then ((ix a0.Rows x_151).bind fun y_269 => ((pred_Holds a1 a2 a0.Cols y_269).bind fun y_280 => (if y_280 = true then ((slices_Clone_api_Value_api_Value y_269).bind fun y_358 => ((apd 24 x_146 [y_358]).bind fun y_372 => (pred_Where.j1 (pred_Where.l0 a0 a1 a2 y_4 k) a0 x_151 y_372))) else (pred_Where.j1 (pred_Where.l0 a0 a1 a2 y_4 k) a0 x_151 x_146)))) else some (⟨y_4, x_146⟩ : api_Table))

def pred_Where (a0 : api_Table) (a1 : api_Query) (a2 : Int) : Option api_Table :=
  ((slices_Clone_api_Col_api_Col a0.Cols).bind fun y_4 => (pred_Where.l0 a0 a1 a2 y_4 (((a0.Rows.length : Int) - 0).toNat + 1) [] 0))

/-! ### catchment/catchmentref15.Where -/
def ref15_Where.j1 (kl0 : (List (List api_Value)) → Int → Option api_Table) (a0 : api_Table) (x_199 : Int) (x_455 : List (List api_Value)) : Option api_Table :=
  (kl0 x_455 (IntKind.i64.wrap (x_199 + 1)))

def ref15_Where.l0 (a0 : api_Table) (a1 : api_Query) (a2 : Int) (y_7 : List api_Col) : Nat → (List (List api_Value)) → Int → Option api_Table
  | 0, _, _ => none
  | k + 1, x_195, x_199 => (if (decide (x_199 < (a0.Rows.length : Int))) = true then ((ix a0.Rows x_199).bind fun y_378 => ((ref15_Holds a1 a2 a0.Cols y_378).bind fun y_389 => (if y_389 = true then ((ix a0.Rows x_199).bind fun y_493 => ((apd 96 ([] : List api_Value) y_493).bind fun y_507 => ((apd 24 x_195 [y_507]).bind fun y_518 => (ref15_Where.j1 (ref15_Where.l0 a0 a1 a2 y_7 k) a0 x_199 y_518)))) else (ref15_Where.j1 (ref15_Where.l0 a0 a1 a2 y_7 k) a0 x_199 x_195)))) else some (⟨y_7, x_195⟩ : api_Table))

def ref15_Where (a0 : api_Table) (a1 : api_Query) (a2 : Int) : Option api_Table :=
  ((apd 24 ([] : List api_Col) a0.Cols).bind fun y_7 => (ref15_Where.l0 a0 a1 a2 y_7 (((a0.Rows.length : Int) - 0).toNat + 1) [] 0))

/-! ### catchment/catchmentref02.SameCols -/
def ref02_SameCols.l0 (a0 : List api_Col) (a1 : List api_Col) : Nat → Int → Option Bool
  | 0, _ => none
  | k + 1, x_41 => (if (decide (x_41 < (a0.length : Int))) = true then ((ix a0 x_41).bind fun y_100 => ((ix a1 x_41).bind fun y_109 => (if (!decide (y_100 = y_109)) = true then some false else (ref02_SameCols.l0 a0 a1 k (IntKind.i64.wrap (x_41 + 1)))))) else some true)

def ref02_SameCols (a0 : List api_Col) (a1 : List api_Col) : Option Bool :=
  (if ((a0.length : Int) != (a1.length : Int)) = true then some false else (ref02_SameCols.l0 a0 a1 (((a0.length : Int) - 0).toNat + 1) 0))

/-! ### catchment/catchmentref02.Row -/
def ref02_Row.j1 (kl0 : Int → Option Int) (a0 : List api_Value) (a1 : List api_Value) (x_48 : Int) (x_98 : Bool) : Option Int :=
  (if x_98 = true then ((ix a0 x_48).bind fun y_122 => ((ix a1 x_48).bind fun y_131 => ((ref01_Compare y_122 y_131).bind fun y_140 => (if (y_140 != 0) = true then some y_140 else (kl0 (IntKind.i64.wrap (x_48 + 1))))))) else (if (decide ((a0.length : Int) < (a1.length : Int))) = true then some (-1) else (if (decide ((a0.length : Int) > (a1.length : Int))) = true then some 1 else some 0)))

def ref02_Row.l0 (a0 : List api_Value) (a1 : List api_Value) : Nat → Int → Option Int
  | 0, _ => none
  | k + 1, x_48 => (if (decide (x_48 < (a0.length : Int))) = true then (ref02_Row.j1 (ref02_Row.l0 a0 a1 k) a0 a1 x_48 (decide (x_48 < (a1.length : Int)))) else (ref02_Row.j1 (ref02_Row.l0 a0 a1 k) a0 a1 x_48 false))

def ref02_Row (a0 : List api_Value) (a1 : List api_Value) : Option Int :=
  (ref02_Row.l0 a0 a1 (((a0.length : Int) - 0).toNat + 1) 0)

/-! ### catchment/catchmentref02.Same -/
def ref02_Same.l1 (a0 : api_Table) (a1 : api_Table) : Nat → Int → Option Bool
  | 0, _ => none
  | k + 1, x_63 => (if (decide (x_63 < (a0.Rows.length : Int))) = true then ((ix a0.Rows x_63).bind fun y_140 => ((ix a1.Rows x_63).bind fun y_151 => ((ref02_Row y_140 y_151).bind fun y_162 => (if (y_162 != 0) = true then some false else (ref02_Same.l1 a0 a1 k (IntKind.i64.wrap (x_63 + 1))))))) else some true)

def ref02_Same.j0 (a0 : api_Table) (a1 : api_Table) (x_6 : Bool) : Option Bool :=
  (if x_6 = true then some false else (ref02_Same.l1 a0 a1 (((a0.Rows.length : Int) - 0).toNat + 1) 0))

def ref02_Same (a0 : api_Table) (a1 : api_Table) : Option Bool :=
  ((ref02_SameCols a0.Cols a1.Cols).bind fun y_8 => (if (!y_8) = true then (ref02_Same.j0 a0 a1 true) else (ref02_Same.j0 a0 a1 ((a0.Rows.length : Int) != (a1.Rows.length : Int)))))

/-! ### catchment/catchmentlaw15.PredWhere -/
def law15_PredWhere.l1 (kl0 : (List (List api_Value)) → Int → Option Bool) (y_19 : api_Table) (x_190 : List (List api_Value)) (x_195 : Int) : Nat → (List (List api_Value)) → Int → Option Bool
  | 0, _, _ => none
  | k + 1, x_374, x_379 => ((ix x_374 x_195).bind fun y_430 => (if (decide (x_379 < (y_430.length : Int))) = true then ((ix x_374 x_195).bind fun y_441 => ((ix y_441 x_379).bind fun y_451 => (law15_PredWhere.l1 kl0 y_19 x_190 x_195 k (upd x_374 x_195 (upd y_441 x_379 (⟨77, 0, (⟨#[]⟩ : ByteArray), (⟨0, 0, 0, 0, 0, 0, 0, 0⟩ : Arr8)⟩ : api_Value))) (IntKind.i64.wrap (x_379 + 1))))) else (kl0 x_374 (IntKind.i64.wrap (x_195 + 1)))))

def law15_PredWhere.l0 (a2 : Int) (y_3 : Bool) (y_5 : api_Query) (y_11 : api_Table) (y_19 : api_Table) (y_33 : api_Table) (y_51 : Bool) : Nat → (List (List api_Value)) → Int → Option Bool
  | 0, _, _ => none
  | k + 1, x_190, x_195 => (if (decide (x_195 < (x_190.length : Int))) = true then (law15_PredWhere.l1 (law15_PredWhere.l0 a2 y_3 y_5 y_11 y_19 y_33 y_51 k) y_19 x_190 x_195 (((((ix x_190 x_195).getD []).length : Int) - 0).toNat + 1) x_190 0) else ((ref15_Where y_11 y_5 a2).bind fun y_487 => ((ref02_Same y_487 y_33).bind fun y_504 => (if y_3 = true then (if y_51 = true then some y_504 else some false) else some false))))

def law15_PredWhere (a0 : api_Table) (a1 : api_Query) (a2 : Int) : Option Bool :=
  ((law15_shown).bind fun y_3 => ((law15_few a1).bind fun y_5 => ((law15_cut a0).bind fun y_11 => ((pred_Where y_11 y_5 a2).bind fun y_19 => ((ref15_Where y_11 y_5 a2).bind fun y_33 => ((ref02_Same y_19 y_33).bind fun y_51 => (law15_PredWhere.l0 a2 y_3 y_5 y_11 y_19 y_33 y_51 (((y_19.Rows.length : Int) - 0).toNat + 1) y_19.Rows 0)))))))

/-! ### catchment/catchmentref02.Name -/
def ref02_Name.j2 (kl1 : Int → Option Bool) (a0 : ByteArray) (x_45 : Int) (x_86 : Bool) : Option Bool :=
  (if x_86 = true then some false else (kl1 (IntKind.i64.wrap (x_45 + 1))))

def ref02_Name.l1 (a0 : ByteArray) : Nat → Int → Option Bool
  | 0, _ => none
  | k + 1, x_45 => (if (decide (x_45 < (a0.size : Int))) = true then ((ixs a0 x_45).bind fun y_74 => (if (decide (y_74 ≥ 97)) = true then (if (decide (y_74 ≤ 122)) = true then (ref02_Name.j2 (ref02_Name.l1 a0 k) a0 x_45 false) else (if (decide (y_74 ≥ 48)) = true then (if (decide (y_74 ≤ 57)) = true then (ref02_Name.j2 (ref02_Name.l1 a0 k) a0 x_45 false) else (if (y_74 == 95) = true then (ref02_Name.j2 (ref02_Name.l1 a0 k) a0 x_45 false) else (ref02_Name.j2 (ref02_Name.l1 a0 k) a0 x_45 (!(y_74 == 35))))) else (if (y_74 == 95) = true then (ref02_Name.j2 (ref02_Name.l1 a0 k) a0 x_45 false) else (ref02_Name.j2 (ref02_Name.l1 a0 k) a0 x_45 (!(y_74 == 35)))))) else (if (decide (y_74 ≥ 48)) = true then (if (decide (y_74 ≤ 57)) = true then (ref02_Name.j2 (ref02_Name.l1 a0 k) a0 x_45 false) else (if (y_74 == 95) = true then (ref02_Name.j2 (ref02_Name.l1 a0 k) a0 x_45 false) else (ref02_Name.j2 (ref02_Name.l1 a0 k) a0 x_45 (!(y_74 == 35))))) else (if (y_74 == 95) = true then (ref02_Name.j2 (ref02_Name.l1 a0 k) a0 x_45 false) else (ref02_Name.j2 (ref02_Name.l1 a0 k) a0 x_45 (!(y_74 == 35))))))) else some true)

def ref02_Name.j0 (a0 : ByteArray) (x_8 : Bool) : Option Bool :=
  (if x_8 = true then some false else (ref02_Name.l1 a0 (((a0.size : Int) - 0).toNat + 1) 0))

def ref02_Name (a0 : ByteArray) : Option Bool :=
  (if (decide ((a0.size : Int) < 1)) = true then (ref02_Name.j0 a0 true) else (if (decide ((a0.size : Int) > 24)) = true then (ref02_Name.j0 a0 true) else ((ixs a0 0).bind fun y_12 => (if (decide (y_12 < 97)) = true then (ref02_Name.j0 a0 true) else ((ixs a0 0).bind fun y_15 => (ref02_Name.j0 a0 (decide (y_15 > 122))))))))

/-! ### catchment/catchmentref02.Cols -/
def ref02_Cols.j2 (kl1 : Int → Option Bool) (a0 : List api_Col) (x_97 : Int) (x_233 : Bool) : Option Bool :=
  (if x_233 = true then some false else (kl1 (IntKind.i64.wrap (x_97 + 1))))

def ref02_Cols.l1 (a0 : List api_Col) : Nat → Int → Option Bool
  | 0, _ => none
  | k + 1, x_97 => (if (decide (x_97 < (a0.length : Int))) = true then ((ix a0 x_97).bind fun y_235 => ((ref02_Name y_235.Name).bind fun y_244 => (if (!y_244) = true then (ref02_Cols.j2 (ref02_Cols.l1 a0 k) a0 x_97 true) else ((ix a0 x_97).bind fun y_247 => ((ref02_Find a0 y_247.Name).bind fun y_256 => (if (y_256 != x_97) = true then (ref02_Cols.j2 (ref02_Cols.l1 a0 k) a0 x_97 true) else ((ix a0 x_97).bind fun y_259 => (if (decide (y_259.Kind < 1)) = true then (ref02_Cols.j2 (ref02_Cols.l1 a0 k) a0 x_97 true) else ((ix a0 x_97).bind fun y_269 => (ref02_Cols.j2 (ref02_Cols.l1 a0 k) a0 x_97 (decide (y_269.Kind > 4)))))))))))) else some true)

def ref02_Cols.j0 (a0 : List api_Col) (x_2 : Bool) : Option Bool :=
  (if x_2 = true then some false else (ref02_Cols.l1 a0 (((a0.length : Int) - 0).toNat + 1) 0))

def ref02_Cols (a0 : List api_Col) : Option Bool :=
  (if (decide ((a0.length : Int) < 1)) = true then (ref02_Cols.j0 a0 true) else (ref02_Cols.j0 a0 (decide ((a0.length : Int) > 16))))

/-! ### catchment/catchmentref01.Valid -/
def ref01_Valid (a0 : api_Value) : Option Bool :=
  (if (a0.Kind == 1) = true then (if (a0.S.toList == (⟨#[]⟩ : ByteArray).toList) = true then some (decide (a0.H = (⟨0, 0, 0, 0, 0, 0, 0, 0⟩ : Arr8))) else some false) else (if (a0.Kind == 2) = true then (if (a0.N == 0) = true then (if (decide (a0.H = (⟨0, 0, 0, 0, 0, 0, 0, 0⟩ : Arr8))) = true then some (decide ((a0.S.size : Int) ≤ 64)) else some false) else some false) else (if (a0.Kind == 3) = true then (if (a0.N == 0) = true then (if (a0.S.toList == (⟨#[]⟩ : ByteArray).toList) = true then some (decide (a0.H = (⟨0, 0, 0, 0, 0, 0, 0, 0⟩ : Arr8))) else some false) else (if (a0.N == 1) = true then (if (a0.S.toList == (⟨#[]⟩ : ByteArray).toList) = true then some (decide (a0.H = (⟨0, 0, 0, 0, 0, 0, 0, 0⟩ : Arr8))) else some false) else some false)) else (if (a0.Kind == 4) = true then (if (a0.N == 0) = true then some (a0.S.toList == (⟨#[]⟩ : ByteArray).toList) else some false) else some false))))

/-! ### catchment/catchmentref02.Check -/
def ref02_Check.j2 (kl1 : Int → Option Int) (a0 : api_Table) (x_1571 : Int) (x_1890 : Bool) : Option Int :=
  (if x_1890 = true then some 21 else (kl1 (IntKind.i64.wrap (x_1571 + 1))))

def ref02_Check.l1 (kl0 : Int → Option Int) (a0 : api_Table) (x_669 : Int) : Nat → Int → Option Int
  | 0, _ => none
  | k + 1, x_1571 => (if (decide (x_1571 < (a0.Cols.length : Int))) = true then ((ix a0.Rows x_669).bind fun y_1944 => ((ix y_1944 x_1571).bind fun y_1955 => ((ix a0.Cols x_1571).bind fun y_1964 => (if (y_1955.Kind != y_1964.Kind) = true then (ref02_Check.j2 (ref02_Check.l1 kl0 a0 x_669 k) a0 x_1571 true) else ((ix a0.Rows x_669).bind fun y_1974 => ((ix y_1974 x_1571).bind fun y_1985 => ((ref01_Valid y_1985).bind fun y_1994 => (ref02_Check.j2 (ref02_Check.l1 kl0 a0 x_669 k) a0 x_1571 (!y_1994))))))))) else (kl0 (IntKind.i64.wrap (x_669 + 1))))

def ref02_Check.l0 (a0 : api_Table) : Nat → Int → Option Int
  | 0, _ => none
  | k + 1, x_669 => (if (decide (x_669 < (a0.Rows.length : Int))) = true then ((ix a0.Rows x_669).bind fun y_1346 => (if ((y_1346.length : Int) != (a0.Cols.length : Int)) = true then some 21 else (ref02_Check.l1 (ref02_Check.l0 a0 k) a0 x_669 (((a0.Cols.length : Int) - 0).toNat + 1) 0))) else some 0)

def ref02_Check (a0 : api_Table) : Option Int :=
  ((ref02_Cols a0.Cols).bind fun y_2 => (if (!y_2) = true then some 20 else (ref02_Check.l0 a0 (((a0.Rows.length : Int) - 0).toNat + 1) 0)))

/-! ### catchment/catchmentlaw15.PredEquals -/
def law15_PredEquals.l5 (y_2 : Bool) (y_4 : api_Table) (x_22 : Int) (y_64 : api_Value) (y_173 : api_Table) (y_187 : api_Table) : Nat → Int → Option Bool
  | 0, _ => none
  | k + 1, x_365 => (if (decide (x_365 < (y_187.Rows.length : Int))) = true then ((ix y_187.Rows x_365).bind fun y_427 => ((ix y_427 (x_22.tmod (y_4.Cols.length : Int))).bind fun y_437 => (if (decide (y_437 = y_64)) = true then some false else (law15_PredEquals.l5 y_2 y_4 x_22 y_64 y_173 y_187 k (IntKind.i64.wrap (x_365 + 1)))))) else (if y_2 = true then (if (decide ((y_173.Rows.length : Int) > 0)) = true then some ((IntKind.i64.wrap ((y_173.Rows.length : Int) + (y_187.Rows.length : Int))) == (y_4.Rows.length : Int)) else some false) else some false))

def law15_PredEquals.l4 (y_2 : Bool) (y_4 : api_Table) (x_22 : Int) (y_64 : api_Value) (y_173 : api_Table) (y_187 : api_Table) : Nat → Int → Option Bool
  | 0, _ => none
  | k + 1, x_242 => (if (decide (x_242 < (y_173.Rows.length : Int))) = true then ((ix y_173.Rows x_242).bind fun y_304 => ((ix y_304 (x_22.tmod (y_4.Cols.length : Int))).bind fun y_314 => (if (!decide (y_314 = y_64)) = true then some false else (law15_PredEquals.l4 y_2 y_4 x_22 y_64 y_173 y_187 k (IntKind.i64.wrap (x_242 + 1)))))) else (law15_PredEquals.l5 y_2 y_4 x_22 y_64 y_173 y_187 (((y_187.Rows.length : Int) - 0).toNat + 1) 0))

def law15_PredEquals.j3 (y_2 : Bool) (y_4 : api_Table) (x_22 : Int) (y_64 : api_Value) (x_120 : List api_Node) : Option Bool :=
  ((pred_Where y_4 (⟨x_120⟩ : api_Query) 0).bind fun y_173 => ((pred_Where y_4 (⟨x_120⟩ : api_Query) 1).bind fun y_187 => (law15_PredEquals.l4 y_2 y_4 x_22 y_64 y_173 y_187 (((y_173.Rows.length : Int) - 0).toNat + 1) 0)))

def law15_PredEquals.j2 (y_2 : Bool) (y_4 : api_Table) (x_22 : Int) (x_26 : Int) : Option Bool :=
  (if ((y_4.Cols.length : Int) != 0) = true then (if ((y_4.Rows.length : Int) != 0) = true then ((ix y_4.Rows (x_26.tmod (y_4.Rows.length : Int))).bind fun y_53 => ((ix y_53 (x_22.tmod (y_4.Cols.length : Int))).bind fun y_64 => ((ix y_4.Cols (x_22.tmod (y_4.Cols.length : Int))).bind fun y_147 => ((ix y_4.Cols (x_22.tmod (y_4.Cols.length : Int))).bind fun y_156 => (law15_PredEquals.j3 y_2 y_4 x_22 y_64 [(⟨14, y_147.Name, 1, 0, 0, y_64, [], [], []⟩ : api_Node), (⟨14, y_156.Name, 2, 0, 0, y_64, [], [], []⟩ : api_Node)]))))) else none) else none)

def law15_PredEquals.j1 (a2 : Int) (y_2 : Bool) (y_4 : api_Table) (x_22 : Int) : Option Bool :=
  (if (decide (a2 < 0)) = true then (law15_PredEquals.j2 y_2 y_4 x_22 (IntKind.i64.wrap (0 - (IntKind.i64.wrap (a2 + 1))))) else (law15_PredEquals.j2 y_2 y_4 x_22 a2))

def law15_PredEquals.j0 (a1 : Int) (a2 : Int) (y_2 : Bool) (y_4 : api_Table) (x_15 : Bool) : Option Bool :=
  (if x_15 = true then some y_2 else (if (decide (a1 < 0)) = true then (law15_PredEquals.j1 a2 y_2 y_4 (IntKind.i64.wrap (0 - (IntKind.i64.wrap (a1 + 1))))) else (law15_PredEquals.j1 a2 y_2 y_4 a1)))

def law15_PredEquals (a0 : api_Table) (a1 : Int) (a2 : Int) : Option Bool :=
  ((law15_shown).bind fun y_2 => ((law15_cut a0).bind fun y_4 => ((ref02_Check y_4).bind fun y_17 => (if (y_17 != 0) = true then (law15_PredEquals.j0 a1 a2 y_2 y_4 true) else (law15_PredEquals.j0 a1 a2 y_2 y_4 ((y_4.Rows.length : Int) == 0))))))

/-! ### catchment/catchmentref02.sorted -/
def ref02_sorted.j3 (kl0 : (List (List api_Value)) → Int → Int → Option (List (List api_Value))) (y_16 : List (List api_Value)) (y_29 : List (List api_Value)) (x_557 : List (List api_Value)) (x_561 : Int) (x_562 : Int) : Option (List (List api_Value)) :=
  (kl0 x_557 x_561 x_562)

def ref02_sorted.j2 (kl0 : (List (List api_Value)) → Int → Int → Option (List (List api_Value))) (y_16 : List (List api_Value)) (y_29 : List (List api_Value)) (x_228 : List (List api_Value)) (x_232 : Int) (x_233 : Int) (x_471 : Bool) : Option (List (List api_Value)) :=
  (if x_471 = true then ((ix y_16 x_232).bind fun y_565 => ((apd 24 x_228 [y_565]).bind fun y_576 => (ref02_sorted.j3 kl0 y_16 y_29 y_576 (IntKind.i64.wrap (x_232 + 1)) x_233))) else ((ix y_29 x_233).bind fun y_582 => ((apd 24 x_228 [y_582]).bind fun y_593 => (ref02_sorted.j3 kl0 y_16 y_29 y_593 x_232 (IntKind.i64.wrap (x_233 + 1))))))

def ref02_sorted.j1 (kl0 : (List (List api_Value)) → Int → Int → Option (List (List api_Value))) (y_16 : List (List api_Value)) (y_29 : List (List api_Value)) (x_228 : List (List api_Value)) (x_232 : Int) (x_233 : Int) (x_419 : Bool) : Option (List (List api_Value)) :=
  (if x_419 = true then (if (x_233 == (y_29.length : Int)) = true then (ref02_sorted.j2 kl0 y_16 y_29 x_228 x_232 x_233 true) else (if (decide (x_232 < (y_16.length : Int))) = true then ((ix y_16 x_232).bind fun y_499 => ((ix y_29 x_233).bind fun y_509 => ((ref02_Row y_499 y_509).bind fun y_519 => (ref02_sorted.j2 kl0 y_16 y_29 x_228 x_232 x_233 (decide (y_519 ≤ 0)))))) else (ref02_sorted.j2 kl0 y_16 y_29 x_228 x_232 x_233 false))) else some x_228)

def ref02_sorted.l0 (y_16 : List (List api_Value)) (y_29 : List (List api_Value)) : Nat → (List (List api_Value)) → Int → Int → Option (List (List api_Value))
  | 0, _, _, _ => none
  | k + 1, x_228, x_232, x_233 => (if (decide (x_232 < (y_16.length : Int))) = true then (ref02_sorted.j1 (ref02_sorted.l0 y_16 y_29 k) y_16 y_29 x_228 x_232 x_233 true) else (ref02_sorted.j1 (ref02_sorted.l0 y_16 y_29 k) y_16 y_29 x_228 x_232 x_233 (decide (x_233 < (y_29.length : Int)))))

def ref02_sorted.b (kr_40 : (List (List api_Value)) → Option (List (List api_Value))) (a0 : List (List api_Value)) : Option (List (List api_Value)) :=
  (if (decide ((a0.length : Int) < 2)) = true then ((apd 24 ([] : List (List api_Value)) a0).bind fun y_5 => some y_5) else ((cut a0 0 (IntKind.i64.wrap ((a0.length : Int).tdiv 2))).bind fun y_11 => ((kr_40 y_11).bind fun y_16 => ((cut a0 (IntKind.i64.wrap ((a0.length : Int).tdiv 2)) a0.length).bind fun y_24 => ((kr_40 y_24).bind fun y_29 => (ref02_sorted.l0 y_16 y_29 (y_16.length + y_29.length + 1) [] 0 0))))))

def ref02_sorted.r : Nat → (List (List api_Value)) → Option (List (List api_Value))
  | 0, _ => none
  | k + 1, a0 => ref02_sorted.b (ref02_sorted.r k) a0

def ref02_sorted (a0 : List (List api_Value)) : Option (List (List api_Value)) := ref02_sorted.r (a0.length + 1) a0

/-! ### catchment/catchmentref02.Canon -/
def ref02_Canon (a0 : api_Table) : Option api_Table :=
  ((apd 24 ([] : List api_Col) a0.Cols).bind fun y_25 => ((ref02_sorted a0.Rows).bind fun y_31 => some (⟨y_25, y_31⟩ : api_Table)))

/-! ### catchment/catchmentlaw15.PredNot -/
def law15_PredNot.l2 (y_2 : Bool) (y_4 : api_Table) (y_20 : api_Query × Int × Int) (y_51 : List api_Node) (y_465 : Bool) : Nat → Int → Option Bool
  | 0, _ => none
  | k + 1, x_522 => (if (decide (x_522 < (y_4.Rows.length : Int))) = true then ((ix y_4.Rows x_522).bind fun y_605 => ((ix y_4.Rows x_522).bind fun y_616 => ((pred_Holds (⟨y_51⟩ : api_Query) (IntKind.i64.wrap ((y_20.1.N.length : Int) - 1)) y_4.Cols y_605).bind fun y_627 => ((pred_Holds (⟨y_51⟩ : api_Query) (y_20.1.N.length : Int) y_4.Cols y_616).bind fun y_629 => (if (y_627 == y_629) = true then some false else (law15_PredNot.l2 y_2 y_4 y_20 y_51 y_465 k (IntKind.i64.wrap (x_522 + 1)))))))) else (if y_2 = true then some y_465 else some false))

def law15_PredNot.j1 (y_2 : Bool) (y_4 : api_Table) (y_20 : api_Query × Int × Int) (y_51 : List api_Node) (x_245 : List (List api_Value)) : Option Bool :=
  ((ref02_Canon (⟨y_4.Cols, x_245⟩ : api_Table)).bind fun y_441 => ((ref02_Canon y_4).bind fun y_453 => ((ref02_Same y_441 y_453).bind fun y_465 => (law15_PredNot.l2 y_2 y_4 y_20 y_51 y_465 (((y_4.Rows.length : Int) - 0).toNat + 1) 0))))

def law15_PredNot.j0 (y_2 : Bool) (y_4 : api_Table) (y_20 : api_Query × Int × Int) (x_30 : Bool) : Option Bool :=
  (if x_30 = true then some y_2 else ((apd 216 ([] : List api_Node) y_20.1.N).bind fun y_40 => ((apd 216 y_40 [(⟨13, (⟨#[]⟩ : ByteArray), 0, 0, 0, (⟨0, 0, (⟨#[]⟩ : ByteArray), (⟨0, 0, 0, 0, 0, 0, 0, 0⟩ : Arr8)⟩ : api_Value), [IntKind.i64.wrap ((y_20.1.N.length : Int) - 1)], [], []⟩ : api_Node)]).bind fun y_51 => ((pred_Where y_4 (⟨y_51⟩ : api_Query) (IntKind.i64.wrap ((y_20.1.N.length : Int) - 1))).bind fun y_57 => ((pred_Where y_4 (⟨y_51⟩ : api_Query) (y_20.1.N.length : Int)).bind fun y_71 => ((apd 24 ([] : List (List api_Value)) y_57.Rows).bind fun y_336 => ((apd 24 y_336 y_71.Rows).bind fun y_345 => (law15_PredNot.j1 y_2 y_4 y_20 y_51 y_345))))))))

def law15_PredNot (a0 : ByteArray) (a1 : api_Table) : Option Bool :=
  ((law15_shown).bind fun y_2 => ((law15_cut a1).bind fun y_4 => ((ref11_Lex a0).bind fun y_12 => ((ref12_Cond y_12.1).bind fun y_20 => (if (y_12.2.2 != 0) = true then (law15_PredNot.j0 y_2 y_4 y_20 true) else (law15_PredNot.j0 y_2 y_4 y_20 (y_20.2.2 != 0)))))))

/-! ### catchment/catchmentlaw15.alone -/
def law15_alone (a0 : ByteArray) : Option Bool :=
  ((ref11_Lex a0).bind fun y_1 => ((ref12_Cond y_1.1).bind fun y_9 => (if (y_1.2.2 == 0) = true then some (y_9.2.2 == 0) else some false)))

/-! ### catchment/catchmentlaw15.PredMorgan -/
def law15_PredMorgan.j1 (y_2 : Bool) (y_4 : api_Table) (y_41 : api_Query × Int × Int) (y_62 : api_Query × Int × Int) (x_74 : Bool) : Option Bool :=
  (if x_74 = true then some y_2 else ((pred_Where y_4 y_41.1 (IntKind.i64.wrap ((y_41.1.N.length : Int) - 1))).bind fun y_80 => ((pred_Where y_4 y_62.1 (IntKind.i64.wrap ((y_62.1.N.length : Int) - 1))).bind fun y_94 => ((ref02_Same y_80 y_94).bind fun y_108 => (if y_2 = true then some y_108 else some false)))))

def law15_PredMorgan.j0 (a0 : ByteArray) (a1 : ByteArray) (y_2 : Bool) (y_4 : api_Table) (x_19 : Bool) : Option Bool :=
  (if x_19 = true then some y_2 else (if (decide ((⟨#[110, 111, 116, 32, 40]⟩ : ByteArray).size + a0.size ≤ 9223372036854775807)) = true then (if (decide (((⟨#[110, 111, 116, 32, 40]⟩ : ByteArray) ++ a0).size + (⟨#[41, 32, 111, 114, 32, 110, 111, 116, 32, 40]⟩ : ByteArray).size ≤ 9223372036854775807)) = true then (if (decide ((((⟨#[110, 111, 116, 32, 40]⟩ : ByteArray) ++ a0) ++ (⟨#[41, 32, 111, 114, 32, 110, 111, 116, 32, 40]⟩ : ByteArray)).size + a1.size ≤ 9223372036854775807)) = true then (if (decide (((((⟨#[110, 111, 116, 32, 40]⟩ : ByteArray) ++ a0) ++ (⟨#[41, 32, 111, 114, 32, 110, 111, 116, 32, 40]⟩ : ByteArray)) ++ a1).size + (⟨#[41]⟩ : ByteArray).size ≤ 9223372036854775807)) = true then ((ref11_Lex (((((⟨#[110, 111, 116, 32, 40]⟩ : ByteArray) ++ a0) ++ (⟨#[41, 32, 111, 114, 32, 110, 111, 116, 32, 40]⟩ : ByteArray)) ++ a1) ++ (⟨#[41]⟩ : ByteArray))).bind fun y_33 => ((ref12_Cond y_33.1).bind fun y_41 => (if (decide ((⟨#[110, 111, 116, 32, 110, 111, 116, 32, 110, 111, 116, 32, 40, 40]⟩ : ByteArray).size + a0.size ≤ 9223372036854775807)) = true then (if (decide (((⟨#[110, 111, 116, 32, 110, 111, 116, 32, 110, 111, 116, 32, 40, 40]⟩ : ByteArray) ++ a0).size + (⟨#[41, 32, 97, 110, 100, 32, 40]⟩ : ByteArray).size ≤ 9223372036854775807)) = true then (if (decide ((((⟨#[110, 111, 116, 32, 110, 111, 116, 32, 110, 111, 116, 32, 40, 40]⟩ : ByteArray) ++ a0) ++ (⟨#[41, 32, 97, 110, 100, 32, 40]⟩ : ByteArray)).size + a1.size ≤ 9223372036854775807)) = true then (if (decide (((((⟨#[110, 111, 116, 32, 110, 111, 116, 32, 110, 111, 116, 32, 40, 40]⟩ : ByteArray) ++ a0) ++ (⟨#[41, 32, 97, 110, 100, 32, 40]⟩ : ByteArray)) ++ a1).size + (⟨#[41, 41]⟩ : ByteArray).size ≤ 9223372036854775807)) = true then ((ref11_Lex (((((⟨#[110, 111, 116, 32, 110, 111, 116, 32, 110, 111, 116, 32, 40, 40]⟩ : ByteArray) ++ a0) ++ (⟨#[41, 32, 97, 110, 100, 32, 40]⟩ : ByteArray)) ++ a1) ++ (⟨#[41, 41]⟩ : ByteArray))).bind fun y_54 => ((ref12_Cond y_54.1).bind fun y_62 => (if (y_33.2.2 != 0) = true then (law15_PredMorgan.j1 y_2 y_4 y_41 y_62 true) else (if (y_41.2.2 != 0) = true then (law15_PredMorgan.j1 y_2 y_4 y_41 y_62 true) else (if (y_54.2.2 != 0) = true then (law15_PredMorgan.j1 y_2 y_4 y_41 y_62 true) else (law15_PredMorgan.j1 y_2 y_4 y_41 y_62 (y_62.2.2 != 0))))))) else none) else none) else none) else none))) else none) else none) else none) else none))

def law15_PredMorgan (a0 : ByteArray) (a1 : ByteArray) (a2 : api_Table) : Option Bool :=
  ((law15_shown).bind fun y_2 => ((law15_cut a2).bind fun y_4 => (if (decide ((a0.size : Int) > 500)) = true then (law15_PredMorgan.j0 a0 a1 y_2 y_4 true) else (if (decide ((a1.size : Int) > 500)) = true then (law15_PredMorgan.j0 a0 a1 y_2 y_4 true) else ((law15_alone a0).bind fun y_23 => (if (!y_23) = true then (law15_PredMorgan.j0 a0 a1 y_2 y_4 true) else ((law15_alone a1).bind fun y_26 => (law15_PredMorgan.j0 a0 a1 y_2 y_4 (!y_26)))))))))

/-! ### catchment/catchmentlaw15.PredSides -/
def law15_PredSides.j3 (kl1 : Int → Option Bool) (y_2 : Bool) (y_4 : api_Table) (x_112 : Int) (y_219 : api_Query × Int × Int) (y_240 : api_Query × Int × Int) (x_252 : Bool) : Option Bool :=
  (if x_252 = true then some y_2 else ((pred_Where y_4 y_219.1 (IntKind.i64.wrap ((y_219.1.N.length : Int) - 1))).bind fun y_258 => ((pred_Where y_4 y_240.1 (IntKind.i64.wrap ((y_240.1.N.length : Int) - 1))).bind fun y_272 => ((ref02_Same y_258 y_272).bind fun y_286 => (if (!y_286) = true then some false else (kl1 (IntKind.i64.wrap (x_112 + 1))))))))

def law15_PredSides.j2 (kl1 : Int → Option Bool) (a0 : ByteArray) (a1 : ByteArray) (y_2 : Bool) (y_4 : api_Table) (x_112 : Int) (x_204 : ByteArray) : Option Bool :=
  (if (decide ((⟨#[40]⟩ : ByteArray).size + a0.size ≤ 9223372036854775807)) = true then (if (decide (((⟨#[40]⟩ : ByteArray) ++ a0).size + x_204.size ≤ 9223372036854775807)) = true then (if (decide ((((⟨#[40]⟩ : ByteArray) ++ a0) ++ x_204).size + a1.size ≤ 9223372036854775807)) = true then (if (decide (((((⟨#[40]⟩ : ByteArray) ++ a0) ++ x_204) ++ a1).size + (⟨#[41]⟩ : ByteArray).size ≤ 9223372036854775807)) = true then ((ref11_Lex (((((⟨#[40]⟩ : ByteArray) ++ a0) ++ x_204) ++ a1) ++ (⟨#[41]⟩ : ByteArray))).bind fun y_211 => ((ref12_Cond y_211.1).bind fun y_219 => (if (decide ((⟨#[40]⟩ : ByteArray).size + a1.size ≤ 9223372036854775807)) = true then (if (decide (((⟨#[40]⟩ : ByteArray) ++ a1).size + x_204.size ≤ 9223372036854775807)) = true then (if (decide ((((⟨#[40]⟩ : ByteArray) ++ a1) ++ x_204).size + a0.size ≤ 9223372036854775807)) = true then (if (decide (((((⟨#[40]⟩ : ByteArray) ++ a1) ++ x_204) ++ a0).size + (⟨#[41]⟩ : ByteArray).size ≤ 9223372036854775807)) = true then ((ref11_Lex (((((⟨#[40]⟩ : ByteArray) ++ a1) ++ x_204) ++ a0) ++ (⟨#[41]⟩ : ByteArray))).bind fun y_232 => ((ref12_Cond y_232.1).bind fun y_240 => (if (y_211.2.2 != 0) = true then (law15_PredSides.j3 kl1 y_2 y_4 x_112 y_219 y_240 true) else (if (y_219.2.2 != 0) = true then (law15_PredSides.j3 kl1 y_2 y_4 x_112 y_219 y_240 true) else (if (y_232.2.2 != 0) = true then (law15_PredSides.j3 kl1 y_2 y_4 x_112 y_219 y_240 true) else (law15_PredSides.j3 kl1 y_2 y_4 x_112 y_219 y_240 (y_240.2.2 != 0))))))) else none) else none) else none) else none))) else none) else none) else none) else none)

def law15_PredSides.l1 (a0 : ByteArray) (a1 : ByteArray) (y_2 : Bool) (y_4 : api_Table) : Nat → Int → Option Bool
  | 0, _ => none
  | k + 1, x_112 => (if (decide (x_112 < 2)) = true then (if (x_112 == 1) = true then (law15_PredSides.j2 (law15_PredSides.l1 a0 a1 y_2 y_4 k) a0 a1 y_2 y_4 x_112 (⟨#[41, 32, 111, 114, 32, 40]⟩ : ByteArray)) else (law15_PredSides.j2 (law15_PredSides.l1 a0 a1 y_2 y_4 k) a0 a1 y_2 y_4 x_112 (⟨#[41, 32, 97, 110, 100, 32, 40]⟩ : ByteArray))) else some y_2)

def law15_PredSides.j0 (a0 : ByteArray) (a1 : ByteArray) (y_2 : Bool) (y_4 : api_Table) (x_19 : Bool) : Option Bool :=
  (if x_19 = true then some y_2 else (law15_PredSides.l1 a0 a1 y_2 y_4 (((2 : Int) - 0).toNat + 1) 0))

def law15_PredSides (a0 : ByteArray) (a1 : ByteArray) (a2 : api_Table) : Option Bool :=
  ((law15_shown).bind fun y_2 => ((law15_cut a2).bind fun y_4 => (if (decide ((a0.size : Int) > 500)) = true then (law15_PredSides.j0 a0 a1 y_2 y_4 true) else (if (decide ((a1.size : Int) > 500)) = true then (law15_PredSides.j0 a0 a1 y_2 y_4 true) else ((law15_alone a0).bind fun y_23 => (if (!y_23) = true then (law15_PredSides.j0 a0 a1 y_2 y_4 true) else ((law15_alone a1).bind fun y_26 => (law15_PredSides.j0 a0 a1 y_2 y_4 (!y_26)))))))))

end
end Go.Proofs.Ytjklfkiaebipnaa.M
