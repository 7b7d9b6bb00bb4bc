/- The functions that the laws come to, as plain Lean functions over numbers and lists (none: Go would panic, or the bound on rounds is used up). Printed by wip/eng/gen.py. -/
import Derived.Test.YtafkcbacdfiniaaEngL
namespace Go.Proofs.Ytafkcbacdfiniaa.M
open Go Go.Eng Go.Proofs Go.RowKit
set_option linter.unusedVariables false
set_option maxRecDepth 100000
noncomputable section

structure api_Value where
  Kind : Int
  N : Int
  S : ByteArray
  H : Arr8
  deriving DecidableEq
def ty_api_Value : Ty api_Value := Ty.flat 11 (fun x => [.int .i64 x.Kind, .int .i64 x.N, .string x.S, .int .i64 x.H.a0, .int .i64 x.H.a1, .int .i64 x.H.a2, .int .i64 x.H.a3, .int .i64 x.H.a4, .int .i64 x.H.a5, .int .i64 x.H.a6, .int .i64 x.H.a7]) (fun _ => rfl) (fun _ => all_cons rfl (all_cons rfl (all_cons rfl (all_cons rfl (all_cons rfl (all_cons rfl (all_cons rfl (all_cons rfl (all_cons rfl (all_cons rfl (all_cons rfl (all_nil))))))))))))
def ok_api_Value (x : api_Value) : Prop := (fun x => (Lit.int .i64 x).wf = true) x.Kind ∧ (fun x => (Lit.int .i64 x).wf = true) x.N ∧ (fun s => s.size ≤ 140737488351232) x.S ∧ ok_Arr8 x.H

structure api_Sample where
  Time : Int
  Vals : List api_Value
  deriving DecidableEq
def ty_api_Sample : Ty api_Sample where
  n := 2
  rep := fun R cs x => ∃ v0, cs = [.int .i64 x.Time, v0] ∧ SlR ty_api_Value R v0 x.Vals
  mono := fun hR ⟨v0, h, h0⟩ => ⟨v0, h, h0.mono hR⟩
  len := fun ⟨v0, h, h0⟩ => by subst h; rfl
  one := fun ⟨v0, h, h0⟩ => by subst h; exact all_cons rfl (all_cons h0.one (all_nil))
def ok_api_Sample (x : api_Sample) : Prop := (fun x => (Lit.int .i64 x).wf = true) x.Time ∧ (fun xs => xs.length * 96 ≤ 140737488351232 ∧ ∀ x ∈ xs, ok_api_Value x) x.Vals

structure runs_Run where
  l : List api_Sample
  deriving DecidableEq
def ty_runs_Run : Ty runs_Run where
  n := 1
  rep := fun R cs x => ∃ v0, cs = [v0] ∧ SlR ty_api_Sample R v0 x.l
  mono := fun hR ⟨v0, h, h0⟩ => ⟨v0, h, h0.mono hR⟩
  len := fun ⟨v0, h, h0⟩ => by subst h; rfl
  one := fun ⟨v0, h, h0⟩ => by subst h; exact all_cons h0.one (all_nil)
def ok_runs_Run (x : runs_Run) : Prop := (fun xs => xs.length * 32 ≤ 140737488351232 ∧ ∀ x ∈ xs, ok_api_Sample x) x.l

structure catchmentref07_Run where
  L : List api_Sample
  deriving DecidableEq
def ty_catchmentref07_Run : Ty catchmentref07_Run where
  n := 1
  rep := fun R cs x => ∃ v0, cs = [v0] ∧ SlR ty_api_Sample R v0 x.L
  mono := fun hR ⟨v0, h, h0⟩ => ⟨v0, h, h0.mono hR⟩
  len := fun ⟨v0, h, h0⟩ => by subst h; rfl
  one := fun ⟨v0, h, h0⟩ => by subst h; exact all_cons h0.one (all_nil)
def ok_catchmentref07_Run (x : catchmentref07_Run) : Prop := (fun xs => xs.length * 32 ≤ 140737488351232 ∧ ∀ x ∈ xs, ok_api_Sample x) x.L

/-! ### catchment/runs.New -/
def runs_New : Option runs_Run :=
  some (⟨([] : List api_Sample)⟩ : runs_Run)

/-! ### (*catchment/runs.Run).Span -/
def runs_Run_Span (a0 : runs_Run) : Option (Int × Int × Bool) :=
  (if ((a0.l.length : Int) == 0) = true then some (0, 0, false) else ((ix a0.l 0).bind fun y_24 => ((ix a0.l (IntKind.i64.wrap ((a0.l.length : Int) - 1))).bind fun y_35 => some (y_24.Time, y_35.Time, true))))

/-! ### catchment/catchmentlaw07.word -/
def law07_word (a0 : ByteArray) : Option (List api_Value) :=
  some [(⟨2, 0, a0, (⟨0, 0, 0, 0, 0, 0, 0, 0⟩ : Arr8)⟩ : api_Value)]

/-! ### cmp.isNaN[int] -/
def cmp_isNaN_int (a0 : Int) : Option Bool :=
  some (a0 != a0)

/-! ### cmp.Compare[int] -/
def cmp_Compare_int (a0 : Int) (a1 : Int) : Option Int :=
  ((cmp_isNaN_int a0).bind fun y_1 => ((cmp_isNaN_int a1).bind fun y_3 => (if y_1 = true then (if y_3 = true then some 0 else some (-1)) else (if y_3 = true then some 1 else (if (decide (a0 < a1)) = true then some (-1) else (if (decide (a0 > a1)) = true then some 1 else some 0))))))

/-! ### (*catchment/runs.Run).place$1 -/
def runs_Run_place_1 (a0 : api_Sample) (a1 : Int) : Option Int :=
  ((cmp_Compare_int a0.Time a1).bind fun y_2 => some y_2)

/-! ### slices.BinarySearchFunc[[]catchment/api.Sample,catchment/api.Sample,int] -/
def slices_BinarySearchFunc_api_Sample_api_Sample_int_f_runs_Run_place_1.j1 (kl0 : Int → Int → Option (Int × Bool)) (a0 : List api_Sample) (x_58 : Int) (x_59 : Int) : Option (Int × Bool) :=
  (kl0 x_58 x_59)

def slices_BinarySearchFunc_api_Sample_api_Sample_int_f_runs_Run_place_1.l0 (a0 : List api_Sample) (a1 : Int) : Nat → Int → Int → Option (Int × Bool)
  | 0, _, _ => none
  | k + 1, x_21, x_22 => (if (decide (x_21 < x_22)) = true then ((ix a0 (IntKind.i64.wrap ((IntKind.u64.wrap (IntKind.i64.wrap (x_21 + x_22))).fdiv (2 ^ (min (1 : Int).toNat 64))))).bind fun y_44 => ((runs_Run_place_1 y_44 a1).bind fun y_55 => (if (decide (y_55 < 0)) = true then (slices_BinarySearchFunc_api_Sample_api_Sample_int_f_runs_Run_place_1.j1 (slices_BinarySearchFunc_api_Sample_api_Sample_int_f_runs_Run_place_1.l0 a0 a1 k) a0 (IntKind.i64.wrap ((IntKind.i64.wrap ((IntKind.u64.wrap (IntKind.i64.wrap (x_21 + x_22))).fdiv (2 ^ (min (1 : Int).toNat 64)))) + 1)) x_22) else (slices_BinarySearchFunc_api_Sample_api_Sample_int_f_runs_Run_place_1.j1 (slices_BinarySearchFunc_api_Sample_api_Sample_int_f_runs_Run_place_1.l0 a0 a1 k) a0 x_21 (IntKind.i64.wrap ((IntKind.u64.wrap (IntKind.i64.wrap (x_21 + x_22))).fdiv (2 ^ (min (1 : Int).toNat 64)))))))) else (if (decide (x_21 < (a0.length : Int))) = true then ((ix a0 x_21).bind fun y_63 => ((runs_Run_place_1 y_63 a1).bind fun y_74 => some (x_21, (y_74 == 0)))) else some (x_21, false)))

def slices_BinarySearchFunc_api_Sample_api_Sample_int_f_runs_Run_place_1 (a0 : List api_Sample) (a1 : Int) : Option (Int × Bool) :=
  (slices_BinarySearchFunc_api_Sample_api_Sample_int_f_runs_Run_place_1.l0 a0 a1 (((a0.length : Int) - 0).toNat + 1) 0 (a0.length : Int))

/-! ### (*catchment/runs.Run).place -/
def runs_Run_place (a0 : runs_Run) (a1 : Int) : Option (Int × Bool) :=
  ((slices_BinarySearchFunc_api_Sample_api_Sample_int_f_runs_Run_place_1 a0.l a1).bind fun y_1 => some (y_1.1, y_1.2))

/-! ### slices.Clone[[]catchment/api.Value,catchment/api.Value] -/
def slices_Clone_api_Value_api_Value (a0 : List api_Value) : Option (List api_Value) :=
  ((apd 96 ([] : List api_Value) a0).bind fun y_4 => some y_4)

/-! ### slices.Insert[[]catchment/api.Sample,catchment/api.Sample] -/
def slices_Insert_api_Sample_api_Sample (a0 : List api_Sample) (a1 : Int) (a2 : List api_Sample) : Option (List api_Sample) := ins 32 a0 a1 a2

/-! ### (*catchment/runs.Run).Add -/
def runs_Run_Add (a0 : runs_Run) (a1 : Int) (a2 : List api_Value) : Option (Bool × runs_Run) :=
  ((runs_Run_place a0 a1).bind fun y_1 => (if y_1.2 = true then some (false, a0) else ((slices_Clone_api_Value_api_Value a2).bind fun y_27 => ((slices_Insert_api_Sample_api_Sample a0.l y_1.1 [(⟨a1, y_27⟩ : api_Sample)]).bind fun y_42 => some (true, (⟨y_42⟩ : runs_Run))))))

/-! ### (*catchment/runs.Run).Get -/
def runs_Run_Get (a0 : runs_Run) (a1 : Int) : Option ((List api_Value) × Bool) :=
  ((runs_Run_place a0 a1).bind fun y_1 => (if (!y_1.2) = true then some (([] : List api_Value), false) else ((ix a0.l y_1.1).bind fun y_6 => ((slices_Clone_api_Value_api_Value y_6.Vals).bind fun y_17 => some (y_17, true)))))

/-! ### (*catchment/runs.Run).Range -/
def runs_Run_Range.l0 (a2 : Int) (y_3 : List api_Sample) : Nat → (List api_Sample) → Int → Option (List api_Sample)
  | 0, _, _ => none
  | k + 1, x_76, x_81 => (if (decide (x_81 < (y_3.length : Int))) = true then ((ix y_3 x_81).bind fun y_145 => (if (decide (y_145.Time > a2)) = true then some x_76 else ((slices_Clone_api_Value_api_Value y_145.Vals).bind fun y_180 => ((apd 32 x_76 [(⟨y_145.Time, y_180⟩ : api_Sample)]).bind fun y_194 => (runs_Run_Range.l0 a2 y_3 k y_194 (IntKind.i64.wrap (x_81 + 1))))))) else some x_76)

def runs_Run_Range (a0 : runs_Run) (a1 : Int) (a2 : Int) : Option (List api_Sample) :=
  ((runs_Run_place a0 a1).bind fun y_1 => ((cut a0.l y_1.1 a0.l.length).bind fun y_3 => (runs_Run_Range.l0 a2 y_3 (((y_3.length : Int) - 0).toNat + 1) [] 0)))

/-! ### catchment/catchmentlaw07.vals -/
def law07_vals.l0 (a0 : List api_Value) (a1 : List api_Value) : Nat → Int → Option Bool
  | 0, _ => none
  | k + 1, x_41 => (if (decide (x_41 < (a0.length : Int))) = true then ((ix a0 x_41).bind fun y_100 => ((ix a1 x_41).bind fun y_109 => (if (!decide (y_100 = y_109)) = true then some false else (law07_vals.l0 a0 a1 k (IntKind.i64.wrap (x_41 + 1)))))) else some true)

def law07_vals (a0 : List api_Value) (a1 : List api_Value) : Option Bool :=
  (if ((a0.length : Int) != (a1.length : Int)) = true then some false else (law07_vals.l0 a0 a1 (((a0.length : Int) - 0).toNat + 1) 0))

/-! ### catchment/catchmentlaw07.same -/
def law07_same.j1 (kl0 : Int → Option Bool) (a0 : List api_Sample) (x_195 : Int) (x_484 : Bool) : Option Bool :=
  (if (!x_484) = true then some false else (kl0 (IntKind.i64.wrap (x_195 + 1))))

def law07_same.l0 (a0 : List api_Sample) (a1 : List api_Sample) : Nat → Int → Option Bool
  | 0, _ => none
  | k + 1, x_195 => (if (decide (x_195 < (a0.length : Int))) = true then ((ix a0 x_195).bind fun y_533 => ((ix a1 x_195).bind fun y_544 => (if (y_533.Time == y_544.Time) = true then ((ix a0 x_195).bind fun y_556 => ((ix a1 x_195).bind fun y_567 => ((law07_vals y_556.Vals y_567.Vals).bind fun y_578 => (law07_same.j1 (law07_same.l0 a0 a1 k) a0 x_195 y_578)))) else (law07_same.j1 (law07_same.l0 a0 a1 k) a0 x_195 false)))) else some true)

def law07_same (a0 : List api_Sample) (a1 : List api_Sample) : Option Bool :=
  (if ((a0.length : Int) != (a1.length : Int)) = true then some false else (law07_same.l0 a0 a1 (((a0.length : Int) - 0).toNat + 1) 0))

/-! ### (*catchment/runs.Run).Len -/
def runs_Run_Len (a0 : runs_Run) : Option Int :=
  some (a0.l.length : Int)

/-! ### catchment/catchmentlaw07.shown -/
def law07_shown : Option Bool :=
  ((runs_New).bind fun y_1 => ((runs_Run_Span y_1).bind fun y_10 => ((law07_word (⟨#[97]⟩ : ByteArray)).bind fun y_12 => ((runs_Run_Add y_1 5 y_12).bind fun y_20 => ((law07_word (⟨#[98]⟩ : ByteArray)).bind fun y_28 => ((runs_Run_Add y_20.2 3 y_28).bind fun y_36 => ((law07_word (⟨#[99]⟩ : ByteArray)).bind fun y_44 => ((runs_Run_Add y_36.2 5 y_44).bind fun y_52 => ((runs_Run_Get y_52.2 5).bind fun y_60 => ((runs_Run_Range y_52.2 3 5).bind fun y_68 => ((law07_word (⟨#[98]⟩ : ByteArray)).bind fun y_77 => ((law07_word (⟨#[97]⟩ : ByteArray)).bind fun y_86 => ((law07_same y_68 [(⟨3, y_77⟩ : api_Sample), (⟨5, y_86⟩ : api_Sample)]).bind fun y_102 => ((runs_Run_Range y_52.2 4 9).bind fun y_104 => ((law07_word (⟨#[97]⟩ : ByteArray)).bind fun y_113 => ((law07_same y_104 [(⟨5, y_113⟩ : api_Sample)]).bind fun y_126 => ((runs_Run_Span y_52.2).bind fun y_128 => (if (!y_10.2.2) = true then (if y_20.1 = true then (if y_36.1 = true then (if (!y_52.1) = true then (if ((y_60.1.length : Int) == 1) = true then ((ix y_60.1 0).bind fun y_135 => (if (y_135.S.toList == (⟨#[97]⟩ : ByteArray).toList) = true then (if y_60.2 = true then ((runs_Run_Len y_52.2).bind fun y_145 => (if (y_145 == 2) = true then (if y_102 = true then (if y_126 = true then ((runs_Run_Range y_52.2 9 3).bind fun y_150 => (if ((y_150.length : Int) == 0) = true then (if (y_128.1 == 3) = true then (if (y_128.2.1 == 5) = true then some y_128.2.2 else some false) else some false) else some false)) else some false) else some false) else some false)) else some false) else some false)) else some false) else some false) else some false) else some false) else some false))))))))))))))))))

/-! ### slices.Clone[[]catchment/api.Sample,catchment/api.Sample] -/
def slices_Clone_api_Sample_api_Sample (a0 : List api_Sample) : Option (List api_Sample) :=
  ((apd 32 ([] : List api_Sample) a0).bind fun y_4 => some y_4)

/-! ### (*catchment/runs.Run).Clone -/
def runs_Run_Clone (a0 : runs_Run) : Option runs_Run :=
  ((slices_Clone_api_Sample_api_Sample a0.l).bind fun y_1 => some (⟨y_1⟩ : runs_Run))

/-! ### (*catchment/catchmentref07.Run).Get -/
def ref07_Run_Get.l0 (a0 : catchmentref07_Run) (a1 : Int) : Nat → Int → Option ((List api_Value) × Bool)
  | 0, _ => none
  | k + 1, x_35 => (if (decide (x_35 < (a0.L.length : Int))) = true then ((ix a0.L x_35).bind fun y_71 => (if (y_71.Time == a1) = true then ((ix a0.L x_35).bind fun y_84 => ((apd 96 ([] : List api_Value) y_84.Vals).bind fun y_97 => some (y_97, true))) else (ref07_Run_Get.l0 a0 a1 k (IntKind.i64.wrap (x_35 + 1))))) else some (([] : List api_Value), false))

def ref07_Run_Get (a0 : catchmentref07_Run) (a1 : Int) : Option ((List api_Value) × Bool) :=
  (ref07_Run_Get.l0 a0 a1 (((a0.L.length : Int) - 0).toNat + 1) 0)

/-! ### (*catchment/catchmentref07.Run).Add -/
def ref07_Run_Add.j2 (kl0 : (List api_Sample) → Bool → Int → Option (Bool × catchmentref07_Run)) (a0 : catchmentref07_Run) (x_123 : Int) (x_230 : List api_Sample) (x_234 : Bool) : Option (Bool × catchmentref07_Run) :=
  ((ix a0.L x_123).bind fun y_244 => ((apd 32 x_230 [y_244]).bind fun y_255 => (kl0 y_255 x_234 (IntKind.i64.wrap (x_123 + 1)))))

def ref07_Run_Add.j1 (kl0 : (List api_Sample) → Bool → Int → Option (Bool × catchmentref07_Run)) (a0 : catchmentref07_Run) (a1 : Int) (y_13 : List api_Value) (x_118 : List api_Sample) (x_122 : Bool) (x_123 : Int) (x_208 : Bool) : Option (Bool × catchmentref07_Run) :=
  (if x_208 = true then ((apd 32 x_118 [(⟨a1, y_13⟩ : api_Sample)]).bind fun y_238 => (ref07_Run_Add.j2 kl0 a0 x_123 y_238 true)) else (ref07_Run_Add.j2 kl0 a0 x_123 x_118 x_122))

def ref07_Run_Add.l0 (a0 : catchmentref07_Run) (a1 : Int) (y_13 : List api_Value) : Nat → (List api_Sample) → Bool → Int → Option (Bool × catchmentref07_Run)
  | 0, _, _, _ => none
  | k + 1, x_118, x_122, x_123 => (if (decide (x_123 < (a0.L.length : Int))) = true then ((ix a0.L x_123).bind fun y_210 => (if (decide (y_210.Time > a1)) = true then (ref07_Run_Add.j1 (ref07_Run_Add.l0 a0 a1 y_13 k) a0 a1 y_13 x_118 x_122 x_123 (!x_122)) else (ref07_Run_Add.j1 (ref07_Run_Add.l0 a0 a1 y_13 k) a0 a1 y_13 x_118 x_122 x_123 false))) else (if (!x_122) = true then ((apd 32 x_118 [(⟨a1, y_13⟩ : api_Sample)]).bind fun y_263 => some (true, (⟨y_263⟩ : catchmentref07_Run))) else some (true, (⟨x_118⟩ : catchmentref07_Run))))

def ref07_Run_Add (a0 : catchmentref07_Run) (a1 : Int) (a2 : List api_Value) : Option (Bool × catchmentref07_Run) :=
  ((ref07_Run_Get a0 a1).bind fun y_1 => (if y_1.2 = true then some (false, a0) else ((apd 96 ([] : List api_Value) a2).bind fun y_13 => (ref07_Run_Add.l0 a0 a1 y_13 (((a0.L.length : Int) - 0).toNat + 1) [] false 0))))

/-! ### (*catchment/catchmentref07.Run).Range -/
def ref07_Run_Range.j2 (kl0 : (List api_Sample) → Int → Option ((List api_Sample) × catchmentref07_Run)) (a0 : catchmentref07_Run) (x_100 : Int) (x_255 : List api_Sample) : Option ((List api_Sample) × catchmentref07_Run) :=
  (kl0 x_255 (IntKind.i64.wrap (x_100 + 1)))

def ref07_Run_Range.j1 (kl0 : (List api_Sample) → Int → Option ((List api_Sample) × catchmentref07_Run)) (a0 : catchmentref07_Run) (x_96 : List api_Sample) (x_100 : Int) (x_213 : Bool) : Option ((List api_Sample) × catchmentref07_Run) :=
  (if x_213 = true then ((ix a0.L x_100).bind fun y_261 => ((apd 32 x_96 [y_261]).bind fun y_272 => (ref07_Run_Range.j2 kl0 a0 x_100 y_272))) else (ref07_Run_Range.j2 kl0 a0 x_100 x_96))

def ref07_Run_Range.l0 (a0 : catchmentref07_Run) (a1 : Int) (a2 : Int) : Nat → (List api_Sample) → Int → Option ((List api_Sample) × catchmentref07_Run)
  | 0, _, _ => none
  | k + 1, x_96, x_100 => (if (decide (x_100 < (a0.L.length : Int))) = true then ((ix a0.L x_100).bind fun y_215 => (if (decide (y_215.Time ≥ a1)) = true then ((ix a0.L x_100).bind fun y_226 => (ref07_Run_Range.j1 (ref07_Run_Range.l0 a0 a1 a2 k) a0 x_96 x_100 (decide (y_226.Time ≤ a2)))) else (ref07_Run_Range.j1 (ref07_Run_Range.l0 a0 a1 a2 k) a0 x_96 x_100 false))) else some (x_96, a0))

def ref07_Run_Range (a0 : catchmentref07_Run) (a1 : Int) (a2 : Int) : Option ((List api_Sample) × catchmentref07_Run) :=
  (ref07_Run_Range.l0 a0 a1 a2 (((a0.L.length : Int) - 0).toNat + 1) [] 0)

/-! ### catchment/catchmentlaw07.RunsPlays -/
def law07_RunsPlays.j11 (x_2384 : Bool) : Option Bool :=
  some x_2384

def law07_RunsPlays.j8 (kl1 : (List api_Sample) → (List api_Sample) → Int → Option Bool) (a0 : List api_Sample) (x_806 : Int) (y_1702 : Bool × runs_Run) (x_2138 : List api_Sample) : Option Bool :=
  (kl1 y_1702.2.l x_2138 (IntKind.i64.wrap (x_806 + 1)))

def law07_RunsPlays.j10 (kl1 : (List api_Sample) → (List api_Sample) → Int → Option Bool) (a0 : List api_Sample) (x_806 : Int) (y_1702 : Bool × runs_Run) (y_2254 : (List api_Sample) × catchmentref07_Run) : Option Bool :=
  (law07_RunsPlays.j8 kl1 a0 x_806 y_1702 y_2254.2.L)

def law07_RunsPlays.j9 (kl1 : (List api_Sample) → (List api_Sample) → Int → Option Bool) (a0 : List api_Sample) (x_806 : Int) (y_1702 : Bool × runs_Run) (y_2190 : List api_Sample) (y_2254 : (List api_Sample) × catchmentref07_Run) (x_2285 : Bool) : Option Bool :=
  (if x_2285 = true then ((ix y_2190 0).bind fun y_2329 => ((ix y_2329.Vals 0).bind fun y_2339 => (law07_RunsPlays.j10 kl1 a0 x_806 y_1702 y_2254))) else (law07_RunsPlays.j10 kl1 a0 x_806 y_1702 y_2254))

def law07_RunsPlays.j7 (kl1 : (List api_Sample) → (List api_Sample) → Int → Option Bool) (a0 : List api_Sample) (a1 : List Int) (a2 : List Int) (x_806 : Int) (y_1702 : Bool × runs_Run) (y_1762 : Bool × catchmentref07_Run) (x_1922 : Bool) : Option Bool :=
  (if x_1922 = true then ((ix a1 x_806).bind fun y_2172 => ((ix a2 x_806).bind fun y_2181 => ((runs_Run_Range y_1702.2 y_2172 y_2181).bind fun y_2190 => ((ix a1 x_806).bind fun y_2236 => ((ix a2 x_806).bind fun y_2245 => ((ref07_Run_Range y_1762.2 y_2236 y_2245).bind fun y_2254 => ((law07_same y_2190 y_2254.1).bind fun y_2271 => (if (!y_2271) = true then some false else (if (decide ((y_2190.length : Int) > 0)) = true then ((ix y_2190 0).bind fun y_2288 => (law07_RunsPlays.j9 kl1 a0 x_806 y_1702 y_2190 y_2254 (decide ((y_2288.Vals.length : Int) > 0)))) else (law07_RunsPlays.j9 kl1 a0 x_806 y_1702 y_2190 y_2254 false)))))))))) else (law07_RunsPlays.j8 kl1 a0 x_806 y_1702 y_1762.2.L))

def law07_RunsPlays.l6 (kl1 : (List api_Sample) → (List api_Sample) → Int → Option Bool) (a0 : List api_Sample) (a1 : List Int) (a2 : List Int) (x_806 : Int) (y_1702 : Bool × runs_Run) (y_1762 : Bool × catchmentref07_Run) (y_1825 : (List api_Value) × Bool) : Nat → (List api_Value) → Int → Option Bool
  | 0, _, _ => none
  | k + 1, x_1891, x_1895 => (if (decide (x_1895 < (x_1891.length : Int))) = true then ((ix x_1891 x_1895).bind fun y_1910 => (law07_RunsPlays.l6 kl1 a0 a1 a2 x_806 y_1702 y_1762 y_1825 k (upd x_1891 x_1895 (⟨9, 0, (⟨#[]⟩ : ByteArray), (⟨0, 0, 0, 0, 0, 0, 0, 0⟩ : Arr8)⟩ : api_Value)) (IntKind.i64.wrap (x_1895 + 1)))) else (if (decide (x_806 < (a1.length : Int))) = true then (law07_RunsPlays.j7 kl1 a0 a1 a2 x_806 y_1702 y_1762 (decide (x_806 < (a2.length : Int)))) else (law07_RunsPlays.j7 kl1 a0 a1 a2 x_806 y_1702 y_1762 false)))

def law07_RunsPlays.j5 (kl1 : (List api_Sample) → (List api_Sample) → Int → Option Bool) (a0 : List api_Sample) (a1 : List Int) (a2 : List Int) (x_806 : Int) (y_1702 : Bool × runs_Run) (y_1762 : Bool × catchmentref07_Run) (y_1825 : (List api_Value) × Bool) (x_1864 : Bool) : Option Bool :=
  (if x_1864 = true then some false else (law07_RunsPlays.l6 kl1 a0 a1 a2 x_806 y_1702 y_1762 y_1825 (((y_1825.1.length : Int) - 0).toNat + 1) y_1825.1 0))

def law07_RunsPlays.l4 (kl1 : (List api_Sample) → (List api_Sample) → Int → Option Bool) (a0 : List api_Sample) (a1 : List Int) (a2 : List Int) (x_806 : Int) (y_1603 : List api_Value) (y_1702 : Bool × runs_Run) (y_1762 : Bool × catchmentref07_Run) : Nat → (List api_Value) → Int → Option Bool
  | 0, _, _ => none
  | k + 1, x_1784, x_1788 => (if (decide (x_1788 < (x_1784.length : Int))) = true then ((ix x_1784 x_1788).bind fun y_1803 => (law07_RunsPlays.l4 kl1 a0 a1 a2 x_806 y_1603 y_1702 y_1762 k (upd x_1784 x_1788 (⟨0, 0, (⟨#[]⟩ : ByteArray), (⟨0, 0, 0, 0, 0, 0, 0, 0⟩ : Arr8)⟩ : api_Value)) (IntKind.i64.wrap (x_1788 + 1)))) else ((ix a0 x_806).bind fun y_1814 => ((runs_Run_Get y_1702.2 y_1814.Time).bind fun y_1825 => ((ix a0 x_806).bind fun y_1833 => ((ref07_Run_Get y_1762.2 y_1833.Time).bind fun y_1844 => ((law07_vals y_1825.1 y_1844.1).bind fun y_1852 => (if (!(y_1702.1 == y_1762.1)) = true then (law07_RunsPlays.j5 kl1 a0 a1 a2 x_806 y_1702 y_1762 y_1825 true) else (if (!y_1852) = true then (law07_RunsPlays.j5 kl1 a0 a1 a2 x_806 y_1702 y_1762 y_1825 true) else (if (!(y_1825.2 == y_1844.2)) = true then (law07_RunsPlays.j5 kl1 a0 a1 a2 x_806 y_1702 y_1762 y_1825 true) else ((runs_Run_Len y_1702.2).bind fun y_1874 => (law07_RunsPlays.j5 kl1 a0 a1 a2 x_806 y_1702 y_1762 y_1825 (y_1874 != (y_1762.2.L.length : Int)))))))))))))

def law07_RunsPlays.j3 (kl1 : (List api_Sample) → (List api_Sample) → Int → Option Bool) (a0 : List api_Sample) (a1 : List Int) (a2 : List Int) (x_802 : List api_Sample) (x_806 : Int) (y_1603 : List api_Value) (x_1648 : List api_Sample) : Option Bool :=
  ((ix a0 x_806).bind fun y_1691 => ((runs_Run_Add (⟨x_1648⟩ : runs_Run) y_1691.Time y_1603).bind fun y_1702 => ((ix a0 x_806).bind fun y_1740 => ((ix a0 x_806).bind fun y_1751 => ((ref07_Run_Add (⟨x_802⟩ : catchmentref07_Run) y_1740.Time y_1751.Vals).bind fun y_1762 => (law07_RunsPlays.l4 kl1 a0 a1 a2 x_806 y_1603 y_1702 y_1762 (((y_1603.length : Int) - 0).toNat + 1) y_1603 0))))))

def law07_RunsPlays.j2 (kl1 : (List api_Sample) → (List api_Sample) → Int → Option Bool) (a0 : List api_Sample) (a1 : List Int) (a2 : List Int) (x_797 : List api_Sample) (x_802 : List api_Sample) (x_806 : Int) (x_1585 : Bool) : Option Bool :=
  (if x_1585 = true then ((ix a0 x_806).bind fun y_1590 => ((apd 96 ([] : List api_Value) y_1590.Vals).bind fun y_1603 => (if ((x_806.tmod 6) == 5) = true then ((runs_Run_Clone (⟨x_797⟩ : runs_Run)).bind fun y_1655 => ((ix a0 x_806).bind fun y_1664 => ((runs_Run_Add (⟨x_797⟩ : runs_Run) y_1664.Time ([] : List api_Value)).bind fun y_1675 => ((runs_Run_Add y_1675.2 99 ([] : List api_Value)).bind fun y_1683 => (law07_RunsPlays.j3 kl1 a0 a1 a2 x_802 x_806 y_1603 y_1655.l))))) else (law07_RunsPlays.j3 kl1 a0 a1 a2 x_802 x_806 y_1603 x_797)))) else ((runs_Run_Span (⟨x_797⟩ : runs_Run)).bind fun y_2356 => ((runs_Run_Range (⟨x_797⟩ : runs_Run) (-9223372036854775808) 9223372036854775807).bind fun y_2369 => ((law07_same y_2369 x_802).bind fun y_2378 => (if ((x_802.length : Int) == 0) = true then (if (!y_2356.2.2) = true then (if (y_2356.1 == 0) = true then (if (y_2356.2.1 == 0) = true then (law07_RunsPlays.j11 y_2378) else (law07_RunsPlays.j11 false)) else (law07_RunsPlays.j11 false)) else (law07_RunsPlays.j11 false)) else (if y_2356.2.2 = true then ((ix x_802 0).bind fun y_2413 => (if (y_2356.1 == y_2413.Time) = true then ((ix x_802 (IntKind.i64.wrap ((x_802.length : Int) - 1))).bind fun y_2424 => (if (y_2356.2.1 == y_2424.Time) = true then some y_2378 else some false)) else some false)) else some false))))))

def law07_RunsPlays.l1 (a0 : List api_Sample) (a1 : List Int) (a2 : List Int) : Nat → (List api_Sample) → (List api_Sample) → Int → Option Bool
  | 0, _, _, _ => none
  | k + 1, x_797, x_802, x_806 => (if (decide (x_806 < (a0.length : Int))) = true then (law07_RunsPlays.j2 (law07_RunsPlays.l1 a0 a1 a2 k) a0 a1 a2 x_797 x_802 x_806 (decide (x_806 < 150))) else (law07_RunsPlays.j2 (law07_RunsPlays.l1 a0 a1 a2 k) a0 a1 a2 x_797 x_802 x_806 false))

def law07_RunsPlays.j0 (a0 : List api_Sample) (a1 : List Int) (a2 : List Int) (y_3 : runs_Run) (x_14 : Bool) : Option Bool :=
  (if x_14 = true then some false else (law07_RunsPlays.l1 a0 a1 a2 (((a0.length : Int) - 0).toNat + 1) y_3.l [] 0))

def law07_RunsPlays (a0 : List api_Sample) (a1 : List Int) (a2 : List Int) : Option Bool :=
  ((law07_shown).bind fun y_1 => ((runs_New).bind fun y_3 => (if (!y_1) = true then (law07_RunsPlays.j0 a0 a1 a2 y_3 true) else (law07_RunsPlays.j0 a0 a1 a2 y_3 false))))

/-! ### catchment/catchmentlaw07.RunsOrder -/
def law07_RunsOrder.j3 (kl1 : (List api_Sample) → (List api_Sample) → Int → Option Bool) (a0 : List api_Sample) (x_152 : Int) (y_324 : Bool × runs_Run) (x_352 : List api_Sample) : Option Bool :=
  (kl1 y_324.2.l x_352 (IntKind.i64.wrap (x_152 + 1)))

def law07_RunsOrder.l5 (x_143 : List api_Sample) (x_148 : List api_Sample) (x_377 : Int) : Nat → (List api_Sample) → Int → Option Bool
  | 0, _, _ => none
  | k + 1, x_405, x_409 => (if (decide (x_409 < (x_148.length : Int))) = true then (if ((x_148.length : Int) != 0) = true then (if ((x_148.length : Int) != 0) = true then ((ix x_148 ((IntKind.i64.wrap (x_409 + (x_377.tmod (x_148.length : Int)))).tmod (x_148.length : Int))).bind fun y_438 => ((runs_Run_Add (⟨x_405⟩ : runs_Run) y_438.Time y_438.Vals).bind fun y_449 => (if (!y_449.1) = true then some false else (law07_RunsOrder.l5 x_143 x_148 x_377 k y_449.2.l (IntKind.i64.wrap (x_409 + 1)))))) else none) else none) else ((runs_Run_Range (⟨x_143⟩ : runs_Run) (-9223372036854775808) 9223372036854775807).bind fun y_458 => ((runs_Run_Range (⟨x_405⟩ : runs_Run) (-9223372036854775808) 9223372036854775807).bind fun y_467 => ((law07_same y_458 y_467).bind fun y_476 => (if y_476 = true then ((runs_Run_Len (⟨x_143⟩ : runs_Run)).bind fun y_479 => some (y_479 == (x_148.length : Int))) else some false)))))

def law07_RunsOrder.j4 (y_12 : runs_Run) (x_143 : List api_Sample) (x_148 : List api_Sample) (x_377 : Int) : Option Bool :=
  (law07_RunsOrder.l5 x_143 x_148 x_377 (((x_148.length : Int) - 0).toNat + 1) y_12.l 0)

def law07_RunsOrder.j2 (kl1 : (List api_Sample) → (List api_Sample) → Int → Option Bool) (a0 : List api_Sample) (a1 : Int) (y_12 : runs_Run) (x_143 : List api_Sample) (x_148 : List api_Sample) (x_152 : Int) (x_268 : Bool) : Option Bool :=
  (if x_268 = true then ((ix a0 x_152).bind fun y_302 => ((ix a0 x_152).bind fun y_313 => ((runs_Run_Add (⟨x_143⟩ : runs_Run) y_302.Time y_313.Vals).bind fun y_324 => (if y_324.1 = true then ((ix a0 x_152).bind fun y_358 => ((apd 32 x_148 [y_358]).bind fun y_370 => (law07_RunsOrder.j3 kl1 a0 x_152 y_324 y_370))) else (law07_RunsOrder.j3 kl1 a0 x_152 y_324 x_148))))) else (if (decide (a1 < 0)) = true then (law07_RunsOrder.j4 y_12 x_143 x_148 (IntKind.i64.wrap (0 - (IntKind.i64.wrap (a1 + 1))))) else (law07_RunsOrder.j4 y_12 x_143 x_148 a1)))

def law07_RunsOrder.l1 (a0 : List api_Sample) (a1 : Int) (y_12 : runs_Run) : Nat → (List api_Sample) → (List api_Sample) → Int → Option Bool
  | 0, _, _, _ => none
  | k + 1, x_143, x_148, x_152 => (if (decide (x_152 < (a0.length : Int))) = true then (law07_RunsOrder.j2 (law07_RunsOrder.l1 a0 a1 y_12 k) a0 a1 y_12 x_143 x_148 x_152 (decide (x_152 < 150))) else (law07_RunsOrder.j2 (law07_RunsOrder.l1 a0 a1 y_12 k) a0 a1 y_12 x_143 x_148 x_152 false))

def law07_RunsOrder.j0 (a0 : List api_Sample) (a1 : Int) (y_3 : runs_Run) (y_12 : runs_Run) (x_22 : Bool) : Option Bool :=
  (if x_22 = true then some false else (law07_RunsOrder.l1 a0 a1 y_12 (((a0.length : Int) - 0).toNat + 1) y_3.l [] 0))

def law07_RunsOrder (a0 : List api_Sample) (a1 : Int) : Option Bool :=
  ((law07_shown).bind fun y_1 => ((runs_New).bind fun y_3 => ((runs_New).bind fun y_12 => (if (!y_1) = true then (law07_RunsOrder.j0 a0 a1 y_3 y_12 true) else (law07_RunsOrder.j0 a0 a1 y_3 y_12 false)))))

/-! ### catchment/catchmentlaw07.RunsCuts -/
def law07_RunsCuts.j7 (kl6 : Int → Option Bool) (y_240 : List api_Sample) (x_460 : Int) (x_798 : Bool) : Option Bool :=
  (if x_798 = true then some false else (kl6 (IntKind.i64.wrap (x_460 + 1))))

def law07_RunsCuts.l6 (a1 : Int) (a2 : Int) (x_84 : List api_Sample) (y_240 : List api_Sample) (y_327 : Bool) : Nat → Int → Option Bool
  | 0, _ => none
  | k + 1, x_460 => (if (decide (x_460 < (y_240.length : Int))) = true then ((ix y_240 x_460).bind fun y_678 => ((runs_Run_Get (⟨x_84⟩ : runs_Run) y_678.Time).bind fun y_688 => ((ix y_240 x_460).bind fun y_696 => ((law07_vals y_688.1 y_696.Vals).bind fun y_706 => (if (!y_688.2) = true then (law07_RunsCuts.j7 (law07_RunsCuts.l6 a1 a2 x_84 y_240 y_327 k) y_240 x_460 true) else (if (!y_706) = true then (law07_RunsCuts.j7 (law07_RunsCuts.l6 a1 a2 x_84 y_240 y_327 k) y_240 x_460 true) else ((ix y_240 x_460).bind fun y_847 => (if (decide (y_847.Time < a1)) = true then (law07_RunsCuts.j7 (law07_RunsCuts.l6 a1 a2 x_84 y_240 y_327 k) y_240 x_460 true) else ((ix y_240 x_460).bind fun y_858 => (if (decide (y_858.Time > a2)) = true then (law07_RunsCuts.j7 (law07_RunsCuts.l6 a1 a2 x_84 y_240 y_327 k) y_240 x_460 true) else (if (decide (x_460 > 0)) = true then ((ix y_240 x_460).bind fun y_870 => ((ix y_240 (IntKind.i64.wrap (x_460 - 1))).bind fun y_880 => (law07_RunsCuts.j7 (law07_RunsCuts.l6 a1 a2 x_84 y_240 y_327 k) y_240 x_460 (decide (y_870.Time ≤ y_880.Time))))) else (law07_RunsCuts.j7 (law07_RunsCuts.l6 a1 a2 x_84 y_240 y_327 k) y_240 x_460 false)))))))))))) else some y_327)

def law07_RunsCuts.j5 (a1 : Int) (a2 : Int) (x_84 : List api_Sample) (y_240 : List api_Sample) (x_290 : List api_Sample) : Option Bool :=
  ((law07_same y_240 x_290).bind fun y_327 => (law07_RunsCuts.l6 a1 a2 x_84 y_240 y_327 (((y_240.length : Int) - 0).toNat + 1) 0))

def law07_RunsCuts.j4 (a1 : Int) (a2 : Int) (x_84 : List api_Sample) (x_237 : Int) : Option Bool :=
  ((runs_Run_Range (⟨x_84⟩ : runs_Run) a1 a2).bind fun y_240 => ((runs_Run_Range (⟨x_84⟩ : runs_Run) a1 x_237).bind fun y_249 => (if (decide (x_237 < a2)) = true then ((apd 32 ([] : List api_Sample) y_249).bind fun y_303 => ((runs_Run_Range (⟨x_84⟩ : runs_Run) (IntKind.i64.wrap (x_237 + 1)) a2).bind fun y_309 => ((apd 32 y_303 y_309).bind fun y_321 => (law07_RunsCuts.j5 a1 a2 x_84 y_240 y_321)))) else (law07_RunsCuts.j5 a1 a2 x_84 y_240 y_249))))

def law07_RunsCuts.j3 (a1 : Int) (a2 : Int) (x_84 : List api_Sample) (x_233 : Bool) : Option Bool :=
  (if x_233 = true then (law07_RunsCuts.j4 a1 a2 x_84 a1) else (law07_RunsCuts.j4 a1 a2 x_84 (IntKind.i64.wrap ((IntKind.i64.wrap (a1.tdiv 2)) + (IntKind.i64.wrap (a2.tdiv 2))))))

def law07_RunsCuts.j2 (kl1 : (List api_Sample) → Int → Option Bool) (a0 : List api_Sample) (a1 : Int) (a2 : Int) (x_84 : List api_Sample) (x_88 : Int) (x_158 : Bool) : Option Bool :=
  (if x_158 = true then ((ix a0 x_88).bind fun y_192 => ((ix a0 x_88).bind fun y_203 => ((runs_Run_Add (⟨x_84⟩ : runs_Run) y_192.Time y_203.Vals).bind fun y_214 => (kl1 y_214.2.l (IntKind.i64.wrap (x_88 + 1)))))) else (if (decide (a1 > a2)) = true then ((runs_Run_Range (⟨x_84⟩ : runs_Run) a1 a2).bind fun y_223 => some ((y_223.length : Int) == 0)) else (if (decide ((IntKind.i64.wrap ((IntKind.i64.wrap (a1.tdiv 2)) + (IntKind.i64.wrap (a2.tdiv 2)))) < a1)) = true then (law07_RunsCuts.j3 a1 a2 x_84 true) else (law07_RunsCuts.j3 a1 a2 x_84 (decide ((IntKind.i64.wrap ((IntKind.i64.wrap (a1.tdiv 2)) + (IntKind.i64.wrap (a2.tdiv 2)))) ≥ a2))))))

def law07_RunsCuts.l1 (a0 : List api_Sample) (a1 : Int) (a2 : Int) : Nat → (List api_Sample) → Int → Option Bool
  | 0, _, _ => none
  | k + 1, x_84, x_88 => (if (decide (x_88 < (a0.length : Int))) = true then (law07_RunsCuts.j2 (law07_RunsCuts.l1 a0 a1 a2 k) a0 a1 a2 x_84 x_88 (decide (x_88 < 150))) else (law07_RunsCuts.j2 (law07_RunsCuts.l1 a0 a1 a2 k) a0 a1 a2 x_84 x_88 false))

def law07_RunsCuts.j0 (a0 : List api_Sample) (a1 : Int) (a2 : Int) (y_3 : runs_Run) (x_13 : Bool) : Option Bool :=
  (if x_13 = true then some false else (law07_RunsCuts.l1 a0 a1 a2 (((a0.length : Int) - 0).toNat + 1) y_3.l 0))

def law07_RunsCuts (a0 : List api_Sample) (a1 : Int) (a2 : Int) : Option Bool :=
  ((law07_shown).bind fun y_1 => ((runs_New).bind fun y_3 => (if (!y_1) = true then (law07_RunsCuts.j0 a0 a1 a2 y_3 true) else (law07_RunsCuts.j0 a0 a1 a2 y_3 false))))

end
end Go.Proofs.Ytafkcbacdfiniaa.M
