/- The functions that the laws come to, as plain Lean functions over numbers and lists (none: Go would panic, or the bound on rounds is used up). Printed by wip/eng/gen.py. -/
import Derived.Test.YthcadccjcioofaaEng5
namespace Go.Proofs.Ythcadccjcioofaa.M
open Go Go.Eng Go.Proofs Go.RowKit
set_option linter.unusedVariables false
set_option maxRecDepth 100000



/-! ### catchment/crc.turned -/
def crc_turned.l0 : Nat → Int → Int → Option Int
  | 0, _, _ => none
  | k + 1, x_1, x_2 => (if (decide (x_2 < 8)) = true then (crc_turned.l0  k (IntKind.u32.wrap (BitVec.ofInt 32 (x_1.fdiv (2 ^ (min (1 : Int).toNat 32))) ^^^ BitVec.ofInt 32 (IntKind.u32.wrap (BitVec.ofInt 32 2197175160 &&& BitVec.ofInt 32 (IntKind.u32.wrap (0 - (IntKind.u32.wrap (BitVec.ofInt 32 x_1 &&& BitVec.ofInt 32 1).toNat)))).toNat)).toNat) (IntKind.i64.wrap (x_2 + 1))) else some x_1)

def crc_turned (a0 : Int) : Option Int :=
  (crc_turned.l0 (((8 : Int) - 0).toNat + 1) a0 0)

/-! ### catchment/crc.More -/
def crc_More.l0 (a1 : List Int) : Nat → Int → Int → Option Int
  | 0, _, _ => none
  | k + 1, x_13, x_14 => (if (decide (x_14 < (a1.length : Int))) = true then ((ix a1 x_14).bind fun y_28 => ((crc_turned (IntKind.u32.wrap (BitVec.ofInt 32 x_13 ^^^ BitVec.ofInt 32 (IntKind.u32.wrap y_28)).toNat)).bind fun y_37 => (crc_More.l0 a1 k y_37 (IntKind.i64.wrap (x_14 + 1))))) else some (IntKind.u32.wrap (BitVec.ofInt 32 4294967295 ^^^ BitVec.ofInt 32 x_13).toNat))

def crc_More (a0 : Int) (a1 : List Int) : Option Int :=
  (crc_More.l0 a1 (((a1.length : Int) - 0).toNat + 1) (IntKind.u32.wrap (BitVec.ofInt 32 4294967295 ^^^ BitVec.ofInt 32 a0).toNat) 0)

/-! ### catchment/crc.Sum -/
def crc_Sum (a0 : List Int) : Option Int :=
  ((crc_More 0 a0).bind fun y_1 => some y_1)

/-! ### catchment/crc.Slot -/
def crc_Slot (a0 : List Int) (a1 : Int) : Option Int :=
  (if (decide (a1 < 1)) = true then some 0 else ((crc_Sum a0).bind fun y_2 => (if (a1 != 0) = true then some ((IntKind.i64.wrap y_2).tmod a1) else none)))

/-! ### catchment/catchmentlaw03.shown -/
def law03_shown : Option Bool :=
  ((crc_Sum ([] : List Int)).bind fun y_4 => (if (y_4 == 0) = true then ((crc_Sum [49, 50, 51, 52, 53, 54, 55, 56, 57]).bind fun y_7 => (if (y_7 == 3808858755) = true then ((crc_Slot [49, 50, 51, 52, 53, 54, 55, 56, 57] 0).bind fun y_10 => (if (y_10 == 0) = true then ((crc_Slot [49, 50, 51, 52, 53, 54, 55, 56, 57] 10).bind fun y_13 => some (y_13 == 5)) else some false)) else some false)) else some false))

/-! ### catchment/catchmentref03.More -/
def ref03_More.j2 (kl1 : Int → Int → Option Int) (x_63 : Int) (x_70 : Int) : Option Int :=
  (kl1 x_70 (IntKind.i64.wrap (x_63 + 1)))

def ref03_More.l1 (kl0 : Int → Int → Option Int) (a1 : List Int) (x_25 : Int) : Nat → Int → Int → Option Int
  | 0, _, _ => none
  | k + 1, x_62, x_63 => (if (decide (x_63 < 8)) = true then (if ((x_62.tmod 2) == 1) = true then (ref03_More.j2 (ref03_More.l1 kl0 a1 x_25 k) x_63 (IntKind.u32.wrap (BitVec.ofInt 32 (x_62.fdiv (2 ^ (min (1 : Int).toNat 32))) ^^^ BitVec.ofInt 32 2197175160).toNat)) else (ref03_More.j2 (ref03_More.l1 kl0 a1 x_25 k) x_63 (x_62.fdiv (2 ^ (min (1 : Int).toNat 32))))) else (kl0 x_62 (IntKind.i64.wrap (x_25 + 1))))

def ref03_More.l0 (a1 : List Int) : Nat → Int → Int → Option Int
  | 0, _, _ => none
  | k + 1, x_24, x_25 => (if (decide (x_25 < (a1.length : Int))) = true then ((ix a1 x_25).bind fun y_50 => (ref03_More.l1 (ref03_More.l0 a1 k) a1 x_25 (((8 : Int) - 0).toNat + 1) (IntKind.u32.wrap (BitVec.ofInt 32 x_24 ^^^ BitVec.ofInt 32 (IntKind.u32.wrap y_50)).toNat) 0)) else some (IntKind.u32.wrap (BitVec.ofInt 32 4294967295 ^^^ BitVec.ofInt 32 x_24).toNat))

def ref03_More (a0 : Int) (a1 : List Int) : Option Int :=
  (ref03_More.l0 a1 (((a1.length : Int) - 0).toNat + 1) (IntKind.u32.wrap (BitVec.ofInt 32 4294967295 ^^^ BitVec.ofInt 32 a0).toNat) 0)

/-! ### catchment/catchmentref03.Sum -/
def ref03_Sum (a0 : List Int) : Option Int :=
  ((ref03_More 0 a0).bind fun y_1 => some y_1)

/-! ### catchment/catchmentref03.Slot -/
def ref03_Slot (a0 : List Int) (a1 : Int) : Option Int :=
  (if (decide (a1 < 1)) = true then some 0 else ((ref03_Sum a0).bind fun y_2 => (if (a1 != 0) = true then some ((IntKind.i64.wrap y_2).tmod a1) else none)))

/-! ### catchment/catchmentlaw03.CrcSums -/
def law03_CrcSums (a0 : List Int) (a1 : Int) : Option Bool :=
  ((law03_shown).bind fun y_1 => ((apd 1 ([] : List Int) a0).bind fun y_6 => (if y_1 = true then ((crc_Sum y_6).bind fun y_15 => ((ref03_Sum a0).bind fun y_17 => (if (y_15 == y_17) = true then ((crc_Slot y_6 a1).bind fun y_20 => ((ref03_Slot a0 a1).bind fun y_22 => (if (y_20 == y_22) = true then some ((bstr y_6).toList == (bstr a0).toList) else some false))) else some false))) else some false)))

/-! ### catchment/catchmentlaw03.CrcGoesOn -/
def law03_CrcGoesOn.j0 (a0 : Int) (a1 : List Int) (y_1 : Bool) (x_4 : Int) : Option Bool :=
  (if ((IntKind.i64.wrap ((a1.length : Int) + 1)) != 0) = true then ((crc_More a0 a1).bind fun y_7 => (if y_1 = true then ((ref03_More a0 a1).bind fun y_10 => (if (y_7 == y_10) = true then ((cut a1 0 (x_4.tmod (IntKind.i64.wrap ((a1.length : Int) + 1)))).bind fun y_13 => ((crc_More a0 y_13).bind fun y_18 => ((cut a1 (x_4.tmod (IntKind.i64.wrap ((a1.length : Int) + 1))) a1.length).bind fun y_20 => ((crc_More y_18 y_20).bind fun y_25 => (if (y_7 == y_25) = true then ((crc_More 0 a1).bind fun y_28 => ((crc_Sum a1).bind fun y_30 => some (y_28 == y_30))) else some false))))) else some false)) else some false)) else none)

def law03_CrcGoesOn (a0 : Int) (a1 : List Int) (a2 : Int) : Option Bool :=
  ((law03_shown).bind fun y_1 => (if (decide (a2 < 0)) = true then (law03_CrcGoesOn.j0 a0 a1 y_1 (IntKind.i64.wrap (0 - (IntKind.i64.wrap (a2 + 1))))) else (law03_CrcGoesOn.j0 a0 a1 y_1 a2)))

/-! ### catchment/catchmentlaw03.CrcTurned -/
def law03_CrcTurned.j0 (a0 : List Int) (y_1 : Bool) (x_5 : Int) : Option Bool :=
  ((apd 1 ([] : List Int) a0).bind fun y_10 => (if ((y_10.length : Int) != 0) = true then ((ix y_10 ((IntKind.i64.wrap (x_5.tdiv 8)).tmod (y_10.length : Int))).bind fun y_17 => (if (decide (0 ≤ (x_5.tmod 8))) = true then ((ix y_10 ((IntKind.i64.wrap (x_5.tdiv 8)).tmod (y_10.length : Int))).bind fun y_26 => (if y_1 = true then ((crc_Sum (upd y_10 ((IntKind.i64.wrap (x_5.tdiv 8)).tmod (y_10.length : Int)) (IntKind.u8.wrap (BitVec.ofInt 8 y_17 ^^^ BitVec.ofInt 8 (IntKind.u8.wrap (1 * 2 ^ (min (x_5.tmod 8).toNat 8)))).toNat))).bind fun y_40 => ((crc_Sum a0).bind fun y_42 => some (y_40 != y_42))) else some false)) else none)) else none))

def law03_CrcTurned (a0 : List Int) (a1 : Int) : Option Bool :=
  ((law03_shown).bind fun y_1 => (if ((a0.length : Int) == 0) = true then some y_1 else (if (decide (a1 < 0)) = true then (law03_CrcTurned.j0 a0 y_1 (IntKind.i64.wrap (0 - (IntKind.i64.wrap (a1 + 1))))) else (law03_CrcTurned.j0 a0 y_1 a1))))

/-! ### catchment/catchmentlaw03.CrcSlots -/
def law03_CrcSlots.j0 (x_7 : Bool) : Option Bool :=
  some x_7

def law03_CrcSlots (a0 : List Int) (a1 : Int) : Option Bool :=
  ((law03_shown).bind fun y_1 => ((crc_Slot a0 a1).bind fun y_3 => (if (decide (a1 < 1)) = true then (if y_1 = true then (law03_CrcSlots.j0 (y_3 == 0)) else (law03_CrcSlots.j0 false)) else (if y_1 = true then (if (decide (y_3 ≥ 0)) = true then (if (decide (y_3 < a1)) = true then ((crc_Sum a0).bind fun y_12 => (if (a1 != 0) = true then some (y_3 == ((IntKind.i64.wrap y_12).tmod a1)) else none)) else some false) else some false) else some false))))

end Go.Proofs.Ythcadccjcioofaa.M
