/- For the law GroupCuts: laws of memory, calls and single operations, for any program; each holds under its own hypotheses alone. -/
import Derived.Test.YtonfglmfdhljnaaGreatDoorGroupCutsE1
section
namespace Go.Eng
open Go.RowKit
set_option linter.unusedVariables false
set_option linter.unusedSimpArgs false
end Go.Eng
end
section
namespace Go.Eng
open Go.RowKit
set_option linter.unusedVariables false
abbrev I6 (x : Int) : Value := .int .i64 x
section
variable {P : Program} {ops : Array Oper} {Q : Exit → Act → World → Prop} {C : World → Prop} {a : Act} {w : World} {rest : List Oper} {n : Fr} {L : Sl} {o : Oper}
theorem zl {d : Nat} {op : Op} {ty : TypeId} {pos : String} {af : Array Edge} {g : Option (Nat × Bool)} {v : Value} (hK : Kn n a L) (hr : Runs P w a ⟨some d, op, ty, pos, af, g⟩ v) (h : ∀ a, Kn n a ((d, v) :: L) → wpList P ops Q rest a w)
    (hd : d < n.n := by decide) (hw : wantedL ops L ⟨some d, op, ty, pos, af, g⟩ = some true := by exact rfl) : wpList P ops Q (⟨some d, op, ty, pos, af, g⟩ :: rest) a w := sl hK hd hw rfl hr h
theorem zw {d : Nat} {op : Op} {ty : TypeId} {pos : String} {af : Array Edge} {g : Option (Nat × Bool)} {v : Value} (hK : Kn n a L) (hw : wantedL ops L ⟨some d, op, ty, pos, af, g⟩ = some true) (hr : Runs P w a ⟨some d, op, ty, pos, af, g⟩ v) (h : ∀ a, Kn n a ((d, v) :: L) → wpList P ops Q rest a w)
    (hd : d < n.n := by decide) : wpList P ops Q (⟨some d, op, ty, pos, af, g⟩ :: rest) a w := sl hK hd hw rfl hr h
theorem zm {d : Nat} {v : Value} {x : Operand} {ty : TypeId} {pos : String} {af : Array Edge} {g : Option (Nat × Bool)} (hK : Kn n a L) (hx : ev L x = some v) (h : ∀ a, Kn n a ((d, v) :: L) → wpList P ops Q rest a w)
    (hd : d < n.n := by decide) (hw : wantedL ops L ⟨some d, .move x, ty, pos, af, g⟩ = some true := by exact rfl) : wpList P ops Q (⟨some d, .move x, ty, pos, af, g⟩ :: rest) a w := sl hK hd hw rfl (r_move hK hx) h
theorem za {d : Nat} {v : Value} {x : Operand} {ty : TypeId} {pos : String} {af : Array Edge} {g : Option (Nat × Bool)} (hK : Kn n a L) (hx : ev L x = some v) (h : ∀ a, Kn n a ((d, v) :: L) → wpList P ops Q rest a w)
    (hd : d < n.n := by decide) (hw : wantedL ops L ⟨some d, .assign x, ty, pos, af, g⟩ = some true := by exact rfl) : wpList P ops Q (⟨some d, .assign x, ty, pos, af, g⟩ :: rest) a w := sl hK hd hw rfl (r_assign hK hx) h
theorem zs {d : Nat} {op : Op} {ty : TypeId} {pos : String} {af : Array Edge} {g : Option (Nat × Bool)} (hK : Kn n a L) (h : ∀ a, Kn n a ((d, undef) :: L) → wpList P ops Q rest a w)
    (hd : d < n.n := by decide) (hw : wantedL ops L ⟨some d, op, ty, pos, af, g⟩ = some false := by exact rfl) : wpList P ops Q (⟨some d, op, ty, pos, af, g⟩ :: rest) a w := sl_skip hK hd hw rfl h
theorem zsw {d : Nat} {op : Op} {ty : TypeId} {pos : String} {af : Array Edge} {g : Option (Nat × Bool)} (hK : Kn n a L) (hw : wantedL ops L ⟨some d, op, ty, pos, af, g⟩ = some false) (h : ∀ a, Kn n a ((d, undef) :: L) → wpList P ops Q rest a w)
    (hd : d < n.n := by decide) : wpList P ops Q (⟨some d, op, ty, pos, af, g⟩ :: rest) a w := sl_skip hK hd hw rfl h
theorem zp {k : Nat} {r : List (Nat × Bool)} {d : Nat} {op : Op} {ty : TypeId} {pos : String} {af : Array Edge} {g : Option (Nat × Bool)} {v : Value} (ho : ops[k]? = some ⟨some d, op, ty, pos, af, g⟩) (hK : Kn n a L) (hr : ∀ w, C w → Runs P w a ⟨some d, op, ty, pos, af, g⟩ v) (h : ∀ a, Kn n a ((d, v) :: L) → wpPar P ops C Q r a w)
    (hd : d < n.n := by decide) (hw : wantedL ops L ⟨some d, op, ty, pos, af, g⟩ = some true := by exact rfl) : wpPar P ops C Q ((k, true) :: r) a w := sp ho hK hd hw rfl hr h
theorem zpw {k : Nat} {r : List (Nat × Bool)} {d : Nat} {op : Op} {ty : TypeId} {pos : String} {af : Array Edge} {g : Option (Nat × Bool)} {v : Value} (ho : ops[k]? = some ⟨some d, op, ty, pos, af, g⟩) (hK : Kn n a L) (hw : wantedL ops L ⟨some d, op, ty, pos, af, g⟩ = some true) (hr : ∀ w, C w → Runs P w a ⟨some d, op, ty, pos, af, g⟩ v) (h : ∀ a, Kn n a ((d, v) :: L) → wpPar P ops C Q r a w)
    (hd : d < n.n := by decide) : wpPar P ops C Q ((k, true) :: r) a w := sp ho hK hd hw rfl hr h
theorem zps {k : Nat} {r : List (Nat × Bool)} {d : Nat} {op : Op} {ty : TypeId} {pos : String} {af : Array Edge} {g : Option (Nat × Bool)} (ho : ops[k]? = some ⟨some d, op, ty, pos, af, g⟩) (hK : Kn n a L) (hw : wantedL ops L ⟨some d, op, ty, pos, af, g⟩ = some false) (h : ∀ a, Kn n a ((d, undef) :: L) → wpPar P ops C Q r a w)
    (hd : d < n.n := by decide) : wpPar P ops C Q ((k, true) :: r) a w := sp_skip ho hK hd hw rfl h
theorem zq {x y : Code} {Q : Exit → Act → World → Prop} (h : x.wp P (Exit.then (y.wp P Q) Q) a w) : (Code.seq x y).wp P Q a w := wp_seq h
theorem zr {id : Nat} {l : List Oper} {Q : Exit → Act → World → Prop} (h : wpList P l.toArray Q l a w) : (Code.region id l.toArray false).wp P Q a w := wp_region_lit h
theorem zn {Q : Exit → Act → World → Prop} (h : Q .normal a w) : wpList P ops Q [] a w := wpList_nil h
theorem zt {Q : Exit → Act → World → Prop} {K : Act → World → Prop} (h : Q .ret a w) : Exit.then K Q .ret a w := h
theorem zb {Q : Exit → Act → World → Prop} {id : Nat} (h : Q .ret a w) : Exit.inBlock id Q .ret a w := h
theorem zo {Q : Exit → Act → World → Prop} (h : Q .ret a w) : Exit.noGoto Q .ret a w := h
theorem zc {α : Type} {F : α → Prop} {x : α} {l : List α} (h : ∀ y ∈ l, F y) (h0 : F x := by exact rfl) : ∀ y ∈ x :: l, F y := all_cons h0 h
theorem zz {α : Type} {F : α → Prop} : ∀ y ∈ ([] : List α), F y := all_nil
theorem bs {α β : Type} {o : Option α} {f : α → Option β} {r : β} (h : o.bind f = some r) : ∃ y, o = some y ∧ f y = some r := bind_some h
theorem z0 {α : Type} {y : α} {l : List α} : y ∈ y :: l := .head _
theorem z1 {α : Type} {x0 y : α} {l : List α} : y ∈ x0 :: y :: l := .tail _ (.head _)
theorem z2 {α : Type} {x0 x1 y : α} {l : List α} : y ∈ x0 :: x1 :: y :: l := .tail _ (.tail _ (.head _))
theorem z3 {α : Type} {x0 x1 x2 y : α} {l : List α} : y ∈ x0 :: x1 :: x2 :: y :: l := .tail _ (.tail _ (.tail _ (.head _)))
theorem z4 {α : Type} {x0 x1 x2 x3 y : α} {l : List α} : y ∈ x0 :: x1 :: x2 :: x3 :: y :: l := .tail _ (.tail _ (.tail _ (.tail _ (.head _))))
theorem z5 {α : Type} {x0 x1 x2 x3 x4 y : α} {l : List α} : y ∈ x0 :: x1 :: x2 :: x3 :: x4 :: y :: l := .tail _ (.tail _ (.tail _ (.tail _ (.tail _ (.head _)))))
theorem z6 {α : Type} {x0 x1 x2 x3 x4 x5 y : α} {l : List α} : y ∈ x0 :: x1 :: x2 :: x3 :: x4 :: x5 :: y :: l := .tail _ (.tail _ (.tail _ (.tail _ (.tail _ (.tail _ (.head _))))))
theorem z7 {α : Type} {x0 x1 x2 x3 x4 x5 x6 y : α} {l : List α} : y ∈ x0 :: x1 :: x2 :: x3 :: x4 :: x5 :: x6 :: y :: l := .tail _ (.tail _ (.tail _ (.tail _ (.tail _ (.tail _ (.tail _ (.head _)))))))
theorem z8 {α : Type} {x0 x1 x2 x3 x4 x5 x6 x7 y : α} {l : List α} : y ∈ x0 :: x1 :: x2 :: x3 :: x4 :: x5 :: x6 :: x7 :: y :: l := .tail _ (.tail _ (.tail _ (.tail _ (.tail _ (.tail _ (.tail _ (.tail _ (.head _))))))))
end
end Go.Eng
end
