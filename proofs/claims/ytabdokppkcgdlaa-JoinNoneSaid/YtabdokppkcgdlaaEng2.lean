/-
  The engine, part 2: operations on memory, calls, the end of a call.
-/
import Derived.Test.YtabdokppkcgdlaaEng1
namespace Go.Eng
open Go.RowKit
set_option linter.unusedVariables false
set_option linter.unusedSimpArgs false

theorem add_lit (b o k : Nat) : (⟨b, o, none⟩ : Addr).add k = ⟨b, o + k, none⟩ := by unfold Addr.add; split <;> simp_all

section
variable {M : List Own}
theorem St.pk1 {w0 w : World} {R : Hp} {O : List Own} {x0 x : Own} (h : St M w0 w R (x0 :: x :: O)) : St M w0 w R (x :: x0 :: O) := h.pick 1 rfl
theorem St.pk2 {w0 w : World} {R : Hp} {O : List Own} {x0 x1 x : Own} (h : St M w0 w R (x0 :: x1 :: x :: O)) : St M w0 w R (x :: x0 :: x1 :: O) := h.pick 2 rfl
theorem St.pk3 {w0 w : World} {R : Hp} {O : List Own} {x0 x1 x2 x : Own} (h : St M w0 w R (x0 :: x1 :: x2 :: x :: O)) : St M w0 w R (x :: x0 :: x1 :: x2 :: O) := h.pick 3 rfl
theorem St.pk4 {w0 w : World} {R : Hp} {O : List Own} {x0 x1 x2 x3 x : Own} (h : St M w0 w R (x0 :: x1 :: x2 :: x3 :: x :: O)) : St M w0 w R (x :: x0 :: x1 :: x2 :: x3 :: O) := h.pick 4 rfl
theorem St.pk5 {w0 w : World} {R : Hp} {O : List Own} {x0 x1 x2 x3 x4 x : Own} (h : St M w0 w R (x0 :: x1 :: x2 :: x3 :: x4 :: x :: O)) : St M w0 w R (x :: x0 :: x1 :: x2 :: x3 :: x4 :: O) := h.pick 5 rfl
theorem St.pk6 {w0 w : World} {R : Hp} {O : List Own} {x0 x1 x2 x3 x4 x5 x : Own} (h : St M w0 w R (x0 :: x1 :: x2 :: x3 :: x4 :: x5 :: x :: O)) : St M w0 w R (x :: x0 :: x1 :: x2 :: x3 :: x4 :: x5 :: O) := h.pick 6 rfl
theorem St.pk7 {w0 w : World} {R : Hp} {O : List Own} {x0 x1 x2 x3 x4 x5 x6 x : Own} (h : St M w0 w R (x0 :: x1 :: x2 :: x3 :: x4 :: x5 :: x6 :: x :: O)) : St M w0 w R (x :: x0 :: x1 :: x2 :: x3 :: x4 :: x5 :: x6 :: O) := h.pick 7 rfl
theorem St.pk8 {w0 w : World} {R : Hp} {O : List Own} {x0 x1 x2 x3 x4 x5 x6 x7 x : Own} (h : St M w0 w R (x0 :: x1 :: x2 :: x3 :: x4 :: x5 :: x6 :: x7 :: x :: O)) : St M w0 w R (x :: x0 :: x1 :: x2 :: x3 :: x4 :: x5 :: x6 :: x7 :: O) := h.pick 8 rfl
theorem St.pk9 {w0 w : World} {R : Hp} {O : List Own} {x0 x1 x2 x3 x4 x5 x6 x7 x8 x : Own} (h : St M w0 w R (x0 :: x1 :: x2 :: x3 :: x4 :: x5 :: x6 :: x7 :: x8 :: x :: O)) : St M w0 w R (x :: x0 :: x1 :: x2 :: x3 :: x4 :: x5 :: x6 :: x7 :: x8 :: O) := h.pick 9 rfl
theorem St.pk10 {w0 w : World} {R : Hp} {O : List Own} {x0 x1 x2 x3 x4 x5 x6 x7 x8 x9 x : Own} (h : St M w0 w R (x0 :: x1 :: x2 :: x3 :: x4 :: x5 :: x6 :: x7 :: x8 :: x9 :: x :: O)) : St M w0 w R (x :: x0 :: x1 :: x2 :: x3 :: x4 :: x5 :: x6 :: x7 :: x8 :: x9 :: O) := h.pick 10 rfl
theorem St.pk11 {w0 w : World} {R : Hp} {O : List Own} {x0 x1 x2 x3 x4 x5 x6 x7 x8 x9 x10 x : Own} (h : St M w0 w R (x0 :: x1 :: x2 :: x3 :: x4 :: x5 :: x6 :: x7 :: x8 :: x9 :: x10 :: x :: O)) : St M w0 w R (x :: x0 :: x1 :: x2 :: x3 :: x4 :: x5 :: x6 :: x7 :: x8 :: x9 :: x10 :: O) := h.pick 11 rfl
theorem St.pk12 {w0 w : World} {R : Hp} {O : List Own} {x0 x1 x2 x3 x4 x5 x6 x7 x8 x9 x10 x11 x : Own} (h : St M w0 w R (x0 :: x1 :: x2 :: x3 :: x4 :: x5 :: x6 :: x7 :: x8 :: x9 :: x10 :: x11 :: x :: O)) : St M w0 w R (x :: x0 :: x1 :: x2 :: x3 :: x4 :: x5 :: x6 :: x7 :: x8 :: x9 :: x10 :: x11 :: O) := h.pick 12 rfl
theorem St.pk13 {w0 w : World} {R : Hp} {O : List Own} {x0 x1 x2 x3 x4 x5 x6 x7 x8 x9 x10 x11 x12 x : Own} (h : St M w0 w R (x0 :: x1 :: x2 :: x3 :: x4 :: x5 :: x6 :: x7 :: x8 :: x9 :: x10 :: x11 :: x12 :: x :: O)) : St M w0 w R (x :: x0 :: x1 :: x2 :: x3 :: x4 :: x5 :: x6 :: x7 :: x8 :: x9 :: x10 :: x11 :: x12 :: O) := h.pick 13 rfl
theorem St.pk14 {w0 w : World} {R : Hp} {O : List Own} {x0 x1 x2 x3 x4 x5 x6 x7 x8 x9 x10 x11 x12 x13 x : Own} (h : St M w0 w R (x0 :: x1 :: x2 :: x3 :: x4 :: x5 :: x6 :: x7 :: x8 :: x9 :: x10 :: x11 :: x12 :: x13 :: x :: O)) : St M w0 w R (x :: x0 :: x1 :: x2 :: x3 :: x4 :: x5 :: x6 :: x7 :: x8 :: x9 :: x10 :: x11 :: x12 :: x13 :: O) := h.pick 14 rfl
theorem St.pk15 {w0 w : World} {R : Hp} {O : List Own} {x0 x1 x2 x3 x4 x5 x6 x7 x8 x9 x10 x11 x12 x13 x14 x : Own} (h : St M w0 w R (x0 :: x1 :: x2 :: x3 :: x4 :: x5 :: x6 :: x7 :: x8 :: x9 :: x10 :: x11 :: x12 :: x13 :: x14 :: x :: O)) : St M w0 w R (x :: x0 :: x1 :: x2 :: x3 :: x4 :: x5 :: x6 :: x7 :: x8 :: x9 :: x10 :: x11 :: x12 :: x13 :: x14 :: O) := h.pick 15 rfl
theorem St.pk16 {w0 w : World} {R : Hp} {O : List Own} {x0 x1 x2 x3 x4 x5 x6 x7 x8 x9 x10 x11 x12 x13 x14 x15 x : Own} (h : St M w0 w R (x0 :: x1 :: x2 :: x3 :: x4 :: x5 :: x6 :: x7 :: x8 :: x9 :: x10 :: x11 :: x12 :: x13 :: x14 :: x15 :: x :: O)) : St M w0 w R (x :: x0 :: x1 :: x2 :: x3 :: x4 :: x5 :: x6 :: x7 :: x8 :: x9 :: x10 :: x11 :: x12 :: x13 :: x14 :: x15 :: O) := h.pick 16 rfl
theorem St.pk17 {w0 w : World} {R : Hp} {O : List Own} {x0 x1 x2 x3 x4 x5 x6 x7 x8 x9 x10 x11 x12 x13 x14 x15 x16 x : Own} (h : St M w0 w R (x0 :: x1 :: x2 :: x3 :: x4 :: x5 :: x6 :: x7 :: x8 :: x9 :: x10 :: x11 :: x12 :: x13 :: x14 :: x15 :: x16 :: x :: O)) : St M w0 w R (x :: x0 :: x1 :: x2 :: x3 :: x4 :: x5 :: x6 :: x7 :: x8 :: x9 :: x10 :: x11 :: x12 :: x13 :: x14 :: x15 :: x16 :: O) := h.pick 17 rfl
theorem St.pk18 {w0 w : World} {R : Hp} {O : List Own} {x0 x1 x2 x3 x4 x5 x6 x7 x8 x9 x10 x11 x12 x13 x14 x15 x16 x17 x : Own} (h : St M w0 w R (x0 :: x1 :: x2 :: x3 :: x4 :: x5 :: x6 :: x7 :: x8 :: x9 :: x10 :: x11 :: x12 :: x13 :: x14 :: x15 :: x16 :: x17 :: x :: O)) : St M w0 w R (x :: x0 :: x1 :: x2 :: x3 :: x4 :: x5 :: x6 :: x7 :: x8 :: x9 :: x10 :: x11 :: x12 :: x13 :: x14 :: x15 :: x16 :: x17 :: O) := h.pick 18 rfl
theorem St.pk19 {w0 w : World} {R : Hp} {O : List Own} {x0 x1 x2 x3 x4 x5 x6 x7 x8 x9 x10 x11 x12 x13 x14 x15 x16 x17 x18 x : Own} (h : St M w0 w R (x0 :: x1 :: x2 :: x3 :: x4 :: x5 :: x6 :: x7 :: x8 :: x9 :: x10 :: x11 :: x12 :: x13 :: x14 :: x15 :: x16 :: x17 :: x18 :: x :: O)) : St M w0 w R (x :: x0 :: x1 :: x2 :: x3 :: x4 :: x5 :: x6 :: x7 :: x8 :: x9 :: x10 :: x11 :: x12 :: x13 :: x14 :: x15 :: x16 :: x17 :: x18 :: O) := h.pick 19 rfl
theorem St.pk20 {w0 w : World} {R : Hp} {O : List Own} {x0 x1 x2 x3 x4 x5 x6 x7 x8 x9 x10 x11 x12 x13 x14 x15 x16 x17 x18 x19 x : Own} (h : St M w0 w R (x0 :: x1 :: x2 :: x3 :: x4 :: x5 :: x6 :: x7 :: x8 :: x9 :: x10 :: x11 :: x12 :: x13 :: x14 :: x15 :: x16 :: x17 :: x18 :: x19 :: x :: O)) : St M w0 w R (x :: x0 :: x1 :: x2 :: x3 :: x4 :: x5 :: x6 :: x7 :: x8 :: x9 :: x10 :: x11 :: x12 :: x13 :: x14 :: x15 :: x16 :: x17 :: x18 :: x19 :: O) := h.pick 20 rfl
theorem St.pk21 {w0 w : World} {R : Hp} {O : List Own} {x0 x1 x2 x3 x4 x5 x6 x7 x8 x9 x10 x11 x12 x13 x14 x15 x16 x17 x18 x19 x20 x : Own} (h : St M w0 w R (x0 :: x1 :: x2 :: x3 :: x4 :: x5 :: x6 :: x7 :: x8 :: x9 :: x10 :: x11 :: x12 :: x13 :: x14 :: x15 :: x16 :: x17 :: x18 :: x19 :: x20 :: x :: O)) : St M w0 w R (x :: x0 :: x1 :: x2 :: x3 :: x4 :: x5 :: x6 :: x7 :: x8 :: x9 :: x10 :: x11 :: x12 :: x13 :: x14 :: x15 :: x16 :: x17 :: x18 :: x19 :: x20 :: O) := h.pick 21 rfl
theorem St.pk22 {w0 w : World} {R : Hp} {O : List Own} {x0 x1 x2 x3 x4 x5 x6 x7 x8 x9 x10 x11 x12 x13 x14 x15 x16 x17 x18 x19 x20 x21 x : Own} (h : St M w0 w R (x0 :: x1 :: x2 :: x3 :: x4 :: x5 :: x6 :: x7 :: x8 :: x9 :: x10 :: x11 :: x12 :: x13 :: x14 :: x15 :: x16 :: x17 :: x18 :: x19 :: x20 :: x21 :: x :: O)) : St M w0 w R (x :: x0 :: x1 :: x2 :: x3 :: x4 :: x5 :: x6 :: x7 :: x8 :: x9 :: x10 :: x11 :: x12 :: x13 :: x14 :: x15 :: x16 :: x17 :: x18 :: x19 :: x20 :: x21 :: O) := h.pick 22 rfl
theorem St.pk23 {w0 w : World} {R : Hp} {O : List Own} {x0 x1 x2 x3 x4 x5 x6 x7 x8 x9 x10 x11 x12 x13 x14 x15 x16 x17 x18 x19 x20 x21 x22 x : Own} (h : St M w0 w R (x0 :: x1 :: x2 :: x3 :: x4 :: x5 :: x6 :: x7 :: x8 :: x9 :: x10 :: x11 :: x12 :: x13 :: x14 :: x15 :: x16 :: x17 :: x18 :: x19 :: x20 :: x21 :: x22 :: x :: O)) : St M w0 w R (x :: x0 :: x1 :: x2 :: x3 :: x4 :: x5 :: x6 :: x7 :: x8 :: x9 :: x10 :: x11 :: x12 :: x13 :: x14 :: x15 :: x16 :: x17 :: x18 :: x19 :: x20 :: x21 :: x22 :: O) := h.pick 23 rfl
theorem St.pk24 {w0 w : World} {R : Hp} {O : List Own} {x0 x1 x2 x3 x4 x5 x6 x7 x8 x9 x10 x11 x12 x13 x14 x15 x16 x17 x18 x19 x20 x21 x22 x23 x : Own} (h : St M w0 w R (x0 :: x1 :: x2 :: x3 :: x4 :: x5 :: x6 :: x7 :: x8 :: x9 :: x10 :: x11 :: x12 :: x13 :: x14 :: x15 :: x16 :: x17 :: x18 :: x19 :: x20 :: x21 :: x22 :: x23 :: x :: O)) : St M w0 w R (x :: x0 :: x1 :: x2 :: x3 :: x4 :: x5 :: x6 :: x7 :: x8 :: x9 :: x10 :: x11 :: x12 :: x13 :: x14 :: x15 :: x16 :: x17 :: x18 :: x19 :: x20 :: x21 :: x22 :: x23 :: O) := h.pick 24 rfl
theorem St.pk25 {w0 w : World} {R : Hp} {O : List Own} {x0 x1 x2 x3 x4 x5 x6 x7 x8 x9 x10 x11 x12 x13 x14 x15 x16 x17 x18 x19 x20 x21 x22 x23 x24 x : Own} (h : St M w0 w R (x0 :: x1 :: x2 :: x3 :: x4 :: x5 :: x6 :: x7 :: x8 :: x9 :: x10 :: x11 :: x12 :: x13 :: x14 :: x15 :: x16 :: x17 :: x18 :: x19 :: x20 :: x21 :: x22 :: x23 :: x24 :: x :: O)) : St M w0 w R (x :: x0 :: x1 :: x2 :: x3 :: x4 :: x5 :: x6 :: x7 :: x8 :: x9 :: x10 :: x11 :: x12 :: x13 :: x14 :: x15 :: x16 :: x17 :: x18 :: x19 :: x20 :: x21 :: x22 :: x23 :: x24 :: O) := h.pick 25 rfl
theorem St.pk26 {w0 w : World} {R : Hp} {O : List Own} {x0 x1 x2 x3 x4 x5 x6 x7 x8 x9 x10 x11 x12 x13 x14 x15 x16 x17 x18 x19 x20 x21 x22 x23 x24 x25 x : Own} (h : St M w0 w R (x0 :: x1 :: x2 :: x3 :: x4 :: x5 :: x6 :: x7 :: x8 :: x9 :: x10 :: x11 :: x12 :: x13 :: x14 :: x15 :: x16 :: x17 :: x18 :: x19 :: x20 :: x21 :: x22 :: x23 :: x24 :: x25 :: x :: O)) : St M w0 w R (x :: x0 :: x1 :: x2 :: x3 :: x4 :: x5 :: x6 :: x7 :: x8 :: x9 :: x10 :: x11 :: x12 :: x13 :: x14 :: x15 :: x16 :: x17 :: x18 :: x19 :: x20 :: x21 :: x22 :: x23 :: x24 :: x25 :: O) := h.pick 26 rfl
theorem St.pk27 {w0 w : World} {R : Hp} {O : List Own} {x0 x1 x2 x3 x4 x5 x6 x7 x8 x9 x10 x11 x12 x13 x14 x15 x16 x17 x18 x19 x20 x21 x22 x23 x24 x25 x26 x : Own} (h : St M w0 w R (x0 :: x1 :: x2 :: x3 :: x4 :: x5 :: x6 :: x7 :: x8 :: x9 :: x10 :: x11 :: x12 :: x13 :: x14 :: x15 :: x16 :: x17 :: x18 :: x19 :: x20 :: x21 :: x22 :: x23 :: x24 :: x25 :: x26 :: x :: O)) : St M w0 w R (x :: x0 :: x1 :: x2 :: x3 :: x4 :: x5 :: x6 :: x7 :: x8 :: x9 :: x10 :: x11 :: x12 :: x13 :: x14 :: x15 :: x16 :: x17 :: x18 :: x19 :: x20 :: x21 :: x22 :: x23 :: x24 :: x25 :: x26 :: O) := h.pick 27 rfl
theorem St.pk28 {w0 w : World} {R : Hp} {O : List Own} {x0 x1 x2 x3 x4 x5 x6 x7 x8 x9 x10 x11 x12 x13 x14 x15 x16 x17 x18 x19 x20 x21 x22 x23 x24 x25 x26 x27 x : Own} (h : St M w0 w R (x0 :: x1 :: x2 :: x3 :: x4 :: x5 :: x6 :: x7 :: x8 :: x9 :: x10 :: x11 :: x12 :: x13 :: x14 :: x15 :: x16 :: x17 :: x18 :: x19 :: x20 :: x21 :: x22 :: x23 :: x24 :: x25 :: x26 :: x27 :: x :: O)) : St M w0 w R (x :: x0 :: x1 :: x2 :: x3 :: x4 :: x5 :: x6 :: x7 :: x8 :: x9 :: x10 :: x11 :: x12 :: x13 :: x14 :: x15 :: x16 :: x17 :: x18 :: x19 :: x20 :: x21 :: x22 :: x23 :: x24 :: x25 :: x26 :: x27 :: O) := h.pick 28 rfl
theorem St.pk29 {w0 w : World} {R : Hp} {O : List Own} {x0 x1 x2 x3 x4 x5 x6 x7 x8 x9 x10 x11 x12 x13 x14 x15 x16 x17 x18 x19 x20 x21 x22 x23 x24 x25 x26 x27 x28 x : Own} (h : St M w0 w R (x0 :: x1 :: x2 :: x3 :: x4 :: x5 :: x6 :: x7 :: x8 :: x9 :: x10 :: x11 :: x12 :: x13 :: x14 :: x15 :: x16 :: x17 :: x18 :: x19 :: x20 :: x21 :: x22 :: x23 :: x24 :: x25 :: x26 :: x27 :: x28 :: x :: O)) : St M w0 w R (x :: x0 :: x1 :: x2 :: x3 :: x4 :: x5 :: x6 :: x7 :: x8 :: x9 :: x10 :: x11 :: x12 :: x13 :: x14 :: x15 :: x16 :: x17 :: x18 :: x19 :: x20 :: x21 :: x22 :: x23 :: x24 :: x25 :: x26 :: x27 :: x28 :: O) := h.pick 29 rfl
theorem St.pk30 {w0 w : World} {R : Hp} {O : List Own} {x0 x1 x2 x3 x4 x5 x6 x7 x8 x9 x10 x11 x12 x13 x14 x15 x16 x17 x18 x19 x20 x21 x22 x23 x24 x25 x26 x27 x28 x29 x : Own} (h : St M w0 w R (x0 :: x1 :: x2 :: x3 :: x4 :: x5 :: x6 :: x7 :: x8 :: x9 :: x10 :: x11 :: x12 :: x13 :: x14 :: x15 :: x16 :: x17 :: x18 :: x19 :: x20 :: x21 :: x22 :: x23 :: x24 :: x25 :: x26 :: x27 :: x28 :: x29 :: x :: O)) : St M w0 w R (x :: x0 :: x1 :: x2 :: x3 :: x4 :: x5 :: x6 :: x7 :: x8 :: x9 :: x10 :: x11 :: x12 :: x13 :: x14 :: x15 :: x16 :: x17 :: x18 :: x19 :: x20 :: x21 :: x22 :: x23 :: x24 :: x25 :: x26 :: x27 :: x28 :: x29 :: O) := h.pick 30 rfl
theorem St.pk31 {w0 w : World} {R : Hp} {O : List Own} {x0 x1 x2 x3 x4 x5 x6 x7 x8 x9 x10 x11 x12 x13 x14 x15 x16 x17 x18 x19 x20 x21 x22 x23 x24 x25 x26 x27 x28 x29 x30 x : Own} (h : St M w0 w R (x0 :: x1 :: x2 :: x3 :: x4 :: x5 :: x6 :: x7 :: x8 :: x9 :: x10 :: x11 :: x12 :: x13 :: x14 :: x15 :: x16 :: x17 :: x18 :: x19 :: x20 :: x21 :: x22 :: x23 :: x24 :: x25 :: x26 :: x27 :: x28 :: x29 :: x30 :: x :: O)) : St M w0 w R (x :: x0 :: x1 :: x2 :: x3 :: x4 :: x5 :: x6 :: x7 :: x8 :: x9 :: x10 :: x11 :: x12 :: x13 :: x14 :: x15 :: x16 :: x17 :: x18 :: x19 :: x20 :: x21 :: x22 :: x23 :: x24 :: x25 :: x26 :: x27 :: x28 :: x29 :: x30 :: O) := h.pick 31 rfl
theorem St.pk32 {w0 w : World} {R : Hp} {O : List Own} {x0 x1 x2 x3 x4 x5 x6 x7 x8 x9 x10 x11 x12 x13 x14 x15 x16 x17 x18 x19 x20 x21 x22 x23 x24 x25 x26 x27 x28 x29 x30 x31 x : Own} (h : St M w0 w R (x0 :: x1 :: x2 :: x3 :: x4 :: x5 :: x6 :: x7 :: x8 :: x9 :: x10 :: x11 :: x12 :: x13 :: x14 :: x15 :: x16 :: x17 :: x18 :: x19 :: x20 :: x21 :: x22 :: x23 :: x24 :: x25 :: x26 :: x27 :: x28 :: x29 :: x30 :: x31 :: x :: O)) : St M w0 w R (x :: x0 :: x1 :: x2 :: x3 :: x4 :: x5 :: x6 :: x7 :: x8 :: x9 :: x10 :: x11 :: x12 :: x13 :: x14 :: x15 :: x16 :: x17 :: x18 :: x19 :: x20 :: x21 :: x22 :: x23 :: x24 :: x25 :: x26 :: x27 :: x28 :: x29 :: x30 :: x31 :: O) := h.pick 32 rfl
theorem St.pk33 {w0 w : World} {R : Hp} {O : List Own} {x0 x1 x2 x3 x4 x5 x6 x7 x8 x9 x10 x11 x12 x13 x14 x15 x16 x17 x18 x19 x20 x21 x22 x23 x24 x25 x26 x27 x28 x29 x30 x31 x32 x : Own} (h : St M w0 w R (x0 :: x1 :: x2 :: x3 :: x4 :: x5 :: x6 :: x7 :: x8 :: x9 :: x10 :: x11 :: x12 :: x13 :: x14 :: x15 :: x16 :: x17 :: x18 :: x19 :: x20 :: x21 :: x22 :: x23 :: x24 :: x25 :: x26 :: x27 :: x28 :: x29 :: x30 :: x31 :: x32 :: x :: O)) : St M w0 w R (x :: x0 :: x1 :: x2 :: x3 :: x4 :: x5 :: x6 :: x7 :: x8 :: x9 :: x10 :: x11 :: x12 :: x13 :: x14 :: x15 :: x16 :: x17 :: x18 :: x19 :: x20 :: x21 :: x22 :: x23 :: x24 :: x25 :: x26 :: x27 :: x28 :: x29 :: x30 :: x31 :: x32 :: O) := h.pick 33 rfl
theorem St.pk34 {w0 w : World} {R : Hp} {O : List Own} {x0 x1 x2 x3 x4 x5 x6 x7 x8 x9 x10 x11 x12 x13 x14 x15 x16 x17 x18 x19 x20 x21 x22 x23 x24 x25 x26 x27 x28 x29 x30 x31 x32 x33 x : Own} (h : St M w0 w R (x0 :: x1 :: x2 :: x3 :: x4 :: x5 :: x6 :: x7 :: x8 :: x9 :: x10 :: x11 :: x12 :: x13 :: x14 :: x15 :: x16 :: x17 :: x18 :: x19 :: x20 :: x21 :: x22 :: x23 :: x24 :: x25 :: x26 :: x27 :: x28 :: x29 :: x30 :: x31 :: x32 :: x33 :: x :: O)) : St M w0 w R (x :: x0 :: x1 :: x2 :: x3 :: x4 :: x5 :: x6 :: x7 :: x8 :: x9 :: x10 :: x11 :: x12 :: x13 :: x14 :: x15 :: x16 :: x17 :: x18 :: x19 :: x20 :: x21 :: x22 :: x23 :: x24 :: x25 :: x26 :: x27 :: x28 :: x29 :: x30 :: x31 :: x32 :: x33 :: O) := h.pick 34 rfl
theorem St.pk35 {w0 w : World} {R : Hp} {O : List Own} {x0 x1 x2 x3 x4 x5 x6 x7 x8 x9 x10 x11 x12 x13 x14 x15 x16 x17 x18 x19 x20 x21 x22 x23 x24 x25 x26 x27 x28 x29 x30 x31 x32 x33 x34 x : Own} (h : St M w0 w R (x0 :: x1 :: x2 :: x3 :: x4 :: x5 :: x6 :: x7 :: x8 :: x9 :: x10 :: x11 :: x12 :: x13 :: x14 :: x15 :: x16 :: x17 :: x18 :: x19 :: x20 :: x21 :: x22 :: x23 :: x24 :: x25 :: x26 :: x27 :: x28 :: x29 :: x30 :: x31 :: x32 :: x33 :: x34 :: x :: O)) : St M w0 w R (x :: x0 :: x1 :: x2 :: x3 :: x4 :: x5 :: x6 :: x7 :: x8 :: x9 :: x10 :: x11 :: x12 :: x13 :: x14 :: x15 :: x16 :: x17 :: x18 :: x19 :: x20 :: x21 :: x22 :: x23 :: x24 :: x25 :: x26 :: x27 :: x28 :: x29 :: x30 :: x31 :: x32 :: x33 :: x34 :: O) := h.pick 35 rfl
theorem St.pk36 {w0 w : World} {R : Hp} {O : List Own} {x0 x1 x2 x3 x4 x5 x6 x7 x8 x9 x10 x11 x12 x13 x14 x15 x16 x17 x18 x19 x20 x21 x22 x23 x24 x25 x26 x27 x28 x29 x30 x31 x32 x33 x34 x35 x : Own} (h : St M w0 w R (x0 :: x1 :: x2 :: x3 :: x4 :: x5 :: x6 :: x7 :: x8 :: x9 :: x10 :: x11 :: x12 :: x13 :: x14 :: x15 :: x16 :: x17 :: x18 :: x19 :: x20 :: x21 :: x22 :: x23 :: x24 :: x25 :: x26 :: x27 :: x28 :: x29 :: x30 :: x31 :: x32 :: x33 :: x34 :: x35 :: x :: O)) : St M w0 w R (x :: x0 :: x1 :: x2 :: x3 :: x4 :: x5 :: x6 :: x7 :: x8 :: x9 :: x10 :: x11 :: x12 :: x13 :: x14 :: x15 :: x16 :: x17 :: x18 :: x19 :: x20 :: x21 :: x22 :: x23 :: x24 :: x25 :: x26 :: x27 :: x28 :: x29 :: x30 :: x31 :: x32 :: x33 :: x34 :: x35 :: O) := h.pick 36 rfl
theorem St.pk37 {w0 w : World} {R : Hp} {O : List Own} {x0 x1 x2 x3 x4 x5 x6 x7 x8 x9 x10 x11 x12 x13 x14 x15 x16 x17 x18 x19 x20 x21 x22 x23 x24 x25 x26 x27 x28 x29 x30 x31 x32 x33 x34 x35 x36 x : Own} (h : St M w0 w R (x0 :: x1 :: x2 :: x3 :: x4 :: x5 :: x6 :: x7 :: x8 :: x9 :: x10 :: x11 :: x12 :: x13 :: x14 :: x15 :: x16 :: x17 :: x18 :: x19 :: x20 :: x21 :: x22 :: x23 :: x24 :: x25 :: x26 :: x27 :: x28 :: x29 :: x30 :: x31 :: x32 :: x33 :: x34 :: x35 :: x36 :: x :: O)) : St M w0 w R (x :: x0 :: x1 :: x2 :: x3 :: x4 :: x5 :: x6 :: x7 :: x8 :: x9 :: x10 :: x11 :: x12 :: x13 :: x14 :: x15 :: x16 :: x17 :: x18 :: x19 :: x20 :: x21 :: x22 :: x23 :: x24 :: x25 :: x26 :: x27 :: x28 :: x29 :: x30 :: x31 :: x32 :: x33 :: x34 :: x35 :: x36 :: O) := h.pick 37 rfl
theorem St.pk38 {w0 w : World} {R : Hp} {O : List Own} {x0 x1 x2 x3 x4 x5 x6 x7 x8 x9 x10 x11 x12 x13 x14 x15 x16 x17 x18 x19 x20 x21 x22 x23 x24 x25 x26 x27 x28 x29 x30 x31 x32 x33 x34 x35 x36 x37 x : Own} (h : St M w0 w R (x0 :: x1 :: x2 :: x3 :: x4 :: x5 :: x6 :: x7 :: x8 :: x9 :: x10 :: x11 :: x12 :: x13 :: x14 :: x15 :: x16 :: x17 :: x18 :: x19 :: x20 :: x21 :: x22 :: x23 :: x24 :: x25 :: x26 :: x27 :: x28 :: x29 :: x30 :: x31 :: x32 :: x33 :: x34 :: x35 :: x36 :: x37 :: x :: O)) : St M w0 w R (x :: x0 :: x1 :: x2 :: x3 :: x4 :: x5 :: x6 :: x7 :: x8 :: x9 :: x10 :: x11 :: x12 :: x13 :: x14 :: x15 :: x16 :: x17 :: x18 :: x19 :: x20 :: x21 :: x22 :: x23 :: x24 :: x25 :: x26 :: x27 :: x28 :: x29 :: x30 :: x31 :: x32 :: x33 :: x34 :: x35 :: x36 :: x37 :: O) := h.pick 38 rfl
theorem St.pk39 {w0 w : World} {R : Hp} {O : List Own} {x0 x1 x2 x3 x4 x5 x6 x7 x8 x9 x10 x11 x12 x13 x14 x15 x16 x17 x18 x19 x20 x21 x22 x23 x24 x25 x26 x27 x28 x29 x30 x31 x32 x33 x34 x35 x36 x37 x38 x : Own} (h : St M w0 w R (x0 :: x1 :: x2 :: x3 :: x4 :: x5 :: x6 :: x7 :: x8 :: x9 :: x10 :: x11 :: x12 :: x13 :: x14 :: x15 :: x16 :: x17 :: x18 :: x19 :: x20 :: x21 :: x22 :: x23 :: x24 :: x25 :: x26 :: x27 :: x28 :: x29 :: x30 :: x31 :: x32 :: x33 :: x34 :: x35 :: x36 :: x37 :: x38 :: x :: O)) : St M w0 w R (x :: x0 :: x1 :: x2 :: x3 :: x4 :: x5 :: x6 :: x7 :: x8 :: x9 :: x10 :: x11 :: x12 :: x13 :: x14 :: x15 :: x16 :: x17 :: x18 :: x19 :: x20 :: x21 :: x22 :: x23 :: x24 :: x25 :: x26 :: x27 :: x28 :: x29 :: x30 :: x31 :: x32 :: x33 :: x34 :: x35 :: x36 :: x37 :: x38 :: O) := h.pick 39 rfl
theorem St.pk40 {w0 w : World} {R : Hp} {O : List Own} {x0 x1 x2 x3 x4 x5 x6 x7 x8 x9 x10 x11 x12 x13 x14 x15 x16 x17 x18 x19 x20 x21 x22 x23 x24 x25 x26 x27 x28 x29 x30 x31 x32 x33 x34 x35 x36 x37 x38 x39 x : Own} (h : St M w0 w R (x0 :: x1 :: x2 :: x3 :: x4 :: x5 :: x6 :: x7 :: x8 :: x9 :: x10 :: x11 :: x12 :: x13 :: x14 :: x15 :: x16 :: x17 :: x18 :: x19 :: x20 :: x21 :: x22 :: x23 :: x24 :: x25 :: x26 :: x27 :: x28 :: x29 :: x30 :: x31 :: x32 :: x33 :: x34 :: x35 :: x36 :: x37 :: x38 :: x39 :: x :: O)) : St M w0 w R (x :: x0 :: x1 :: x2 :: x3 :: x4 :: x5 :: x6 :: x7 :: x8 :: x9 :: x10 :: x11 :: x12 :: x13 :: x14 :: x15 :: x16 :: x17 :: x18 :: x19 :: x20 :: x21 :: x22 :: x23 :: x24 :: x25 :: x26 :: x27 :: x28 :: x29 :: x30 :: x31 :: x32 :: x33 :: x34 :: x35 :: x36 :: x37 :: x38 :: x39 :: O) := h.pick 40 rfl
theorem St.drop1 {w0 w : World} {R : Hp} {O : List Own} {x0 x : Own} (h : St M w0 w R (x0 :: x :: O)) : St M w0 w R (x0 :: O) := h.pk1.tail
theorem St.cell {w0 w : World} {R : Hp} {O : List Own} (h : St M w0 w R O) {b : Nat} {c : List Value} {t : TypeId} (hm : Own.cells b c t ∈ O) {j : Nat} {v : Value} (hv : c[j]? = some v) : w.cell? ⟨b, j, none⟩ = some v := by
  have : w.heap[b]? = some (.cells c.toArray t (0, 0)) := h.own _ hm
  rw [cell_of_row w b j _ t (0, 0) this]
  simpa using hv
theorem St.rcell {w0 w : World} {R : Hp} {O : List Own} (h : St M w0 w R O) {b j : Nat} {v : Value} (hc : R.cell b j = some v) : w.cell? ⟨b, j, none⟩ = some v := h.sub.cell hc
end

section
variable {P : Program} {ops : Array Oper} {Q : Exit → Act → World → Prop} {C : World → Prop} {QQ : Act → Prop} {a : Act} {w0 w : World} {M : List Own} {R : Hp} {O : List Own} {rest : List Oper} {n : Fr} {L : Sl}
variable {d : Option Tmp} {ty : TypeId} {pos : String} {af : Array Edge} {g : Option (Nat × Bool)}

theorem r_un {op : UnOp} {t : TypeId} {x : Operand} {u v : Value} (hK : Kn n a L) (hx : ev L x = some u) (hr : ∀ w, (Op.unary op u).run P w = .ok v w) : Runs P w a ⟨d, .unOp op t x, ty, pos, af, g⟩ v := by
  simp [Runs, execOp, hK.ev hx, hr]
theorem u_not (b : Bool) (w : World) : (Op.unary .not (.bool b)).run P w = .ok (.bool !b) w := rfl
theorem u_neg (k : IntKind) (p : Int) (w : World) : (Op.unary .neg (.int k p)).run P w = .ok (.int k (k.wrap (0 - p))) w := rfl
theorem u_xor (p : Int) (w : World) : (Op.unary .xor (.int .u32 p)).run P w = .ok (.int .u32 (IntKind.u32.wrap (BitVec.ofInt 32 4294967295 ^^^ BitVec.ofInt 32 p).toNat)) w := rfl
theorem u_xor64 (p : Int) (w : World) : (Op.unary .xor (.int .i64 p)).run P w = .ok (.int .i64 (IntKind.i64.wrap (BitVec.ofInt 64 (-1) ^^^ BitVec.ofInt 64 p).toNat)) w := rfl

/-- Strings. -/
def sbin : BinOp → ByteArray → ByteArray → Option Value
  | .eql, x, y => some (.bool (x.toList == y.toList))
  | .neq, x, y => some (.bool !(x.toList == y.toList))
  | .lss, x, y => some (.bool (Op.bytesLess x.toList y.toList))
  | _, _, _ => none
theorem r_sbin {op : BinOp} {t t' : TypeId} {x y : Operand} {p q : ByteArray} {v : Value} (hK : Kn n a L) (hx : ev L x = some (.string p)) (hy : ev L y = some (.string q)) (hv : sbin op p q = some v) : Runs P w a ⟨d, .binOp op t x y t', ty, pos, af, g⟩ v := by
  cases op <;> simp [sbin] at hv <;> subst hv <;> simp [Runs, execOp, hK.ev hx, hK.ev hy, eqGuard, binOp, Op.stringOp]
theorem r_sadd {t t' : TypeId} {x y : Operand} {p q : ByteArray} (hK : Kn n a L) (hx : ev L x = some (.string p)) (hy : ev L y = some (.string q)) (hl : p.size + q.size ≤ 9223372036854775807) : Runs P w a ⟨d, .binOp .add t x y t', ty, pos, af, g⟩ (.string (p ++ q)) := by
  have : ¬ (((p.size + q.size : Nat) : Int) > IntKind.i64.max) := by have e : IntKind.i64.max = 9223372036854775807 := by decide
                                                                     rw [e]; omega
  simp only [Runs, execOp, hK.ev hx, hK.ev hy, eqGuard, binOp, Op.stringOp, Sem.run_bind]
  rw [if_neg this]; rfl
/-- Truth values. -/
theorem eql_bool {t : TypeId} (hu : P.underlying t = some .bool) (p q : Bool) (k : Nat) : (Op.equalIn (k + 1) t (.bool p) (.bool q)).run P w = .ok (p == q) w := by
  simp only [Op.equalIn, Sem.run_bind, run_underlying hu, Result.andThen_ok, Sem.run_pure]
theorem eql_bool' {t : TypeId} (hu : P.underlying t = some .bool) (p q : Bool) : (Op.equal t (.bool p) (.bool q)).run P w = .ok (p == q) w := eql_bool hu p q 9999
theorem r_beq {t t' : TypeId} {x y : Operand} {p q : Bool} (hu : P.underlying t = some .bool) (hK : Kn n a L) (hx : ev L x = some (.bool p)) (hy : ev L y = some (.bool q)) : Runs P w a ⟨d, .binOp .eql t x y t', ty, pos, af, g⟩ (.bool (p == q)) := by
  simp [Runs, execOp, hK.ev hx, hK.ev hy, eqGuard, binOp, eql_bool' hu]
theorem r_bne {t t' : TypeId} {x y : Operand} {p q : Bool} (hu : P.underlying t = some .bool) (hK : Kn n a L) (hx : ev L x = some (.bool p)) (hy : ev L y = some (.bool q)) : Runs P w a ⟨d, .binOp .neq t x y t', ty, pos, af, g⟩ (.bool (!(p == q))) := by
  simp [Runs, execOp, hK.ev hx, hK.ev hy, eqGuard, binOp, eql_bool' hu]
/-- Division and rest by what is not nought; shifts by what is not below nought. -/
theorem r_quo {t t' : TypeId} {x y : Operand} {k : IntKind} {p q : Int} (hK : Kn n a L) (hx : ev L x = some (.int k p)) (hy : ev L y = some (.int k q)) (hq : q ≠ 0) : Runs P w a ⟨d, .binOp .quo t x y t', ty, pos, af, g⟩ (.int k (k.wrap (p.tdiv q))) := by
  simp [Runs, execOp, hK.ev hx, hK.ev hy, eqGuard, binOp, Op.intDiv, hq]
theorem r_rem {t t' : TypeId} {x y : Operand} {k : IntKind} {p q : Int} (hK : Kn n a L) (hx : ev L x = some (.int k p)) (hy : ev L y = some (.int k q)) (hq : q ≠ 0) : Runs P w a ⟨d, .binOp .rem t x y t', ty, pos, af, g⟩ (.int k (p.tmod q)) := by
  simp [Runs, execOp, hK.ev hx, hK.ev hy, eqGuard, binOp, Op.intDiv, hq]
theorem r_shl {t t' : TypeId} {x y : Operand} {k k' : IntKind} {p q : Int} (hK : Kn n a L) (hx : ev L x = some (.int k p)) (hy : ev L y = some (.int k' q)) (hq : 0 ≤ q) : Runs P w a ⟨d, .binOp .shl t x y t', ty, pos, af, g⟩ (.int k (k.wrap (p * 2 ^ (min q.toNat k.bits)))) := by
  simp [Runs, execOp, hK.ev hx, hK.ev hy, eqGuard, binOp, Op.shift, Int.not_lt.2 hq]
theorem r_shr {t t' : TypeId} {x y : Operand} {k k' : IntKind} {p q : Int} (hK : Kn n a L) (hx : ev L x = some (.int k p)) (hy : ev L y = some (.int k' q)) (hq : 0 ≤ q) : Runs P w a ⟨d, .binOp .shr t x y t', ty, pos, af, g⟩ (.int k (p.fdiv (2 ^ (min q.toNat k.bits)))) := by
  simp [Runs, execOp, hK.ev hx, hK.ev hy, eqGuard, binOp, Op.shift, Int.not_lt.2 hq]
theorem r_conv {s t : TypeId} {x : Operand} {k k' : IntKind} {p : Int} {ds : TypeDesc} (hs : P.underlying s = some ds) (ht : P.underlying t = some (.int k')) (hK : Kn n a L) (hx : ev L x = some (.int k p)) : Runs P w a ⟨d, .convert s t x, ty, pos, af, g⟩ (.int k' (k'.wrap p)) := by
  simp [Runs, execOp, hK.ev hx, convert, run_underlying hs, run_underlying ht, Conv.intToInt]
theorem r_extract {x : Operand} {i : Nat} {vs : Array Value} {v : Value} (hK : Kn n a L) (hx : ev L x = some (.tuple vs)) (hv : vs[i]? = some v) : Runs P w a ⟨d, .extract x i, ty, pos, af, g⟩ v := by
  simp [Runs, execOp, hK.ev hx, Instr.extract, hv]
theorem r_len_str {x : Operand} {t : TypeId} {p : ByteArray} (hu : P.underlying t = some .string) (hK : Kn n a L) (hx : ev L x = some (.string p)) : Runs P w a ⟨d, .call { callee := .builtin .len, args := #[x], argTypes := #[t] }, ty, pos, af, g⟩ (.int .i64 (p.size : Int)) := by
  simp [Runs, execOp, resolve, invoke, builtin, Builtin.len_, hK.ev hx, run_underlying hu, goInt]
theorem r_len_sl {x : Operand} {t e : TypeId} {ad : Option Addr} {m c : Nat} (hu : P.underlying t = some (.slice e)) (hK : Kn n a L) (hx : ev L x = some (.slice ad m c)) : Runs P w a ⟨d, .call { callee := .builtin .len, args := #[x], argTypes := #[t] }, ty, pos, af, g⟩ (.int .i64 (m : Int)) := by
  simp [Runs, execOp, resolve, invoke, builtin, Builtin.len_, hK.ev hx, run_underlying hu, goInt]
theorem r_func {fn : Fn} {fs cs : List Operand} {us vs : List Value} (hf : fs.map a.eval = us) (hc : cs.map a.eval = vs) : Runs P w a ⟨d, .makeFunc fn fs.toArray cs.toArray, ty, pos, af, g⟩ (.func fn us.toArray vs.toArray) := by
  subst hf; subst hc
  simp [Runs, execOp, Instr.makeFunc]

/-- Bytes of a string, elements of an array by value: an index in range. -/
theorem r_nilCheck {x : Operand} {ad : Addr} (hK : Kn n a L) (hx : ev L x = some (.pointer (some ad))) : Runs P w a ⟨d, .nilCheck x, ty, pos, af, g⟩ (.pointer (some ad)) := by
  simp [Runs, execOp, hK.ev hx]
theorem r_index_str {x y : Operand} {t : TypeId} {p : ByteArray} {k : IntKind} {i : Int} (hu : P.underlying t = some .string) (hK : Kn n a L) (hx : ev L x = some (.string p)) (hy : ev L y = some (.int k i)) (h0 : 0 ≤ i) (h1 : i < (p.size : Int)) :
    Runs P w a ⟨d, .index t x y, ty, pos, af, g⟩ (.int .u8 ((p.data.toList.getD i.toNat 0).toNat : Int)) := by
  have hlt : i.toNat < p.size := by omega
  have hlt' : i.toNat < p.data.size := hlt
  have e : p[i.toNat]? = some (p.data.toList.getD i.toNat 0) := by
    rw [getElem?_pos p i.toNat hlt]
    congr 1
    have : p.data.toList.getD i.toNat 0 = p.data.toList[i.toNat]'(by simpa using hlt') := by rw [List.getD_eq_getElem?_getD, List.getElem?_eq_getElem (by simpa using hlt')]; rfl
    rw [this]
    rfl
  simp [Runs, execOp, Instr.index, hK.ev hx, hK.ev hy, asIntOf, run_underlying hu, h0, e]

/-! memory -/
theorem r_load {t : TypeId} {x : Operand} {ad : Addr} {v : Value} (hA : ∀ w, (isAgg t).run P w = .ok false w) (hK : Kn n a L) (hx : ev L x = some (.pointer (some ad))) (hc : w.cell? ad = some v) : Runs P w a ⟨d, .load t x, ty, pos, af, g⟩ v := by
  simp [Runs, execOp, hK.ev hx, Instr.loadAt, Instr.sureAddr, loadVar, hA, hc]
theorem cells_load (P : Program) {w : World} {b o : Nat} {cs : List Value} (hc : ∀ j v, cs[j]? = some v → w.cell? ⟨b, o + j, none⟩ = some v) : (loadCells ⟨b, o, none⟩ cs.length).run P w = .ok cs.toArray w :=
  run_loadCells_list (P := P) w ⟨b, o, none⟩ cs (fun j v hv => by rw [add_lit]; exact hc j v hv)
theorem r_loadA {t : TypeId} {x : Operand} {b o m : Nat} {cs : List Value} (hA : ∀ w, (isAgg t).run P w = .ok true w) (hz : ∀ w, (sizeOf t).run P w = .ok m w) (hm : cs.length = m) (hK : Kn n a L) (hx : ev L x = some (.pointer (some ⟨b, o, none⟩)))
    (hc : ∀ j v, cs[j]? = some v → w.cell? ⟨b, o + j, none⟩ = some v) : Runs P w a ⟨d, .load t x, ty, pos, af, g⟩ (.agg cs.toArray) := by
  subst hm
  simp [Runs, execOp, hK.ev hx, Instr.loadAt, Instr.sureAddr, loadVar, hA, hz, cells_load P hc]
/-- A block that is owned, loaded whole (o = 0), or a part of it. -/
theorem St.cells_of {b o m : Nat} {c : List Value} {t : TypeId} (h : St M w0 w R O) (hm : Own.cells b c t ∈ O) {cs : List Value} (hcs : (c.drop o).take m = cs) : ∀ j v, cs[j]? = some v → w.cell? ⟨b, o + j, none⟩ = some v := by
  subst hcs
  intro j v hv
  rw [List.getElem?_take] at hv
  split at hv
  · rw [List.getElem?_drop] at hv
    exact h.cell hm hv
  · cases hv
theorem r_fieldAddr {s : TypeId} {x : Operand} {i b o m : Nat} {fs : Array Field} {f : Field} (hu : P.underlying s = some (.struct fs)) (hf : fs[i]? = some f) (hz : ∀ w, (sizeOf f.type).run P w = .ok (m + 1) w) (hK : Kn n a L) (hx : ev L x = some (.pointer (some ⟨b, o, none⟩))) :
    Runs P w a ⟨d, .fieldAddr s x i, ty, pos, af, g⟩ (.pointer (some ⟨b, o + f.offset, none⟩)) := by
  simp [Runs, execOp, hK.ev hx, Instr.fieldAt, run_underlying hu, hf, Instr.sureAddr, fieldPlace, hz, add_lit]
theorem r_field {s : TypeId} {x : Operand} {i : Nat} {fs : Array Field} {f : Field} {cs : Array Value} {v : Value} (hu : P.underlying s = some (.struct fs)) (hf : fs[i]? = some f) (hA : ∀ w, (isAgg f.type).run P w = .ok false w) (hK : Kn n a L) (hx : ev L x = some (.agg cs)) (hv : cs[f.offset]? = some v) :
    Runs P w a ⟨d, .field s x i, ty, pos, af, g⟩ v := by
  simp [Runs, execOp, hK.ev hx, Instr.field, run_underlying hu, hf, asAgg, part, hA, hv]
theorem r_fieldA {s : TypeId} {x : Operand} {i m : Nat} {fs : Array Field} {f : Field} {cs : Array Value} {v : Array Value} (hu : P.underlying s = some (.struct fs)) (hf : fs[i]? = some f) (hA : ∀ w, (isAgg f.type).run P w = .ok true w) (hz : ∀ w, (sizeOf f.type).run P w = .ok m w) (hK : Kn n a L) (hx : ev L x = some (.agg cs)) (hv : cs.extract f.offset (f.offset + m) = v) :
    Runs P w a ⟨d, .field s x i, ty, pos, af, g⟩ (.agg v) := by
  subst hv
  simp [Runs, execOp, hK.ev hx, Instr.field, run_underlying hu, hf, asAgg, part, hA, hz]
theorem r_indexAddr_arr {t e : TypeId} {x y : Operand} {b o m z : Nat} {k : IntKind} {i : Int} (hu : P.underlying t = some (.array m e)) (hz : ∀ w, (sizeOf e).run P w = .ok z w) (hK : Kn n a L) (hx : ev L x = some (.pointer (some ⟨b, o, none⟩))) (hy : ev L y = some (.int k i)) (h0 : 0 ≤ i) (h1 : i < (m : Int)) :
    Runs P w a ⟨d, .indexAddr t x y, ty, pos, af, g⟩ (.pointer (some ⟨b, o + i.toNat * z, none⟩)) := by
  simp [Runs, execOp, hK.ev hx, hK.ev hy, Instr.indexAt, asIntOf, run_underlying hu, Instr.sureAddr, h0, h1, hz, add_lit]
theorem r_indexAddr_sl {t e : TypeId} {x y : Operand} {b o m c z : Nat} {k : IntKind} {i : Int} (hu : P.underlying t = some (.slice e)) (hz : ∀ w, (sizeOf e).run P w = .ok z w) (hK : Kn n a L) (hx : ev L x = some (.slice (some ⟨b, o, none⟩) m c)) (hy : ev L y = some (.int k i)) (h0 : 0 ≤ i) (h1 : i < (m : Int)) :
    Runs P w a ⟨d, .indexAddr t x y, ty, pos, af, g⟩ (.pointer (some ⟨b, o + i.toNat * z, none⟩)) := by
  simp [Runs, execOp, hK.ev hx, hK.ev hy, Instr.indexAt, asIntOf, run_underlying hu, Instr.sureAddr, h0, h1, hz, add_lit]

theorem sl_box {d : Nat} {t : TypeId} {x : Operand} {v : Value} {c : List Value} (hS : St M w0 w R O) (hK : Kn n a L) (hd : d < n.n) (hw : wantedL ops L ⟨some d, .box t x, ty, pos, af, g⟩ = some true) (hx : ev L x = some v) (hc : v.cells = c.toArray)
    (h : ∀ a w b, St M w0 w R (.cells b c t :: O) → Kn n a ((d, .pointer (some ⟨b, 0, none⟩)) :: L) → wpList P ops Q rest a w) : wpList P ops Q (⟨some d, .box t x, ty, pos, af, g⟩ :: rest) a w := by
  refine slw hK hd hw rfl (v := .pointer (some ⟨w.heap.size, 0, none⟩)) (w' := w.alloc (.cells c.toArray t)) ?_ fun a' hK' => h a' _ _ (hS.alloc c t) hK'
  simp [execOp, hK.ev hx, Instr.box, newVar, newRow, hc]
theorem sl_alloc {d : Nat} {t : TypeId} {v : Value} {c : List Value} (hZ : ∀ w, (zeroValue t).run P w = .ok v w) (hS : St M w0 w R O) (hK : Kn n a L) (hd : d < n.n) (hw : wantedL ops L ⟨some d, .alloc t, ty, pos, af, g⟩ = some true) (hc : v.cells = c.toArray)
    (h : ∀ a w b, St M w0 w R (.cells b c t :: O) → Kn n a ((d, .pointer (some ⟨b, 0, none⟩)) :: L) → wpList P ops Q rest a w) : wpList P ops Q (⟨some d, .alloc t, ty, pos, af, g⟩ :: rest) a w := by
  refine slw hK hd hw rfl (v := .pointer (some ⟨w.heap.size, 0, none⟩)) (w' := w.alloc (.cells c.toArray t)) ?_ fun a' hK' => h a' _ _ (hS.alloc c t) hK'
  simp [execOp, Instr.alloc, newVar, newRow, hZ, hc]
/-- Parts of a literal. -/
def evps (L : Sl) : List (Nat × Operand) → Option (List (Nat × Value))
  | [] => some []
  | (i, x) :: r => match ev L x, evps L r with
    | some v, some vs => some ((i, v) :: vs)
    | _, _ => none
theorem Kn.evps {L : Sl} (hK : Kn n a L) : ∀ {xs : List (Nat × Operand)} {vs : List (Nat × Value)}, Eng.evps L xs = some vs → xs.map (fun p => (p.1, a.eval p.2)) = vs
  | [], vs, h => by simp [Eng.evps] at h; simp [h]
  | (i, x) :: r, vs, h => by
    simp only [Eng.evps] at h
    cases h1 : Eng.ev L x with
    | none => simp [h1] at h
    | some v =>
      cases h2 : Eng.evps L r with
      | none => simp [h1, h2] at h
      | some us =>
        simp only [h1, h2, Option.some.injEq] at h
        subst h
        simp [hK.ev h1, Kn.evps hK h2]
/-- 'fill' over lists, as it reckons by sight. -/
def setAt (cs : List Value) (off : Nat) : List Value → List Value
  | [] => cs
  | v :: r => setAt (cs.set off v) (off + 1) r
def fillL (place : Nat → Option (Nat × Nat)) (cs : List Value) : List (Nat × Value) → Option (List Value)
  | [] => some cs
  | (i, v) :: r => match place i with
    | none => none
    | some (off, size) => bif Nat.beq v.cells.toList.length size && Nat.ble (off + v.cells.toList.length) cs.length then fillL place (setAt cs off v.cells.toList) r else none
theorem foldl_setAt (off : Nat) : ∀ (vs : List Value) (k : Nat) (cs : List Value), (vs.zipIdx k).foldl (fun (acc : Array Value) (p : Value × Nat) => acc.setIfInBounds (off + p.2) p.1) cs.toArray = (setAt cs (off + k) vs).toArray
  | [], k, cs => rfl
  | v :: r, k, cs => by
    rw [List.zipIdx_cons, List.foldl_cons]
    simp only [List.setIfInBounds_toArray]
    rw [foldl_setAt off r (k + 1) (cs.set (off + k) v)]
    rfl
theorem fill_eq (place : Nat → Option (Nat × Nat)) : ∀ (ps : List (Nat × Value)) (cs : List Value), Instr.fill place cs.toArray ps = (fillL place cs ps).map List.toArray
  | [], cs => rfl
  | (i, v) :: r, cs => by
    simp only [Instr.fill, fillL]
    cases place i with
    | none => rfl
    | some p =>
      obtain ⟨off, size⟩ := p
      simp only [List.size_toArray]
      have hl : v.cells.toList.length = v.cells.size := by simp
      by_cases h : v.cells.size ≠ size ∨ off + v.cells.size > cs.length
      · rw [if_pos (by simpa using h)]
        have : (Nat.beq v.cells.toList.length size && Nat.ble (off + v.cells.toList.length) cs.length) = false := by
          rw [hl]
          rcases h with h | h
          · have : Nat.beq v.cells.size size = false := by
              cases hb : Nat.beq v.cells.size size with
              | false => rfl
              | true => exact absurd (Nat.eq_of_beq_eq_true hb) h
            rw [this]; rfl
          · have : Nat.ble (off + v.cells.size) cs.length = false := by
              cases hb : Nat.ble (off + v.cells.size) cs.length with
              | false => rfl
              | true => exact absurd (Nat.le_of_ble_eq_true hb) (by omega)
            rw [this, Bool.and_false]
        rw [this]; rfl
      · have h' : v.cells.size = size ∧ off + v.cells.size ≤ cs.length := by omega
        rw [if_neg (by simpa using h)]
        have : (Nat.beq v.cells.toList.length size && Nat.ble (off + v.cells.toList.length) cs.length) = true := by
          rw [hl, h'.1, Nat.beq_refl, ← h'.1, Nat.ble_eq_true_of_le h'.2]; rfl
        rw [this]
        simp only [cond_true]
        rw [← fill_eq place r]
        congr 1
        have := foldl_setAt off v.cells.toList 0 cs
        rw [Nat.add_zero] at this
        rw [← this]
        rw [← Array.foldl_toList, Array.toList_zipIdx]
def zerosL (zc : List Value) (k : Nat) : List Value := (List.range k).map fun i => (zc[i % zc.length]?).getD undef
/-- A slice out of single parts (a literal; a variadic call's last argument). -/
theorem sl_buildSlice {d : Nat} {t e : TypeId} {m z : Nat} {parts : List (Nat × Operand)} {ps : List (Nat × Value)} {zv : Value} {zc c : List Value} (hu : P.underlying t = some (.slice e)) (hz : ∀ w, (sizeOf e).run P w = .ok z w) (hZ : ∀ w, (zeroValue e).run P w = .ok zv w)
    (hp : evps L parts = some ps) (hsm : Nat.ble (m * z) (2 ^ 24) = true) (hzc : zv.cells = zc.toArray) (hzl : 0 < zc.length) (hfill : fillL (fun i => some (i * z, z)) (zerosL zc (m * z)) ps = some c)
    (hS : St M w0 w R O) (hK : Kn n a L) (hd : d < n.n) (hw : wantedL ops L ⟨some d, .buildSlice t m parts.toArray, ty, pos, af, g⟩ = some true)
    (h : ∀ a w b, St M w0 w R (.cells b c e :: O) → Kn n a ((d, .slice (some ⟨b, 0, none⟩) m m) :: L) → wpList P ops Q rest a w) : wpList P ops Q (⟨some d, .buildSlice t m parts.toArray, ty, pos, af, g⟩ :: rest) a w := by
  refine slw hK hd hw rfl (v := .slice (some ⟨w.heap.size, 0, none⟩) m m) (w' := w.alloc (.cells c.toArray e)) ?_ fun a' hK' => h a' _ _ (hS.alloc c e) hK'
  have e1 : ¬ (m * z > 2 ^ 24) := by have := Nat.le_of_ble_eq_true hsm; omega
  have e2 : (parts.toArray.map fun (i, x) => (i, a.eval x)).toList = ps := by rw [← hK.evps hp]; simp
  have hf : Instr.fill (fun i => some (i * z, z)) (zerosL zc (m * z)).toArray ps = some c.toArray := by rw [fill_eq, hfill]; rfl
  simp only [execOp, Instr.buildSlice, Sem.run_bind, run_underlying hu, Result.andThen_ok, hz, Sem.run_ite, if_neg e1, e2]
  by_cases h0 : m * z = 0
  · have ez : (Array.map (fun x => (#[] : Array Value)[x % (#[] : Array Value).size]!) (Array.range (m * z))) = (zerosL zc (m * z)).toArray := by rw [h0]; simp [zerosL]
    simp only [h0, if_true, Sem.run_bind, Sem.run_pure, Result.andThen_ok] at ez ⊢
    rw [ez]
    rw [h0] at hf
    simp [hf, newRow]
  · have ez : (Array.map (fun x => zv.cells[x % zv.cells.size]!) (Array.range (m * z))) = (zerosL zc (m * z)).toArray := by
      rw [hzc]
      apply Array.ext'
      simp only [zerosL, Array.toList_map, Array.toList_range]
      apply List.map_congr_left
      intro i _
      have hi : i % zc.length < zc.length := Nat.mod_lt _ hzl
      simp [hi]
    simp only [if_neg h0, Sem.run_bind, hZ, Sem.run_pure, Result.andThen_ok]
    rw [ez, hf]
    simp [newRow]

theorem store_one (P : Program) {w : World} {b j : Nat} {c : List Value} {t : TypeId} (hb : w.heap[b]? = some (.cells c.toArray t (0, 0))) (hj : j < c.length) (v : Value) (h1 : v.oneCell' = true) : (storeCells ⟨b, j, none⟩ [v]).run P w = .ok () (w.setCell ⟨b, j, none⟩ v) := by
  have hc : w.cell? ⟨b, j, none⟩ = some c[j] := by rw [cell_of_row w b j _ t (0, 0) hb]; simp [hj]
  simp [storeCells, add_lit, run_store P w _ v _ h1, hc, frozen_of_row w b j _ t hb]
theorem sl_store1 {t : TypeId} {x y : Operand} {b j : Nat} {c c' : List Value} {t' : TypeId} {v : Value} (hz : ∀ w, (sizeOf t).run P w = .ok 1 w) (hS : St M w0 w R (.cells b c t' :: O)) (hK : Kn n a L) (hw : wantedL ops L ⟨none, .store t x y, ty, pos, af, g⟩ = some true)
    (hx : ev L x = some (.pointer (some ⟨b, j, none⟩))) (hy : ev L y = some v) (h1 : v.oneCell' = true) (hj : j < c.length) (hc' : c.set j v = c')
    (h : ∀ a w, St M w0 w R (.cells b c' t' :: O) → Kn n a L → wpList P ops Q rest a w) : wpList P ops Q (⟨none, .store t x y, ty, pos, af, g⟩ :: rest) a w := by
  subst hc'
  have hb : w.heap[b]? = some (.cells c.toArray t' (0, 0)) := hS.own (.cells b c t') (List.mem_cons_self ..)
  refine sls hK hw rfl (w' := w.setCell ⟨b, j, none⟩ v) ?_ fun a' hK' => h a' _ (hS.set j v) hK'
  have hcells : v.cells = #[v] := by cases v <;> first | rfl | (simp [Value.oneCell'] at h1)
  simp [execOp, hK.ev hx, hK.ev hy, Instr.storeAt, Instr.sureAddr, storeVar, hcells, hz, store_one P hb hj v h1]

theorem St.setAll {b o : Nat} {c vs : List Value} {t : TypeId} (h : St M w0 w R (.cells b c t :: O)) : St M w0 (w.setRow b (c.take o ++ vs ++ c.drop (o + vs.length)).toArray) R (.cells b (c.take o ++ vs ++ c.drop (o + vs.length)) t :: O) := by
  have h0 : w.heap[b]? = some (.cells c.toArray t (0, 0)) := h.own (.cells b c t) (List.mem_cons_self ..)
  refine h.turn rfl rfl rfl (by simp) (Nat.le_refl _) (fun k _ hk => setRow_other w b k _ (fun e => hk (by simp [Own.blk, e]))) ?_ (fun b' hb' => Or.inl hb')
  exact setRow_heap w b _ _ t _ h0
theorem sl_storeA {t : TypeId} {x y : Operand} {b o m : Nat} {c c' vs : List Value} {t' : TypeId} (hz : ∀ w, (sizeOf t).run P w = .ok m w) (hS : St M w0 w R (.cells b c t' :: O)) (hK : Kn n a L) (hw : wantedL ops L ⟨none, .store t x y, ty, pos, af, g⟩ = some true)
    (hx : ev L x = some (.pointer (some ⟨b, o, none⟩))) (hy : ev L y = some (.agg vs.toArray)) (hm : vs.length = m) (h1 : ∀ v ∈ vs, v.oneCell' = true) (hj : o + m ≤ c.length) (hc' : c.take o ++ vs ++ c.drop (o + vs.length) = c')
    (h : ∀ a w, St M w0 w R (.cells b c' t' :: O) → Kn n a L → wpList P ops Q rest a w) : wpList P ops Q (⟨none, .store t x y, ty, pos, af, g⟩ :: rest) a w := by
  subst hc'
  subst hm
  have hb : w.heap[b]? = some (.cells c.toArray t' (0, 0)) := hS.own (.cells b c t') (List.mem_cons_self ..)
  refine sls hK hw rfl (w' := w.setRow b (c.take o ++ vs ++ c.drop (o + vs.length)).toArray) ?_ fun a' hK' => h a' _ hS.setAll hK'
  have hs := run_storeCells_at P b o t' vs 0 c.toArray w hb (by simpa using hj) h1
  simp only [Nat.add_zero] at hs
  simp [execOp, hK.ev hx, hK.ev hy, Instr.storeAt, Instr.sureAddr, storeVar, Value.cells, hz, hs]

/-! calls -/
def Rets (Φ : Value → World → Prop) : Ending → World → Prop := fun e w' => ∃ v, e = .returned v ∧ Φ v w'
/-- A call that hands back this value, and lets the memory that is there be. -/
def CallsV (P : Program) (f : FuncId) (args : Array Value) (w : World) (v : Value) : Prop := Calls P f args w fun e w' => e = .returned v ∧ Bel [] w w'
def evs (L : Sl) : List Operand → Option (List Value)
  | [] => some []
  | x :: r => match ev L x, evs L r with
    | some v, some vs => some (v :: vs)
    | _, _ => none
theorem Kn.evs {L : Sl} (hK : Kn n a L) : ∀ {xs : List Operand} {vs : List Value}, evs L xs = some vs → xs.map a.eval = vs
  | [], vs, h => by simp [Eng.evs] at h; simp [h]
  | x :: r, vs, h => by
    simp only [Eng.evs] at h
    cases h1 : Eng.ev L x with
    | none => simp [h1] at h
    | some v =>
      cases h2 : Eng.evs L r with
      | none => simp [h1, h2] at h
      | some us =>
        simp only [h1, h2, Option.some.injEq] at h
        subst h
        simp [hK.ev h1, Kn.evs hK h2]
theorem call_run {x : Operand} {xs : List Operand} {ts : Array TypeId} {f : FuncId} {cap : List Value} {vs : List Value} (hf : ∀ args w, (callFunc f args).run P w = .ok (.enter f args) w) (hK : Kn n a L) (hx : ev L x = some (.func (.func f) #[] cap.toArray)) (hv : evs L xs = some vs) :
    (execOp a.eval ⟨d, .call { callee := .value x, args := xs.toArray, argTypes := ts }, ty, pos, af, g⟩).run P w = .ok (.enter f (vs ++ cap).toArray) w := by
  have e : (xs.toArray.map a.eval) = vs.toArray := by rw [← hK.evs hv]; simp
  simp [execOp, resolve, hK.ev hx, Deferred.ofValue, invoke, e, hf]
theorem sl_call {d : Nat} {x : Operand} {xs : List Operand} {ts : Array TypeId} {f : FuncId} {cap : List Value} {vs : List Value} {Φ : Value → World → Prop} (hf : ∀ args w, (callFunc f args).run P w = .ok (.enter f args) w) (hK : Kn n a L) (hd : d < n.n)
    (hw : wantedL ops L ⟨some d, .call { callee := .value x, args := xs.toArray, argTypes := ts }, ty, pos, af, g⟩ = some true) (hx : ev L x = some (.func (.func f) #[] cap.toArray)) (hv : evs L xs = some vs)
    (hc : Calls P f (vs ++ cap).toArray w (Rets Φ)) (h : ∀ a v w', Φ v w' → Kn n a ((d, v) :: L) → wpList P ops Q rest a w') : wpList P ops Q (⟨some d, .call { callee := .value x, args := xs.toArray, argTypes := ts }, ty, pos, af, g⟩ :: rest) a w := by
  unfold wpList
  rw [if_pos (wantedL_ok hK hw)]
  refine .inl ?_
  unfold Oper.wp
  rw [call_run hf hK hx hv, Oper.upon_enter]
  refine hc.mono fun e w' ⟨v, he, hΦ⟩ => ?_
  subst he
  exact h _ v w' hΦ (hK.put hd v)
/-- .. that hands back a value that is known. -/
theorem sl_callV {d : Nat} {x : Operand} {xs : List Operand} {ts : Array TypeId} {f : FuncId} {cap : List Value} {vs : List Value} {v : Value} (hf : ∀ args w, (callFunc f args).run P w = .ok (.enter f args) w) (hS : St M w0 w R O) (hK : Kn n a L) (hd : d < n.n)
    (hw : wantedL ops L ⟨some d, .call { callee := .value x, args := xs.toArray, argTypes := ts }, ty, pos, af, g⟩ = some true) (hx : ev L x = some (.func (.func f) #[] cap.toArray)) (hv : evs L xs = some vs)
    (hc : CallsV P f (vs ++ cap).toArray w v) (h : ∀ a w', St M w0 w' R O → Kn n a ((d, v) :: L) → wpList P ops Q rest a w') : wpList P ops Q (⟨some d, .call { callee := .value x, args := xs.toArray, argTypes := ts }, ty, pos, af, g⟩ :: rest) a w :=
  sl_call (Φ := fun u w' => u = v ∧ Bel [] w w') hf hK hd hw hx hv (hc.mono fun e w' ⟨he, hb⟩ => ⟨v, he, rfl, hb⟩) fun a u w' ⟨hu, hb⟩ hK' => by subst hu; exact h a w' (hS.keep hb) hK'
theorem sq_callV {d : Nat} {x : Operand} {xs : List Operand} {ts : Array TypeId} {f : FuncId} {cap : List Value} {vs : List Value} {v : Value} (hf : ∀ args w, (callFunc f args).run P w = .ok (.enter f args) w) (hK : Kn n a L) (hd : d < n.n)
    (hw : wantedL ops L ⟨some d, .call { callee := .value x, args := xs.toArray, argTypes := ts }, ty, pos, af, g⟩ = some true) (hx : ev L x = some (.func (.func f) #[] cap.toArray)) (hv : evs L xs = some vs)
    (hc : ∀ w, St M w0 w R O → CallsV P f (vs ++ cap).toArray w v) (h : ∀ a, Kn n a ((d, v) :: L) → wpQuiet P ops (fun w => St M w0 w R O) QQ rest a) : wpQuiet P ops (fun w => St M w0 w R O) QQ (⟨some d, .call { callee := .value x, args := xs.toArray, argTypes := ts }, ty, pos, af, g⟩ :: rest) a := by
  unfold wpQuiet
  rw [if_pos (wantedL_ok hK hw)]
  refine ⟨v, fun w hC => ?_, h _ (hK.put hd v)⟩
  unfold Oper.quietAt
  rw [call_run hf hK hx hv]
  exact ⟨rfl, (hc w hC).mono fun e w' ⟨he, hb⟩ => ⟨he, hC.keep hb⟩⟩
theorem quiet_region {id : Nat} {l : List Oper} (hm : P.follows .mixedOrders = true) (hB : Region.lexB .any l.toArray = true) (hS : St M w0 w R O)
    (h : wpQuiet P l.toArray (fun w => St M w0 w R O) (fun a => ∀ w, St M w0 w R O → Q .normal a w) l a) : (Code.region id l.toArray true).wp P Q a w :=
  wp_region_quiet (C := fun w => St M w0 w R O) hm hB (hS.drew _ (Nat.le_succ _)) (by simpa using h)
end
end Go.Eng
