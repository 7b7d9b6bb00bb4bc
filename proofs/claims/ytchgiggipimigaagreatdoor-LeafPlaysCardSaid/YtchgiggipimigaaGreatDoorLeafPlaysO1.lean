/- For the law LeafPlays: what reads as a datum of a type of this program lies in memory as its plain Lean value tells; without condition. -/
import Derived.Test.YtchgiggipimigaaGreatDoorProg
import Derived.Test.YtchgiggipimigaaGreatDoorLeafPlaysP1
section
namespace Go.Proofs.YtchgiggipimigaaGreatDoor.M
open Go Go.Eng Go.Proofs Go.RowKit
set_option linter.unusedVariables false
set_option maxRecDepth 100000
theorem opn9 : Opn Tryz.prog 9 tyStr (fun s => s.size ≤ 140737488351232) := opn_str Tryz.underlying9
theorem opn3 : Opn Tryz.prog 3 (tyInt .i64) (fun x => (Lit.int .i64 x).wf = true) := opn_int Tryz.underlying3
theorem opn65 : Opn Tryz.prog 65 ty_api_Col ok_api_Col := by
  intro H enc w held fuel cs d p h hw
  obtain ⟨hl, m, hall⟩ := struct_open Tryz.underlying65 h hw
  have hc : Tryz.prog.cellsOf 65 = 2 := by kernel_rfl
  rw [hc] at hl
  obtain ⟨c0, c1, rfl⟩ : ∃ c0 c1, cs = [c0, c1] := by
    match cs, hl with
    | [c0, c1], _ => exact ⟨_, _, rfl⟩
  obtain ⟨x0, r0, o0⟩ := Opn.field hall 0 _ rfl rfl rfl (by kernel_rfl : Tryz.prog.cellsOf 9 = 1) opn9
  change Ty.rep tyStr _ [c0] x0 at r0
  change ([c0] : List Value) = [.string x0] at r0
  cases r0
  obtain ⟨x1, r1, o1⟩ := Opn.field hall 1 _ rfl rfl rfl (by kernel_rfl : Tryz.prog.cellsOf 3 = 1) opn3
  change Ty.rep (tyInt .i64) _ [c1] x1 at r1
  change ([c1] : List Value) = [.int .i64 x1] at r1
  cases r1
  exact ⟨⟨x0, x1⟩, rfl, ⟨o0, o1⟩⟩
theorem opn38 : Opn Tryz.prog 38 (tySl ty_api_Col) (fun xs => xs.length * 24 ≤ 140737488351232 ∧ ∀ x ∈ xs, ok_api_Col x) := opn_slice Tryz.underlying38 (by kernel_rfl) (by decide) (by kernel_rfl) opn65
theorem opn49 : Opn Tryz.prog 49 ty_api_Schema ok_api_Schema := by
  intro H enc w held fuel cs d p h hw
  obtain ⟨hl, m, hall⟩ := struct_open Tryz.underlying49 h hw
  have hc : Tryz.prog.cellsOf 49 = 3 := by kernel_rfl
  rw [hc] at hl
  obtain ⟨c0, c1, c2, rfl⟩ : ∃ c0 c1 c2, cs = [c0, c1, c2] := by
    match cs, hl with
    | [c0, c1, c2], _ => exact ⟨_, _, _, rfl⟩
  obtain ⟨x0, r0, o0⟩ := Opn.field hall 0 _ rfl rfl rfl (by kernel_rfl : Tryz.prog.cellsOf 9 = 1) opn9
  change Ty.rep tyStr _ [c0] x0 at r0
  change ([c0] : List Value) = [.string x0] at r0
  cases r0
  obtain ⟨x1, r1, o1⟩ := Opn.field hall 1 _ rfl rfl rfl (by kernel_rfl : Tryz.prog.cellsOf 38 = 1) opn38
  change Ty.rep (tySl ty_api_Col) _ [c1] x1 at r1
  obtain ⟨v1, e1, s1⟩ := r1
  cases e1
  obtain ⟨x2, r2, o2⟩ := Opn.field hall 2 _ rfl rfl rfl (by kernel_rfl : Tryz.prog.cellsOf 38 = 1) opn38
  change Ty.rep (tySl ty_api_Col) _ [c2] x2 at r2
  obtain ⟨v2, e2, s2⟩ := r2
  cases e2
  exact ⟨⟨x0, x1, x2⟩, ⟨_, _, rfl, s1, s2⟩, ⟨o0, o1, o2⟩⟩
theorem opn28 : Opn Tryz.prog 28 (tySl ty_api_Schema) (fun xs => xs.length * 64 ≤ 140737488351232 ∧ ∀ x ∈ xs, ok_api_Schema x) := opn_slice Tryz.underlying28 (by kernel_rfl) (by decide) (by kernel_rfl) opn49
theorem opn56 : Opn Tryz.prog 56 ty_Arr8 ok_Arr8 := opn_Arr8 Tryz.underlying56 (by kernel_rfl) (by kernel_rfl) Tryz.underlying3
theorem opn58 : Opn Tryz.prog 58 ty_api_Value ok_api_Value := by
  intro H enc w held fuel cs d p h hw
  obtain ⟨hl, m, hall⟩ := struct_open Tryz.underlying58 h hw
  have hc : Tryz.prog.cellsOf 58 = 11 := by kernel_rfl
  rw [hc] at hl
  obtain ⟨c0, c1, c2, c3, c4, c5, c6, c7, c8, c9, c10, rfl⟩ : ∃ c0 c1 c2 c3 c4 c5 c6 c7 c8 c9 c10, cs = [c0, c1, c2, c3, c4, c5, c6, c7, c8, c9, c10] := by
    match cs, hl with
    | [c0, c1, c2, c3, c4, c5, c6, c7, c8, c9, c10], _ => exact ⟨_, _, _, _, _, _, _, _, _, _, _, rfl⟩
  obtain ⟨x0, r0, o0⟩ := Opn.field hall 0 _ rfl rfl rfl (by kernel_rfl : Tryz.prog.cellsOf 3 = 1) opn3
  change Ty.rep (tyInt .i64) _ [c0] x0 at r0
  change ([c0] : List Value) = [.int .i64 x0] at r0
  cases r0
  obtain ⟨x1, r1, o1⟩ := Opn.field hall 1 _ rfl rfl rfl (by kernel_rfl : Tryz.prog.cellsOf 3 = 1) opn3
  change Ty.rep (tyInt .i64) _ [c1] x1 at r1
  change ([c1] : List Value) = [.int .i64 x1] at r1
  cases r1
  obtain ⟨x2, r2, o2⟩ := Opn.field hall 2 _ rfl rfl rfl (by kernel_rfl : Tryz.prog.cellsOf 9 = 1) opn9
  change Ty.rep tyStr _ [c2] x2 at r2
  change ([c2] : List Value) = [.string x2] at r2
  cases r2
  obtain ⟨x3, r3, o3⟩ := Opn.field hall 3 _ rfl rfl rfl (by kernel_rfl : Tryz.prog.cellsOf 56 = 8) opn56
  change Ty.rep ty_Arr8 _ [c3, c4, c5, c6, c7, c8, c9, c10] x3 at r3
  change ([c3, c4, c5, c6, c7, c8, c9, c10] : List Value) = [.int .i64 x3.a0, .int .i64 x3.a1, .int .i64 x3.a2, .int .i64 x3.a3, .int .i64 x3.a4, .int .i64 x3.a5, .int .i64 x3.a6, .int .i64 x3.a7] at r3
  cases r3
  exact ⟨⟨x0, x1, x2, x3⟩, rfl, ⟨o0, o1, o2, o3⟩⟩
theorem opn31 : Opn Tryz.prog 31 (tySl ty_api_Value) (fun xs => xs.length * 96 ≤ 140737488351232 ∧ ∀ x ∈ xs, ok_api_Value x) := opn_slice Tryz.underlying31 (by kernel_rfl) (by decide) (by kernel_rfl) opn58
theorem opn33 : Opn Tryz.prog 33 ty_api_Point ok_api_Point := by
  intro H enc w held fuel cs d p h hw
  obtain ⟨hl, m, hall⟩ := struct_open Tryz.underlying33 h hw
  have hc : Tryz.prog.cellsOf 33 = 4 := by kernel_rfl
  rw [hc] at hl
  obtain ⟨c0, c1, c2, c3, rfl⟩ : ∃ c0 c1 c2 c3, cs = [c0, c1, c2, c3] := by
    match cs, hl with
    | [c0, c1, c2, c3], _ => exact ⟨_, _, _, _, rfl⟩
  obtain ⟨x0, r0, o0⟩ := Opn.field hall 0 _ rfl rfl rfl (by kernel_rfl : Tryz.prog.cellsOf 9 = 1) opn9
  change Ty.rep tyStr _ [c0] x0 at r0
  change ([c0] : List Value) = [.string x0] at r0
  cases r0
  obtain ⟨x1, r1, o1⟩ := Opn.field hall 1 _ rfl rfl rfl (by kernel_rfl : Tryz.prog.cellsOf 31 = 1) opn31
  change Ty.rep (tySl ty_api_Value) _ [c1] x1 at r1
  obtain ⟨v1, e1, s1⟩ := r1
  cases e1
  obtain ⟨x2, r2, o2⟩ := Opn.field hall 2 _ rfl rfl rfl (by kernel_rfl : Tryz.prog.cellsOf 3 = 1) opn3
  change Ty.rep (tyInt .i64) _ [c2] x2 at r2
  change ([c2] : List Value) = [.int .i64 x2] at r2
  cases r2
  obtain ⟨x3, r3, o3⟩ := Opn.field hall 3 _ rfl rfl rfl (by kernel_rfl : Tryz.prog.cellsOf 31 = 1) opn31
  change Ty.rep (tySl ty_api_Value) _ [c3] x3 at r3
  obtain ⟨v3, e3, s3⟩ := r3
  cases e3
  exact ⟨⟨x0, x1, x2, x3⟩, ⟨_, _, rfl, s1, s3⟩, ⟨o0, o1, o2, o3⟩⟩
theorem opn30 : Opn Tryz.prog 30 (tySl ty_api_Point) (fun xs => xs.length * 72 ≤ 140737488351232 ∧ ∀ x ∈ xs, ok_api_Point x) := opn_slice Tryz.underlying30 (by kernel_rfl) (by decide) (by kernel_rfl) opn33
end Go.Proofs.YtchgiggipimigaaGreatDoor.M
end
