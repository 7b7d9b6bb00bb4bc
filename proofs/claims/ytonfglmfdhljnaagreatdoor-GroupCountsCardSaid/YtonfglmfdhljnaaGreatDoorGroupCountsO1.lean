/- For the law GroupCounts: what reads as a datum of a type of this program lies in memory as its plain Lean value tells; without condition. -/
import Derived.Test.YtonfglmfdhljnaaGreatDoorProg
import Derived.Test.YtonfglmfdhljnaaGreatDoorGroupCountsP1
section
namespace Go.Proofs.YtonfglmfdhljnaaGreatDoor.M
open Go Go.Eng Go.Proofs Go.RowKit
set_option linter.unusedVariables false
set_option maxRecDepth 100000
theorem opn9 : Opn Tryz.prog 9 tyStr (fun s => s.size ≤ 140737488351232) := opn_str Tryz.underlying9
theorem opn3 : Opn Tryz.prog 3 (tyInt .i64) (fun x => (Lit.int .i64 x).wf = true) := opn_int Tryz.underlying3
theorem opn47 : Opn Tryz.prog 47 ty_api_Col ok_api_Col := by
  intro H enc w held fuel cs d p h hw
  obtain ⟨hl, m, hall⟩ := struct_open Tryz.underlying47 h hw
  have hc : Tryz.prog.cellsOf 47 = 2 := by kernel_rfl
  rw [hc] at hl
  obtain ⟨c0, c1, rfl⟩ : ∃ c0 c1, cs = [c0, c1] := by
    match cs, hl with
    | [c0, c1], _ => exact ⟨_, _, rfl⟩
  obtain ⟨x0, r0, o0⟩ := Opn.field hall 0 _ rfl rfl rfl (by kernel_rfl : Tryz.prog.cellsOf 9 = 1) opn9
  change Ty.rep tyStr _ [c0] x0 at r0
  change ([c0] : List Value) = [.string x0] at r0
  cases r0
  obtain ⟨x1, r1, o1⟩ := Opn.field hall 1 _ rfl rfl rfl (by kernel_rfl : Tryz.prog.cellsOf 3 = 1) opn3
  change Ty.rep (tyInt .i64) _ [c1] x1 at r1
  change ([c1] : List Value) = [.int .i64 x1] at r1
  cases r1
  exact ⟨⟨x0, x1⟩, rfl, ⟨o0, o1⟩⟩
theorem opn22 : Opn Tryz.prog 22 (tySl ty_api_Col) (fun xs => xs.length * 24 ≤ 140737488351232 ∧ ∀ x ∈ xs, ok_api_Col x) := opn_slice Tryz.underlying22 (by kernel_rfl) (by decide) (by kernel_rfl) opn47
theorem opn50 : Opn Tryz.prog 50 ty_Arr8 ok_Arr8 := opn_Arr8 Tryz.underlying50 (by kernel_rfl) (by kernel_rfl) Tryz.underlying3
theorem opn52 : Opn Tryz.prog 52 ty_api_Value ok_api_Value := by
  intro H enc w held fuel cs d p h hw
  obtain ⟨hl, m, hall⟩ := struct_open Tryz.underlying52 h hw
  have hc : Tryz.prog.cellsOf 52 = 11 := by kernel_rfl
  rw [hc] at hl
  obtain ⟨c0, c1, c2, c3, c4, c5, c6, c7, c8, c9, c10, rfl⟩ : ∃ c0 c1 c2 c3 c4 c5 c6 c7 c8 c9 c10, cs = [c0, c1, c2, c3, c4, c5, c6, c7, c8, c9, c10] := by
    match cs, hl with
    | [c0, c1, c2, c3, c4, c5, c6, c7, c8, c9, c10], _ => exact ⟨_, _, _, _, _, _, _, _, _, _, _, rfl⟩
  obtain ⟨x0, r0, o0⟩ := Opn.field hall 0 _ rfl rfl rfl (by kernel_rfl : Tryz.prog.cellsOf 3 = 1) opn3
  change Ty.rep (tyInt .i64) _ [c0] x0 at r0
  change ([c0] : List Value) = [.int .i64 x0] at r0
  cases r0
  obtain ⟨x1, r1, o1⟩ := Opn.field hall 1 _ rfl rfl rfl (by kernel_rfl : Tryz.prog.cellsOf 3 = 1) opn3
  change Ty.rep (tyInt .i64) _ [c1] x1 at r1
  change ([c1] : List Value) = [.int .i64 x1] at r1
  cases r1
  obtain ⟨x2, r2, o2⟩ := Opn.field hall 2 _ rfl rfl rfl (by kernel_rfl : Tryz.prog.cellsOf 9 = 1) opn9
  change Ty.rep tyStr _ [c2] x2 at r2
  change ([c2] : List Value) = [.string x2] at r2
  cases r2
  obtain ⟨x3, r3, o3⟩ := Opn.field hall 3 _ rfl rfl rfl (by kernel_rfl : Tryz.prog.cellsOf 50 = 8) opn50
  change Ty.rep ty_Arr8 _ [c3, c4, c5, c6, c7, c8, c9, c10] x3 at r3
  change ([c3, c4, c5, c6, c7, c8, c9, c10] : List Value) = [.int .i64 x3.a0, .int .i64 x3.a1, .int .i64 x3.a2, .int .i64 x3.a3, .int .i64 x3.a4, .int .i64 x3.a5, .int .i64 x3.a6, .int .i64 x3.a7] at r3
  cases r3
  exact ⟨⟨x0, x1, x2, x3⟩, rfl, ⟨o0, o1, o2, o3⟩⟩
theorem opn53 : Opn Tryz.prog 53 (tySl ty_api_Value) (fun xs => xs.length * 96 ≤ 140737488351232 ∧ ∀ x ∈ xs, ok_api_Value x) := opn_slice Tryz.underlying53 (by kernel_rfl) (by decide) (by kernel_rfl) opn52
theorem opn33 : Opn Tryz.prog 33 (tySl (tySl ty_api_Value)) (fun xs => xs.length * 24 ≤ 140737488351232 ∧ ∀ x ∈ xs, (fun xs => xs.length * 96 ≤ 140737488351232 ∧ ∀ x ∈ xs, ok_api_Value x) x) := opn_slice Tryz.underlying33 (by kernel_rfl) (by decide) (by kernel_rfl) opn53
theorem opn35 : Opn Tryz.prog 35 ty_api_Table ok_api_Table := by
  intro H enc w held fuel cs d p h hw
  obtain ⟨hl, m, hall⟩ := struct_open Tryz.underlying35 h hw
  have hc : Tryz.prog.cellsOf 35 = 2 := by kernel_rfl
  rw [hc] at hl
  obtain ⟨c0, c1, rfl⟩ : ∃ c0 c1, cs = [c0, c1] := by
    match cs, hl with
    | [c0, c1], _ => exact ⟨_, _, rfl⟩
  obtain ⟨x0, r0, o0⟩ := Opn.field hall 0 _ rfl rfl rfl (by kernel_rfl : Tryz.prog.cellsOf 22 = 1) opn22
  change Ty.rep (tySl ty_api_Col) _ [c0] x0 at r0
  obtain ⟨v0, e0, s0⟩ := r0
  cases e0
  obtain ⟨x1, r1, o1⟩ := Opn.field hall 1 _ rfl rfl rfl (by kernel_rfl : Tryz.prog.cellsOf 33 = 1) opn33
  change Ty.rep (tySl (tySl ty_api_Value)) _ [c1] x1 at r1
  obtain ⟨v1, e1, s1⟩ := r1
  cases e1
  exact ⟨⟨x0, x1⟩, ⟨_, _, rfl, s0, s1⟩, ⟨o0, o1⟩⟩
end Go.Proofs.YtonfglmfdhljnaaGreatDoor.M
end
