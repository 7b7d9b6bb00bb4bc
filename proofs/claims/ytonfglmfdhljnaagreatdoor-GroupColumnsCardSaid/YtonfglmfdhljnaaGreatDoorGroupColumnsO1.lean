/- For the law GroupColumns: what reads as a datum of a type of this program lies in memory as its plain Lean value tells; without condition. -/
import Derived.Test.YtonfglmfdhljnaaGreatDoorProg
import Derived.Test.YtonfglmfdhljnaaGreatDoorGroupColumnsP1
section
namespace Go.Proofs.YtonfglmfdhljnaaGreatDoor.M
open Go Go.Eng Go.Proofs Go.RowKit
set_option linter.unusedVariables false
set_option maxRecDepth 100000
theorem opn9 : Opn Tryz.prog 9 tyStr (fun s => s.size ≤ 140737488351232) := opn_str Tryz.underlying9
theorem opn3 : Opn Tryz.prog 3 (tyInt .i64) (fun x => (Lit.int .i64 x).wf = true) := opn_int Tryz.underlying3
theorem opn47 : Opn Tryz.prog 47 ty_api_Col ok_api_Col := by
  intro H enc w held fuel cs d p h hw
  obtain ⟨hl, m, hall⟩ := struct_open Tryz.underlying47 h hw
  have hc : Tryz.prog.cellsOf 47 = 2 := by kernel_rfl
  rw [hc] at hl
  obtain ⟨c0, c1, rfl⟩ : ∃ c0 c1, cs = [c0, c1] := by
    match cs, hl with
    | [c0, c1], _ => exact ⟨_, _, rfl⟩
  obtain ⟨x0, r0, o0⟩ := Opn.field hall 0 _ rfl rfl rfl (by kernel_rfl : Tryz.prog.cellsOf 9 = 1) opn9
  change Ty.rep tyStr _ [c0] x0 at r0
  change ([c0] : List Value) = [.string x0] at r0
  cases r0
  obtain ⟨x1, r1, o1⟩ := Opn.field hall 1 _ rfl rfl rfl (by kernel_rfl : Tryz.prog.cellsOf 3 = 1) opn3
  change Ty.rep (tyInt .i64) _ [c1] x1 at r1
  change ([c1] : List Value) = [.int .i64 x1] at r1
  cases r1
  exact ⟨⟨x0, x1⟩, rfl, ⟨o0, o1⟩⟩
theorem opn22 : Opn Tryz.prog 22 (tySl ty_api_Col) (fun xs => xs.length * 24 ≤ 140737488351232 ∧ ∀ x ∈ xs, ok_api_Col x) := opn_slice Tryz.underlying22 (by kernel_rfl) (by decide) (by kernel_rfl) opn47
theorem opn23 : Opn Tryz.prog 23 (tySl tyStr) (fun xs => xs.length * 16 ≤ 140737488351232 ∧ ∀ x ∈ xs, (fun s => s.size ≤ 140737488351232) x) := opn_slice Tryz.underlying23 (by kernel_rfl) (by decide) (by kernel_rfl) opn9
theorem opn49 : Opn Tryz.prog 49 ty_api_Agg ok_api_Agg := by
  intro H enc w held fuel cs d p h hw
  obtain ⟨hl, m, hall⟩ := struct_open Tryz.underlying49 h hw
  have hc : Tryz.prog.cellsOf 49 = 2 := by kernel_rfl
  rw [hc] at hl
  obtain ⟨c0, c1, rfl⟩ : ∃ c0 c1, cs = [c0, c1] := by
    match cs, hl with
    | [c0, c1], _ => exact ⟨_, _, rfl⟩
  obtain ⟨x0, r0, o0⟩ := Opn.field hall 0 _ rfl rfl rfl (by kernel_rfl : Tryz.prog.cellsOf 3 = 1) opn3
  change Ty.rep (tyInt .i64) _ [c0] x0 at r0
  change ([c0] : List Value) = [.int .i64 x0] at r0
  cases r0
  obtain ⟨x1, r1, o1⟩ := Opn.field hall 1 _ rfl rfl rfl (by kernel_rfl : Tryz.prog.cellsOf 9 = 1) opn9
  change Ty.rep tyStr _ [c1] x1 at r1
  change ([c1] : List Value) = [.string x1] at r1
  cases r1
  exact ⟨⟨x0, x1⟩, rfl, ⟨o0, o1⟩⟩
theorem opn24 : Opn Tryz.prog 24 (tySl ty_api_Agg) (fun xs => xs.length * 24 ≤ 140737488351232 ∧ ∀ x ∈ xs, ok_api_Agg x) := opn_slice Tryz.underlying24 (by kernel_rfl) (by decide) (by kernel_rfl) opn49
theorem opn26 : Opn Tryz.prog 26 ty_catchmentlaw18_By ok_catchmentlaw18_By := by
  intro H enc w held fuel cs d p h hw
  obtain ⟨hl, m, hall⟩ := struct_open Tryz.underlying26 h hw
  have hc : Tryz.prog.cellsOf 26 = 2 := by kernel_rfl
  rw [hc] at hl
  obtain ⟨c0, c1, rfl⟩ : ∃ c0 c1, cs = [c0, c1] := by
    match cs, hl with
    | [c0, c1], _ => exact ⟨_, _, rfl⟩
  obtain ⟨x0, r0, o0⟩ := Opn.field hall 0 _ rfl rfl rfl (by kernel_rfl : Tryz.prog.cellsOf 23 = 1) opn23
  change Ty.rep (tySl tyStr) _ [c0] x0 at r0
  obtain ⟨v0, e0, s0⟩ := r0
  cases e0
  obtain ⟨x1, r1, o1⟩ := Opn.field hall 1 _ rfl rfl rfl (by kernel_rfl : Tryz.prog.cellsOf 24 = 1) opn24
  change Ty.rep (tySl ty_api_Agg) _ [c1] x1 at r1
  obtain ⟨v1, e1, s1⟩ := r1
  cases e1
  exact ⟨⟨x0, x1⟩, ⟨_, _, rfl, s0, s1⟩, ⟨o0, o1⟩⟩
end Go.Proofs.YtonfglmfdhljnaaGreatDoor.M
end
