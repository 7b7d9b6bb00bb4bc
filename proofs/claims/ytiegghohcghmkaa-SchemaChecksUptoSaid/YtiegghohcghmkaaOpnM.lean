/- What reads as a datum of a type of this program, of a small bulk, lies in memory as its plain Lean value tells. -/
import Derived.Test.YtiegghohcghmkaaPure
import Derived.Test.YtiegghohcghmkaaBulk
import Derived.Test.YtiegghohcghmkaaProg
namespace Go.Proofs.Ytiegghohcghmkaa.M
open Go Go.Eng Go.Proofs Go.RowKit
set_option linter.unusedVariables false
set_option maxRecDepth 100000

def okm_api_Col (x : api_Col) : Prop := (fun s => s.size ≤ 1048576) x.Name ∧ (fun x => (Lit.int .i64 x).wf = true) x.Kind
def okm_api_Schema (x : api_Schema) : Prop := (fun s => s.size ≤ 1048576) x.Name ∧ (fun xs => xs.length ≤ 1048576 ∧ ∀ x ∈ xs, okm_api_Col x) x.Keys ∧ (fun xs => xs.length ≤ 1048576 ∧ ∀ x ∈ xs, okm_api_Col x) x.Vals

theorem opm9 : OpnM @Rows.uptoBulk Try.prog 9 tyStr (fun s => s.size ≤ 1048576) := opm_str bulkMu Try.underlying9
theorem opm3 : OpnM @Rows.uptoBulk Try.prog 3 (tyInt .i64) (fun x => (Lit.int .i64 x).wf = true) := opm_int Try.underlying3
theorem opm52 : OpnM @Rows.uptoBulk Try.prog 52 ty_api_Col okm_api_Col := by
  intro H enc w held fuel cs d p h hw
  obtain ⟨hl, m, hall⟩ := struct_openM Try.underlying52 h bulkMu hw
  have hc : Try.prog.cellsOf 52 = 2 := by kernel_rfl
  rw [hc] at hl
  obtain ⟨c0, c1, rfl⟩ : ∃ c0 c1, cs = [c0, c1] := by
    match cs, hl with
    | [c0, c1], _ => exact ⟨_, _, rfl⟩
  obtain ⟨x0, r0, o0⟩ := OpnM.field hall 0 _ rfl rfl rfl (by kernel_rfl : Try.prog.cellsOf 9 = 1) opm9
  change Ty.rep tyStr _ [c0] x0 at r0
  change ([c0] : List Value) = [.string x0] at r0
  cases r0
  obtain ⟨x1, r1, o1⟩ := OpnM.field hall 1 _ rfl rfl rfl (by kernel_rfl : Try.prog.cellsOf 3 = 1) opm3
  change Ty.rep (tyInt .i64) _ [c1] x1 at r1
  change ([c1] : List Value) = [.int .i64 x1] at r1
  cases r1
  exact ⟨⟨x0, x1⟩, rfl, ⟨o0, o1⟩⟩
theorem opm24 : OpnM @Rows.uptoBulk Try.prog 24 (tySl ty_api_Col) (fun xs => xs.length ≤ 1048576 ∧ ∀ x ∈ xs, okm_api_Col x) := opm_slice bulkMu Try.underlying24 (by kernel_rfl) (by decide) opm52
theorem opm26 : OpnM @Rows.uptoBulk Try.prog 26 ty_api_Schema okm_api_Schema := by
  intro H enc w held fuel cs d p h hw
  obtain ⟨hl, m, hall⟩ := struct_openM Try.underlying26 h bulkMu hw
  have hc : Try.prog.cellsOf 26 = 3 := by kernel_rfl
  rw [hc] at hl
  obtain ⟨c0, c1, c2, rfl⟩ : ∃ c0 c1 c2, cs = [c0, c1, c2] := by
    match cs, hl with
    | [c0, c1, c2], _ => exact ⟨_, _, _, rfl⟩
  obtain ⟨x0, r0, o0⟩ := OpnM.field hall 0 _ rfl rfl rfl (by kernel_rfl : Try.prog.cellsOf 9 = 1) opm9
  change Ty.rep tyStr _ [c0] x0 at r0
  change ([c0] : List Value) = [.string x0] at r0
  cases r0
  obtain ⟨x1, r1, o1⟩ := OpnM.field hall 1 _ rfl rfl rfl (by kernel_rfl : Try.prog.cellsOf 24 = 1) opm24
  change Ty.rep (tySl ty_api_Col) _ [c1] x1 at r1
  obtain ⟨v1, e1, s1⟩ := r1
  cases e1
  obtain ⟨x2, r2, o2⟩ := OpnM.field hall 2 _ rfl rfl rfl (by kernel_rfl : Try.prog.cellsOf 24 = 1) opm24
  change Ty.rep (tySl ty_api_Col) _ [c2] x2 at r2
  obtain ⟨v2, e2, s2⟩ := r2
  cases e2
  exact ⟨⟨x0, x1, x2⟩, ⟨_, _, rfl, s1, s2⟩, ⟨o0, o1, o2⟩⟩
theorem opm22 : OpnM @Rows.uptoBulk Try.prog 22 (tySl ty_api_Schema) (fun xs => xs.length ≤ 1048576 ∧ ∀ x ∈ xs, okm_api_Schema x) := opm_slice bulkMu Try.underlying22 (by kernel_rfl) (by decide) opm26

end Go.Proofs.Ytiegghohcghmkaa.M
