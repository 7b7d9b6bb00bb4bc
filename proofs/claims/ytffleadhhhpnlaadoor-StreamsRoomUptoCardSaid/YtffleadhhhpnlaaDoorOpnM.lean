/- What reads as a datum of a type of this program, of a small bulk, lies in memory as its plain Lean value tells. -/
import Derived.Test.YtffleadhhhpnlaaDoorPure
import Derived.Test.YtffleadhhhpnlaaDoorBulk
import Derived.Test.YtffleadhhhpnlaaDoorProg
namespace Go.Proofs.YtffleadhhhpnlaaDoor.M
open Go Go.Eng Go.Proofs Go.RowKit
set_option linter.unusedVariables false
set_option maxRecDepth 100000

def okm_api_Value (x : api_Value) : Prop := (fun x => (Lit.int .i64 x).wf = true) x.Kind ∧ (fun x => (Lit.int .i64 x).wf = true) x.N ∧ (fun s => s.size ≤ 1048576) x.S ∧ ok_Arr8 x.H
def okm_catchmentlaw06_Stream (x : catchmentlaw06_Stream) : Prop := (fun s => s.size ≤ 1048576) x.Name ∧ (fun xs => xs.length ≤ 1048576 ∧ ∀ x ∈ xs, okm_api_Value x) x.Keys

theorem opm9 : OpnM @Rows.uptoBulk Tryd.prog 9 tyStr (fun s => s.size ≤ 1048576) := opm_str bulkMu Tryd.underlying9
theorem opm3 : OpnM @Rows.uptoBulk Tryd.prog 3 (tyInt .i64) (fun x => (Lit.int .i64 x).wf = true) := opm_int Tryd.underlying3
theorem opm48 : OpnM @Rows.uptoBulk Tryd.prog 48 ty_Arr8 ok_Arr8 := opm_Arr8 Tryd.underlying48 (by kernel_rfl) (by kernel_rfl) Tryd.underlying3
theorem opm50 : OpnM @Rows.uptoBulk Tryd.prog 50 ty_api_Value okm_api_Value := by
  intro H enc w held fuel cs d p h hw
  obtain ⟨hl, m, hall⟩ := struct_openM Tryd.underlying50 h bulkMu hw
  have hc : Tryd.prog.cellsOf 50 = 11 := by kernel_rfl
  rw [hc] at hl
  obtain ⟨c0, c1, c2, c3, c4, c5, c6, c7, c8, c9, c10, rfl⟩ : ∃ c0 c1 c2 c3 c4 c5 c6 c7 c8 c9 c10, cs = [c0, c1, c2, c3, c4, c5, c6, c7, c8, c9, c10] := by
    match cs, hl with
    | [c0, c1, c2, c3, c4, c5, c6, c7, c8, c9, c10], _ => exact ⟨_, _, _, _, _, _, _, _, _, _, _, rfl⟩
  obtain ⟨x0, r0, o0⟩ := OpnM.field hall 0 _ rfl rfl rfl (by kernel_rfl : Tryd.prog.cellsOf 3 = 1) opm3
  change Ty.rep (tyInt .i64) _ [c0] x0 at r0
  change ([c0] : List Value) = [.int .i64 x0] at r0
  cases r0
  obtain ⟨x1, r1, o1⟩ := OpnM.field hall 1 _ rfl rfl rfl (by kernel_rfl : Tryd.prog.cellsOf 3 = 1) opm3
  change Ty.rep (tyInt .i64) _ [c1] x1 at r1
  change ([c1] : List Value) = [.int .i64 x1] at r1
  cases r1
  obtain ⟨x2, r2, o2⟩ := OpnM.field hall 2 _ rfl rfl rfl (by kernel_rfl : Tryd.prog.cellsOf 9 = 1) opm9
  change Ty.rep tyStr _ [c2] x2 at r2
  change ([c2] : List Value) = [.string x2] at r2
  cases r2
  obtain ⟨x3, r3, o3⟩ := OpnM.field hall 3 _ rfl rfl rfl (by kernel_rfl : Tryd.prog.cellsOf 48 = 8) opm48
  change Ty.rep ty_Arr8 _ [c3, c4, c5, c6, c7, c8, c9, c10] x3 at r3
  change ([c3, c4, c5, c6, c7, c8, c9, c10] : List Value) = [.int .i64 x3.a0, .int .i64 x3.a1, .int .i64 x3.a2, .int .i64 x3.a3, .int .i64 x3.a4, .int .i64 x3.a5, .int .i64 x3.a6, .int .i64 x3.a7] at r3
  cases r3
  exact ⟨⟨x0, x1, x2, x3⟩, rfl, ⟨o0, o1, o2, o3⟩⟩
theorem opm30 : OpnM @Rows.uptoBulk Tryd.prog 30 (tySl ty_api_Value) (fun xs => xs.length ≤ 1048576 ∧ ∀ x ∈ xs, okm_api_Value x) := opm_slice bulkMu Tryd.underlying30 (by kernel_rfl) (by decide) opm50
theorem opm32 : OpnM @Rows.uptoBulk Tryd.prog 32 ty_catchmentlaw06_Stream okm_catchmentlaw06_Stream := by
  intro H enc w held fuel cs d p h hw
  obtain ⟨hl, m, hall⟩ := struct_openM Tryd.underlying32 h bulkMu hw
  have hc : Tryd.prog.cellsOf 32 = 2 := by kernel_rfl
  rw [hc] at hl
  obtain ⟨c0, c1, rfl⟩ : ∃ c0 c1, cs = [c0, c1] := by
    match cs, hl with
    | [c0, c1], _ => exact ⟨_, _, rfl⟩
  obtain ⟨x0, r0, o0⟩ := OpnM.field hall 0 _ rfl rfl rfl (by kernel_rfl : Tryd.prog.cellsOf 9 = 1) opm9
  change Ty.rep tyStr _ [c0] x0 at r0
  change ([c0] : List Value) = [.string x0] at r0
  cases r0
  obtain ⟨x1, r1, o1⟩ := OpnM.field hall 1 _ rfl rfl rfl (by kernel_rfl : Tryd.prog.cellsOf 30 = 1) opm30
  change Ty.rep (tySl ty_api_Value) _ [c1] x1 at r1
  obtain ⟨v1, e1, s1⟩ := r1
  cases e1
  exact ⟨⟨x0, x1⟩, ⟨_, rfl, s1⟩, ⟨o0, o1⟩⟩
theorem opm22 : OpnM @Rows.uptoBulk Tryd.prog 22 (tySl ty_catchmentlaw06_Stream) (fun xs => xs.length ≤ 1048576 ∧ ∀ x ∈ xs, okm_catchmentlaw06_Stream x) := opm_slice bulkMu Tryd.underlying22 (by kernel_rfl) (by decide) opm32

end Go.Proofs.YtffleadhhhpnlaaDoor.M
