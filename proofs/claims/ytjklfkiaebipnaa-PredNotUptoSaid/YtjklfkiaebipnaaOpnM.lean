/- What reads as a datum of a type of this program, of a small bulk, lies in memory as its plain Lean value tells. -/
import Derived.Test.YtjklfkiaebipnaaPure
import Derived.Test.YtjklfkiaebipnaaBulk
import Derived.Test.YtjklfkiaebipnaaProg
namespace Go.Proofs.Ytjklfkiaebipnaa.M
open Go Go.Eng Go.Proofs Go.RowKit
set_option linter.unusedVariables false
set_option maxRecDepth 100000

def okm_api_Value (x : api_Value) : Prop := (fun x => (Lit.int .i64 x).wf = true) x.Kind ∧ (fun x => (Lit.int .i64 x).wf = true) x.N ∧ (fun s => s.size ≤ 1048576) x.S ∧ ok_Arr8 x.H
def okm_api_Agg (x : api_Agg) : Prop := (fun x => (Lit.int .i64 x).wf = true) x.Kind ∧ (fun s => s.size ≤ 1048576) x.Col
def okm_api_Node (x : api_Node) : Prop := (fun x => (Lit.int .i64 x).wf = true) x.Kind ∧ (fun s => s.size ≤ 1048576) x.S ∧ (fun x => (Lit.int .i64 x).wf = true) x.N ∧ (fun x => (Lit.int .i64 x).wf = true) x.From ∧ (fun x => (Lit.int .i64 x).wf = true) x.To ∧ okm_api_Value x.V ∧ (fun xs => xs.length ≤ 1048576 ∧ ∀ x ∈ xs, (fun x => (Lit.int .i64 x).wf = true) x) x.L ∧ (fun xs => xs.length ≤ 1048576 ∧ ∀ x ∈ xs, (fun s => s.size ≤ 1048576) x) x.Names ∧ (fun xs => xs.length ≤ 1048576 ∧ ∀ x ∈ xs, okm_api_Agg x) x.Aggs
def okm_api_Query (x : api_Query) : Prop := (fun xs => xs.length ≤ 1048576 ∧ ∀ x ∈ xs, okm_api_Node x) x.N
def okm_api_Col (x : api_Col) : Prop := (fun s => s.size ≤ 1048576) x.Name ∧ (fun x => (Lit.int .i64 x).wf = true) x.Kind
def okm_api_Table (x : api_Table) : Prop := (fun xs => xs.length ≤ 1048576 ∧ ∀ x ∈ xs, okm_api_Col x) x.Cols ∧ (fun xs => xs.length ≤ 1048576 ∧ ∀ x ∈ xs, (fun xs => xs.length ≤ 1048576 ∧ ∀ x ∈ xs, okm_api_Value x) x) x.Rows

theorem opm3 : OpnM @Rows.uptoBulk Try.prog 3 (tyInt .i64) (fun x => (Lit.int .i64 x).wf = true) := opm_int Try.underlying3
theorem opm9 : OpnM @Rows.uptoBulk Try.prog 9 tyStr (fun s => s.size ≤ 1048576) := opm_str bulkMu Try.underlying9
theorem opm37 : OpnM @Rows.uptoBulk Try.prog 37 ty_Arr8 ok_Arr8 := opm_Arr8 Try.underlying37 (by kernel_rfl) (by kernel_rfl) Try.underlying3
theorem opm39 : OpnM @Rows.uptoBulk Try.prog 39 ty_api_Value okm_api_Value := by
  intro H enc w held fuel cs d p h hw
  obtain ⟨hl, m, hall⟩ := struct_openM Try.underlying39 h bulkMu hw
  have hc : Try.prog.cellsOf 39 = 11 := by kernel_rfl
  rw [hc] at hl
  obtain ⟨c0, c1, c2, c3, c4, c5, c6, c7, c8, c9, c10, rfl⟩ : ∃ c0 c1 c2 c3 c4 c5 c6 c7 c8 c9 c10, cs = [c0, c1, c2, c3, c4, c5, c6, c7, c8, c9, c10] := by
    match cs, hl with
    | [c0, c1, c2, c3, c4, c5, c6, c7, c8, c9, c10], _ => exact ⟨_, _, _, _, _, _, _, _, _, _, _, rfl⟩
  obtain ⟨x0, r0, o0⟩ := OpnM.field hall 0 _ rfl rfl rfl (by kernel_rfl : Try.prog.cellsOf 3 = 1) opm3
  change Ty.rep (tyInt .i64) _ [c0] x0 at r0
  change ([c0] : List Value) = [.int .i64 x0] at r0
  cases r0
  obtain ⟨x1, r1, o1⟩ := OpnM.field hall 1 _ rfl rfl rfl (by kernel_rfl : Try.prog.cellsOf 3 = 1) opm3
  change Ty.rep (tyInt .i64) _ [c1] x1 at r1
  change ([c1] : List Value) = [.int .i64 x1] at r1
  cases r1
  obtain ⟨x2, r2, o2⟩ := OpnM.field hall 2 _ rfl rfl rfl (by kernel_rfl : Try.prog.cellsOf 9 = 1) opm9
  change Ty.rep tyStr _ [c2] x2 at r2
  change ([c2] : List Value) = [.string x2] at r2
  cases r2
  obtain ⟨x3, r3, o3⟩ := OpnM.field hall 3 _ rfl rfl rfl (by kernel_rfl : Try.prog.cellsOf 37 = 8) opm37
  change Ty.rep ty_Arr8 _ [c3, c4, c5, c6, c7, c8, c9, c10] x3 at r3
  change ([c3, c4, c5, c6, c7, c8, c9, c10] : List Value) = [.int .i64 x3.a0, .int .i64 x3.a1, .int .i64 x3.a2, .int .i64 x3.a3, .int .i64 x3.a4, .int .i64 x3.a5, .int .i64 x3.a6, .int .i64 x3.a7] at r3
  cases r3
  exact ⟨⟨x0, x1, x2, x3⟩, rfl, ⟨o0, o1, o2, o3⟩⟩
theorem opm47 : OpnM @Rows.uptoBulk Try.prog 47 (tySl (tyInt .i64)) (fun xs => xs.length ≤ 1048576 ∧ ∀ x ∈ xs, (fun x => (Lit.int .i64 x).wf = true) x) := opm_slice bulkMu Try.underlying47 (by kernel_rfl) (by decide) opm3
theorem opm48 : OpnM @Rows.uptoBulk Try.prog 48 (tySl tyStr) (fun xs => xs.length ≤ 1048576 ∧ ∀ x ∈ xs, (fun s => s.size ≤ 1048576) x) := opm_slice bulkMu Try.underlying48 (by kernel_rfl) (by decide) opm9
theorem opm124 : OpnM @Rows.uptoBulk Try.prog 124 ty_api_Agg okm_api_Agg := by
  intro H enc w held fuel cs d p h hw
  obtain ⟨hl, m, hall⟩ := struct_openM Try.underlying124 h bulkMu hw
  have hc : Try.prog.cellsOf 124 = 2 := by kernel_rfl
  rw [hc] at hl
  obtain ⟨c0, c1, rfl⟩ : ∃ c0 c1, cs = [c0, c1] := by
    match cs, hl with
    | [c0, c1], _ => exact ⟨_, _, rfl⟩
  obtain ⟨x0, r0, o0⟩ := OpnM.field hall 0 _ rfl rfl rfl (by kernel_rfl : Try.prog.cellsOf 3 = 1) opm3
  change Ty.rep (tyInt .i64) _ [c0] x0 at r0
  change ([c0] : List Value) = [.int .i64 x0] at r0
  cases r0
  obtain ⟨x1, r1, o1⟩ := OpnM.field hall 1 _ rfl rfl rfl (by kernel_rfl : Try.prog.cellsOf 9 = 1) opm9
  change Ty.rep tyStr _ [c1] x1 at r1
  change ([c1] : List Value) = [.string x1] at r1
  cases r1
  exact ⟨⟨x0, x1⟩, rfl, ⟨o0, o1⟩⟩
theorem opm49 : OpnM @Rows.uptoBulk Try.prog 49 (tySl ty_api_Agg) (fun xs => xs.length ≤ 1048576 ∧ ∀ x ∈ xs, okm_api_Agg x) := opm_slice bulkMu Try.underlying49 (by kernel_rfl) (by decide) opm124
theorem opm51 : OpnM @Rows.uptoBulk Try.prog 51 ty_api_Node okm_api_Node := by
  intro H enc w held fuel cs d p h hw
  obtain ⟨hl, m, hall⟩ := struct_openM Try.underlying51 h bulkMu hw
  have hc : Try.prog.cellsOf 51 = 19 := by kernel_rfl
  rw [hc] at hl
  obtain ⟨c0, c1, c2, c3, c4, c5, c6, c7, c8, c9, c10, c11, c12, c13, c14, c15, c16, c17, c18, rfl⟩ : ∃ c0 c1 c2 c3 c4 c5 c6 c7 c8 c9 c10 c11 c12 c13 c14 c15 c16 c17 c18, cs = [c0, c1, c2, c3, c4, c5, c6, c7, c8, c9, c10, c11, c12, c13, c14, c15, c16, c17, c18] := by
    match cs, hl with
    | [c0, c1, c2, c3, c4, c5, c6, c7, c8, c9, c10, c11, c12, c13, c14, c15, c16, c17, c18], _ => exact ⟨_, _, _, _, _, _, _, _, _, _, _, _, _, _, _, _, _, _, _, rfl⟩
  obtain ⟨x0, r0, o0⟩ := OpnM.field hall 0 _ rfl rfl rfl (by kernel_rfl : Try.prog.cellsOf 3 = 1) opm3
  change Ty.rep (tyInt .i64) _ [c0] x0 at r0
  change ([c0] : List Value) = [.int .i64 x0] at r0
  cases r0
  obtain ⟨x1, r1, o1⟩ := OpnM.field hall 1 _ rfl rfl rfl (by kernel_rfl : Try.prog.cellsOf 9 = 1) opm9
  change Ty.rep tyStr _ [c1] x1 at r1
  change ([c1] : List Value) = [.string x1] at r1
  cases r1
  obtain ⟨x2, r2, o2⟩ := OpnM.field hall 2 _ rfl rfl rfl (by kernel_rfl : Try.prog.cellsOf 3 = 1) opm3
  change Ty.rep (tyInt .i64) _ [c2] x2 at r2
  change ([c2] : List Value) = [.int .i64 x2] at r2
  cases r2
  obtain ⟨x3, r3, o3⟩ := OpnM.field hall 3 _ rfl rfl rfl (by kernel_rfl : Try.prog.cellsOf 3 = 1) opm3
  change Ty.rep (tyInt .i64) _ [c3] x3 at r3
  change ([c3] : List Value) = [.int .i64 x3] at r3
  cases r3
  obtain ⟨x4, r4, o4⟩ := OpnM.field hall 4 _ rfl rfl rfl (by kernel_rfl : Try.prog.cellsOf 3 = 1) opm3
  change Ty.rep (tyInt .i64) _ [c4] x4 at r4
  change ([c4] : List Value) = [.int .i64 x4] at r4
  cases r4
  obtain ⟨x5, r5, o5⟩ := OpnM.field hall 5 _ rfl rfl rfl (by kernel_rfl : Try.prog.cellsOf 39 = 11) opm39
  change Ty.rep ty_api_Value _ [c5, c6, c7, c8, c9, c10, c11, c12, c13, c14, c15] x5 at r5
  change ([c5, c6, c7, c8, c9, c10, c11, c12, c13, c14, c15] : List Value) = [.int .i64 x5.Kind, .int .i64 x5.N, .string x5.S, .int .i64 x5.H.a0, .int .i64 x5.H.a1, .int .i64 x5.H.a2, .int .i64 x5.H.a3, .int .i64 x5.H.a4, .int .i64 x5.H.a5, .int .i64 x5.H.a6, .int .i64 x5.H.a7] at r5
  cases r5
  obtain ⟨x6, r6, o6⟩ := OpnM.field hall 6 _ rfl rfl rfl (by kernel_rfl : Try.prog.cellsOf 47 = 1) opm47
  change Ty.rep (tySl (tyInt .i64)) _ [c16] x6 at r6
  obtain ⟨v6, e6, s6⟩ := r6
  cases e6
  obtain ⟨x7, r7, o7⟩ := OpnM.field hall 7 _ rfl rfl rfl (by kernel_rfl : Try.prog.cellsOf 48 = 1) opm48
  change Ty.rep (tySl tyStr) _ [c17] x7 at r7
  obtain ⟨v7, e7, s7⟩ := r7
  cases e7
  obtain ⟨x8, r8, o8⟩ := OpnM.field hall 8 _ rfl rfl rfl (by kernel_rfl : Try.prog.cellsOf 49 = 1) opm49
  change Ty.rep (tySl ty_api_Agg) _ [c18] x8 at r8
  obtain ⟨v8, e8, s8⟩ := r8
  cases e8
  exact ⟨⟨x0, x1, x2, x3, x4, x5, x6, x7, x8⟩, ⟨_, _, _, rfl, s6, s7, s8⟩, ⟨o0, o1, o2, o3, o4, o5, o6, o7, o8⟩⟩
theorem opm22 : OpnM @Rows.uptoBulk Try.prog 22 (tySl ty_api_Node) (fun xs => xs.length ≤ 1048576 ∧ ∀ x ∈ xs, okm_api_Node x) := opm_slice bulkMu Try.underlying22 (by kernel_rfl) (by decide) opm51
theorem opm24 : OpnM @Rows.uptoBulk Try.prog 24 ty_api_Query okm_api_Query := by
  intro H enc w held fuel cs d p h hw
  obtain ⟨hl, m, hall⟩ := struct_openM Try.underlying24 h bulkMu hw
  have hc : Try.prog.cellsOf 24 = 1 := by kernel_rfl
  rw [hc] at hl
  obtain ⟨c0, rfl⟩ : ∃ c0, cs = [c0] := by
    match cs, hl with
    | [c0], _ => exact ⟨_, rfl⟩
  obtain ⟨x0, r0, o0⟩ := OpnM.field hall 0 _ rfl rfl rfl (by kernel_rfl : Try.prog.cellsOf 22 = 1) opm22
  change Ty.rep (tySl ty_api_Node) _ [c0] x0 at r0
  obtain ⟨v0, e0, s0⟩ := r0
  cases e0
  exact ⟨⟨x0⟩, ⟨_, rfl, s0⟩, o0⟩
theorem opm57 : OpnM @Rows.uptoBulk Try.prog 57 ty_api_Col okm_api_Col := by
  intro H enc w held fuel cs d p h hw
  obtain ⟨hl, m, hall⟩ := struct_openM Try.underlying57 h bulkMu hw
  have hc : Try.prog.cellsOf 57 = 2 := by kernel_rfl
  rw [hc] at hl
  obtain ⟨c0, c1, rfl⟩ : ∃ c0 c1, cs = [c0, c1] := by
    match cs, hl with
    | [c0, c1], _ => exact ⟨_, _, rfl⟩
  obtain ⟨x0, r0, o0⟩ := OpnM.field hall 0 _ rfl rfl rfl (by kernel_rfl : Try.prog.cellsOf 9 = 1) opm9
  change Ty.rep tyStr _ [c0] x0 at r0
  change ([c0] : List Value) = [.string x0] at r0
  cases r0
  obtain ⟨x1, r1, o1⟩ := OpnM.field hall 1 _ rfl rfl rfl (by kernel_rfl : Try.prog.cellsOf 3 = 1) opm3
  change Ty.rep (tyInt .i64) _ [c1] x1 at r1
  change ([c1] : List Value) = [.int .i64 x1] at r1
  cases r1
  exact ⟨⟨x0, x1⟩, rfl, ⟨o0, o1⟩⟩
theorem opm25 : OpnM @Rows.uptoBulk Try.prog 25 (tySl ty_api_Col) (fun xs => xs.length ≤ 1048576 ∧ ∀ x ∈ xs, okm_api_Col x) := opm_slice bulkMu Try.underlying25 (by kernel_rfl) (by decide) opm57
theorem opm33 : OpnM @Rows.uptoBulk Try.prog 33 (tySl ty_api_Value) (fun xs => xs.length ≤ 1048576 ∧ ∀ x ∈ xs, okm_api_Value x) := opm_slice bulkMu Try.underlying33 (by kernel_rfl) (by decide) opm39
theorem opm26 : OpnM @Rows.uptoBulk Try.prog 26 (tySl (tySl ty_api_Value)) (fun xs => xs.length ≤ 1048576 ∧ ∀ x ∈ xs, (fun xs => xs.length ≤ 1048576 ∧ ∀ x ∈ xs, okm_api_Value x) x) := opm_slice bulkMu Try.underlying26 (by kernel_rfl) (by decide) opm33
theorem opm28 : OpnM @Rows.uptoBulk Try.prog 28 ty_api_Table okm_api_Table := by
  intro H enc w held fuel cs d p h hw
  obtain ⟨hl, m, hall⟩ := struct_openM Try.underlying28 h bulkMu hw
  have hc : Try.prog.cellsOf 28 = 2 := by kernel_rfl
  rw [hc] at hl
  obtain ⟨c0, c1, rfl⟩ : ∃ c0 c1, cs = [c0, c1] := by
    match cs, hl with
    | [c0, c1], _ => exact ⟨_, _, rfl⟩
  obtain ⟨x0, r0, o0⟩ := OpnM.field hall 0 _ rfl rfl rfl (by kernel_rfl : Try.prog.cellsOf 25 = 1) opm25
  change Ty.rep (tySl ty_api_Col) _ [c0] x0 at r0
  obtain ⟨v0, e0, s0⟩ := r0
  cases e0
  obtain ⟨x1, r1, o1⟩ := OpnM.field hall 1 _ rfl rfl rfl (by kernel_rfl : Try.prog.cellsOf 26 = 1) opm26
  change Ty.rep (tySl (tySl ty_api_Value)) _ [c1] x1 at r1
  obtain ⟨v1, e1, s1⟩ := r1
  cases e1
  exact ⟨⟨x0, x1⟩, ⟨_, _, rfl, s0, s1⟩, ⟨o0, o1⟩⟩

end Go.Proofs.Ytjklfkiaebipnaa.M
