/- What reads as a datum of a type of this program lies in memory as its plain Lean value tells. -/
import Derived.Test.YtjimddbbpjpgdaaPure
import Derived.Test.YtjimddbbpjpgdaaEngL
import Derived.Test.YtjimddbbpjpgdaaProg
namespace Go.Proofs.Ytjimddbbpjpgdaa.M
open Go Go.Eng Go.Proofs Go.RowKit
set_option linter.unusedVariables false
set_option maxRecDepth 100000



theorem opn9 : Opn Try.prog 9 tyStr (fun s => s.size ≤ 140737488351232) := opn_str Try.underlying9
theorem opn3 : Opn Try.prog 3 (tyInt .i64) (fun x => (Lit.int .i64 x).wf = true) := opn_int Try.underlying3
theorem opn38 : Opn Try.prog 38 ty_api_Col ok_api_Col := by
  intro H enc w held fuel cs d p h hw
  obtain ⟨hl, m, hall⟩ := struct_open Try.underlying38 h hw
  have hc : Try.prog.cellsOf 38 = 2 := by kernel_rfl
  rw [hc] at hl
  obtain ⟨c0, c1, rfl⟩ : ∃ c0 c1, cs = [c0, c1] := by
    match cs, hl with
    | [c0, c1], _ => exact ⟨_, _, rfl⟩
  obtain ⟨x0, r0, o0⟩ := Opn.field hall 0 _ rfl rfl rfl (by kernel_rfl : Try.prog.cellsOf 9 = 1) opn9
  change Ty.rep tyStr _ [c0] x0 at r0
  change ([c0] : List Value) = [.string x0] at r0
  cases r0
  obtain ⟨x1, r1, o1⟩ := Opn.field hall 1 _ rfl rfl rfl (by kernel_rfl : Try.prog.cellsOf 3 = 1) opn3
  change Ty.rep (tyInt .i64) _ [c1] x1 at r1
  change ([c1] : List Value) = [.int .i64 x1] at r1
  cases r1
  exact ⟨⟨x0, x1⟩, rfl, ⟨o0, o1⟩⟩
theorem opn22 : Opn Try.prog 22 (tySl ty_api_Col) (fun xs => xs.length * 24 ≤ 140737488351232 ∧ ∀ x ∈ xs, ok_api_Col x) := opn_slice Try.underlying22 (by kernel_rfl) (by decide) (by kernel_rfl) opn38
theorem opn41 : Opn Try.prog 41 ty_Arr8 ok_Arr8 := opn_Arr8 Try.underlying41 (by kernel_rfl) (by kernel_rfl) Try.underlying3
theorem opn43 : Opn Try.prog 43 ty_api_Value ok_api_Value := by
  intro H enc w held fuel cs d p h hw
  obtain ⟨hl, m, hall⟩ := struct_open Try.underlying43 h hw
  have hc : Try.prog.cellsOf 43 = 11 := by kernel_rfl
  rw [hc] at hl
  obtain ⟨c0, c1, c2, c3, c4, c5, c6, c7, c8, c9, c10, rfl⟩ : ∃ c0 c1 c2 c3 c4 c5 c6 c7 c8 c9 c10, cs = [c0, c1, c2, c3, c4, c5, c6, c7, c8, c9, c10] := by
    match cs, hl with
    | [c0, c1, c2, c3, c4, c5, c6, c7, c8, c9, c10], _ => exact ⟨_, _, _, _, _, _, _, _, _, _, _, rfl⟩
  obtain ⟨x0, r0, o0⟩ := Opn.field hall 0 _ rfl rfl rfl (by kernel_rfl : Try.prog.cellsOf 3 = 1) opn3
  change Ty.rep (tyInt .i64) _ [c0] x0 at r0
  change ([c0] : List Value) = [.int .i64 x0] at r0
  cases r0
  obtain ⟨x1, r1, o1⟩ := Opn.field hall 1 _ rfl rfl rfl (by kernel_rfl : Try.prog.cellsOf 3 = 1) opn3
  change Ty.rep (tyInt .i64) _ [c1] x1 at r1
  change ([c1] : List Value) = [.int .i64 x1] at r1
  cases r1
  obtain ⟨x2, r2, o2⟩ := Opn.field hall 2 _ rfl rfl rfl (by kernel_rfl : Try.prog.cellsOf 9 = 1) opn9
  change Ty.rep tyStr _ [c2] x2 at r2
  change ([c2] : List Value) = [.string x2] at r2
  cases r2
  obtain ⟨x3, r3, o3⟩ := Opn.field hall 3 _ rfl rfl rfl (by kernel_rfl : Try.prog.cellsOf 41 = 8) opn41
  change Ty.rep ty_Arr8 _ [c3, c4, c5, c6, c7, c8, c9, c10] x3 at r3
  change ([c3, c4, c5, c6, c7, c8, c9, c10] : List Value) = [.int .i64 x3.a0, .int .i64 x3.a1, .int .i64 x3.a2, .int .i64 x3.a3, .int .i64 x3.a4, .int .i64 x3.a5, .int .i64 x3.a6, .int .i64 x3.a7] at r3
  cases r3
  exact ⟨⟨x0, x1, x2, x3⟩, rfl, ⟨o0, o1, o2, o3⟩⟩
theorem opn44 : Opn Try.prog 44 (tySl ty_api_Value) (fun xs => xs.length * 96 ≤ 140737488351232 ∧ ∀ x ∈ xs, ok_api_Value x) := opn_slice Try.underlying44 (by kernel_rfl) (by decide) (by kernel_rfl) opn43
theorem opn23 : Opn Try.prog 23 (tySl (tySl ty_api_Value)) (fun xs => xs.length * 24 ≤ 140737488351232 ∧ ∀ x ∈ xs, (fun xs => xs.length * 96 ≤ 140737488351232 ∧ ∀ x ∈ xs, ok_api_Value x) x) := opn_slice Try.underlying23 (by kernel_rfl) (by decide) (by kernel_rfl) opn44
theorem opn25 : Opn Try.prog 25 ty_api_Table ok_api_Table := by
  intro H enc w held fuel cs d p h hw
  obtain ⟨hl, m, hall⟩ := struct_open Try.underlying25 h hw
  have hc : Try.prog.cellsOf 25 = 2 := by kernel_rfl
  rw [hc] at hl
  obtain ⟨c0, c1, rfl⟩ : ∃ c0 c1, cs = [c0, c1] := by
    match cs, hl with
    | [c0, c1], _ => exact ⟨_, _, rfl⟩
  obtain ⟨x0, r0, o0⟩ := Opn.field hall 0 _ rfl rfl rfl (by kernel_rfl : Try.prog.cellsOf 22 = 1) opn22
  change Ty.rep (tySl ty_api_Col) _ [c0] x0 at r0
  obtain ⟨v0, e0, s0⟩ := r0
  cases e0
  obtain ⟨x1, r1, o1⟩ := Opn.field hall 1 _ rfl rfl rfl (by kernel_rfl : Try.prog.cellsOf 23 = 1) opn23
  change Ty.rep (tySl (tySl ty_api_Value)) _ [c1] x1 at r1
  obtain ⟨v1, e1, s1⟩ := r1
  cases e1
  exact ⟨⟨x0, x1⟩, ⟨_, _, rfl, s0, s1⟩, ⟨o0, o1⟩⟩
theorem opn47 : Opn Try.prog 47 (tySl (tyInt .i64)) (fun xs => xs.length * 8 ≤ 140737488351232 ∧ ∀ x ∈ xs, (fun x => (Lit.int .i64 x).wf = true) x) := opn_slice Try.underlying47 (by kernel_rfl) (by decide) (by kernel_rfl) opn3
theorem opn35 : Opn Try.prog 35 ty_Arr2 ok_Arr2 := opn_Arr2 Try.underlying35 (by kernel_rfl) (by kernel_rfl) Try.underlying3
theorem opn82 : Opn Try.prog 82 (tySl tyStr) (fun xs => xs.length * 16 ≤ 140737488351232 ∧ ∀ x ∈ xs, (fun s => s.size ≤ 140737488351232) x) := opn_slice Try.underlying82 (by kernel_rfl) (by decide) (by kernel_rfl) opn9
theorem opn132 : Opn Try.prog 132 ty_api_Agg ok_api_Agg := by
  intro H enc w held fuel cs d p h hw
  obtain ⟨hl, m, hall⟩ := struct_open Try.underlying132 h hw
  have hc : Try.prog.cellsOf 132 = 2 := by kernel_rfl
  rw [hc] at hl
  obtain ⟨c0, c1, rfl⟩ : ∃ c0 c1, cs = [c0, c1] := by
    match cs, hl with
    | [c0, c1], _ => exact ⟨_, _, rfl⟩
  obtain ⟨x0, r0, o0⟩ := Opn.field hall 0 _ rfl rfl rfl (by kernel_rfl : Try.prog.cellsOf 3 = 1) opn3
  change Ty.rep (tyInt .i64) _ [c0] x0 at r0
  change ([c0] : List Value) = [.int .i64 x0] at r0
  cases r0
  obtain ⟨x1, r1, o1⟩ := Opn.field hall 1 _ rfl rfl rfl (by kernel_rfl : Try.prog.cellsOf 9 = 1) opn9
  change Ty.rep tyStr _ [c1] x1 at r1
  change ([c1] : List Value) = [.string x1] at r1
  cases r1
  exact ⟨⟨x0, x1⟩, rfl, ⟨o0, o1⟩⟩
theorem opn83 : Opn Try.prog 83 (tySl ty_api_Agg) (fun xs => xs.length * 24 ≤ 140737488351232 ∧ ∀ x ∈ xs, ok_api_Agg x) := opn_slice Try.underlying83 (by kernel_rfl) (by decide) (by kernel_rfl) opn132
theorem opn85 : Opn Try.prog 85 ty_api_Node ok_api_Node := by
  intro H enc w held fuel cs d p h hw
  obtain ⟨hl, m, hall⟩ := struct_open Try.underlying85 h hw
  have hc : Try.prog.cellsOf 85 = 19 := by kernel_rfl
  rw [hc] at hl
  obtain ⟨c0, c1, c2, c3, c4, c5, c6, c7, c8, c9, c10, c11, c12, c13, c14, c15, c16, c17, c18, rfl⟩ : ∃ c0 c1 c2 c3 c4 c5 c6 c7 c8 c9 c10 c11 c12 c13 c14 c15 c16 c17 c18, cs = [c0, c1, c2, c3, c4, c5, c6, c7, c8, c9, c10, c11, c12, c13, c14, c15, c16, c17, c18] := by
    match cs, hl with
    | [c0, c1, c2, c3, c4, c5, c6, c7, c8, c9, c10, c11, c12, c13, c14, c15, c16, c17, c18], _ => exact ⟨_, _, _, _, _, _, _, _, _, _, _, _, _, _, _, _, _, _, _, rfl⟩
  obtain ⟨x0, r0, o0⟩ := Opn.field hall 0 _ rfl rfl rfl (by kernel_rfl : Try.prog.cellsOf 3 = 1) opn3
  change Ty.rep (tyInt .i64) _ [c0] x0 at r0
  change ([c0] : List Value) = [.int .i64 x0] at r0
  cases r0
  obtain ⟨x1, r1, o1⟩ := Opn.field hall 1 _ rfl rfl rfl (by kernel_rfl : Try.prog.cellsOf 9 = 1) opn9
  change Ty.rep tyStr _ [c1] x1 at r1
  change ([c1] : List Value) = [.string x1] at r1
  cases r1
  obtain ⟨x2, r2, o2⟩ := Opn.field hall 2 _ rfl rfl rfl (by kernel_rfl : Try.prog.cellsOf 3 = 1) opn3
  change Ty.rep (tyInt .i64) _ [c2] x2 at r2
  change ([c2] : List Value) = [.int .i64 x2] at r2
  cases r2
  obtain ⟨x3, r3, o3⟩ := Opn.field hall 3 _ rfl rfl rfl (by kernel_rfl : Try.prog.cellsOf 3 = 1) opn3
  change Ty.rep (tyInt .i64) _ [c3] x3 at r3
  change ([c3] : List Value) = [.int .i64 x3] at r3
  cases r3
  obtain ⟨x4, r4, o4⟩ := Opn.field hall 4 _ rfl rfl rfl (by kernel_rfl : Try.prog.cellsOf 3 = 1) opn3
  change Ty.rep (tyInt .i64) _ [c4] x4 at r4
  change ([c4] : List Value) = [.int .i64 x4] at r4
  cases r4
  obtain ⟨x5, r5, o5⟩ := Opn.field hall 5 _ rfl rfl rfl (by kernel_rfl : Try.prog.cellsOf 43 = 11) opn43
  change Ty.rep ty_api_Value _ [c5, c6, c7, c8, c9, c10, c11, c12, c13, c14, c15] x5 at r5
  change ([c5, c6, c7, c8, c9, c10, c11, c12, c13, c14, c15] : List Value) = [.int .i64 x5.Kind, .int .i64 x5.N, .string x5.S, .int .i64 x5.H.a0, .int .i64 x5.H.a1, .int .i64 x5.H.a2, .int .i64 x5.H.a3, .int .i64 x5.H.a4, .int .i64 x5.H.a5, .int .i64 x5.H.a6, .int .i64 x5.H.a7] at r5
  cases r5
  obtain ⟨x6, r6, o6⟩ := Opn.field hall 6 _ rfl rfl rfl (by kernel_rfl : Try.prog.cellsOf 47 = 1) opn47
  change Ty.rep (tySl (tyInt .i64)) _ [c16] x6 at r6
  obtain ⟨v6, e6, s6⟩ := r6
  cases e6
  obtain ⟨x7, r7, o7⟩ := Opn.field hall 7 _ rfl rfl rfl (by kernel_rfl : Try.prog.cellsOf 82 = 1) opn82
  change Ty.rep (tySl tyStr) _ [c17] x7 at r7
  obtain ⟨v7, e7, s7⟩ := r7
  cases e7
  obtain ⟨x8, r8, o8⟩ := Opn.field hall 8 _ rfl rfl rfl (by kernel_rfl : Try.prog.cellsOf 83 = 1) opn83
  change Ty.rep (tySl ty_api_Agg) _ [c18] x8 at r8
  obtain ⟨v8, e8, s8⟩ := r8
  cases e8
  exact ⟨⟨x0, x1, x2, x3, x4, x5, x6, x7, x8⟩, ⟨_, _, _, rfl, s6, s7, s8⟩, ⟨o0, o1, o2, o3, o4, o5, o6, o7, o8⟩⟩
theorem opn50 : Opn Try.prog 50 (tySl ty_api_Node) (fun xs => xs.length * 216 ≤ 140737488351232 ∧ ∀ x ∈ xs, ok_api_Node x) := opn_slice Try.underlying50 (by kernel_rfl) (by decide) (by kernel_rfl) opn85
theorem opn52 : Opn Try.prog 52 ty_api_Query ok_api_Query := by
  intro H enc w held fuel cs d p h hw
  obtain ⟨hl, m, hall⟩ := struct_open Try.underlying52 h hw
  have hc : Try.prog.cellsOf 52 = 1 := by kernel_rfl
  rw [hc] at hl
  obtain ⟨c0, rfl⟩ : ∃ c0, cs = [c0] := by
    match cs, hl with
    | [c0], _ => exact ⟨_, rfl⟩
  obtain ⟨x0, r0, o0⟩ := Opn.field hall 0 _ rfl rfl rfl (by kernel_rfl : Try.prog.cellsOf 50 = 1) opn50
  change Ty.rep (tySl ty_api_Node) _ [c0] x0 at r0
  obtain ⟨v0, e0, s0⟩ := r0
  cases e0
  exact ⟨⟨x0⟩, ⟨_, rfl, s0⟩, o0⟩

end Go.Proofs.Ytjimddbbpjpgdaa.M
