/- Each Go function of the laws answers as its plain Lean function tells, wherever that tells something. Printed by wip/eng/gen.py. -/
import Derived.Test.YtjimddbbpjpgdaaPure
import Derived.Test.YtjimddbbpjpgdaaProg
import Derived.Shelf.Strings.Search3
namespace Go.Proofs.Ytjimddbbpjpgdaa.M
open Go Go.Eng Go.Proofs Go.RowKit
set_option linter.unusedVariables false
set_option linter.unusedSimpArgs false

theorem mixed : Try.prog.follows .mixedOrders = true := by kernel_rfl
def GF (RA : Hp) : Prop := (∀ w, RA.sub w → ∃ m, w.cell? ⟨0, 0, none⟩ = some (.int .i64 m))
theorem GF.mono {R R' : Hp} (h : R.le R') (g : GF R) : GF R' := fun w hw => g w (fun k u hk => hw k u (h k u hk))
theorem GF_maxlen {RA : Hp} {w : World} (g : GF RA) (h : RA.sub w) : ∃ m, w.cell? ⟨0, 0, none⟩ = some (.int .i64 m) := g w h
set_option maxRecDepth 100000 in
theorem elT23 : ElT Try.prog 23 44 1 24 := ⟨Try.underlying23, ⟨Try.t44, _, Try.type44, rfl, rfl, rfl, rfl⟩, by decide⟩
set_option maxRecDepth 100000 in
theorem elT22 : ElT Try.prog 22 38 2 24 := ⟨Try.underlying22, ⟨Try.t38, _, Try.type38, rfl, rfl, rfl, rfl⟩, by decide⟩
set_option maxRecDepth 100000 in
theorem elT44 : ElT Try.prog 44 43 11 96 := ⟨Try.underlying44, ⟨Try.t43, _, Try.type43, rfl, rfl, rfl, rfl⟩, by decide⟩
set_option maxRecDepth 100000 in
theorem elT81 : ElT Try.prog 81 4 1 1 := ⟨Try.underlying81, ⟨Try.t4, _, Try.type4, rfl, rfl, rfl, rfl⟩, by decide⟩
theorem ext83 (a b : ByteArray) (w : World) : (callFunc 83 #[.string a, .string b]).run Try.prog w = .ok (.value (.int .i64 (Lib.compareBytes a.data.toList b.data.toList))) w := by
  rw [run_callFunc_extern Try.func83 (by kernel_rfl) (by kernel_rfl) (by kernel_rfl) (e := Extern.BytealgCompare.compare) (by kernel_rfl), Lib.run_compareString]
  rfl
theorem places38 (w : World) : (placesOf Try.prog 38).run Try.prog w = .ok #[(0, 1), (1, 1)] w := by
  unfold placesOf
  rw [Try.underlying38]
  simp [Try.sizeOf3, Try.sizeOf9]
theorem places25 (w : World) : (placesOf Try.prog 25).run Try.prog w = .ok #[(0, 1), (1, 1)] w := by
  unfold placesOf
  rw [Try.underlying25]
  simp [Try.sizeOf22, Try.sizeOf23]
theorem places43 (w : World) : (placesOf Try.prog 43).run Try.prog w = .ok #[(0, 1), (1, 1), (2, 1), (3, 8)] w := by
  unfold placesOf
  rw [Try.underlying43]
  simp [Try.sizeOf3, Try.sizeOf41, Try.sizeOf9]
theorem eqs43 (x y : api_Value) : EqS Try.prog 43 #[.int .i64 x.Kind, .int .i64 x.N, .string x.S, .int .i64 x.H.a0, .int .i64 x.H.a1, .int .i64 x.H.a2, .int .i64 x.H.a3, .int .i64 x.H.a4, .int .i64 x.H.a5, .int .i64 x.H.a6, .int .i64 x.H.a7] #[.int .i64 y.Kind, .int .i64 y.N, .string y.S, .int .i64 y.H.a0, .int .i64 y.H.a1, .int .i64 y.H.a2, .int .i64 y.H.a3, .int .i64 y.H.a4, .int .i64 y.H.a5, .int .i64 y.H.a6, .int .i64 y.H.a7] (decide (x = y)) := by
  refine eqS_of (by kernel_rfl) (by kernel_rfl) (fun w => by
    simp only [Program.fieldsOf, Try.underlying43]
    exact eqF_cons (by decide) (run_part1 Try.isAgg3 rfl) (run_part1 Try.isAgg3 rfl) (run_equalIn_int w _ _ _ _ _ _ Try.underlying3) (eqF_cons (by decide) (run_part1 Try.isAgg3 rfl) (run_part1 Try.isAgg3 rfl) (run_equalIn_int w _ _ _ _ _ _ Try.underlying3) (eqF_cons (by decide) (run_part1 Try.isAgg9 rfl) (run_part1 Try.isAgg9 rfl) (run_equalIn_string w _ _ _ _ Try.underlying9) (eqF_cons (by decide) (run_partA (ys := (x.H.list.map (Value.int .i64)).toArray) Try.isAgg41 Try.sizeOf41 rfl) (run_partA (ys := (y.H.list.map (Value.int .i64)).toArray) Try.isAgg41 Try.sizeOf41 rfl) (eq_arr' (q := 9998) Try.underlying41 (fun a b w => run_equalIn_int w 9997 _ _ _ a b Try.underlying3) Try.isAgg3 Try.sizeOf3 x.H.list y.H.list rfl rfl w) (eqF_nil))))) ?_
  simp only [beq_bytes, Arr8.list_inj, Arr2.list_inj, Bool.and_true]
  cases x; cases y; simp <;> rfl
theorem eqs38 (x y : api_Col) : EqS Try.prog 38 #[.string x.Name, .int .i64 x.Kind] #[.string y.Name, .int .i64 y.Kind] (decide (x = y)) := by
  refine eqS_of (by kernel_rfl) (by kernel_rfl) (fun w => by
    simp only [Program.fieldsOf, Try.underlying38]
    exact eqF_cons (by decide) (run_part1 Try.isAgg9 rfl) (run_part1 Try.isAgg9 rfl) (run_equalIn_string w _ _ _ _ Try.underlying9) (eqF_cons (by decide) (run_part1 Try.isAgg3 rfl) (run_part1 Try.isAgg3 rfl) (run_equalIn_int w _ _ _ _ _ _ Try.underlying3) (eqF_nil))) ?_
  simp only [beq_bytes, Arr8.list_inj, Arr2.list_inj, Bool.and_true]
  cases x; cases y; simp <;> rfl
def sortL45_ren : Go.Shelf.Ren := ⟨fun | 6 => 45 | 15 => 59 | 14 => 58 | 28 => 80 | 29 => 81 | 20 => 61 | 21 => 73 | 22 => 74 | 23 => 75 | 24 => 76 | 25 => 77 | 26 => 78 | 27 => 79 | 46 => 86 | 47 => 87 | 48 => 88 | 49 => 89 | 50 => 90 | 57 => 93 | n => n, fun | 22 => 23 | 24 => 44 | 25 => 60 | 3 => 3 | 39 => 77 | 0 => 0 | 53 => 99 | 55 => 101 | 4 => 4 | 46 => 92 | 45 => 91 | 50 => 96 | 5 => 5 | 9 => 9 | 66 => 103 | 70 => 107 | 76 => 109 | 77 => 110 | n => n, fun | n => n⟩
theorem sortL45 : Go.Proofs.SlLaysF.n6 Try.prog sortL45_ren := {
  mixed := by kernel_rfl
  f6 := ⟨Try.f45.name, by decide, Try.func45.trans (congrArg some (by kernel_rfl))⟩
  f14 := ⟨Try.f58.name, by decide, Try.func58.trans (congrArg some (by kernel_rfl))⟩
  f15 := Try.func59.trans (congrArg some (by kernel_rfl))
  f20 := ⟨Try.f61.name, by decide, Try.func61.trans (congrArg some (by kernel_rfl))⟩
  f21 := ⟨Try.f73.name, by decide, Try.func73.trans (congrArg some (by kernel_rfl))⟩
  f22 := ⟨Try.f74.name, by decide, Try.func74.trans (congrArg some (by kernel_rfl))⟩
  f23 := ⟨Try.f75.name, by decide, Try.func75.trans (congrArg some (by kernel_rfl))⟩
  f24 := ⟨Try.f76.name, by decide, Try.func76.trans (congrArg some (by kernel_rfl))⟩
  f25 := ⟨Try.f77.name, by decide, Try.func77.trans (congrArg some (by kernel_rfl))⟩
  f26 := ⟨Try.f78.name, by decide, Try.func78.trans (congrArg some (by kernel_rfl))⟩
  f27 := ⟨Try.f79.name, by decide, Try.func79.trans (congrArg some (by kernel_rfl))⟩
  f28 := Try.func80.trans (congrArg some (by kernel_rfl))
  f29 := Try.func81.trans (congrArg some (by kernel_rfl))
  f46 := ⟨Try.f86.name, by decide, Try.func86.trans (congrArg some (by kernel_rfl))⟩
  f47 := Try.func87.trans (congrArg some (by kernel_rfl))
  f48 := Try.func88.trans (congrArg some (by kernel_rfl))
  f49 := ⟨Try.f89.name, by decide, Try.func89.trans (congrArg some (by kernel_rfl))⟩
  f50 := ⟨Try.f90.name, by decide, Try.func90.trans (congrArg some (by kernel_rfl))⟩
  f57 := ⟨Try.f93.name, by decide, Try.func93.trans (congrArg some (by kernel_rfl))⟩
  t0 := Try.underlying0
  a0 := Try.isAgg0
  z0 := Try.sizeOf0
  v0 := Try.zeroValue0
  t3 := Try.underlying3
  a3 := Try.isAgg3
  z3 := Try.sizeOf3
  v3 := Try.zeroValue3
  t4 := Try.underlying4
  a4 := Try.isAgg4
  z4 := Try.sizeOf4
  v4 := Try.zeroValue4
  t5 := Try.underlying5
  a5 := Try.isAgg5
  z5 := Try.sizeOf5
  v5 := Try.zeroValue5
  t9 := Try.underlying9
  a9 := Try.isAgg9
  z9 := Try.sizeOf9
  v9 := Try.zeroValue9
  t22 := Try.underlying23
  a22 := Try.isAgg23
  z22 := Try.sizeOf23
  v22 := Try.zeroValue23
  a24 := Try.isAgg44
  z24 := Try.sizeOf44
  t25 := Try.underlying60
  a25 := Try.isAgg60
  z25 := Try.sizeOf60
  v25 := Try.zeroValue60
  t39 := Try.underlying77
  a39 := Try.isAgg77
  z39 := Try.sizeOf77
  v39 := Try.zeroValue77
  t45 := Try.underlying91
  a45 := Try.isAgg91
  z45 := Try.sizeOf91
  v45 := Try.zeroValue91
  t46 := Try.underlying92
  a46 := Try.isAgg92
  z46 := Try.sizeOf92
  v46 := Try.zeroValue92
  t50 := Try.underlying96
  a50 := Try.isAgg96
  z50 := Try.sizeOf96
  v50 := Try.zeroValue96
  t53 := Try.underlying99
  a53 := Try.isAgg99
  z53 := Try.sizeOf99
  v53 := Try.zeroValue99
  t55 := Try.underlying101
  a55 := Try.isAgg101
  z55 := Try.sizeOf101
  v55 := Try.zeroValue101
  t66 := Try.underlying103
  a66 := Try.isAgg103
  z66 := Try.sizeOf103
  v66 := Try.zeroValue103
  t70 := Try.underlying107
  a70 := Try.isAgg107
  z70 := Try.sizeOf107
  v70 := Try.zeroValue107
  t76 := Try.underlying109
  a76 := Try.isAgg109
  z76 := Try.sizeOf109
  v76 := Try.zeroValue109
  t77 := Try.underlying110
  a77 := Try.isAgg110
  z77 := Try.sizeOf110
  v77 := Try.zeroValue110 }
theorem eqs41 (x y : Arr8) : EqS Try.prog 41 (x.list.map (Value.int .i64)).toArray (y.list.map (Value.int .i64)).toArray (decide (x = y)) := eqA_of Try.underlying41 Try.underlying3 Try.isAgg3 Try.sizeOf3 rfl rfl rfl rfl Arr8.list_inj
def conL70_ren : Go.Shelf.Ren := ⟨fun | 144 => 70 | 143 => 85 | 219 => 92 | 217 => 94 | 225 => 95 | 224 => 96 | 267 => 97 | 266 => 98 | 314 => 99 | n => n, fun | 9 => 9 | 4 => 4 | 3 => 3 | 5 => 5 | 46 => 77 | 146 => 114 | 51 => 99 | n => n, fun | 1 => 0 | n => n⟩
theorem conL70 : Go.Proofs.Lays.n144 Try.prog conL70_ren := {
  mixed := by kernel_rfl
  f143 := Try.func85.trans (congrArg some (by kernel_rfl))
  f144 := Try.func70.trans (congrArg some (by kernel_rfl))
  f217 := Try.func94.trans (congrArg some (by kernel_rfl))
  f219 := Try.func92.trans (congrArg some (by kernel_rfl))
  f224 := Try.func96.trans (congrArg some (by kernel_rfl))
  f225 := Try.func95.trans (congrArg some (by kernel_rfl))
  f266 := Try.func98.trans (congrArg some (by kernel_rfl))
  f267 := Try.func97.trans (congrArg some (by kernel_rfl))
  f314 := Try.func99.trans (congrArg some (by kernel_rfl))
  t3 := Try.underlying3
  a3 := Try.isAgg3
  z3 := Try.sizeOf3
  v3 := Try.zeroValue3
  t4 := Try.underlying4
  a4 := Try.isAgg4
  z4 := Try.sizeOf4
  v4 := Try.zeroValue4
  t5 := Try.underlying5
  a5 := Try.isAgg5
  z5 := Try.sizeOf5
  v5 := Try.zeroValue5
  t9 := Try.underlying9
  a9 := Try.isAgg9
  z9 := Try.sizeOf9
  v9 := Try.zeroValue9
  t46 := Try.underlying77
  a46 := Try.isAgg77
  z46 := Try.sizeOf77
  v46 := Try.zeroValue77
  t51 := Try.underlying99
  a51 := Try.isAgg99
  z51 := Try.sizeOf99
  v51 := Try.zeroValue99
  t146 := Try.underlying114
  a146 := Try.isAgg114
  z146 := Try.sizeOf114
  v146 := Try.zeroValue114
  g1 := by kernel_rfl }

/-! ### catchment/catchmentlaw16.pairs: function 20 -/
set_option maxHeartbeats 4000000 in
set_option maxRecDepth 100000 in
theorem law16_pairs.calls (a0 : List Int) {w0 : World} {R : Hp} {RA : Hp} {v0_0 : Value} (hRA : RA.sub w0) (hR : R.sub w0) (h0_0 : SlR (tyInt .i64) RA v0_0 a0) {r : api_Table} (H : law16_pairs a0 = some r) : Calls Try.prog 20 #[v0_0] w0 (Rets fun v w' => ∃ (R' : Hp) (u0 : Value) (cu0 : List Value) (u1 : Value) (cu1 : List Value), v = .agg #[u0, u1] ∧ St [] w0 w' R' [.row 38 2 u0 r.Cols.length cu0, .row 44 1 u1 r.Rows.length cu1] ∧ RLe [] w0 R R' ∧ Reps ty_api_Col R' cu0 r.Cols ∧ Reps (tySl ty_api_Value) R' cu1 r.Rows) := by
  unfold law16_pairs at H
  refine enter (args := [v0_0]) Try.func20 rfl Try.ntmps20 rfl fun a hK => ?_
  have hS := St.init hR
  have hRL := RLe.refl (M := []) w0 R
  refine wp_seq ?_
  refine wp_region_lit ?_
  refine sl_alloc Try.zeroValue25 hS hK (by decide) rfl rfl fun a w b_1 hS hK => ?_
  refine wpList_nil ?_
  refine wp_seq ?_
  refine wp_region_lit ?_
  refine sl hK (by decide) rfl rfl (r_buildC (ps := [(0, .string (⟨#[116, 105, 109, 101]⟩ : ByteArray)), (1, .int .i64 1)]) (c := [.string (⟨#[116, 105, 109, 101]⟩ : ByteArray), .int .i64 1]) Try.underlying38 Try.zeroValue38 places38 hK rfl (pc_cons rfl (pc_cons rfl pc_nil)) rfl rfl) fun a hK => ?_
  refine sl hK (by decide) rfl rfl (r_buildC (ps := [(0, .string (⟨#[110]⟩ : ByteArray)), (1, .int .i64 1)]) (c := [.string (⟨#[110]⟩ : ByteArray), .int .i64 1]) Try.underlying38 Try.zeroValue38 places38 hK rfl (pc_cons rfl (pc_cons rfl pc_nil)) rfl rfl) fun a hK => ?_
  refine sl_buildSliceF (zc := [.string (⟨#[]⟩ : ByteArray), .int .i64 0]) (ps := [(0, .agg #[.string (⟨#[116, 105, 109, 101]⟩ : ByteArray), .int .i64 1]), (1, .agg #[.string (⟨#[110]⟩ : ByteArray), .int .i64 1])]) (c := [.string (⟨#[116, 105, 109, 101]⟩ : ByteArray), .int .i64 1, .string (⟨#[110]⟩ : ByteArray), .int .i64 1]) [[.string (⟨#[116, 105, 109, 101]⟩ : ByteArray), .int .i64 1], [.string (⟨#[110]⟩ : ByteArray), .int .i64 1]] Try.underlying22 Try.sizeOf38 Try.zeroValue38 rfl (pc_cons rfl (pc_cons rfl pc_nil)) rfl rfl (Nat.le_of_ble_eq_true rfl) rfl (all_cons rfl (all_cons rfl (all_nil))) rfl hS hK (by decide) rfl fun a w b_2 hS hK => ?_
  refine sl hK (by decide) rfl rfl (r_buildC (ps := [(0, .slice (some ⟨b_2, 0, none⟩) 2 2)]) (c := [.slice (some ⟨b_2, 0, none⟩) 2 2, .slice none 0 0]) Try.underlying25 Try.zeroValue25 places25 hK rfl (pc_cons rfl pc_nil) rfl rfl) fun a hK => ?_
  refine sl_alloc Try.zeroValue25 hS hK (by decide) rfl rfl fun a w b_3 hS hK => ?_
  refine sl_storeA (vs := [.slice (some ⟨b_2, 0, none⟩) 2 2, .slice none 0 0]) (c' := [.slice (some ⟨b_2, 0, none⟩) 2 2, .slice none 0 0]) Try.sizeOf25 hS hK rfl rfl rfl rfl (all_cons rfl (all_cons rfl (all_nil))) (Nat.le_of_ble_eq_true rfl) rfl fun a w hS hK => ?_
  refine wpList_nil ?_
  refine wp_seq ?_
  refine wp_seq ?_
  refine wp_region_lit ?_
  refine sl hK (by decide) rfl rfl (r_assign hK rfl) fun a hK => ?_
  refine wpList_nil ?_
  refine wp_block ?_
  refine wp_loop_k (fun k_l0 a w => ∃ (x_78 : List api_Col) (x_83 : List (List api_Value)) (x_87 : Int) (R_88 : Hp) (v_79 : Value) (cs_80 : List Value) (v_84 : Value) (cs_85 : List Value), law16_pairs.l0 a0 k_l0 x_78 x_83 x_87 = some r ∧ RLe [] w0 R R_88 ∧ Reps ty_api_Col R_88 cs_80 x_78 ∧ Reps (tySl ty_api_Value) R_88 cs_85 x_83 ∧ Kn 34 a [(0, v0_0), (2, .pointer (some ⟨b_1, 0, none⟩)), (3, .pointer (some ⟨b_3, 0, none⟩)), (4, .int .i64 x_87)] ∧ St [] w0 w R_88 [.cells b_1 [.slice none 0 0, .slice none 0 0] 25, .row 38 2 v_79 x_78.length cs_80, .row 44 1 v_84 x_83.length cs_85, .cells b_3 [v_79, v_84] 25]) (((a0.length : Int) - (IntKind.i64.wrap (0 + 1))).toNat + 1) ?_ ?_
  · have hS := hS.pk1
    have hS := hS.row_lit (size := 2) (m := 2) rfl (by decide)
    have hq_150 : Reps ty_api_Col R [.string (⟨#[116, 105, 109, 101]⟩ : ByteArray), .int .i64 1, .string (⟨#[110]⟩ : ByteArray), .int .i64 1] [(⟨(⟨#[116, 105, 109, 101]⟩ : ByteArray), 1⟩ : api_Col), (⟨(⟨#[110]⟩ : ByteArray), 1⟩ : api_Col)] := (Reps.cons (show Ty.rep ty_api_Col _ [.string (⟨#[116, 105, 109, 101]⟩ : ByteArray), .int .i64 1] (⟨(⟨#[116, 105, 109, 101]⟩ : ByteArray), 1⟩ : api_Col) from rfl) (Reps.cons (show Ty.rep ty_api_Col _ [.string (⟨#[110]⟩ : ByteArray), .int .i64 1] (⟨(⟨#[110]⟩ : ByteArray), 1⟩ : api_Col) from rfl) (Reps.nil _ _)))
    have hS := hS.row_nil 44 1
    have hq_152 : Reps (tySl ty_api_Value) R [] ([] : List (List api_Value)) := Reps.nil _ _
    have hS := hS.pk2
    have hS := hS.pk1
    have hS := hS.pk2
    have hS := hS.pk3
    exact ⟨[(⟨(⟨#[116, 105, 109, 101]⟩ : ByteArray), 1⟩ : api_Col), (⟨(⟨#[110]⟩ : ByteArray), 1⟩ : api_Col)], [], 0, _, _, _, _, _, H, (RLe.refl _ _), hq_150, hq_152, hK.sub (all_cons rfl (all_cons rfl (all_cons rfl (all_cons rfl (all_nil))))), hS⟩
  · rintro k_l0 a w ⟨x_78, x_83, x_87, R_88, v_79, cs_80, v_84, cs_85, H, hl_89, hq_81, hq_86, hK, hS⟩
    cases k_l0 with
    | zero => cases H
    | succ k_l0 =>
    rw [law16_pairs.l0.eq_2] at H
    have hRL := hRL.trans hl_89
    refine wp_seq ?_
    refine wp_seq ?_
    refine wp_region_lit ?_
    refine sl hK (by decide) rfl rfl (r_move hK rfl) fun a hK => ?_
    refine sl hK (by decide) rfl rfl (r_ibin hK rfl rfl rfl) fun a hK => ?_
    refine sl hK (by decide) rfl rfl (r_move hK rfl) fun a hK => ?_
    refine sl hK (by decide) rfl rfl (r_len_R Try.underlying47 h0_0 hK rfl) fun a hK => ?_
    refine sl hK (by decide) rfl rfl (r_ibin hK rfl rfl rfl) fun a hK => ?_
    refine wpList_nil ?_
    refine wp_cond_split (hK.ev rfl) (fun (hb_153 : (decide ((IntKind.i64.wrap (x_87 + 1)) < (a0.length : Int))) = true) => ?_) (fun (hb_153 : (decide ((IntKind.i64.wrap (x_87 + 1)) < (a0.length : Int))) = false) => ?_)
    · rw [ifb_t hb_153] at H
      refine wp_skip ?_
      refine wp_seq ?_
      refine wp_block ?_
      refine parT_region (C := fun w => St [] w0 w R_88 [.cells b_1 [.slice none 0 0, .slice none 0 0] 25, .row 38 2 v_79 x_78.length cs_80, .row 44 1 v_84 x_83.length cs_85, .cells b_3 [v_79, v_84] 25]) 15 [(0, true), (1, true), (2, true), (3, true), (4, true), (5, true), (6, true), (7, true), (8, true), (9, true), (10, true), (11, true), (12, true), (13, false), (14, false)] mixed (by kernel_rfl) hS (fun w hS => hS) fun w hS => ?_
      refine sp (k := 0) rfl hK (by decide) rfl rfl (fun w hS => r_fieldAddr Try.underlying25 rfl Try.sizeOf23 hK rfl) fun a hK => ?_
      refine sp (k := 1) rfl hK (by decide) rfl rfl (fun w hS => r_load Try.isAgg23 hK rfl (hS.cell (.tail _ (.tail _ (.tail _ (.head _)))) rfl)) fun a hK => ?_
      refine sp (k := 2) rfl hK (by decide) rfl rfl (fun w hS => r_move hK rfl) fun a hK => ?_
      refine sp (k := 3) rfl hK (by decide) rfl rfl (fun w hS => r_move hK rfl) fun a hK => ?_
      obtain ⟨y_183, h_184, H⟩ := bind_some H
      obtain ⟨b_185, o_186, c_187, cs_188, hv_189, hr_190, hc_191, h_1840, h_1841⟩ := h0_0.ix h_184
      subst hr_190
      refine sp (k := 4) rfl hK (by decide) rfl rfl (fun w hS => r_indexAddr_R Try.underlying47 Try.sizeOf3 hv_189 h_1840 h_1841 hK rfl rfl) fun a hK => ?_
      refine sp (k := 5) rfl hK (by decide) rfl rfl (fun w hS => r_load Try.isAgg3 hK rfl ((hS.ra hRA nil_not).cell (hc_191 0 _ rfl))) fun a hK => ?_
      refine sp (k := 6) rfl hK (by decide) rfl rfl (fun w hS => r_buildC (ps := [(0, .int .i64 1), (1, .int .i64 y_183)]) (c := [.int .i64 1, .int .i64 y_183, .string (⟨#[]⟩ : ByteArray), .int .i64 0, .int .i64 0, .int .i64 0, .int .i64 0, .int .i64 0, .int .i64 0, .int .i64 0, .int .i64 0]) Try.underlying43 Try.zeroValue43 places43 hK rfl (pc_cons rfl (pc_cons rfl pc_nil)) rfl rfl) fun a hK => ?_
      refine sp (k := 7) rfl hK (by decide) rfl rfl (fun w hS => r_move hK rfl) fun a hK => ?_
      refine sp (k := 8) rfl hK (by decide) rfl rfl (fun w hS => r_move hK rfl) fun a hK => ?_
      refine sp (k := 9) rfl hK (by decide) rfl rfl (fun w hS => r_ibin hK rfl rfl rfl) fun a hK => ?_
      obtain ⟨y_192, h_193, H⟩ := bind_some H
      obtain ⟨b_194, o_195, c_196, cs_197, hv_198, hr_199, hc_200, h_1930, h_1931⟩ := h0_0.ix h_193
      subst hr_199
      refine sp (k := 10) rfl hK (by decide) rfl rfl (fun w hS => r_indexAddr_R Try.underlying47 Try.sizeOf3 hv_198 h_1930 h_1931 hK rfl rfl) fun a hK => ?_
      refine sp (k := 11) rfl hK (by decide) rfl rfl (fun w hS => r_load Try.isAgg3 hK rfl ((hS.ra hRA nil_not).cell (hc_200 0 _ rfl))) fun a hK => ?_
      refine sp (k := 12) rfl hK (by decide) rfl rfl (fun w hS => r_buildC (ps := [(0, .int .i64 1), (1, .int .i64 y_192)]) (c := [.int .i64 1, .int .i64 y_192, .string (⟨#[]⟩ : ByteArray), .int .i64 0, .int .i64 0, .int .i64 0, .int .i64 0, .int .i64 0, .int .i64 0, .int .i64 0, .int .i64 0]) Try.underlying43 Try.zeroValue43 places43 hK rfl (pc_cons rfl (pc_cons rfl pc_nil)) rfl rfl) fun a hK => ?_
      refine spw (k := 13) rfl rfl hS ?_
      refine sl_buildSliceF (zc := [.int .i64 0, .int .i64 0, .string (⟨#[]⟩ : ByteArray), .int .i64 0, .int .i64 0, .int .i64 0, .int .i64 0, .int .i64 0, .int .i64 0, .int .i64 0, .int .i64 0]) (ps := [(0, .agg #[.int .i64 1, .int .i64 y_183, .string (⟨#[]⟩ : ByteArray), .int .i64 0, .int .i64 0, .int .i64 0, .int .i64 0, .int .i64 0, .int .i64 0, .int .i64 0, .int .i64 0]), (1, .agg #[.int .i64 1, .int .i64 y_192, .string (⟨#[]⟩ : ByteArray), .int .i64 0, .int .i64 0, .int .i64 0, .int .i64 0, .int .i64 0, .int .i64 0, .int .i64 0, .int .i64 0])]) (c := [.int .i64 1, .int .i64 y_183, .string (⟨#[]⟩ : ByteArray), .int .i64 0, .int .i64 0, .int .i64 0, .int .i64 0, .int .i64 0, .int .i64 0, .int .i64 0, .int .i64 0, .int .i64 1, .int .i64 y_192, .string (⟨#[]⟩ : ByteArray), .int .i64 0, .int .i64 0, .int .i64 0, .int .i64 0, .int .i64 0, .int .i64 0, .int .i64 0, .int .i64 0]) [[.int .i64 1, .int .i64 y_183, .string (⟨#[]⟩ : ByteArray), .int .i64 0, .int .i64 0, .int .i64 0, .int .i64 0, .int .i64 0, .int .i64 0, .int .i64 0, .int .i64 0], [.int .i64 1, .int .i64 y_192, .string (⟨#[]⟩ : ByteArray), .int .i64 0, .int .i64 0, .int .i64 0, .int .i64 0, .int .i64 0, .int .i64 0, .int .i64 0, .int .i64 0]] Try.underlying44 Try.sizeOf43 Try.zeroValue43 rfl (pc_cons rfl (pc_cons rfl pc_nil)) rfl rfl (Nat.le_of_ble_eq_true rfl) rfl (all_cons rfl (all_cons rfl (all_nil))) rfl hS hK (by decide) rfl fun a w b_201 hS hK => ?_
      refine parK_nil (hS.pk4.pk4.pk4.pk4.trunc 4) ?_
      refine spw (k := 14) rfl rfl (hS.pk4.pk4.pk4.pk4.trunc 4) ?_
      refine sl_buildSliceF (zc := [.slice none 0 0]) (ps := [(0, .slice (some ⟨b_201, 0, none⟩) 2 2)]) (c := [.slice (some ⟨b_201, 0, none⟩) 2 2]) [[.slice (some ⟨b_201, 0, none⟩) 2 2]] Try.underlying23 Try.sizeOf44 Try.zeroValue44 rfl (pc_cons rfl pc_nil) rfl rfl (Nat.le_of_ble_eq_true rfl) rfl (all_cons rfl (all_nil)) rfl hS hK (by decide) rfl fun a w b_202 hS hK => ?_
      refine parK_nil (hS.pk5.pk5.pk5.pk5.trunc 4) ?_
      refine thenL_nil ?_
      have hS := hS.pk4
      have hS := hS.pk2
      obtain ⟨R_203, hS, hl_205, hs_204⟩ := hS.fz_lit (ty := ty_api_Value) (xs := [(⟨1, y_183, (⟨#[]⟩ : ByteArray), (⟨0, 0, 0, 0, 0, 0, 0, 0⟩ : Arr8)⟩ : api_Value), (⟨1, y_192, (⟨#[]⟩ : ByteArray), (⟨0, 0, 0, 0, 0, 0, 0, 0⟩ : Arr8)⟩ : api_Value)]) (Reps.cons (show Ty.rep ty_api_Value _ [.int .i64 1, .int .i64 y_183, .string (⟨#[]⟩ : ByteArray), .int .i64 0, .int .i64 0, .int .i64 0, .int .i64 0, .int .i64 0, .int .i64 0, .int .i64 0, .int .i64 0] (⟨1, y_183, (⟨#[]⟩ : ByteArray), (⟨0, 0, 0, 0, 0, 0, 0, 0⟩ : Arr8)⟩ : api_Value) from rfl) (Reps.cons (show Ty.rep ty_api_Value _ [.int .i64 1, .int .i64 y_192, .string (⟨#[]⟩ : ByteArray), .int .i64 0, .int .i64 0, .int .i64 0, .int .i64 0, .int .i64 0, .int .i64 0, .int .i64 0, .int .i64 0] (⟨1, y_192, (⟨#[]⟩ : ByteArray), (⟨0, 0, 0, 0, 0, 0, 0, 0⟩ : Arr8)⟩ : api_Value) from rfl) (Reps.nil _ _))) rfl
      have hRL := hRL.trans hl_205
      obtain ⟨y_206, h_207, H⟩ := bind_some H
      refine sl_append_L (ty := (tySl ty_api_Value)) (ys := [[(⟨1, y_183, (⟨#[]⟩ : ByteArray), (⟨0, 0, 0, 0, 0, 0, 0, 0⟩ : Arr8)⟩ : api_Value), (⟨1, y_192, (⟨#[]⟩ : ByteArray), (⟨0, 0, 0, 0, 0, 0, 0, 0⟩ : Arr8)⟩ : api_Value)]]) elT23 (by decide) rfl (hq_86.mono hl_205.le) rfl (Reps.cons (show Ty.rep (tySl ty_api_Value) _ [(.slice (some ⟨b_201, 0, none⟩) 2 2)] [(⟨1, y_183, (⟨#[]⟩ : ByteArray), (⟨0, 0, 0, 0, 0, 0, 0, 0⟩ : Arr8)⟩ : api_Value), (⟨1, y_192, (⟨#[]⟩ : ByteArray), (⟨0, 0, 0, 0, 0, 0, 0, 0⟩ : Arr8)⟩ : api_Value)] from ⟨_, rfl, hs_204⟩) (Reps.nil _ _)) rfl h_207 hS hK (by decide) rfl rfl rfl fun a w v_208 cs_209 hq_210 hS hK => ?_
      refine sl hK (by decide) rfl rfl (r_fieldAddr Try.underlying25 rfl Try.sizeOf23 hK rfl) fun a hK => ?_
      have hS := hS.pk3
      refine sl_store1 (c' := [v_79, v_208]) Try.sizeOf23 hS hK rfl rfl rfl (hS.row_one (.tail _ (.head _))) (Nat.le_of_ble_eq_true rfl) rfl fun a w hS hK => ?_
      refine wpList_nil (NoP_nil ?_)
      refine wp_region_lit ?_
      refine sl hK (by decide) rfl rfl (r_move hK rfl) fun a hK => ?_
      refine sl hK (by decide) rfl rfl (r_ibin hK rfl rfl rfl) fun a hK => ?_
      refine sl hK (by decide) rfl rfl (r_assign hK rfl) fun a hK => ?_
      refine wpList_nil ?_
      have hS := hS.pk1
      have hS := hS.pk3
      have hS := hS.pk3
      exact ⟨_, Nat.lt_succ_self _, x_78, y_206, (IntKind.i64.wrap (x_87 + 2)), _, _, _, _, _, H, (hl_89.trans hl_205), (hq_81.mono hl_205.le), hq_210, hK.sub (all_cons rfl (all_cons rfl (all_cons rfl (all_cons rfl (all_nil))))), hS⟩
    · rw [ifb_f hb_153] at H
      refine wp_exit ?_
      refine wp_seq ?_
      refine wp_region_lit ?_
      refine sl hK (by decide) rfl rfl (r_loadA (cs := [v_79, v_84]) Try.isAgg25 Try.sizeOf25 rfl hK rfl (hS.cells_of (m := 2) (.tail _ (.tail _ (.tail _ (.head _)))) rfl)) fun a hK => ?_
      refine sl_storeA (vs := [v_79, v_84]) (c' := [v_79, v_84]) Try.sizeOf25 hS hK rfl rfl rfl rfl (all_cons (hS.row_one (.tail _ (.head _))) (all_cons (hS.row_one (.tail _ (.tail _ (.head _)))) (all_nil))) (Nat.le_of_ble_eq_true rfl) rfl fun a w hS hK => ?_
      refine wpList_nil ?_
      obtain rfl := Option.some.inj H
      refine wp_ret ?_
      repeat (first | refine ret_then ?_ | refine ret_block ?_ | refine ret_scope ?_)
      exact ret_1 Try.results20 hK (rv_cell (c := [v_79, v_84]) Try.isAgg25 Try.sizeOf25 hS (.head _) rfl hK rfl) ⟨_, rfl, _, _, _, _, _, rfl, (hS.pk2.pk2.trunc 2), hRL, hq_81, hq_86⟩

/-! ### catchment/table.Name: function 57 -/
set_option maxHeartbeats 4000000 in
set_option maxRecDepth 100000 in
theorem table_Name.calls (a0 : ByteArray) {r : Bool} (H : table_Name a0 = some r) (w0 : World) : CallsV Try.prog 57 #[.string a0] w0 (.bool r) := by
  unfold table_Name at H
  refine enter (args := [.string a0]) Try.func57 rfl Try.ntmps57 rfl fun a hK => ?_
  have hS := St.init (R := fun _ => none) (w := w0) (fun _ _ h => by cases h)
  have hRL := RLe.refl (M := []) w0 (fun _ => none)
  refine wp_seq ?_
  refine wp_region_lit ?_
  refine sl hK (by decide) rfl rfl (r_assign hK rfl) fun a hK => ?_
  refine wpList_nil ?_
  refine wp_seq ?_
  refine wp_seq ?_
  refine wp_region_lit ?_
  refine sl hK (by decide) rfl rfl (r_move hK rfl) fun a hK => ?_
  refine sl hK (by decide) rfl rfl (r_len_str Try.underlying9 hK rfl) fun a hK => ?_
  refine sl hK (by decide) rfl rfl (r_move hK rfl) fun a hK => ?_
  refine wpList_nil ?_
  refine wp_block ?_
  refine wp_loop_k (fun k_l0 a w => ∃ (x_11 : Int), table_Name.l0 a0 k_l0 x_11 = some r ∧ Kn 48 a [(0, .string a0), (6, .int .i64 (a0.size : Int)), (7, .int .i64 x_11)] ∧ St [] w0 w (fun _ => none) []) (((a0.size : Int) - 0).toNat + 1) ?_ ?_
  · exact ⟨0, H, hK.sub (all_cons rfl (all_cons rfl (all_cons rfl (all_nil)))), hS⟩
  · rintro k_l0 a w ⟨x_11, H, hK, hS⟩
    cases k_l0 with
    | zero => cases H
    | succ k_l0 =>
    rw [table_Name.l0.eq_2] at H
    refine wp_seq ?_
    refine wp_region_lit ?_
    refine sl hK (by decide) rfl rfl (r_ibin hK rfl rfl rfl) fun a hK => ?_
    refine wpList_nil ?_
    refine wp_seq ?_
    refine wp_cond_split (hK.ev rfl) (fun (hb_49 : (decide (x_11 < (a0.size : Int))) = true) => ?_) (fun (hb_49 : (decide (x_11 < (a0.size : Int))) = false) => ?_)
    · rw [ifb_t hb_49] at H
      refine wp_skip ?_
      refine wp_seq ?_
      refine wp_block ?_
      refine wp_seq ?_
      refine wp_region_lit ?_
      refine sl hK (by decide) rfl rfl (r_move hK rfl) fun a hK => ?_
      refine sl hK (by decide) rfl rfl (r_assign hK rfl) fun a hK => ?_
      refine wpList_nil ?_
      refine wp_seq ?_
      refine wp_region_lit ?_
      refine sl hK (by decide) rfl rfl (r_move hK rfl) fun a hK => ?_
      refine sl hK (by decide) rfl rfl (r_move hK rfl) fun a hK => ?_
      obtain ⟨y_50, h_51, H⟩ := bind_some H
      refine sl hK (by decide) rfl rfl (r_index_str' Try.underlying9 h_51 hK rfl rfl) fun a hK => ?_
      refine sl hK (by decide) rfl rfl (r_assign hK rfl) fun a hK => ?_
      refine wpList_nil ?_
      refine wp_block ?_
      refine wp_seq ?_
      refine wp_mid (fun a w => ∃ (x_53 : Bool), table_Name.j1 (table_Name.l0 a0 k_l0) a0 x_11 y_50 x_53 = some r ∧ Kn 48 a [(0, .string a0), (3, .int .i64 x_11), (4, .int .u8 y_50), (6, .int .i64 (a0.size : Int)), (7, .int .i64 x_11), (13, .bool x_53)] ∧ St [] w0 w (fun _ => none) []) ?_ ?_
      · refine wp_region_lit ?_
        refine sl hK (by decide) rfl rfl (r_move hK rfl) fun a hK => ?_
        refine sl hK (by decide) rfl rfl (r_ibin hK rfl rfl rfl) fun a hK => ?_
        refine sl hK (by decide) rfl rfl (r_move hK rfl) fun a hK => ?_
        rcases or_b (decide (y_50 ≥ 97)) with hb_55 | hb_55
        · rw [ifb_t hb_55] at H
          refine sl hK (by decide) (wtt hb_55) rfl (r_move hK rfl) fun a hK => ?_
          refine sl hK (by decide) (wtt hb_55) rfl (r_ibin hK rfl rfl rfl) fun a hK => ?_
          refine sl hK (by decide) rfl rfl (r_pick_t hb_55 hK rfl rfl) fun a hK => ?_
          refine sl hK (by decide) rfl rfl (r_assign hK rfl) fun a hK => ?_
          refine wpList_nil ?_
          exact ⟨(decide (y_50 ≤ 122)), H, hK.sub (all_cons rfl (all_cons rfl (all_cons rfl (all_cons rfl (all_cons rfl (all_cons rfl (all_nil))))))), hS⟩
        · rw [ifb_f hb_55] at H
          refine sl_skip hK (by decide) (wtf hb_55) rfl fun a hK => ?_
          refine sl_skip hK (by decide) (wtf hb_55) rfl fun a hK => ?_
          refine sl hK (by decide) rfl rfl (r_pick_f hb_55 hK rfl rfl) fun a hK => ?_
          refine sl hK (by decide) rfl rfl (r_assign hK rfl) fun a hK => ?_
          refine wpList_nil ?_
          exact ⟨false, H, hK.sub (all_cons rfl (all_cons rfl (all_cons rfl (all_cons rfl (all_cons rfl (all_cons rfl (all_nil))))))), hS⟩
      · rintro a w ⟨x_53, H, hK, hS⟩
        unfold table_Name.j1 at H
        refine wp_mid (fun a w => table_Name.j2 (table_Name.l0 a0 k_l0) a0 x_11 = some r ∧ Kn 48 a [(0, .string a0), (6, .int .i64 (a0.size : Int)), (7, .int .i64 x_11)] ∧ St [] w0 w (fun _ => none) []) ?_ ?_
        · refine wp_cond_split (hK.ev rfl) (fun (hb_71 : x_53 = true) => ?_) (fun (hb_71 : x_53 = false) => ?_)
          · rw [ifb_t hb_71] at H
            refine wp_skip ?_
            exact ⟨H, hK.sub (all_cons rfl (all_cons rfl (all_cons rfl (all_nil)))), hS⟩
          · rw [ifb_f hb_71] at H
            refine wp_seq ?_
            refine wp_mid (fun a w => ∃ (x_77 : Bool), table_Name.j3 (table_Name.l0 a0 k_l0) a0 x_11 x_77 = some r ∧ Kn 48 a [(0, .string a0), (6, .int .i64 (a0.size : Int)), (7, .int .i64 x_11), (20, .bool x_77)] ∧ St [] w0 w (fun _ => none) []) ?_ ?_
            · refine wp_region_lit ?_
              refine sl hK (by decide) rfl rfl (r_move hK rfl) fun a hK => ?_
              refine sl hK (by decide) rfl rfl (r_ibin hK rfl rfl rfl) fun a hK => ?_
              refine sl hK (by decide) rfl rfl (r_move hK rfl) fun a hK => ?_
              rcases or_b (decide (x_11 > 0)) with hb_79 | hb_79
              · rw [ifb_t hb_79] at H
                refine sl hK (by decide) (wtt hb_79) rfl (r_move hK rfl) fun a hK => ?_
                refine sl hK (by decide) (wtt hb_79) rfl (r_ibin hK rfl rfl rfl) fun a hK => ?_
                refine sl hK (by decide) (wtt hb_79) rfl (r_move hK rfl) fun a hK => ?_
                rcases or_b (decide (y_50 ≥ 48)) with hb_80 | hb_80
                · rw [ifb_t hb_80] at H
                  refine sl hK (by decide) (wtt hb_80) rfl (r_move hK rfl) fun a hK => ?_
                  refine sl hK (by decide) (wtt hb_80) rfl (r_ibin hK rfl rfl rfl) fun a hK => ?_
                  refine sl hK (by decide) (wtt hb_79) rfl (r_pick_t hb_80 hK rfl rfl) fun a hK => ?_
                  refine sl hK (by decide) (wtt hb_79) rfl (r_move hK rfl) fun a hK => ?_
                  rcases or_b (decide (y_50 ≤ 57)) with hb_81 | hb_81
                  · rw [ifb_t hb_81] at H
                    refine sl_skip hK (by decide) (wft hb_81) rfl fun a hK => ?_
                    refine sl_skip hK (by decide) (wft hb_81) rfl fun a hK => ?_
                    refine sl hK (by decide) (wtt hb_79) rfl (r_pick_t hb_81 hK rfl rfl) fun a hK => ?_
                    refine sl hK (by decide) (wtt hb_79) rfl (r_move hK rfl) fun a hK => ?_
                    refine sl_skip hK (by decide) rfl rfl fun a hK => ?_
                    refine sl_skip hK (by decide) rfl rfl fun a hK => ?_
                    refine sl hK (by decide) (wtt hb_79) rfl (r_pick hK rfl rfl rfl) fun a hK => ?_
                    refine sl hK (by decide) rfl rfl (r_pick_t hb_79 hK rfl rfl) fun a hK => ?_
                    refine sl hK (by decide) rfl rfl (r_assign hK rfl) fun a hK => ?_
                    refine wpList_nil ?_
                    exact ⟨true, H, hK.sub (all_cons rfl (all_cons rfl (all_cons rfl (all_cons rfl (all_nil))))), hS⟩
                  · rw [ifb_f hb_81] at H
                    refine sl hK (by decide) (wff hb_81) rfl (r_move hK rfl) fun a hK => ?_
                    refine sl hK (by decide) (wff hb_81) rfl (r_ibin hK rfl rfl rfl) fun a hK => ?_
                    refine sl hK (by decide) (wtt hb_79) rfl (r_pick_f hb_81 hK rfl rfl) fun a hK => ?_
                    refine sl hK (by decide) (wtt hb_79) rfl (r_move hK rfl) fun a hK => ?_
                    rcases or_b (y_50 == 95) with hb_82 | hb_82
                    · rw [ifb_t hb_82] at H
                      refine sl_skip hK (by decide) (wft hb_82) rfl fun a hK => ?_
                      refine sl_skip hK (by decide) (wft hb_82) rfl fun a hK => ?_
                      refine sl hK (by decide) (wtt hb_79) rfl (r_pick_t hb_82 hK rfl rfl) fun a hK => ?_
                      refine sl hK (by decide) rfl rfl (r_pick_t hb_79 hK rfl rfl) fun a hK => ?_
                      refine sl hK (by decide) rfl rfl (r_assign hK rfl) fun a hK => ?_
                      refine wpList_nil ?_
                      exact ⟨true, H, hK.sub (all_cons rfl (all_cons rfl (all_cons rfl (all_cons rfl (all_nil))))), hS⟩
                    · rw [ifb_f hb_82] at H
                      refine sl hK (by decide) (wff hb_82) rfl (r_move hK rfl) fun a hK => ?_
                      refine sl hK (by decide) (wff hb_82) rfl (r_ibin hK rfl rfl rfl) fun a hK => ?_
                      refine sl hK (by decide) (wtt hb_79) rfl (r_pick_f hb_82 hK rfl rfl) fun a hK => ?_
                      refine sl hK (by decide) rfl rfl (r_pick_t hb_79 hK rfl rfl) fun a hK => ?_
                      refine sl hK (by decide) rfl rfl (r_assign hK rfl) fun a hK => ?_
                      refine wpList_nil ?_
                      exact ⟨(y_50 == 35), H, hK.sub (all_cons rfl (all_cons rfl (all_cons rfl (all_cons rfl (all_nil))))), hS⟩
                · rw [ifb_f hb_80] at H
                  refine sl_skip hK (by decide) (wtf hb_80) rfl fun a hK => ?_
                  refine sl_skip hK (by decide) (wtf hb_80) rfl fun a hK => ?_
                  refine sl hK (by decide) (wtt hb_79) rfl (r_pick_f hb_80 hK rfl rfl) fun a hK => ?_
                  refine sl hK (by decide) (wtt hb_79) rfl (r_move hK rfl) fun a hK => ?_
                  refine sl hK (by decide) rfl rfl (r_move hK rfl) fun a hK => ?_
                  refine sl hK (by decide) rfl rfl (r_ibin hK rfl rfl rfl) fun a hK => ?_
                  refine sl hK (by decide) (wtt hb_79) rfl (r_pick hK rfl rfl rfl) fun a hK => ?_
                  refine sl hK (by decide) (wtt hb_79) rfl (r_move hK rfl) fun a hK => ?_
                  rcases or_b (y_50 == 95) with hb_83 | hb_83
                  · rw [ifb_t hb_83] at H
                    refine sl_skip hK (by decide) (wft hb_83) rfl fun a hK => ?_
                    refine sl_skip hK (by decide) (wft hb_83) rfl fun a hK => ?_
                    refine sl hK (by decide) (wtt hb_79) rfl (r_pick_t hb_83 hK rfl rfl) fun a hK => ?_
                    refine sl hK (by decide) rfl rfl (r_pick_t hb_79 hK rfl rfl) fun a hK => ?_
                    refine sl hK (by decide) rfl rfl (r_assign hK rfl) fun a hK => ?_
                    refine wpList_nil ?_
                    exact ⟨true, H, hK.sub (all_cons rfl (all_cons rfl (all_cons rfl (all_cons rfl (all_nil))))), hS⟩
                  · rw [ifb_f hb_83] at H
                    refine sl hK (by decide) (wff hb_83) rfl (r_move hK rfl) fun a hK => ?_
                    refine sl hK (by decide) (wff hb_83) rfl (r_ibin hK rfl rfl rfl) fun a hK => ?_
                    refine sl hK (by decide) (wtt hb_79) rfl (r_pick_f hb_83 hK rfl rfl) fun a hK => ?_
                    refine sl hK (by decide) rfl rfl (r_pick_t hb_79 hK rfl rfl) fun a hK => ?_
                    refine sl hK (by decide) rfl rfl (r_assign hK rfl) fun a hK => ?_
                    refine wpList_nil ?_
                    exact ⟨(y_50 == 35), H, hK.sub (all_cons rfl (all_cons rfl (all_cons rfl (all_cons rfl (all_nil))))), hS⟩
              · rw [ifb_f hb_79] at H
                refine sl_skip hK (by decide) (wtf hb_79) rfl fun a hK => ?_
                refine sl_skip hK (by decide) (wtf hb_79) rfl fun a hK => ?_
                refine sl_skip hK (by decide) (wtf hb_79) rfl fun a hK => ?_
                refine sl_skip hK (by decide) rfl rfl fun a hK => ?_
                refine sl_skip hK (by decide) rfl rfl fun a hK => ?_
                refine sl_skip hK (by decide) (wtf hb_79) rfl fun a hK => ?_
                refine sl_skip hK (by decide) (wtf hb_79) rfl fun a hK => ?_
                refine sl_skip hK (by decide) rfl rfl fun a hK => ?_
                refine sl_skip hK (by decide) rfl rfl fun a hK => ?_
                refine sl_skip hK (by decide) (wtf hb_79) rfl fun a hK => ?_
                refine sl_skip hK (by decide) (wtf hb_79) rfl fun a hK => ?_
                refine sl_skip hK (by decide) rfl rfl fun a hK => ?_
                refine sl_skip hK (by decide) rfl rfl fun a hK => ?_
                refine sl_skip hK (by decide) (wtf hb_79) rfl fun a hK => ?_
                refine sl hK (by decide) rfl rfl (r_pick_f hb_79 hK rfl rfl) fun a hK => ?_
                refine sl hK (by decide) rfl rfl (r_assign hK rfl) fun a hK => ?_
                refine wpList_nil ?_
                exact ⟨false, H, hK.sub (all_cons rfl (all_cons rfl (all_cons rfl (all_cons rfl (all_nil))))), hS⟩
            · rintro a w ⟨x_77, H, hK, hS⟩
              unfold table_Name.j3 at H
              refine wp_cond_split (hK.ev rfl) (fun (hb_84 : x_77 = true) => ?_) (fun (hb_84 : x_77 = false) => ?_)
              · rw [ifb_t hb_84] at H
                refine wp_skip ?_
                exact ⟨H, hK.sub (all_cons rfl (all_cons rfl (all_cons rfl (all_nil)))), hS⟩
              · rw [ifb_f hb_84] at H
                refine wp_seq ?_
                refine wp_region_lit ?_
                refine sl hK (by decide) rfl rfl (r_assign hK rfl) fun a hK => ?_
                refine wpList_nil ?_
                obtain rfl := Option.some.inj H
                refine wp_ret ?_
                repeat (first | refine ret_then ?_ | refine ret_block ?_ | refine ret_scope ?_)
                exact ret_1 Try.results57 hK (rv_tmp hK rfl) ⟨rfl, hS.bel⟩
        · rintro a w ⟨H, hK, hS⟩
          unfold table_Name.j2 at H
          refine wp_region_lit ?_
          refine sl hK (by decide) rfl rfl (r_ibin hK rfl rfl rfl) fun a hK => ?_
          refine sl hK (by decide) rfl rfl (r_move hK rfl) fun a hK => ?_
          refine wpList_nil ?_
          exact ⟨_, Nat.lt_succ_self _, (IntKind.i64.wrap (x_11 + 1)), H, hK.sub (all_cons rfl (all_cons rfl (all_cons rfl (all_nil)))), hS⟩
    · rw [ifb_f hb_49] at H
      refine wp_exit ?_
      refine wp_seq ?_
      refine wp_region_lit ?_
      refine sl hK (by decide) rfl rfl (r_move hK rfl) fun a hK => ?_
      refine sl hK (by decide) rfl rfl (r_len_str Try.underlying9 hK rfl) fun a hK => ?_
      refine sl hK (by decide) rfl rfl (r_ibin hK rfl rfl rfl) fun a hK => ?_
      refine sl hK (by decide) rfl rfl (r_move hK rfl) fun a hK => ?_
      rcases or_b (decide ((a0.size : Int) ≥ 1)) with hb_85 | hb_85
      · rw [ifb_t hb_85] at H
        refine sl hK (by decide) (wtt hb_85) rfl (r_move hK rfl) fun a hK => ?_
        refine sl hK (by decide) (wtt hb_85) rfl (r_len_str Try.underlying9 hK rfl) fun a hK => ?_
        refine sl hK (by decide) (wtt hb_85) rfl (r_ibin hK rfl rfl rfl) fun a hK => ?_
        refine sl hK (by decide) rfl rfl (r_pick_t hb_85 hK rfl rfl) fun a hK => ?_
        refine sl hK (by decide) rfl rfl (r_assign hK rfl) fun a hK => ?_
        refine wpList_nil ?_
        obtain rfl := Option.some.inj H
        refine wp_ret ?_
        repeat (first | refine ret_then ?_ | refine ret_block ?_ | refine ret_scope ?_)
        exact ret_1 Try.results57 hK (rv_tmp hK rfl) ⟨rfl, hS.bel⟩
      · rw [ifb_f hb_85] at H
        refine sl_skip hK (by decide) (wtf hb_85) rfl fun a hK => ?_
        refine sl_skip hK (by decide) (wtf hb_85) rfl fun a hK => ?_
        refine sl_skip hK (by decide) (wtf hb_85) rfl fun a hK => ?_
        refine sl hK (by decide) rfl rfl (r_pick_f hb_85 hK rfl rfl) fun a hK => ?_
        refine sl hK (by decide) rfl rfl (r_assign hK rfl) fun a hK => ?_
        refine wpList_nil ?_
        obtain rfl := Option.some.inj H
        refine wp_ret ?_
        repeat (first | refine ret_then ?_ | refine ret_block ?_ | refine ret_scope ?_)
        exact ret_1 Try.results57 hK (rv_tmp hK rfl) ⟨rfl, hS.bel⟩

/-! ### catchment/table.Find$1: function 48 -/
set_option maxHeartbeats 4000000 in
set_option maxRecDepth 100000 in
theorem table_Find_1_cp.calls (a0 : api_Col) (a1 : ByteArray) {w0 : World} {RA : Hp} {b1 : Nat} {o1 : Nat} (hRA : RA.sub w0) (hc1 : ∀ j u, ([.string a1] : List Value)[j]? = some u → RA.cell b1 (o1 + j) = some u) {r : Bool} (H : table_Find_1_cp a0 a1 = some r) : CallsV Try.prog 48 #[.agg #[.string a0.Name, .int .i64 a0.Kind], .pointer (some ⟨b1, o1, none⟩)] w0 (.bool r) := by
  unfold table_Find_1_cp at H
  refine enter (args := [.agg #[.string a0.Name, .int .i64 a0.Kind], .pointer (some ⟨b1, o1, none⟩)]) Try.func48 rfl Try.ntmps48 rfl fun a hK => ?_
  have hS := St.init (R := fun _ => none) (w := w0) (fun _ _ h => by cases h)
  have hRL := RLe.refl (M := []) w0 (fun _ => none)
  refine wp_seq ?_
  refine wp_region_lit ?_
  refine sl_box hS hK (by decide) rfl rfl (c := [.string a0.Name, .int .i64 a0.Kind]) rfl fun a w b_1 hS hK => ?_
  refine sl hK (by decide) rfl rfl (r_assign hK rfl) fun a hK => ?_
  refine wpList_nil ?_
  refine wp_seq ?_
  refine wp_region_lit ?_
  refine sl hK (by decide) rfl rfl (r_fieldAddr Try.underlying38 rfl Try.sizeOf9 hK rfl) fun a hK => ?_
  refine sl hK (by decide) rfl rfl (r_load Try.isAgg9 hK rfl (hS.cell (.head _) rfl)) fun a hK => ?_
  refine sl hK (by decide) rfl rfl (r_load Try.isAgg9 hK rfl ((hS.ra hRA nil_not).cell (hc1 0 _ rfl))) fun a hK => ?_
  refine sl hK (by decide) rfl rfl (r_sbin hK rfl rfl rfl) fun a hK => ?_
  refine sl hK (by decide) rfl rfl (r_assign hK rfl) fun a hK => ?_
  refine wpList_nil ?_
  obtain rfl := Option.some.inj H
  refine wp_ret ?_
  repeat (first | refine ret_then ?_ | refine ret_block ?_ | refine ret_scope ?_)
  exact ret_1 Try.results48 hK (rv_tmp hK rfl) ⟨rfl, hS.bel⟩

/-! ### slices.IndexFunc[[]catchment/api.Col,catchment/api.Col]: function 47 -/
set_option maxHeartbeats 4000000 in
set_option maxRecDepth 100000 in
theorem slices_IndexFunc_api_Col_api_Col_f_table_Find_1p.calls (a0 : List api_Col) (a1_0 : ByteArray) {w0 : World} {RA : Hp} {v0_0 : Value} {b1q0 : Nat} {o1q0 : Nat} (hRA : RA.sub w0) (h0_0 : SlR ty_api_Col RA v0_0 a0) (hc1q0 : ∀ j u, ([.string a1_0] : List Value)[j]? = some u → RA.cell b1q0 (o1q0 + j) = some u) {r : Int} (H : slices_IndexFunc_api_Col_api_Col_f_table_Find_1p a0 a1_0 = some r) : CallsV Try.prog 47 #[v0_0, .func (.func 48) #[] #[.pointer (some ⟨b1q0, o1q0, none⟩)]] w0 (.int .i64 r) := by
  unfold slices_IndexFunc_api_Col_api_Col_f_table_Find_1p at H
  refine enter (args := [v0_0, .func (.func 48) #[] #[.pointer (some ⟨b1q0, o1q0, none⟩)]]) Try.func47 rfl Try.ntmps47 rfl fun a hK => ?_
  have hS := St.init (R := fun _ => none) (w := w0) (fun _ _ h => by cases h)
  have hRL := RLe.refl (M := []) w0 (fun _ => none)
  refine wp_seq ?_
  refine wp_region_lit ?_
  refine sl hK (by decide) rfl rfl (r_assign hK rfl) fun a hK => ?_
  refine wpList_nil ?_
  refine wp_seq ?_
  refine wp_seq ?_
  refine wp_region_lit ?_
  refine sl hK (by decide) rfl rfl (r_move hK rfl) fun a hK => ?_
  refine sl hK (by decide) rfl rfl (r_len_R Try.underlying22 h0_0 hK rfl) fun a hK => ?_
  refine sl hK (by decide) rfl rfl (r_move hK rfl) fun a hK => ?_
  refine wpList_nil ?_
  refine wp_block ?_
  refine wp_loop_k (fun k_l0 a w => ∃ (x_15 : Int), slices_IndexFunc_api_Col_api_Col_f_table_Find_1p.l0 a0 a1_0 k_l0 x_15 = some r ∧ Kn 19 a [(0, v0_0), (1, .func (.func 48) #[] #[.pointer (some ⟨b1q0, o1q0, none⟩)]), (7, .int .i64 (a0.length : Int)), (8, .int .i64 x_15)] ∧ St [] w0 w (fun _ => none) []) (((a0.length : Int) - 0).toNat + 1) ?_ ?_
  · exact ⟨0, H, hK.sub (all_cons rfl (all_cons rfl (all_cons rfl (all_cons rfl (all_nil))))), hS⟩
  · rintro k_l0 a w ⟨x_15, H, hK, hS⟩
    cases k_l0 with
    | zero => cases H
    | succ k_l0 =>
    rw [slices_IndexFunc_api_Col_api_Col_f_table_Find_1p.l0.eq_2] at H
    refine wp_seq ?_
    refine wp_region_lit ?_
    refine sl hK (by decide) rfl rfl (r_ibin hK rfl rfl rfl) fun a hK => ?_
    refine wpList_nil ?_
    refine wp_seq ?_
    refine wp_cond_split (hK.ev rfl) (fun (hb_30 : (decide (x_15 < (a0.length : Int))) = true) => ?_) (fun (hb_30 : (decide (x_15 < (a0.length : Int))) = false) => ?_)
    · rw [ifb_t hb_30] at H
      refine wp_skip ?_
      refine wp_seq ?_
      refine wp_block ?_
      refine wp_seq ?_
      refine wp_region_lit ?_
      refine sl hK (by decide) rfl rfl (r_move hK rfl) fun a hK => ?_
      refine sl hK (by decide) rfl rfl (r_assign hK rfl) fun a hK => ?_
      refine wpList_nil ?_
      refine wp_seq ?_
      refine wp_region_lit ?_
      refine sl hK (by decide) rfl rfl (r_move hK rfl) fun a hK => ?_
      refine sl hK (by decide) rfl rfl (r_move hK rfl) fun a hK => ?_
      refine sl hK (by decide) rfl rfl (r_move hK rfl) fun a hK => ?_
      obtain ⟨y_31, h_32, H⟩ := bind_some H
      obtain ⟨b_33, o_34, c_35, cs_36, hv_37, hr_38, hc_39, h_320, h_321⟩ := h0_0.ix h_32
      subst hr_38
      refine sl hK (by decide) rfl rfl (r_indexAddr_R Try.underlying22 Try.sizeOf38 hv_37 h_320 h_321 hK rfl rfl) fun a hK => ?_
      refine sl hK (by decide) rfl rfl (r_loadA (cs := [.string y_31.Name, .int .i64 y_31.Kind]) Try.isAgg38 Try.sizeOf38 rfl hK rfl (fun j v hv => (hS.ra hRA nil_not).cell (hc_39 j v hv))) fun a hK => ?_
      obtain ⟨y_40, h_41, H⟩ := bind_some H
      refine sl_callV Try.call48 hS hK (by decide) rfl rfl rfl (table_Find_1_cp.calls y_31 a1_0 (lentOf_sub [] _) (fun j u hu => Hp.cell_le (hS.raLe0 hRA nil_not) (hc1q0 j u hu)) h_41) fun a w hS hK => ?_
      refine wpList_nil ?_
      refine wp_cond_split (hK.ev rfl) (fun (hb_42 : y_40 = true) => ?_) (fun (hb_42 : y_40 = false) => ?_)
      · rw [ifb_t hb_42] at H
        refine wp_seq ?_
        refine wp_region_lit ?_
        refine sl hK (by decide) rfl rfl (r_move hK rfl) fun a hK => ?_
        refine sl hK (by decide) rfl rfl (r_assign hK rfl) fun a hK => ?_
        refine wpList_nil ?_
        obtain rfl := Option.some.inj H
        refine wp_ret ?_
        repeat (first | refine ret_then ?_ | refine ret_block ?_ | refine ret_scope ?_)
        exact ret_1 Try.results47 hK (rv_tmp hK rfl) ⟨rfl, hS.bel⟩
      · rw [ifb_f hb_42] at H
        refine wp_skip ?_
        refine wp_region_lit ?_
        refine sl hK (by decide) rfl rfl (r_ibin hK rfl rfl rfl) fun a hK => ?_
        refine sl hK (by decide) rfl rfl (r_move hK rfl) fun a hK => ?_
        refine wpList_nil ?_
        exact ⟨_, Nat.lt_succ_self _, (IntKind.i64.wrap (x_15 + 1)), H, hK.sub (all_cons rfl (all_cons rfl (all_cons rfl (all_cons rfl (all_nil))))), hS⟩
    · rw [ifb_f hb_30] at H
      refine wp_exit ?_
      refine wp_seq ?_
      refine wp_region_lit ?_
      refine sl hK (by decide) rfl rfl (r_assign hK rfl) fun a hK => ?_
      refine wpList_nil ?_
      obtain rfl := Option.some.inj H
      refine wp_ret ?_
      repeat (first | refine ret_then ?_ | refine ret_block ?_ | refine ret_scope ?_)
      exact ret_1 Try.results47 hK (rv_tmp hK rfl) ⟨rfl, hS.bel⟩

/-! ### catchment/table.Find: function 32 -/
set_option maxHeartbeats 4000000 in
set_option maxRecDepth 100000 in
theorem table_Find.calls (a0 : List api_Col) (a1 : ByteArray) {w0 : World} {RA : Hp} {v0_0 : Value} (hRA : RA.sub w0) (h0_0 : SlR ty_api_Col RA v0_0 a0) {r : Int} (H : table_Find a0 a1 = some r) : CallsV Try.prog 32 #[v0_0, .string a1] w0 (.int .i64 r) := by
  unfold table_Find at H
  refine enter (args := [v0_0, .string a1]) Try.func32 rfl Try.ntmps32 rfl fun a hK => ?_
  have hS := St.init (R := fun _ => none) (w := w0) (fun _ _ h => by cases h)
  have hRL := RLe.refl (M := []) w0 (fun _ => none)
  refine wp_seq ?_
  refine wp_region_lit ?_
  refine sl_box hS hK (by decide) rfl rfl (c := [.string a1]) rfl fun a w b_1 hS hK => ?_
  refine sl hK (by decide) rfl rfl (r_assign hK rfl) fun a hK => ?_
  refine wpList_nil ?_
  refine wp_seq ?_
  refine wp_region_lit ?_
  refine sl hK (by decide) rfl rfl (r_move hK rfl) fun a hK => ?_
  refine sl hK (by decide) rfl rfl (r_func (us := []) (vs := [.pointer (some ⟨b_1, 0, none⟩)]) rfl (hK.evs rfl)) fun a hK => ?_
  obtain ⟨y_2, h_3, H⟩ := bind_some H
  refine sl_callV Try.call47 hS hK (by decide) rfl rfl rfl (slices_IndexFunc_api_Col_api_Col_f_table_Find_1p.calls a0 a1 (lentOf_sub [] _) (h0_0.mono (hS.raLe0 hRA nil_not)) (hS.lend_box0 (.head _)) h_3) fun a w hS hK => ?_
  refine sl hK (by decide) rfl rfl (r_assign hK rfl) fun a hK => ?_
  refine wpList_nil ?_
  obtain rfl := Option.some.inj H
  refine wp_ret ?_
  repeat (first | refine ret_then ?_ | refine ret_block ?_ | refine ret_scope ?_)
  exact ret_1 Try.results32 hK (rv_tmp hK rfl) ⟨rfl, hS.bel⟩

/-! ### catchment/table.columns: function 41 -/
set_option maxHeartbeats 4000000 in
set_option maxRecDepth 100000 in
theorem table_columns.calls (a0 : List api_Col) {w0 : World} {RA : Hp} {v0_0 : Value} (hRA : RA.sub w0) (h0_0 : SlR ty_api_Col RA v0_0 a0) {r : Bool} (H : table_columns a0 = some r) : CallsV Try.prog 41 #[v0_0] w0 (.bool r) := by
  unfold table_columns at H
  refine enter (args := [v0_0]) Try.func41 rfl Try.ntmps41 rfl fun a hK => ?_
  have hS := St.init (R := fun _ => none) (w := w0) (fun _ _ h => by cases h)
  have hRL := RLe.refl (M := []) w0 (fun _ => none)
  refine wp_seq ?_
  refine wp_region_lit ?_
  refine sl hK (by decide) rfl rfl (r_assign hK rfl) fun a hK => ?_
  refine wpList_nil ?_
  refine wp_seq ?_
  refine wp_seq ?_
  refine wp_region_lit ?_
  refine sl hK (by decide) rfl rfl (r_move hK rfl) fun a hK => ?_
  refine sl hK (by decide) rfl rfl (r_len_R Try.underlying22 h0_0 hK rfl) fun a hK => ?_
  refine sl hK (by decide) rfl rfl (r_move hK rfl) fun a hK => ?_
  refine wpList_nil ?_
  refine wp_block ?_
  refine wp_loop_k (fun k_l0 a w => ∃ (x_30 : Int), table_columns.l0 a0 k_l0 x_30 = some r ∧ Kn 43 a [(0, v0_0), (5, v0_0), (6, .int .i64 (a0.length : Int)), (7, .int .i64 x_30)] ∧ St [] w0 w (fun _ => none) []) (((a0.length : Int) - 0).toNat + 1) ?_ ?_
  · exact ⟨0, H, hK.sub (all_cons rfl (all_cons rfl (all_cons rfl (all_cons rfl (all_nil))))), hS⟩
  · rintro k_l0 a w ⟨x_30, H, hK, hS⟩
    cases k_l0 with
    | zero => cases H
    | succ k_l0 =>
    rw [table_columns.l0.eq_2] at H
    refine wp_seq ?_
    refine wp_region_lit ?_
    refine sl hK (by decide) rfl rfl (r_ibin hK rfl rfl rfl) fun a hK => ?_
    refine wpList_nil ?_
    refine wp_seq ?_
    refine wp_cond_split (hK.ev rfl) (fun (hb_60 : (decide (x_30 < (a0.length : Int))) = true) => ?_) (fun (hb_60 : (decide (x_30 < (a0.length : Int))) = false) => ?_)
    · rw [ifb_t hb_60] at H
      refine wp_skip ?_
      refine wp_seq ?_
      refine wp_block ?_
      refine wp_seq ?_
      refine wp_region_lit ?_
      refine sl hK (by decide) rfl rfl (r_move hK rfl) fun a hK => ?_
      obtain ⟨y_61, h_62, H⟩ := bind_some H
      obtain ⟨b_63, o_64, c_65, cs_66, hv_67, hr_68, hc_69, h_620, h_621⟩ := h0_0.ix h_62
      subst hr_68
      refine sl hK (by decide) rfl rfl (r_indexAddr_R Try.underlying22 Try.sizeOf38 hv_67 h_620 h_621 hK rfl rfl) fun a hK => ?_
      refine sl hK (by decide) rfl rfl (r_loadA (cs := [.string y_61.Name, .int .i64 y_61.Kind]) Try.isAgg38 Try.sizeOf38 rfl hK rfl (fun j v hv => (hS.ra hRA nil_not).cell (hc_69 j v hv))) fun a hK => ?_
      refine sl_alloc Try.zeroValue38 hS hK (by decide) rfl rfl fun a w b_70 hS hK => ?_
      refine sl hK (by decide) rfl rfl (r_assign hK rfl) fun a hK => ?_
      refine sl_storeA (vs := [.string y_61.Name, .int .i64 y_61.Kind]) (c' := [.string y_61.Name, .int .i64 y_61.Kind]) Try.sizeOf38 hS hK rfl rfl rfl rfl (all_cons rfl (all_cons rfl (all_nil))) (Nat.le_of_ble_eq_true rfl) rfl fun a w hS hK => ?_
      refine wpList_nil ?_
      refine wp_seq ?_
      refine wp_mid (fun a w => ∃ (x_78 : Bool), table_columns.j1 (table_columns.l0 a0 k_l0) a0 x_30 x_78 = some r ∧ Kn 43 a [(0, v0_0), (5, v0_0), (6, .int .i64 (a0.length : Int)), (7, .int .i64 x_30), (33, .bool x_78)] ∧ St [] w0 w (fun _ => none) []) ?_ ?_
      · refine wp_region_lit ?_
        refine sl hK (by decide) rfl rfl (r_fieldAddr Try.underlying38 rfl Try.sizeOf9 hK rfl) fun a hK => ?_
        refine sl hK (by decide) rfl rfl (r_load Try.isAgg9 hK rfl (hS.cell (.head _) rfl)) fun a hK => ?_
        obtain ⟨y_80, h_81, H⟩ := bind_some H
        refine sl_callV Try.call57 hS hK (by decide) rfl rfl rfl (table_Name.calls y_61.Name h_81 _) fun a w hS hK => ?_
        refine sl hK (by decide) rfl rfl (r_un hK rfl (u_not _)) fun a hK => ?_
        refine sl hK (by decide) rfl rfl (r_move hK rfl) fun a hK => ?_
        rcases or_b (!y_80) with hb_82 | hb_82
        · rw [ifb_t hb_82] at H
          refine sl_skip hK (by decide) (wft hb_82) rfl fun a hK => ?_
          refine sl_skip hK (by decide) (wft hb_82) rfl fun a hK => ?_
          refine sl_skip hK (by decide) (wft hb_82) rfl fun a hK => ?_
          refine sl hK (by decide) rfl rfl (r_pick_t hb_82 hK rfl rfl) fun a hK => ?_
          refine sl hK (by decide) rfl rfl (r_move hK rfl) fun a hK => ?_
          refine sl_skip hK (by decide) rfl rfl fun a hK => ?_
          refine sl_skip hK (by decide) rfl rfl fun a hK => ?_
          refine sl_skip hK (by decide) rfl rfl fun a hK => ?_
          refine sl hK (by decide) rfl rfl (r_pick hK rfl rfl rfl) fun a hK => ?_
          refine sl hK (by decide) rfl rfl (r_move hK rfl) fun a hK => ?_
          refine sl_skip hK (by decide) rfl rfl fun a hK => ?_
          refine sl_skip hK (by decide) rfl rfl fun a hK => ?_
          refine sl_skip hK (by decide) rfl rfl fun a hK => ?_
          refine sl_skip hK (by decide) rfl rfl fun a hK => ?_
          refine sl_skip hK (by decide) rfl rfl fun a hK => ?_
          refine sl_skip hK (by decide) rfl rfl fun a hK => ?_
          refine sl hK (by decide) rfl rfl (r_pick hK rfl rfl rfl) fun a hK => ?_
          refine wpList_nil ?_
          exact ⟨true, H, hK.sub (all_cons rfl (all_cons rfl (all_cons rfl (all_cons rfl (all_cons rfl (all_nil)))))), hS.trunc 0⟩
        · rw [ifb_f hb_82] at H
          refine sl hK (by decide) (wff hb_82) rfl (r_fieldAddr Try.underlying38 rfl Try.sizeOf3 hK rfl) fun a hK => ?_
          refine sl hK (by decide) (wff hb_82) rfl (r_load Try.isAgg3 hK rfl (hS.cell (.head _) rfl)) fun a hK => ?_
          refine sl hK (by decide) (wff hb_82) rfl (r_ibin hK rfl rfl rfl) fun a hK => ?_
          refine sl hK (by decide) rfl rfl (r_pick_f hb_82 hK rfl rfl) fun a hK => ?_
          refine sl hK (by decide) rfl rfl (r_move hK rfl) fun a hK => ?_
          rcases or_b (decide (y_61.Kind < 1)) with hb_83 | hb_83
          · rw [ifb_t hb_83] at H
            refine sl_skip hK (by decide) (wft hb_83) rfl fun a hK => ?_
            refine sl_skip hK (by decide) (wft hb_83) rfl fun a hK => ?_
            refine sl_skip hK (by decide) (wft hb_83) rfl fun a hK => ?_
            refine sl hK (by decide) rfl rfl (r_pick_t hb_83 hK rfl rfl) fun a hK => ?_
            refine sl hK (by decide) rfl rfl (r_move hK rfl) fun a hK => ?_
            refine sl_skip hK (by decide) rfl rfl fun a hK => ?_
            refine sl_skip hK (by decide) rfl rfl fun a hK => ?_
            refine sl_skip hK (by decide) rfl rfl fun a hK => ?_
            refine sl_skip hK (by decide) rfl rfl fun a hK => ?_
            refine sl_skip hK (by decide) rfl rfl fun a hK => ?_
            refine sl_skip hK (by decide) rfl rfl fun a hK => ?_
            refine sl hK (by decide) rfl rfl (r_pick hK rfl rfl rfl) fun a hK => ?_
            refine wpList_nil ?_
            exact ⟨true, H, hK.sub (all_cons rfl (all_cons rfl (all_cons rfl (all_cons rfl (all_cons rfl (all_nil)))))), hS.trunc 0⟩
          · rw [ifb_f hb_83] at H
            refine sl hK (by decide) (wff hb_83) rfl (r_fieldAddr Try.underlying38 rfl Try.sizeOf3 hK rfl) fun a hK => ?_
            refine sl hK (by decide) (wff hb_83) rfl (r_load Try.isAgg3 hK rfl (hS.cell (.head _) rfl)) fun a hK => ?_
            refine sl hK (by decide) (wff hb_83) rfl (r_ibin hK rfl rfl rfl) fun a hK => ?_
            refine sl hK (by decide) rfl rfl (r_pick_f hb_83 hK rfl rfl) fun a hK => ?_
            refine sl hK (by decide) rfl rfl (r_move hK rfl) fun a hK => ?_
            rcases or_b (decide (y_61.Kind > 4)) with hb_84 | hb_84
            · rw [ifb_t hb_84] at H
              refine sl_skip hK (by decide) (wft hb_84) rfl fun a hK => ?_
              refine sl_skip hK (by decide) (wft hb_84) rfl fun a hK => ?_
              refine sl_skip hK (by decide) (wft hb_84) rfl fun a hK => ?_
              refine sl_skip hK (by decide) (wft hb_84) rfl fun a hK => ?_
              refine sl_skip hK (by decide) (wft hb_84) rfl fun a hK => ?_
              refine sl_skip hK (by decide) (wft hb_84) rfl fun a hK => ?_
              refine sl hK (by decide) rfl rfl (r_pick_t hb_84 hK rfl rfl) fun a hK => ?_
              refine wpList_nil ?_
              exact ⟨true, H, hK.sub (all_cons rfl (all_cons rfl (all_cons rfl (all_cons rfl (all_cons rfl (all_nil)))))), hS.trunc 0⟩
            · rw [ifb_f hb_84] at H
              refine sl hK (by decide) (wff hb_84) rfl (r_move hK rfl) fun a hK => ?_
              refine sl hK (by decide) (wff hb_84) rfl (r_fieldAddr Try.underlying38 rfl Try.sizeOf9 hK rfl) fun a hK => ?_
              refine sl hK (by decide) (wff hb_84) rfl (r_load Try.isAgg9 hK rfl (hS.cell (.head _) rfl)) fun a hK => ?_
              obtain ⟨y_85, h_86, H⟩ := bind_some H
              refine sl_callV Try.call32 hS hK (by decide) (wff hb_84) rfl rfl (table_Find.calls a0 y_61.Name (lentOf_sub [] _) (h0_0.mono (hS.raLe0 hRA nil_not)) h_86) fun a w hS hK => ?_
              refine sl hK (by decide) (wff hb_84) rfl (r_move hK rfl) fun a hK => ?_
              refine sl hK (by decide) (wff hb_84) rfl (r_ibin hK rfl rfl rfl) fun a hK => ?_
              refine sl hK (by decide) rfl rfl (r_pick_f hb_84 hK rfl rfl) fun a hK => ?_
              refine wpList_nil ?_
              exact ⟨(y_85 != x_30), H, hK.sub (all_cons rfl (all_cons rfl (all_cons rfl (all_cons rfl (all_cons rfl (all_nil)))))), hS.trunc 0⟩
      · rintro a w ⟨x_78, H, hK, hS⟩
        unfold table_columns.j1 at H
        refine wp_cond_split (hK.ev rfl) (fun (hb_87 : x_78 = true) => ?_) (fun (hb_87 : x_78 = false) => ?_)
        · rw [ifb_t hb_87] at H
          refine wp_seq ?_
          refine wp_region_lit ?_
          refine sl hK (by decide) rfl rfl (r_assign hK rfl) fun a hK => ?_
          refine wpList_nil ?_
          obtain rfl := Option.some.inj H
          refine wp_ret ?_
          repeat (first | refine ret_then ?_ | refine ret_block ?_ | refine ret_scope ?_)
          exact ret_1 Try.results41 hK (rv_tmp hK rfl) ⟨rfl, hS.bel⟩
        · rw [ifb_f hb_87] at H
          refine wp_skip ?_
          refine wp_region_lit ?_
          refine sl hK (by decide) rfl rfl (r_ibin hK rfl rfl rfl) fun a hK => ?_
          refine sl hK (by decide) rfl rfl (r_move hK rfl) fun a hK => ?_
          refine wpList_nil ?_
          exact ⟨_, Nat.lt_succ_self _, (IntKind.i64.wrap (x_30 + 1)), H, hK.sub (all_cons rfl (all_cons rfl (all_cons rfl (all_cons rfl (all_nil))))), hS⟩
    · rw [ifb_f hb_60] at H
      refine wp_exit ?_
      refine wp_seq ?_
      refine wp_region_lit ?_
      refine sl hK (by decide) rfl rfl (r_move hK rfl) fun a hK => ?_
      refine sl hK (by decide) rfl rfl (r_len_R Try.underlying22 h0_0 hK rfl) fun a hK => ?_
      refine sl hK (by decide) rfl rfl (r_ibin hK rfl rfl rfl) fun a hK => ?_
      refine sl hK (by decide) rfl rfl (r_move hK rfl) fun a hK => ?_
      rcases or_b (decide ((a0.length : Int) ≥ 1)) with hb_88 | hb_88
      · rw [ifb_t hb_88] at H
        refine sl hK (by decide) (wtt hb_88) rfl (r_move hK rfl) fun a hK => ?_
        refine sl hK (by decide) (wtt hb_88) rfl (r_len_R Try.underlying22 h0_0 hK rfl) fun a hK => ?_
        refine sl hK (by decide) (wtt hb_88) rfl (r_ibin hK rfl rfl rfl) fun a hK => ?_
        refine sl hK (by decide) rfl rfl (r_pick_t hb_88 hK rfl rfl) fun a hK => ?_
        refine sl hK (by decide) rfl rfl (r_assign hK rfl) fun a hK => ?_
        refine wpList_nil ?_
        obtain rfl := Option.some.inj H
        refine wp_ret ?_
        repeat (first | refine ret_then ?_ | refine ret_block ?_ | refine ret_scope ?_)
        exact ret_1 Try.results41 hK (rv_tmp hK rfl) ⟨rfl, hS.bel⟩
      · rw [ifb_f hb_88] at H
        refine sl_skip hK (by decide) (wtf hb_88) rfl fun a hK => ?_
        refine sl_skip hK (by decide) (wtf hb_88) rfl fun a hK => ?_
        refine sl_skip hK (by decide) (wtf hb_88) rfl fun a hK => ?_
        refine sl hK (by decide) rfl rfl (r_pick_f hb_88 hK rfl rfl) fun a hK => ?_
        refine sl hK (by decide) rfl rfl (r_assign hK rfl) fun a hK => ?_
        refine wpList_nil ?_
        obtain rfl := Option.some.inj H
        refine wp_ret ?_
        repeat (first | refine ret_then ?_ | refine ret_block ?_ | refine ret_scope ?_)
        exact ret_1 Try.results41 hK (rv_tmp hK rfl) ⟨rfl, hS.bel⟩

/-! ### catchment/value.Valid: function 42 -/
set_option maxHeartbeats 4000000 in
set_option maxRecDepth 100000 in
theorem value_Valid.calls (a0 : api_Value) {r : Bool} (H : value_Valid a0 = some r) (w0 : World) : CallsV Try.prog 42 #[.agg #[.int .i64 a0.Kind, .int .i64 a0.N, .string a0.S, .int .i64 a0.H.a0, .int .i64 a0.H.a1, .int .i64 a0.H.a2, .int .i64 a0.H.a3, .int .i64 a0.H.a4, .int .i64 a0.H.a5, .int .i64 a0.H.a6, .int .i64 a0.H.a7]] w0 (.bool r) := by
  unfold value_Valid at H
  refine enter (args := [.agg #[.int .i64 a0.Kind, .int .i64 a0.N, .string a0.S, .int .i64 a0.H.a0, .int .i64 a0.H.a1, .int .i64 a0.H.a2, .int .i64 a0.H.a3, .int .i64 a0.H.a4, .int .i64 a0.H.a5, .int .i64 a0.H.a6, .int .i64 a0.H.a7]]) Try.func42 rfl Try.ntmps42 rfl fun a hK => ?_
  have hS := St.init (R := fun _ => none) (w := w0) (fun _ _ h => by cases h)
  have hRL := RLe.refl (M := []) w0 (fun _ => none)
  refine wp_seq ?_
  refine wp_region_lit ?_
  refine sl_box hS hK (by decide) rfl rfl (c := [.int .i64 a0.Kind, .int .i64 a0.N, .string a0.S, .int .i64 a0.H.a0, .int .i64 a0.H.a1, .int .i64 a0.H.a2, .int .i64 a0.H.a3, .int .i64 a0.H.a4, .int .i64 a0.H.a5, .int .i64 a0.H.a6, .int .i64 a0.H.a7]) rfl fun a w b_1 hS hK => ?_
  refine sl hK (by decide) rfl rfl (r_assign hK rfl) fun a hK => ?_
  refine wpList_nil ?_
  refine wp_seq ?_
  refine wp_region_lit ?_
  refine sl hK (by decide) rfl rfl (r_loadA (cs := [.int .i64 a0.Kind, .int .i64 a0.N, .string a0.S, .int .i64 a0.H.a0, .int .i64 a0.H.a1, .int .i64 a0.H.a2, .int .i64 a0.H.a3, .int .i64 a0.H.a4, .int .i64 a0.H.a5, .int .i64 a0.H.a6, .int .i64 a0.H.a7]) Try.isAgg43 Try.sizeOf43 rfl hK rfl (hS.cells_of (m := 11) (.head _) rfl)) fun a hK => ?_
  refine sl_alloc Try.zeroValue43 hS hK (by decide) rfl rfl fun a w b_2 hS hK => ?_
  refine sl_storeA (vs := [.int .i64 a0.Kind, .int .i64 a0.N, .string a0.S, .int .i64 a0.H.a0, .int .i64 a0.H.a1, .int .i64 a0.H.a2, .int .i64 a0.H.a3, .int .i64 a0.H.a4, .int .i64 a0.H.a5, .int .i64 a0.H.a6, .int .i64 a0.H.a7]) (c' := [.int .i64 a0.Kind, .int .i64 a0.N, .string a0.S, .int .i64 a0.H.a0, .int .i64 a0.H.a1, .int .i64 a0.H.a2, .int .i64 a0.H.a3, .int .i64 a0.H.a4, .int .i64 a0.H.a5, .int .i64 a0.H.a6, .int .i64 a0.H.a7]) Try.sizeOf43 hS hK rfl rfl rfl rfl (all_cons rfl (all_cons rfl (all_cons rfl (all_cons rfl (all_cons rfl (all_cons rfl (all_cons rfl (all_cons rfl (all_cons rfl (all_cons rfl (all_cons rfl (all_nil)))))))))))) (Nat.le_of_ble_eq_true rfl) rfl fun a w hS hK => ?_
  refine wpList_nil ?_
  refine wp_seq ?_
  refine wp_region_lit ?_
  refine sl hK (by decide) rfl rfl (r_fieldAddr Try.underlying43 rfl Try.sizeOf3 hK rfl) fun a hK => ?_
  refine sl_store1 (c' := [.int .i64 0, .int .i64 a0.N, .string a0.S, .int .i64 a0.H.a0, .int .i64 a0.H.a1, .int .i64 a0.H.a2, .int .i64 a0.H.a3, .int .i64 a0.H.a4, .int .i64 a0.H.a5, .int .i64 a0.H.a6, .int .i64 a0.H.a7]) Try.sizeOf3 hS hK rfl rfl rfl rfl (Nat.le_of_ble_eq_true rfl) rfl fun a w hS hK => ?_
  refine wpList_nil ?_
  refine wp_seq ?_
  refine wp_region_lit ?_
  refine sl hK (by decide) rfl rfl (r_assign hK rfl) fun a hK => ?_
  refine wpList_nil ?_
  refine wp_seq ?_
  refine wp_seq ?_
  refine wp_region_lit ?_
  refine sl hK (by decide) rfl rfl (r_fieldAddr Try.underlying43 rfl Try.sizeOf3 hK rfl) fun a hK => ?_
  refine sl hK (by decide) rfl rfl (r_load Try.isAgg3 hK rfl (hS.cell (.tail _ (.head _)) rfl)) fun a hK => ?_
  refine wpList_nil ?_
  refine wp_block ?_
  refine wp_seq ?_
  refine wp_region_lit ?_
  refine sl hK (by decide) rfl rfl (r_ibin hK rfl rfl rfl) fun a hK => ?_
  refine sl hK (by decide) rfl rfl (r_assign hK rfl) fun a hK => ?_
  refine wpList_nil ?_
  refine wp_mid (fun a w => ∃ (x_59 : Int) (x_60 : ByteArray) (x_61 : Arr8) (x_62 : Bool), value_Valid.j0 x_59 x_60 x_61 x_62 = some r ∧ Kn 40 a [(3, .pointer (some ⟨b_2, 0, none⟩)), (4, .bool x_62)] ∧ St [] w0 w (fun _ => none) [.cells b_2 [.int .i64 0, .int .i64 x_59, .string x_60, .int .i64 x_61.a0, .int .i64 x_61.a1, .int .i64 x_61.a2, .int .i64 x_61.a3, .int .i64 x_61.a4, .int .i64 x_61.a5, .int .i64 x_61.a6, .int .i64 x_61.a7] 43]) ?_ ?_
  · refine wp_cond_split (hK.ev rfl) (fun (hb_64 : (a0.Kind == 1) = true) => ?_) (fun (hb_64 : (a0.Kind == 1) = false) => ?_)
    · rw [ifb_t hb_64] at H
      refine wp_region_lit ?_
      refine sl hK (by decide) rfl rfl (r_fieldAddr Try.underlying43 rfl Try.sizeOf3 hK rfl) fun a hK => ?_
      refine sl_store1 (c' := [.int .i64 0, .int .i64 0, .string a0.S, .int .i64 a0.H.a0, .int .i64 a0.H.a1, .int .i64 a0.H.a2, .int .i64 a0.H.a3, .int .i64 a0.H.a4, .int .i64 a0.H.a5, .int .i64 a0.H.a6, .int .i64 a0.H.a7]) Try.sizeOf3 hS hK rfl rfl rfl rfl (Nat.le_of_ble_eq_true rfl) rfl fun a w hS hK => ?_
      refine wpList_nil ?_
      exact ⟨0, a0.S, a0.H, true, H, hK.sub (all_cons rfl (all_cons rfl (all_nil))), hS.trunc 1⟩
    · rw [ifb_f hb_64] at H
      refine wp_seq ?_
      refine wp_region_lit ?_
      refine sl hK (by decide) rfl rfl (r_ibin hK rfl rfl rfl) fun a hK => ?_
      refine sl hK (by decide) rfl rfl (r_assign hK rfl) fun a hK => ?_
      refine wpList_nil ?_
      refine wp_mid (fun a w => ∃ (x_90 : Int) (x_91 : ByteArray) (x_92 : Arr8) (x_93 : Bool), value_Valid.j1 x_90 x_91 x_92 x_93 = some r ∧ Kn 40 a [(3, .pointer (some ⟨b_2, 0, none⟩)), (4, .bool x_93)] ∧ St [] w0 w (fun _ => none) [.cells b_2 [.int .i64 0, .int .i64 x_90, .string x_91, .int .i64 x_92.a0, .int .i64 x_92.a1, .int .i64 x_92.a2, .int .i64 x_92.a3, .int .i64 x_92.a4, .int .i64 x_92.a5, .int .i64 x_92.a6, .int .i64 x_92.a7] 43]) ?_ ?_
      · refine wp_cond_split (hK.ev rfl) (fun (hb_95 : (a0.Kind == 2) = true) => ?_) (fun (hb_95 : (a0.Kind == 2) = false) => ?_)
        · rw [ifb_t hb_95] at H
          refine wp_seq ?_
          refine wp_region_lit ?_
          refine sl hK (by decide) rfl rfl (r_fieldAddr Try.underlying43 rfl Try.sizeOf9 hK rfl) fun a hK => ?_
          refine sl_store1 (c' := [.int .i64 0, .int .i64 a0.N, .string (⟨#[]⟩ : ByteArray), .int .i64 a0.H.a0, .int .i64 a0.H.a1, .int .i64 a0.H.a2, .int .i64 a0.H.a3, .int .i64 a0.H.a4, .int .i64 a0.H.a5, .int .i64 a0.H.a6, .int .i64 a0.H.a7]) Try.sizeOf9 hS hK rfl rfl rfl rfl (Nat.le_of_ble_eq_true rfl) rfl fun a w hS hK => ?_
          refine wpList_nil ?_
          refine wp_region_lit ?_
          refine sl hK (by decide) rfl rfl (r_fieldAddr Try.underlying43 rfl Try.sizeOf9 hK rfl) fun a hK => ?_
          refine sl hK (by decide) rfl rfl (r_load Try.isAgg9 hK rfl (hS.cell (.tail _ (.head _)) rfl)) fun a hK => ?_
          refine sl hK (by decide) rfl rfl (r_len_str Try.underlying9 hK rfl) fun a hK => ?_
          refine sl hK (by decide) rfl rfl (r_ibin hK rfl rfl rfl) fun a hK => ?_
          refine sl hK (by decide) rfl rfl (r_assign hK rfl) fun a hK => ?_
          refine wpList_nil ?_
          exact ⟨a0.N, (⟨#[]⟩ : ByteArray), a0.H, (decide ((a0.S.size : Int) ≤ 64)), H, hK.sub (all_cons rfl (all_cons rfl (all_nil))), hS.trunc 1⟩
        · rw [ifb_f hb_95] at H
          refine wp_seq ?_
          refine wp_region_lit ?_
          refine sl hK (by decide) rfl rfl (r_ibin hK rfl rfl rfl) fun a hK => ?_
          refine sl hK (by decide) rfl rfl (r_assign hK rfl) fun a hK => ?_
          refine wpList_nil ?_
          refine wp_mid (fun a w => ∃ (x_106 : Int) (x_107 : Arr8) (x_108 : Bool), value_Valid.j2 a0 x_106 x_107 x_108 = some r ∧ Kn 40 a [(3, .pointer (some ⟨b_2, 0, none⟩)), (4, .bool x_108)] ∧ St [] w0 w (fun _ => none) [.cells b_2 [.int .i64 0, .int .i64 x_106, .string a0.S, .int .i64 x_107.a0, .int .i64 x_107.a1, .int .i64 x_107.a2, .int .i64 x_107.a3, .int .i64 x_107.a4, .int .i64 x_107.a5, .int .i64 x_107.a6, .int .i64 x_107.a7] 43]) ?_ ?_
          · refine wp_cond_split (hK.ev rfl) (fun (hb_110 : (a0.Kind == 3) = true) => ?_) (fun (hb_110 : (a0.Kind == 3) = false) => ?_)
            · rw [ifb_t hb_110] at H
              refine wp_seq ?_
              refine wp_region_lit ?_
              refine sl hK (by decide) rfl rfl (r_fieldAddr Try.underlying43 rfl Try.sizeOf3 hK rfl) fun a hK => ?_
              refine sl_store1 (c' := [.int .i64 0, .int .i64 0, .string a0.S, .int .i64 a0.H.a0, .int .i64 a0.H.a1, .int .i64 a0.H.a2, .int .i64 a0.H.a3, .int .i64 a0.H.a4, .int .i64 a0.H.a5, .int .i64 a0.H.a6, .int .i64 a0.H.a7]) Try.sizeOf3 hS hK rfl rfl rfl rfl (Nat.le_of_ble_eq_true rfl) rfl fun a w hS hK => ?_
              refine wpList_nil ?_
              refine wp_mid (fun a w => ∃ (x_112 : Bool), value_Valid.j3 a0 x_112 = some r ∧ Kn 40 a [(3, .pointer (some ⟨b_2, 0, none⟩)), (4, .bool x_112)] ∧ St [] w0 w (fun _ => none) [.cells b_2 [.int .i64 0, .int .i64 0, .string a0.S, .int .i64 a0.H.a0, .int .i64 a0.H.a1, .int .i64 a0.H.a2, .int .i64 a0.H.a3, .int .i64 a0.H.a4, .int .i64 a0.H.a5, .int .i64 a0.H.a6, .int .i64 a0.H.a7] 43]) ?_ ?_
              · refine wp_region_lit ?_
                refine sl hK (by decide) rfl rfl (r_fieldAddr Try.underlying43 rfl Try.sizeOf3 hK rfl) fun a hK => ?_
                refine sl hK (by decide) rfl rfl (r_load Try.isAgg3 hK rfl (hS.cell (.tail _ (.head _)) rfl)) fun a hK => ?_
                refine sl hK (by decide) rfl rfl (r_ibin hK rfl rfl rfl) fun a hK => ?_
                refine sl hK (by decide) rfl rfl (r_move hK rfl) fun a hK => ?_
                rcases or_b (a0.N == 0) with hb_114 | hb_114
                · rw [ifb_t hb_114] at H
                  refine sl_skip hK (by decide) (wft hb_114) rfl fun a hK => ?_
                  refine sl_skip hK (by decide) (wft hb_114) rfl fun a hK => ?_
                  refine sl_skip hK (by decide) (wft hb_114) rfl fun a hK => ?_
                  refine sl hK (by decide) rfl rfl (r_pick_t hb_114 hK rfl rfl) fun a hK => ?_
                  refine sl hK (by decide) rfl rfl (r_assign hK rfl) fun a hK => ?_
                  refine wpList_nil ?_
                  exact ⟨true, H, hK.sub (all_cons rfl (all_cons rfl (all_nil))), hS.trunc 1⟩
                · rw [ifb_f hb_114] at H
                  refine sl hK (by decide) (wff hb_114) rfl (r_fieldAddr Try.underlying43 rfl Try.sizeOf3 hK rfl) fun a hK => ?_
                  refine sl hK (by decide) (wff hb_114) rfl (r_load Try.isAgg3 hK rfl (hS.cell (.tail _ (.head _)) rfl)) fun a hK => ?_
                  refine sl hK (by decide) (wff hb_114) rfl (r_ibin hK rfl rfl rfl) fun a hK => ?_
                  refine sl hK (by decide) rfl rfl (r_pick_f hb_114 hK rfl rfl) fun a hK => ?_
                  refine sl hK (by decide) rfl rfl (r_assign hK rfl) fun a hK => ?_
                  refine wpList_nil ?_
                  exact ⟨(a0.N == 1), H, hK.sub (all_cons rfl (all_cons rfl (all_nil))), hS.trunc 1⟩
              · rintro a w ⟨x_112, H, hK, hS⟩
                unfold value_Valid.j3 at H
                exact ⟨0, a0.H, x_112, H, hK.sub (all_cons rfl (all_cons rfl (all_nil))), hS⟩
            · rw [ifb_f hb_110] at H
              refine wp_seq ?_
              refine wp_region_lit ?_
              refine sl hK (by decide) rfl rfl (r_ibin hK rfl rfl rfl) fun a hK => ?_
              refine sl hK (by decide) rfl rfl (r_assign hK rfl) fun a hK => ?_
              refine wpList_nil ?_
              refine wp_mid (fun a w => ∃ (x_116 : Arr8) (x_117 : Bool), value_Valid.j4 a0 x_116 x_117 = some r ∧ Kn 40 a [(3, .pointer (some ⟨b_2, 0, none⟩)), (4, .bool x_117)] ∧ St [] w0 w (fun _ => none) [.cells b_2 [.int .i64 0, .int .i64 a0.N, .string a0.S, .int .i64 x_116.a0, .int .i64 x_116.a1, .int .i64 x_116.a2, .int .i64 x_116.a3, .int .i64 x_116.a4, .int .i64 x_116.a5, .int .i64 x_116.a6, .int .i64 x_116.a7] 43]) ?_ ?_
              · refine wp_cond_split (hK.ev rfl) (fun (hb_119 : (a0.Kind == 4) = true) => ?_) (fun (hb_119 : (a0.Kind == 4) = false) => ?_)
                · rw [ifb_t hb_119] at H
                  refine wp_region_lit ?_
                  refine sl hK (by decide) rfl rfl (r_buildAC (ps := []) (c := [.int .i64 0, .int .i64 0, .int .i64 0, .int .i64 0, .int .i64 0, .int .i64 0, .int .i64 0, .int .i64 0]) Try.underlying41 Try.zeroValue41 Try.sizeOf3 hK rfl pc_nil rfl rfl) fun a hK => ?_
                  refine sl hK (by decide) rfl rfl (r_fieldAddr Try.underlying43 rfl Try.sizeOf41 hK rfl) fun a hK => ?_
                  refine sl_storeA (vs := [.int .i64 0, .int .i64 0, .int .i64 0, .int .i64 0, .int .i64 0, .int .i64 0, .int .i64 0, .int .i64 0]) (c' := [.int .i64 0, .int .i64 a0.N, .string a0.S, .int .i64 0, .int .i64 0, .int .i64 0, .int .i64 0, .int .i64 0, .int .i64 0, .int .i64 0, .int .i64 0]) Try.sizeOf41 hS hK rfl rfl rfl rfl (all_cons rfl (all_cons rfl (all_cons rfl (all_cons rfl (all_cons rfl (all_cons rfl (all_cons rfl (all_cons rfl (all_nil))))))))) (Nat.le_of_ble_eq_true rfl) rfl fun a w hS hK => ?_
                  refine wpList_nil ?_
                  exact ⟨(⟨0, 0, 0, 0, 0, 0, 0, 0⟩ : Arr8), true, H, hK.sub (all_cons rfl (all_cons rfl (all_nil))), hS.trunc 1⟩
                · rw [ifb_f hb_119] at H
                  refine wp_region_lit ?_
                  refine sl hK (by decide) rfl rfl (r_assign hK rfl) fun a hK => ?_
                  refine wpList_nil ?_
                  exact ⟨a0.H, false, H, hK.sub (all_cons rfl (all_cons rfl (all_nil))), hS.trunc 1⟩
              · rintro a w ⟨x_116, x_117, H, hK, hS⟩
                unfold value_Valid.j4 at H
                exact ⟨a0.N, x_116, x_117, H, hK.sub (all_cons rfl (all_cons rfl (all_nil))), hS⟩
          · rintro a w ⟨x_106, x_107, x_108, H, hK, hS⟩
            unfold value_Valid.j2 at H
            exact ⟨x_106, a0.S, x_107, x_108, H, hK.sub (all_cons rfl (all_cons rfl (all_nil))), hS⟩
      · rintro a w ⟨x_90, x_91, x_92, x_93, H, hK, hS⟩
        unfold value_Valid.j1 at H
        exact ⟨x_90, x_91, x_92, x_93, H, hK.sub (all_cons rfl (all_cons rfl (all_nil))), hS⟩
  · rintro a w ⟨x_59, x_60, x_61, x_62, H, hK, hS⟩
    unfold value_Valid.j0 at H
    refine wp_seq ?_
    refine wp_region_lit ?_
    refine sl hK (by decide) rfl rfl (r_move hK rfl) fun a hK => ?_
    refine sl hK (by decide) rfl rfl (r_move hK rfl) fun a hK => ?_
    rcases or_b x_62 with hb_120 | hb_120
    · rw [ifb_t hb_120] at H
      refine sl hK (by decide) (wtt hb_120) rfl (r_loadA (cs := [.int .i64 0, .int .i64 x_59, .string x_60, .int .i64 x_61.a0, .int .i64 x_61.a1, .int .i64 x_61.a2, .int .i64 x_61.a3, .int .i64 x_61.a4, .int .i64 x_61.a5, .int .i64 x_61.a6, .int .i64 x_61.a7]) Try.isAgg43 Try.sizeOf43 rfl hK rfl (hS.cells_of (m := 11) (.head _) rfl)) fun a hK => ?_
      refine sl hK (by decide) (wtt hb_120) rfl (r_buildC (ps := []) (c := [.int .i64 0, .int .i64 0, .string (⟨#[]⟩ : ByteArray), .int .i64 0, .int .i64 0, .int .i64 0, .int .i64 0, .int .i64 0, .int .i64 0, .int .i64 0, .int .i64 0]) Try.underlying43 Try.zeroValue43 places43 hK rfl pc_nil rfl rfl) fun a hK => ?_
      refine sl hK (by decide) (wtt hb_120) rfl (r_seq (by kernel_rfl) (eqs43 (⟨0, x_59, x_60, x_61⟩ : api_Value) (⟨0, 0, (⟨#[]⟩ : ByteArray), (⟨0, 0, 0, 0, 0, 0, 0, 0⟩ : Arr8)⟩ : api_Value)) hK rfl rfl) fun a hK => ?_
      refine sl hK (by decide) rfl rfl (r_pick_t hb_120 hK rfl rfl) fun a hK => ?_
      refine sl hK (by decide) rfl rfl (r_assign hK rfl) fun a hK => ?_
      refine wpList_nil ?_
      obtain rfl := Option.some.inj H
      refine wp_ret ?_
      repeat (first | refine ret_then ?_ | refine ret_block ?_ | refine ret_scope ?_)
      exact ret_1 Try.results42 hK (rv_tmp hK rfl) ⟨rfl, hS.bel⟩
    · rw [ifb_f hb_120] at H
      refine sl_skip hK (by decide) (wtf hb_120) rfl fun a hK => ?_
      refine sl_skip hK (by decide) (wtf hb_120) rfl fun a hK => ?_
      refine sl_skip hK (by decide) (wtf hb_120) rfl fun a hK => ?_
      refine sl hK (by decide) rfl rfl (r_pick_f hb_120 hK rfl rfl) fun a hK => ?_
      refine sl hK (by decide) rfl rfl (r_assign hK rfl) fun a hK => ?_
      refine wpList_nil ?_
      obtain rfl := Option.some.inj H
      refine wp_ret ?_
      repeat (first | refine ret_then ?_ | refine ret_block ?_ | refine ret_scope ?_)
      exact ret_1 Try.results42 hK (rv_tmp hK rfl) ⟨rfl, hS.bel⟩

/-! ### catchment/table.Check: function 24 -/
set_option maxHeartbeats 4000000 in
set_option maxRecDepth 100000 in
theorem table_Check.calls (a0 : api_Table) {w0 : World} {RA : Hp} {v0_0 : Value} {v0_1 : Value} (hRA : RA.sub w0) (h0_0 : SlR ty_api_Col RA v0_0 a0.Cols) (h0_1 : SlR (tySl ty_api_Value) RA v0_1 a0.Rows) {r : Int} (H : table_Check a0 = some r) : CallsV Try.prog 24 #[.agg #[v0_0, v0_1]] w0 (.int .i64 r) := by
  unfold table_Check at H
  refine enter (args := [.agg #[v0_0, v0_1]]) Try.func24 rfl Try.ntmps24 rfl fun a hK => ?_
  have hS := St.init (R := fun _ => none) (w := w0) (fun _ _ h => by cases h)
  have hRL := RLe.refl (M := []) w0 (fun _ => none)
  refine wp_seq ?_
  refine wp_region_lit ?_
  refine sl_box hS hK (by decide) rfl rfl (c := [v0_0, v0_1]) rfl fun a w b_1 hS hK => ?_
  refine sl hK (by decide) rfl rfl (r_assign hK rfl) fun a hK => ?_
  refine wpList_nil ?_
  refine wp_seq ?_
  refine wp_seq ?_
  refine wp_region_lit ?_
  refine sl hK (by decide) rfl rfl (r_fieldAddr Try.underlying25 rfl Try.sizeOf22 hK rfl) fun a hK => ?_
  refine sl hK (by decide) rfl rfl (r_load Try.isAgg22 hK rfl (hS.cell (.head _) rfl)) fun a hK => ?_
  obtain ⟨y_2, h_3, H⟩ := bind_some H
  refine sl_callV Try.call41 hS hK (by decide) rfl rfl rfl (table_columns.calls a0.Cols (lentOf_sub [] _) (h0_0.mono (hS.raLe0 hRA nil_not)) h_3) fun a w hS hK => ?_
  refine sl hK (by decide) rfl rfl (r_un hK rfl (u_not _)) fun a hK => ?_
  refine wpList_nil ?_
  refine wp_cond_split (hK.ev rfl) (fun (hb_4 : (!y_2) = true) => ?_) (fun (hb_4 : (!y_2) = false) => ?_)
  · rw [ifb_t hb_4] at H
    refine wp_seq ?_
    refine wp_region_lit ?_
    refine sl hK (by decide) rfl rfl (r_assign hK rfl) fun a hK => ?_
    refine wpList_nil ?_
    obtain rfl := Option.some.inj H
    refine wp_ret ?_
    repeat (first | refine ret_then ?_ | refine ret_block ?_ | refine ret_scope ?_)
    exact ret_1 Try.results24 hK (rv_tmp hK rfl) ⟨rfl, hS.bel⟩
  · rw [ifb_f hb_4] at H
    refine wp_skip ?_
    refine wp_seq ?_
    refine wp_seq ?_
    refine wp_region_lit ?_
    refine sl hK (by decide) rfl rfl (r_fieldAddr Try.underlying25 rfl Try.sizeOf23 hK rfl) fun a hK => ?_
    refine sl hK (by decide) rfl rfl (r_load Try.isAgg23 hK rfl (hS.cell (.head _) rfl)) fun a hK => ?_
    refine sl hK (by decide) rfl rfl (r_len_R Try.underlying23 h0_1 hK rfl) fun a hK => ?_
    refine sl hK (by decide) rfl rfl (r_move hK rfl) fun a hK => ?_
    refine wpList_nil ?_
    refine wp_block ?_
    refine wp_loop_k (fun k_l0 a w => ∃ (x_208 : Int), table_Check.l0 a0 k_l0 x_208 = some r ∧ Kn 47 a [(1, .pointer (some ⟨b_1, 0, none⟩)), (12, v0_1), (13, .int .i64 (a0.Rows.length : Int)), (14, .int .i64 x_208)] ∧ St [] w0 w (fun _ => none) [.cells b_1 [v0_0, v0_1] 25]) (((a0.Rows.length : Int) - 0).toNat + 1) ?_ ?_
    · exact ⟨0, H, hK.sub (all_cons rfl (all_cons rfl (all_cons rfl (all_cons rfl (all_nil))))), hS⟩
    · rintro k_l0 a w ⟨x_208, H, hK, hS⟩
      cases k_l0 with
      | zero => cases H
      | succ k_l0 =>
      rw [table_Check.l0.eq_2] at H
      refine wp_seq ?_
      refine wp_region_lit ?_
      refine sl hK (by decide) rfl rfl (r_ibin hK rfl rfl rfl) fun a hK => ?_
      refine wpList_nil ?_
      refine wp_seq ?_
      refine wp_cond_split (hK.ev rfl) (fun (hb_412 : (decide (x_208 < (a0.Rows.length : Int))) = true) => ?_) (fun (hb_412 : (decide (x_208 < (a0.Rows.length : Int))) = false) => ?_)
      · rw [ifb_t hb_412] at H
        refine wp_skip ?_
        refine wp_seq ?_
        refine wp_block ?_
        refine wp_seq ?_
        refine wp_region_lit ?_
        obtain ⟨y_413, h_414, H⟩ := bind_some H
        obtain ⟨b_415, o_416, c_417, cs_418, hv_419, hr_420, hc_421, h_4140, h_4141⟩ := h0_1.ix h_414
        obtain ⟨v_422, rfl, hs_423⟩ := hr_420
        refine sl hK (by decide) rfl rfl (r_indexAddr_R Try.underlying23 Try.sizeOf44 hv_419 h_4140 h_4141 hK rfl rfl) fun a hK => ?_
        refine sl hK (by decide) rfl rfl (r_load Try.isAgg44 hK rfl ((hS.ra hRA nil_not).cell (hc_421 0 _ rfl))) fun a hK => ?_
        refine sl hK (by decide) rfl rfl (r_assign hK rfl) fun a hK => ?_
        refine wpList_nil ?_
        refine wp_seq ?_
        refine wp_seq ?_
        refine wp_region_lit ?_
        refine sl hK (by decide) rfl rfl (r_move hK rfl) fun a hK => ?_
        refine sl hK (by decide) rfl rfl (r_len_R Try.underlying44 hs_423 hK rfl) fun a hK => ?_
        refine sl hK (by decide) rfl rfl (r_fieldAddr Try.underlying25 rfl Try.sizeOf22 hK rfl) fun a hK => ?_
        refine sl hK (by decide) rfl rfl (r_load Try.isAgg22 hK rfl (hS.cell (.head _) rfl)) fun a hK => ?_
        refine sl hK (by decide) rfl rfl (r_len_R Try.underlying22 h0_0 hK rfl) fun a hK => ?_
        refine sl hK (by decide) rfl rfl (r_ibin hK rfl rfl rfl) fun a hK => ?_
        refine wpList_nil ?_
        refine wp_cond_split (hK.ev rfl) (fun (hb_424 : ((y_413.length : Int) != (a0.Cols.length : Int)) = true) => ?_) (fun (hb_424 : ((y_413.length : Int) != (a0.Cols.length : Int)) = false) => ?_)
        · rw [ifb_t hb_424] at H
          refine wp_seq ?_
          refine wp_region_lit ?_
          refine sl hK (by decide) rfl rfl (r_assign hK rfl) fun a hK => ?_
          refine wpList_nil ?_
          obtain rfl := Option.some.inj H
          refine wp_ret ?_
          repeat (first | refine ret_then ?_ | refine ret_block ?_ | refine ret_scope ?_)
          exact ret_1 Try.results24 hK (rv_tmp hK rfl) ⟨rfl, hS.bel⟩
        · rw [ifb_f hb_424] at H
          refine wp_skip ?_
          refine wp_seq ?_
          refine wp_region_lit ?_
          refine sl hK (by decide) rfl rfl (r_move hK rfl) fun a hK => ?_
          refine sl hK (by decide) rfl rfl (r_len_R Try.underlying44 hs_423 hK rfl) fun a hK => ?_
          refine sl hK (by decide) rfl rfl (r_move hK rfl) fun a hK => ?_
          refine wpList_nil ?_
          refine wp_block ?_
          refine wp_loop_k (fun k_l1 a w => ∃ (x_488 : Int), table_Check.l1 (table_Check.l0 a0 k_l0) a0 x_208 y_413 k_l1 x_488 = some r ∧ Kn 47 a [(1, .pointer (some ⟨b_1, 0, none⟩)), (12, v0_1), (13, .int .i64 (a0.Rows.length : Int)), (14, .int .i64 x_208), (24, v_422), (25, .int .i64 (y_413.length : Int)), (26, .int .i64 x_488)] ∧ St [] w0 w (fun _ => none) [.cells b_1 [v0_0, v0_1] 25]) (((y_413.length : Int) - 0).toNat + 1) ?_ ?_
          · exact ⟨0, H, hK.sub (all_cons rfl (all_cons rfl (all_cons rfl (all_cons rfl (all_cons rfl (all_cons rfl (all_cons rfl (all_nil)))))))), hS⟩
          · rintro k_l1 a w ⟨x_488, H, hK, hS⟩
            cases k_l1 with
            | zero => cases H
            | succ k_l1 =>
            rw [table_Check.l1.eq_2] at H
            refine wp_seq ?_
            refine wp_region_lit ?_
            refine sl hK (by decide) rfl rfl (r_ibin hK rfl rfl rfl) fun a hK => ?_
            refine wpList_nil ?_
            refine wp_seq ?_
            refine wp_cond_split (hK.ev rfl) (fun (hb_552 : (decide (x_488 < (y_413.length : Int))) = true) => ?_) (fun (hb_552 : (decide (x_488 < (y_413.length : Int))) = false) => ?_)
            · rw [ifb_t hb_552] at H
              refine wp_skip ?_
              refine wp_seq ?_
              refine wp_block ?_
              refine wp_seq ?_
              refine wp_region_lit ?_
              refine sl hK (by decide) rfl rfl (r_move hK rfl) fun a hK => ?_
              obtain ⟨y_553, h_554, H⟩ := bind_some H
              obtain ⟨b_555, o_556, c_557, cs_558, hv_559, hr_560, hc_561, h_5540, h_5541⟩ := hs_423.ix h_554
              subst hr_560
              refine sl hK (by decide) rfl rfl (r_indexAddr_R Try.underlying44 Try.sizeOf43 hv_559 h_5540 h_5541 hK rfl rfl) fun a hK => ?_
              refine sl hK (by decide) rfl rfl (r_loadA (cs := [.int .i64 y_553.Kind, .int .i64 y_553.N, .string y_553.S, .int .i64 y_553.H.a0, .int .i64 y_553.H.a1, .int .i64 y_553.H.a2, .int .i64 y_553.H.a3, .int .i64 y_553.H.a4, .int .i64 y_553.H.a5, .int .i64 y_553.H.a6, .int .i64 y_553.H.a7]) Try.isAgg43 Try.sizeOf43 rfl hK rfl (fun j v hv => (hS.ra hRA nil_not).cell (hc_561 j v hv))) fun a hK => ?_
              refine sl_alloc Try.zeroValue43 hS hK (by decide) rfl rfl fun a w b_562 hS hK => ?_
              refine sl hK (by decide) rfl rfl (r_assign hK rfl) fun a hK => ?_
              refine sl_storeA (vs := [.int .i64 y_553.Kind, .int .i64 y_553.N, .string y_553.S, .int .i64 y_553.H.a0, .int .i64 y_553.H.a1, .int .i64 y_553.H.a2, .int .i64 y_553.H.a3, .int .i64 y_553.H.a4, .int .i64 y_553.H.a5, .int .i64 y_553.H.a6, .int .i64 y_553.H.a7]) (c' := [.int .i64 y_553.Kind, .int .i64 y_553.N, .string y_553.S, .int .i64 y_553.H.a0, .int .i64 y_553.H.a1, .int .i64 y_553.H.a2, .int .i64 y_553.H.a3, .int .i64 y_553.H.a4, .int .i64 y_553.H.a5, .int .i64 y_553.H.a6, .int .i64 y_553.H.a7]) Try.sizeOf43 hS hK rfl rfl rfl rfl (all_cons rfl (all_cons rfl (all_cons rfl (all_cons rfl (all_cons rfl (all_cons rfl (all_cons rfl (all_cons rfl (all_cons rfl (all_cons rfl (all_cons rfl (all_nil)))))))))))) (Nat.le_of_ble_eq_true rfl) rfl fun a w hS hK => ?_
              refine wpList_nil ?_
              refine wp_seq ?_
              refine wp_mid (fun a w => ∃ (x_587 : Bool), table_Check.j2 (table_Check.l1 (table_Check.l0 a0 k_l0) a0 x_208 y_413 k_l1) y_413 x_488 x_587 = some r ∧ Kn 47 a [(1, .pointer (some ⟨b_1, 0, none⟩)), (12, v0_1), (13, .int .i64 (a0.Rows.length : Int)), (14, .int .i64 x_208), (24, v_422), (25, .int .i64 (y_413.length : Int)), (26, .int .i64 x_488), (44, .bool x_587)] ∧ St [] w0 w (fun _ => none) [.cells b_1 [v0_0, v0_1] 25]) ?_ ?_
              · refine parT_region (C := fun w => St [] w0 w (fun _ => none) [.cells b_562 [.int .i64 y_553.Kind, .int .i64 y_553.N, .string y_553.S, .int .i64 y_553.H.a0, .int .i64 y_553.H.a1, .int .i64 y_553.H.a2, .int .i64 y_553.H.a3, .int .i64 y_553.H.a4, .int .i64 y_553.H.a5, .int .i64 y_553.H.a6, .int .i64 y_553.H.a7] 43, .cells b_1 [v0_0, v0_1] 25]) 8 [(0, true), (1, true), (2, true), (3, true), (4, true), (5, true), (6, true), (7, true)] mixed (by kernel_rfl) hS (fun w hS => hS) fun w hS => ?_
                refine sp (k := 0) rfl hK (by decide) rfl rfl (fun w hS => r_fieldAddr Try.underlying43 rfl Try.sizeOf3 hK rfl) fun a hK => ?_
                refine sp (k := 1) rfl hK (by decide) rfl rfl (fun w hS => r_load Try.isAgg3 hK rfl (hS.cell (.head _) rfl)) fun a hK => ?_
                refine sp (k := 2) rfl hK (by decide) rfl rfl (fun w hS => r_fieldAddr Try.underlying25 rfl Try.sizeOf22 hK rfl) fun a hK => ?_
                refine sp (k := 3) rfl hK (by decide) rfl rfl (fun w hS => r_load Try.isAgg22 hK rfl (hS.cell (.tail _ (.head _)) rfl)) fun a hK => ?_
                refine sp (k := 4) rfl hK (by decide) rfl rfl (fun w hS => r_move hK rfl) fun a hK => ?_
                obtain ⟨y_601, h_602, H⟩ := bind_some H
                obtain ⟨b_603, o_604, c_605, cs_606, hv_607, hr_608, hc_609, h_6020, h_6021⟩ := h0_0.ix h_602
                subst hr_608
                refine sp (k := 5) rfl hK (by decide) rfl rfl (fun w hS => r_indexAddr_R Try.underlying22 Try.sizeOf38 hv_607 h_6020 h_6021 hK rfl rfl) fun a hK => ?_
                refine sp (k := 6) rfl hK (by decide) rfl rfl (fun w hS => r_fieldAddr Try.underlying38 rfl Try.sizeOf3 hK rfl) fun a hK => ?_
                refine sp (k := 7) rfl hK (by decide) rfl rfl (fun w hS => r_load Try.isAgg3 hK rfl ((hS.ra hRA nil_not).cell (hc_609 1 _ rfl))) fun a hK => ?_
                refine thenL_nil ?_
                refine sl hK (by decide) rfl rfl (r_ibin hK rfl rfl rfl) fun a hK => ?_
                refine sl hK (by decide) rfl rfl (r_move hK rfl) fun a hK => ?_
                rcases or_b (y_553.Kind != y_601.Kind) with hb_610 | hb_610
                · rw [ifb_t hb_610] at H
                  refine sl_skip hK (by decide) (wft hb_610) rfl fun a hK => ?_
                  refine sl_skip hK (by decide) (wft hb_610) rfl fun a hK => ?_
                  refine sl_skip hK (by decide) (wft hb_610) rfl fun a hK => ?_
                  refine sl hK (by decide) rfl rfl (r_pick_t hb_610 hK rfl rfl) fun a hK => ?_
                  refine wpList_nil (NoP_nil ?_)
                  have hS := hS.pk1
                  exact ⟨true, H, hK.sub (all_cons rfl (all_cons rfl (all_cons rfl (all_cons rfl (all_cons rfl (all_cons rfl (all_cons rfl (all_cons rfl (all_nil))))))))), hS.trunc 1⟩
                · rw [ifb_f hb_610] at H
                  refine sl hK (by decide) (wff hb_610) rfl (r_loadA (cs := [.int .i64 y_553.Kind, .int .i64 y_553.N, .string y_553.S, .int .i64 y_553.H.a0, .int .i64 y_553.H.a1, .int .i64 y_553.H.a2, .int .i64 y_553.H.a3, .int .i64 y_553.H.a4, .int .i64 y_553.H.a5, .int .i64 y_553.H.a6, .int .i64 y_553.H.a7]) Try.isAgg43 Try.sizeOf43 rfl hK rfl (hS.cells_of (m := 11) (.head _) rfl)) fun a hK => ?_
                  obtain ⟨y_611, h_612, H⟩ := bind_some H
                  refine sl_callV Try.call42 hS hK (by decide) (wff hb_610) rfl rfl (value_Valid.calls y_553 h_612 _) fun a w hS hK => ?_
                  refine sl hK (by decide) (wff hb_610) rfl (r_un hK rfl (u_not _)) fun a hK => ?_
                  refine sl hK (by decide) rfl rfl (r_pick_f hb_610 hK rfl rfl) fun a hK => ?_
                  refine wpList_nil (NoP_nil ?_)
                  have hS := hS.pk1
                  exact ⟨(!y_611), H, hK.sub (all_cons rfl (all_cons rfl (all_cons rfl (all_cons rfl (all_cons rfl (all_cons rfl (all_cons rfl (all_cons rfl (all_nil))))))))), hS.trunc 1⟩
              · rintro a w ⟨x_587, H, hK, hS⟩
                unfold table_Check.j2 at H
                refine wp_cond_split (hK.ev rfl) (fun (hb_613 : x_587 = true) => ?_) (fun (hb_613 : x_587 = false) => ?_)
                · rw [ifb_t hb_613] at H
                  refine wp_seq ?_
                  refine wp_region_lit ?_
                  refine sl hK (by decide) rfl rfl (r_assign hK rfl) fun a hK => ?_
                  refine wpList_nil ?_
                  obtain rfl := Option.some.inj H
                  refine wp_ret ?_
                  repeat (first | refine ret_then ?_ | refine ret_block ?_ | refine ret_scope ?_)
                  exact ret_1 Try.results24 hK (rv_tmp hK rfl) ⟨rfl, hS.bel⟩
                · rw [ifb_f hb_613] at H
                  refine wp_skip ?_
                  refine wp_region_lit ?_
                  refine sl hK (by decide) rfl rfl (r_ibin hK rfl rfl rfl) fun a hK => ?_
                  refine sl hK (by decide) rfl rfl (r_move hK rfl) fun a hK => ?_
                  refine wpList_nil ?_
                  exact ⟨_, Nat.lt_succ_self _, (IntKind.i64.wrap (x_488 + 1)), H, hK.sub (all_cons rfl (all_cons rfl (all_cons rfl (all_cons rfl (all_cons rfl (all_cons rfl (all_cons rfl (all_nil)))))))), hS⟩
            · rw [ifb_f hb_552] at H
              refine wp_exit ?_
              refine wp_region_lit ?_
              refine sl hK (by decide) rfl rfl (r_ibin hK rfl rfl rfl) fun a hK => ?_
              refine sl hK (by decide) rfl rfl (r_move hK rfl) fun a hK => ?_
              refine wpList_nil ?_
              exact ⟨_, Nat.lt_succ_self _, (IntKind.i64.wrap (x_208 + 1)), H, hK.sub (all_cons rfl (all_cons rfl (all_cons rfl (all_cons rfl (all_nil))))), hS⟩
      · rw [ifb_f hb_412] at H
        refine wp_exit ?_
        refine wp_seq ?_
        refine wp_region_lit ?_
        refine sl hK (by decide) rfl rfl (r_assign hK rfl) fun a hK => ?_
        refine wpList_nil ?_
        obtain rfl := Option.some.inj H
        refine wp_ret ?_
        repeat (first | refine ret_then ?_ | refine ret_block ?_ | refine ret_scope ?_)
        exact ret_1 Try.results24 hK (rv_tmp hK rfl) ⟨rfl, hS.bel⟩

/-! ### slices.Index[[]catchment/api.Col,catchment/api.Col]: function 25 -/
set_option maxHeartbeats 4000000 in
set_option maxRecDepth 100000 in
theorem slices_Index_api_Col_api_Col.calls (a0 : List api_Col) (a1 : api_Col) {w0 : World} {RA : Hp} {v0_0 : Value} (hRA : RA.sub w0) (h0_0 : SlR ty_api_Col RA v0_0 a0) {r : Int} (H : slices_Index_api_Col_api_Col a0 a1 = some r) : CallsV Try.prog 25 #[v0_0, .agg #[.string a1.Name, .int .i64 a1.Kind]] w0 (.int .i64 r) := by
  unfold slices_Index_api_Col_api_Col at H
  refine enter (args := [v0_0, .agg #[.string a1.Name, .int .i64 a1.Kind]]) Try.func25 rfl Try.ntmps25 rfl fun a hK => ?_
  have hS := St.init (R := fun _ => none) (w := w0) (fun _ _ h => by cases h)
  have hRL := RLe.refl (M := []) w0 (fun _ => none)
  refine wp_seq ?_
  refine wp_region_lit ?_
  refine sl_box hS hK (by decide) rfl rfl (c := [.string a1.Name, .int .i64 a1.Kind]) rfl fun a w b_1 hS hK => ?_
  refine sl hK (by decide) rfl rfl (r_assign hK rfl) fun a hK => ?_
  refine wpList_nil ?_
  refine wp_seq ?_
  refine wp_seq ?_
  refine wp_region_lit ?_
  refine sl hK (by decide) rfl rfl (r_move hK rfl) fun a hK => ?_
  refine sl hK (by decide) rfl rfl (r_len_R Try.underlying22 h0_0 hK rfl) fun a hK => ?_
  refine sl hK (by decide) rfl rfl (r_move hK rfl) fun a hK => ?_
  refine wpList_nil ?_
  refine wp_block ?_
  refine wp_loop_k (fun k_l0 a w => ∃ (x_23 : Int), slices_Index_api_Col_api_Col.l0 a0 a1 k_l0 x_23 = some r ∧ Kn 19 a [(0, v0_0), (3, .pointer (some ⟨b_1, 0, none⟩)), (7, .int .i64 (a0.length : Int)), (8, .int .i64 x_23)] ∧ St [] w0 w (fun _ => none) [.cells b_1 [.string a1.Name, .int .i64 a1.Kind] 38]) (((a0.length : Int) - 0).toNat + 1) ?_ ?_
  · exact ⟨0, H, hK.sub (all_cons rfl (all_cons rfl (all_cons rfl (all_cons rfl (all_nil))))), hS⟩
  · rintro k_l0 a w ⟨x_23, H, hK, hS⟩
    cases k_l0 with
    | zero => cases H
    | succ k_l0 =>
    rw [slices_Index_api_Col_api_Col.l0.eq_2] at H
    refine wp_seq ?_
    refine wp_region_lit ?_
    refine sl hK (by decide) rfl rfl (r_ibin hK rfl rfl rfl) fun a hK => ?_
    refine wpList_nil ?_
    refine wp_seq ?_
    refine wp_cond_split (hK.ev rfl) (fun (hb_45 : (decide (x_23 < (a0.length : Int))) = true) => ?_) (fun (hb_45 : (decide (x_23 < (a0.length : Int))) = false) => ?_)
    · rw [ifb_t hb_45] at H
      refine wp_skip ?_
      refine wp_seq ?_
      refine wp_block ?_
      refine wp_seq ?_
      refine wp_region_lit ?_
      refine sl hK (by decide) rfl rfl (r_move hK rfl) fun a hK => ?_
      refine sl hK (by decide) rfl rfl (r_assign hK rfl) fun a hK => ?_
      refine wpList_nil ?_
      refine wp_seq ?_
      refine par_region (C := fun w => St [] w0 w (fun _ => none) [.cells b_1 [.string a1.Name, .int .i64 a1.Kind] 38]) [(0, true), (1, true), (2, true), (3, true), (4, true), (5, true)] mixed (by kernel_rfl) hS (fun w hS => hS) fun w hS => ?_
      refine sp (k := 0) rfl hK (by decide) rfl rfl (fun w hS => r_loadA (cs := [.string a1.Name, .int .i64 a1.Kind]) Try.isAgg38 Try.sizeOf38 rfl hK rfl (hS.cells_of (m := 2) (.head _) rfl)) fun a hK => ?_
      refine sp (k := 1) rfl hK (by decide) rfl rfl (fun w hS => r_move hK rfl) fun a hK => ?_
      refine sp (k := 2) rfl hK (by decide) rfl rfl (fun w hS => r_move hK rfl) fun a hK => ?_
      obtain ⟨y_55, h_56, H⟩ := bind_some H
      obtain ⟨b_57, o_58, c_59, cs_60, hv_61, hr_62, hc_63, h_560, h_561⟩ := h0_0.ix h_56
      subst hr_62
      refine sp (k := 3) rfl hK (by decide) rfl rfl (fun w hS => r_indexAddr_R Try.underlying22 Try.sizeOf38 hv_61 h_560 h_561 hK rfl rfl) fun a hK => ?_
      refine sp (k := 4) rfl hK (by decide) rfl rfl (fun w hS => r_loadA (cs := [.string y_55.Name, .int .i64 y_55.Kind]) Try.isAgg38 Try.sizeOf38 rfl hK rfl (fun j v hv => (hS.ra hRA nil_not).cell (hc_63 j v hv))) fun a hK => ?_
      refine sp (k := 5) rfl hK (by decide) rfl rfl (fun w hS => r_seq (by kernel_rfl) (eqs38 a1 y_55) hK rfl rfl) fun a hK => ?_
      refine wpPar_nil (NoP_nil ?_)
      refine wp_cond_split (hK.ev rfl) (fun (hb_64 : (decide (a1 = y_55)) = true) => ?_) (fun (hb_64 : (decide (a1 = y_55)) = false) => ?_)
      · rw [ifb_t hb_64] at H
        refine wp_seq ?_
        refine wp_region_lit ?_
        refine sl hK (by decide) rfl rfl (r_move hK rfl) fun a hK => ?_
        refine sl hK (by decide) rfl rfl (r_assign hK rfl) fun a hK => ?_
        refine wpList_nil ?_
        obtain rfl := Option.some.inj H
        refine wp_ret ?_
        repeat (first | refine ret_then ?_ | refine ret_block ?_ | refine ret_scope ?_)
        exact ret_1 Try.results25 hK (rv_tmp hK rfl) ⟨rfl, hS.bel⟩
      · rw [ifb_f hb_64] at H
        refine wp_skip ?_
        refine wp_region_lit ?_
        refine sl hK (by decide) rfl rfl (r_ibin hK rfl rfl rfl) fun a hK => ?_
        refine sl hK (by decide) rfl rfl (r_move hK rfl) fun a hK => ?_
        refine wpList_nil ?_
        exact ⟨_, Nat.lt_succ_self _, (IntKind.i64.wrap (x_23 + 1)), H, hK.sub (all_cons rfl (all_cons rfl (all_cons rfl (all_cons rfl (all_nil))))), hS⟩
    · rw [ifb_f hb_45] at H
      refine wp_exit ?_
      refine wp_seq ?_
      refine wp_region_lit ?_
      refine sl hK (by decide) rfl rfl (r_assign hK rfl) fun a hK => ?_
      refine wpList_nil ?_
      obtain rfl := Option.some.inj H
      refine wp_ret ?_
      repeat (first | refine ret_then ?_ | refine ret_block ?_ | refine ret_scope ?_)
      exact ret_1 Try.results25 hK (rv_tmp hK rfl) ⟨rfl, hS.bel⟩

/-! ### slices.Clone[[]catchment/api.Col,catchment/api.Col]: function 43 -/
set_option maxHeartbeats 4000000 in
set_option maxRecDepth 100000 in
theorem slices_Clone_api_Col_api_Col.calls (a0 : List api_Col) {w0 : World} {R : Hp} {RA : Hp} {v0_0 : Value} (hRA : RA.sub w0) (hR : R.sub w0) (h0_0 : SlR ty_api_Col RA v0_0 a0) {r : List api_Col} (H : slices_Clone_api_Col_api_Col a0 = some r) : Calls Try.prog 43 #[v0_0] w0 (Rets fun v w' => ∃ (R' : Hp) (u0 : Value) (cu0 : List Value), v = u0 ∧ St [] w0 w' R' [.row 38 2 u0 r.length cu0] ∧ RLe [] w0 R R' ∧ Reps ty_api_Col R' cu0 r) := by
  unfold slices_Clone_api_Col_api_Col at H
  rcases SlR.nilcase h0_0 with ⟨hn, hx⟩ | ⟨ad_, m_, c_, hn⟩
  · subst hx
    have H : some ([] : List api_Col) = some r := by simpa [apd] using H
    refine enter (args := [v0_0]) Try.func43 rfl Try.ntmps43 rfl fun a hK => ?_
    have hS := St.init hR
    have hRL := RLe.refl (M := []) w0 R
    refine wp_seq ?_
    refine wp_region_lit ?_
    refine sl hK (by decide) rfl rfl (r_assign hK rfl) fun a hK => ?_
    refine wpList_nil ?_
    refine wp_seq ?_
    refine wp_seq ?_
    refine wp_region_lit ?_
    refine sl hK (by decide) rfl rfl (r_move hK rfl) fun a hK => ?_
    refine sl hK (by decide) rfl rfl (r_sleqN Try.underlying22 hn hK rfl rfl) fun a hK => ?_
    refine wpList_nil ?_
    refine wp_cond_true (hK.ev rfl) ?_
    refine wp_seq ?_
    refine wp_region_lit ?_
    refine sl hK (by decide) rfl rfl (r_assign hK rfl) fun a hK => ?_
    refine wpList_nil ?_
    have hS := hS.row_nil 38 2
    have hq_11 : Reps ty_api_Col R [] ([] : List api_Col) := Reps.nil _ _
    obtain rfl := Option.some.inj H
    refine wp_ret ?_
    repeat (first | refine ret_then ?_ | refine ret_block ?_ | refine ret_scope ?_)
    exact ret_1 Try.results43 hK (rv_tmp hK rfl) ⟨_, rfl, _, _, _, rfl, hS, hRL, hq_11⟩
  · refine enter (args := [v0_0]) Try.func43 rfl Try.ntmps43 rfl fun a hK => ?_
    have hS := St.init hR
    have hRL := RLe.refl (M := []) w0 R
    refine wp_seq ?_
    refine wp_region_lit ?_
    refine sl hK (by decide) rfl rfl (r_assign hK rfl) fun a hK => ?_
    refine wpList_nil ?_
    refine wp_seq ?_
    refine wp_seq ?_
    refine wp_region_lit ?_
    refine sl hK (by decide) rfl rfl (r_move hK rfl) fun a hK => ?_
    refine sl hK (by decide) rfl rfl (r_sleqS Try.underlying22 hn hK rfl rfl) fun a hK => ?_
    refine wpList_nil ?_
    refine wp_cond_false (hK.ev rfl) ?_
    refine wp_skip ?_
    refine wp_seq ?_
    refine wp_region_lit ?_
    refine sl_buildSliceC (zc := [.string (⟨#[]⟩ : ByteArray), .int .i64 0]) (zs := []) (ps := []) (c := []) Try.underlying22 Try.sizeOf38 Try.zeroValue38 rfl pc_nil rfl rfl (by decide) (by kernel_rfl) rfl hS hK (by decide) rfl fun a w b_1 hS hK => ?_
    refine sl hK (by decide) rfl rfl (r_move hK rfl) fun a hK => ?_
    obtain ⟨y_4, h_5, H⟩ := bind_some H
    have hS := hS.row_lit (size := 2) (m := 0) rfl (by decide)
    have hq_3 : Reps ty_api_Col R [] ([] : List api_Col) := (Reps.nil _ _)
    refine sl_append_A elT22 (by decide) rfl (fun _ _ _ _ h => h) (hS.ra hRA nil_not) hq_3 rfl h0_0 h_5 hS hK (by decide) rfl rfl rfl fun a w v_6 cs_7 hq_8 hS hK => ?_
    refine sl hK (by decide) rfl rfl (r_assign hK rfl) fun a hK => ?_
    refine wpList_nil ?_
    obtain rfl := Option.some.inj H
    refine wp_ret ?_
    repeat (first | refine ret_then ?_ | refine ret_block ?_ | refine ret_scope ?_)
    exact ret_1 Try.results43 hK (rv_tmp hK rfl) ⟨_, rfl, _, _, _, rfl, hS, hRL, hq_8⟩

/-! ### slices.Clone[[]catchment/api.Value,catchment/api.Value]: function 44 -/
set_option maxHeartbeats 4000000 in
set_option maxRecDepth 100000 in
theorem slices_Clone_api_Value_api_Value.calls (a0 : List api_Value) {w0 : World} {R : Hp} {RA : Hp} {v0_0 : Value} (hRA : RA.sub w0) (hR : R.sub w0) (h0_0 : SlR ty_api_Value RA v0_0 a0) {r : List api_Value} (H : slices_Clone_api_Value_api_Value a0 = some r) : Calls Try.prog 44 #[v0_0] w0 (Rets fun v w' => ∃ (R' : Hp) (u0 : Value) (cu0 : List Value), v = u0 ∧ St [] w0 w' R' [.row 43 11 u0 r.length cu0] ∧ RLe [] w0 R R' ∧ Reps ty_api_Value R' cu0 r) := by
  unfold slices_Clone_api_Value_api_Value at H
  rcases SlR.nilcase h0_0 with ⟨hn, hx⟩ | ⟨ad_, m_, c_, hn⟩
  · subst hx
    have H : some ([] : List api_Value) = some r := by simpa [apd] using H
    refine enter (args := [v0_0]) Try.func44 rfl Try.ntmps44 rfl fun a hK => ?_
    have hS := St.init hR
    have hRL := RLe.refl (M := []) w0 R
    refine wp_seq ?_
    refine wp_region_lit ?_
    refine sl hK (by decide) rfl rfl (r_assign hK rfl) fun a hK => ?_
    refine wpList_nil ?_
    refine wp_seq ?_
    refine wp_seq ?_
    refine wp_region_lit ?_
    refine sl hK (by decide) rfl rfl (r_move hK rfl) fun a hK => ?_
    refine sl hK (by decide) rfl rfl (r_sleqN Try.underlying44 hn hK rfl rfl) fun a hK => ?_
    refine wpList_nil ?_
    refine wp_cond_true (hK.ev rfl) ?_
    refine wp_seq ?_
    refine wp_region_lit ?_
    refine sl hK (by decide) rfl rfl (r_assign hK rfl) fun a hK => ?_
    refine wpList_nil ?_
    have hS := hS.row_nil 43 11
    have hq_11 : Reps ty_api_Value R [] ([] : List api_Value) := Reps.nil _ _
    obtain rfl := Option.some.inj H
    refine wp_ret ?_
    repeat (first | refine ret_then ?_ | refine ret_block ?_ | refine ret_scope ?_)
    exact ret_1 Try.results44 hK (rv_tmp hK rfl) ⟨_, rfl, _, _, _, rfl, hS, hRL, hq_11⟩
  · refine enter (args := [v0_0]) Try.func44 rfl Try.ntmps44 rfl fun a hK => ?_
    have hS := St.init hR
    have hRL := RLe.refl (M := []) w0 R
    refine wp_seq ?_
    refine wp_region_lit ?_
    refine sl hK (by decide) rfl rfl (r_assign hK rfl) fun a hK => ?_
    refine wpList_nil ?_
    refine wp_seq ?_
    refine wp_seq ?_
    refine wp_region_lit ?_
    refine sl hK (by decide) rfl rfl (r_move hK rfl) fun a hK => ?_
    refine sl hK (by decide) rfl rfl (r_sleqS Try.underlying44 hn hK rfl rfl) fun a hK => ?_
    refine wpList_nil ?_
    refine wp_cond_false (hK.ev rfl) ?_
    refine wp_skip ?_
    refine wp_seq ?_
    refine wp_region_lit ?_
    refine sl_buildSliceC (zc := [.int .i64 0, .int .i64 0, .string (⟨#[]⟩ : ByteArray), .int .i64 0, .int .i64 0, .int .i64 0, .int .i64 0, .int .i64 0, .int .i64 0, .int .i64 0, .int .i64 0]) (zs := []) (ps := []) (c := []) Try.underlying44 Try.sizeOf43 Try.zeroValue43 rfl pc_nil rfl rfl (by decide) (by kernel_rfl) rfl hS hK (by decide) rfl fun a w b_1 hS hK => ?_
    refine sl hK (by decide) rfl rfl (r_move hK rfl) fun a hK => ?_
    obtain ⟨y_4, h_5, H⟩ := bind_some H
    have hS := hS.row_lit (size := 11) (m := 0) rfl (by decide)
    have hq_3 : Reps ty_api_Value R [] ([] : List api_Value) := (Reps.nil _ _)
    refine sl_append_A elT44 (by decide) rfl (fun _ _ _ _ h => h) (hS.ra hRA nil_not) hq_3 rfl h0_0 h_5 hS hK (by decide) rfl rfl rfl fun a w v_6 cs_7 hq_8 hS hK => ?_
    refine sl hK (by decide) rfl rfl (r_assign hK rfl) fun a hK => ?_
    refine wpList_nil ?_
    obtain rfl := Option.some.inj H
    refine wp_ret ?_
    repeat (first | refine ret_then ?_ | refine ret_block ?_ | refine ret_scope ?_)
    exact ret_1 Try.results44 hK (rv_tmp hK rfl) ⟨_, rfl, _, _, _, rfl, hS, hRL, hq_8⟩

/-! ### cmp.isNaN[int]: function 63 -/
set_option maxHeartbeats 4000000 in
set_option maxRecDepth 100000 in
theorem cmp_isNaN_int.calls (a0 : Int) {r : Bool} (H : cmp_isNaN_int a0 = some r) (w0 : World) : CallsV Try.prog 63 #[.int .i64 a0] w0 (.bool r) := by
  unfold cmp_isNaN_int at H
  refine enter (args := [.int .i64 a0]) Try.func63 rfl Try.ntmps63 rfl fun a hK => ?_
  have hS := St.init (R := fun _ => none) (w := w0) (fun _ _ h => by cases h)
  have hRL := RLe.refl (M := []) w0 (fun _ => none)
  refine wp_seq ?_
  refine wp_region_lit ?_
  refine sl hK (by decide) rfl rfl (r_assign hK rfl) fun a hK => ?_
  refine wpList_nil ?_
  refine wp_seq ?_
  refine wp_region_lit ?_
  refine sl hK (by decide) rfl rfl (r_move hK rfl) fun a hK => ?_
  refine sl hK (by decide) rfl rfl (r_move hK rfl) fun a hK => ?_
  refine sl hK (by decide) rfl rfl (r_ibin hK rfl rfl rfl) fun a hK => ?_
  refine sl hK (by decide) rfl rfl (r_assign hK rfl) fun a hK => ?_
  refine wpList_nil ?_
  obtain rfl := Option.some.inj H
  refine wp_ret ?_
  repeat (first | refine ret_then ?_ | refine ret_block ?_ | refine ret_scope ?_)
  exact ret_1 Try.results63 hK (rv_tmp hK rfl) ⟨rfl, hS.bel⟩

/-! ### cmp.Compare[int]: function 51 -/
set_option maxHeartbeats 4000000 in
set_option maxRecDepth 100000 in
theorem cmp_Compare_int.calls (a0 : Int) (a1 : Int) {r : Int} (H : cmp_Compare_int a0 a1 = some r) (w0 : World) : CallsV Try.prog 51 #[.int .i64 a0, .int .i64 a1] w0 (.int .i64 r) := by
  unfold cmp_Compare_int at H
  refine enter (args := [.int .i64 a0, .int .i64 a1]) Try.func51 rfl Try.ntmps51 rfl fun a hK => ?_
  have hS := St.init (R := fun _ => none) (w := w0) (fun _ _ h => by cases h)
  have hRL := RLe.refl (M := []) w0 (fun _ => none)
  refine wp_seq ?_
  refine wp_region_lit ?_
  refine sl hK (by decide) rfl rfl (r_assign hK rfl) fun a hK => ?_
  refine wpList_nil ?_
  refine wp_seq ?_
  refine wp_region_lit ?_
  refine sl hK (by decide) rfl rfl (r_move hK rfl) fun a hK => ?_
  obtain ⟨y_1, h_2, H⟩ := bind_some H
  refine sl_callV Try.call63 hS hK (by decide) rfl rfl rfl (cmp_isNaN_int.calls a0 h_2 _) fun a w hS hK => ?_
  refine sl hK (by decide) rfl rfl (r_assign hK rfl) fun a hK => ?_
  refine wpList_nil ?_
  refine wp_seq ?_
  refine wp_region_lit ?_
  refine sl hK (by decide) rfl rfl (r_move hK rfl) fun a hK => ?_
  obtain ⟨y_3, h_4, H⟩ := bind_some H
  refine sl_callV Try.call63 hS hK (by decide) rfl rfl rfl (cmp_isNaN_int.calls a1 h_4 _) fun a w hS hK => ?_
  refine sl hK (by decide) rfl rfl (r_assign hK rfl) fun a hK => ?_
  refine wpList_nil ?_
  refine wp_seq ?_
  refine wp_seq ?_
  refine wp_region_lit ?_
  refine sl hK (by decide) rfl rfl (r_move hK rfl) fun a hK => ?_
  refine wpList_nil ?_
  refine wp_cond_split (hK.ev rfl) (fun (hb_5 : y_1 = true) => ?_) (fun (hb_5 : y_1 = false) => ?_)
  · rw [ifb_t hb_5] at H
    refine wp_seq ?_
    refine wp_seq ?_
    refine wp_region_lit ?_
    refine sl hK (by decide) rfl rfl (r_move hK rfl) fun a hK => ?_
    refine wpList_nil ?_
    refine wp_cond_split (hK.ev rfl) (fun (hb_6 : y_3 = true) => ?_) (fun (hb_6 : y_3 = false) => ?_)
    · rw [ifb_t hb_6] at H
      refine wp_seq ?_
      refine wp_region_lit ?_
      refine sl hK (by decide) rfl rfl (r_assign hK rfl) fun a hK => ?_
      refine wpList_nil ?_
      obtain rfl := Option.some.inj H
      refine wp_ret ?_
      repeat (first | refine ret_then ?_ | refine ret_block ?_ | refine ret_scope ?_)
      exact ret_1 Try.results51 hK (rv_tmp hK rfl) ⟨rfl, hS.bel⟩
    · rw [ifb_f hb_6] at H
      refine wp_skip ?_
      refine wp_seq ?_
      refine wp_region_lit ?_
      refine sl hK (by decide) rfl rfl (r_assign hK rfl) fun a hK => ?_
      refine wpList_nil ?_
      obtain rfl := Option.some.inj H
      refine wp_ret ?_
      repeat (first | refine ret_then ?_ | refine ret_block ?_ | refine ret_scope ?_)
      exact ret_1 Try.results51 hK (rv_tmp hK rfl) ⟨rfl, hS.bel⟩
  · rw [ifb_f hb_5] at H
    refine wp_skip ?_
    refine wp_seq ?_
    refine wp_seq ?_
    refine wp_region_lit ?_
    refine sl hK (by decide) rfl rfl (r_move hK rfl) fun a hK => ?_
    refine wpList_nil ?_
    refine wp_cond_split (hK.ev rfl) (fun (hb_7 : y_3 = true) => ?_) (fun (hb_7 : y_3 = false) => ?_)
    · rw [ifb_t hb_7] at H
      refine wp_seq ?_
      refine wp_region_lit ?_
      refine sl hK (by decide) rfl rfl (r_assign hK rfl) fun a hK => ?_
      refine wpList_nil ?_
      obtain rfl := Option.some.inj H
      refine wp_ret ?_
      repeat (first | refine ret_then ?_ | refine ret_block ?_ | refine ret_scope ?_)
      exact ret_1 Try.results51 hK (rv_tmp hK rfl) ⟨rfl, hS.bel⟩
    · rw [ifb_f hb_7] at H
      refine wp_skip ?_
      refine wp_seq ?_
      refine wp_seq ?_
      refine wp_region_lit ?_
      refine sl hK (by decide) rfl rfl (r_move hK rfl) fun a hK => ?_
      refine sl hK (by decide) rfl rfl (r_move hK rfl) fun a hK => ?_
      refine sl hK (by decide) rfl rfl (r_ibin hK rfl rfl rfl) fun a hK => ?_
      refine wpList_nil ?_
      refine wp_cond_split (hK.ev rfl) (fun (hb_8 : (decide (a0 < a1)) = true) => ?_) (fun (hb_8 : (decide (a0 < a1)) = false) => ?_)
      · rw [ifb_t hb_8] at H
        refine wp_seq ?_
        refine wp_region_lit ?_
        refine sl hK (by decide) rfl rfl (r_assign hK rfl) fun a hK => ?_
        refine wpList_nil ?_
        obtain rfl := Option.some.inj H
        refine wp_ret ?_
        repeat (first | refine ret_then ?_ | refine ret_block ?_ | refine ret_scope ?_)
        exact ret_1 Try.results51 hK (rv_tmp hK rfl) ⟨rfl, hS.bel⟩
      · rw [ifb_f hb_8] at H
        refine wp_skip ?_
        refine wp_seq ?_
        refine wp_seq ?_
        refine wp_region_lit ?_
        refine sl hK (by decide) rfl rfl (r_move hK rfl) fun a hK => ?_
        refine sl hK (by decide) rfl rfl (r_move hK rfl) fun a hK => ?_
        refine sl hK (by decide) rfl rfl (r_ibin hK rfl rfl rfl) fun a hK => ?_
        refine wpList_nil ?_
        refine wp_cond_split (hK.ev rfl) (fun (hb_9 : (decide (a0 > a1)) = true) => ?_) (fun (hb_9 : (decide (a0 > a1)) = false) => ?_)
        · rw [ifb_t hb_9] at H
          refine wp_seq ?_
          refine wp_region_lit ?_
          refine sl hK (by decide) rfl rfl (r_assign hK rfl) fun a hK => ?_
          refine wpList_nil ?_
          obtain rfl := Option.some.inj H
          refine wp_ret ?_
          repeat (first | refine ret_then ?_ | refine ret_block ?_ | refine ret_scope ?_)
          exact ret_1 Try.results51 hK (rv_tmp hK rfl) ⟨rfl, hS.bel⟩
        · rw [ifb_f hb_9] at H
          refine wp_skip ?_
          refine wp_seq ?_
          refine wp_region_lit ?_
          refine sl hK (by decide) rfl rfl (r_assign hK rfl) fun a hK => ?_
          refine wpList_nil ?_
          obtain rfl := Option.some.inj H
          refine wp_ret ?_
          repeat (first | refine ret_then ?_ | refine ret_block ?_ | refine ret_scope ?_)
          exact ret_1 Try.results51 hK (rv_tmp hK rfl) ⟨rfl, hS.bel⟩

/-! ### internal/bytealg.CompareString: function 64 -/
set_option maxHeartbeats 4000000 in
set_option maxRecDepth 100000 in
theorem internal_bytealg_CompareString.calls (a0 : ByteArray) (a1 : ByteArray) {r : Int} (H : internal_bytealg_CompareString a0 a1 = some r) (w0 : World) : CallsV Try.prog 64 #[.string a0, .string a1] w0 (.int .i64 r) := by
  unfold internal_bytealg_CompareString at H
  refine enter (args := [.string a0, .string a1]) Try.func64 rfl Try.ntmps64 rfl fun a hK => ?_
  have hS := St.init (R := fun _ => none) (w := w0) (fun _ _ h => by cases h)
  have hRL := RLe.refl (M := []) w0 (fun _ => none)
  refine wp_seq ?_
  refine wp_region_lit ?_
  refine sl hK (by decide) rfl rfl (r_assign hK rfl) fun a hK => ?_
  refine wpList_nil ?_
  refine wp_seq ?_
  refine wp_region_lit ?_
  refine sl hK (by decide) rfl rfl (r_move hK rfl) fun a hK => ?_
  refine sl hK (by decide) rfl rfl (r_move hK rfl) fun a hK => ?_
  refine sl hK (by decide) rfl rfl (r_ext (ext83 a0 a1 _) hK rfl rfl) fun a hK => ?_
  refine sl hK (by decide) rfl rfl (r_assign hK rfl) fun a hK => ?_
  refine wpList_nil ?_
  obtain rfl := Option.some.inj H
  refine wp_ret ?_
  repeat (first | refine ret_then ?_ | refine ret_block ?_ | refine ret_scope ?_)
  exact ret_1 Try.results64 hK (rv_tmp hK rfl) ⟨rfl, hS.bel⟩

/-! ### strings.Compare: function 52 -/
set_option maxHeartbeats 4000000 in
set_option maxRecDepth 100000 in
theorem strings_Compare.calls (a0 : ByteArray) (a1 : ByteArray) {r : Int} (H : strings_Compare a0 a1 = some r) (w0 : World) : CallsV Try.prog 52 #[.string a0, .string a1] w0 (.int .i64 r) := by
  unfold strings_Compare at H
  refine enter (args := [.string a0, .string a1]) Try.func52 rfl Try.ntmps52 rfl fun a hK => ?_
  have hS := St.init (R := fun _ => none) (w := w0) (fun _ _ h => by cases h)
  have hRL := RLe.refl (M := []) w0 (fun _ => none)
  refine wp_seq ?_
  refine wp_region_lit ?_
  refine sl hK (by decide) rfl rfl (r_assign hK rfl) fun a hK => ?_
  refine wpList_nil ?_
  refine wp_seq ?_
  refine wp_region_lit ?_
  refine sl hK (by decide) rfl rfl (r_move hK rfl) fun a hK => ?_
  refine sl hK (by decide) rfl rfl (r_move hK rfl) fun a hK => ?_
  obtain ⟨y_1, h_2, H⟩ := bind_some H
  refine sl_callV Try.call64 hS hK (by decide) rfl rfl rfl (internal_bytealg_CompareString.calls a0 a1 h_2 _) fun a w hS hK => ?_
  refine sl hK (by decide) rfl rfl (r_assign hK rfl) fun a hK => ?_
  refine wpList_nil ?_
  obtain rfl := Option.some.inj H
  refine wp_ret ?_
  repeat (first | refine ret_then ?_ | refine ret_block ?_ | refine ret_scope ?_)
  exact ret_1 Try.results52 hK (rv_tmp hK rfl) ⟨rfl, hS.bel⟩

/-! ### slices.Compare[[]int,int]: function 53 -/
set_option maxHeartbeats 4000000 in
set_option maxRecDepth 100000 in
theorem slices_Compare_int_int.calls (a0 : List Int) (a1 : List Int) {w0 : World} {RA : Hp} {v0_0 : Value} {v1_0 : Value} (hRA : RA.sub w0) (h0_0 : SlR (tyInt .i64) RA v0_0 a0) (h1_0 : SlR (tyInt .i64) RA v1_0 a1) {r : Int} (H : slices_Compare_int_int a0 a1 = some r) : CallsV Try.prog 53 #[v0_0, v1_0] w0 (.int .i64 r) := by
  unfold slices_Compare_int_int at H
  refine enter (args := [v0_0, v1_0]) Try.func53 rfl Try.ntmps53 rfl fun a hK => ?_
  have hS := St.init (R := fun _ => none) (w := w0) (fun _ _ h => by cases h)
  have hRL := RLe.refl (M := []) w0 (fun _ => none)
  refine wp_seq ?_
  refine wp_region_lit ?_
  refine sl hK (by decide) rfl rfl (r_assign hK rfl) fun a hK => ?_
  refine wpList_nil ?_
  refine wp_seq ?_
  refine wp_seq ?_
  refine wp_region_lit ?_
  refine sl hK (by decide) rfl rfl (r_move hK rfl) fun a hK => ?_
  refine sl hK (by decide) rfl rfl (r_len_R Try.underlying47 h0_0 hK rfl) fun a hK => ?_
  refine sl hK (by decide) rfl rfl (r_move hK rfl) fun a hK => ?_
  refine wpList_nil ?_
  refine wp_block ?_
  refine wp_loop_k (fun k_l0 a w => ∃ (x_25 : Int), slices_Compare_int_int.l0 a0 a1 k_l0 x_25 = some r ∧ Kn 36 a [(0, v0_0), (1, v1_0), (9, v0_0), (10, .int .i64 (a0.length : Int)), (11, .int .i64 x_25)] ∧ St [] w0 w (fun _ => none) []) (((a0.length : Int) - 0).toNat + 1) ?_ ?_
  · exact ⟨0, H, hK.sub (all_cons rfl (all_cons rfl (all_cons rfl (all_cons rfl (all_cons rfl (all_nil)))))), hS⟩
  · rintro k_l0 a w ⟨x_25, H, hK, hS⟩
    cases k_l0 with
    | zero => cases H
    | succ k_l0 =>
    rw [slices_Compare_int_int.l0.eq_2] at H
    refine wp_seq ?_
    refine wp_region_lit ?_
    refine sl hK (by decide) rfl rfl (r_ibin hK rfl rfl rfl) fun a hK => ?_
    refine wpList_nil ?_
    refine wp_seq ?_
    refine wp_cond_split (hK.ev rfl) (fun (hb_50 : (decide (x_25 < (a0.length : Int))) = true) => ?_) (fun (hb_50 : (decide (x_25 < (a0.length : Int))) = false) => ?_)
    · rw [ifb_t hb_50] at H
      refine wp_skip ?_
      refine wp_seq ?_
      refine wp_block ?_
      refine wp_seq ?_
      refine wp_region_lit ?_
      refine sl hK (by decide) rfl rfl (r_move hK rfl) fun a hK => ?_
      obtain ⟨y_51, h_52, H⟩ := bind_some H
      obtain ⟨b_53, o_54, c_55, cs_56, hv_57, hr_58, hc_59, h_520, h_521⟩ := h0_0.ix h_52
      subst hr_58
      refine sl hK (by decide) rfl rfl (r_indexAddr_R Try.underlying47 Try.sizeOf3 hv_57 h_520 h_521 hK rfl rfl) fun a hK => ?_
      refine sl hK (by decide) rfl rfl (r_load Try.isAgg3 hK rfl ((hS.ra hRA nil_not).cell (hc_59 0 _ rfl))) fun a hK => ?_
      refine sl hK (by decide) rfl rfl (r_assign hK rfl) fun a hK => ?_
      refine sl hK (by decide) rfl rfl (r_assign hK rfl) fun a hK => ?_
      refine wpList_nil ?_
      refine wp_seq ?_
      refine wp_seq ?_
      refine wp_region_lit ?_
      refine sl hK (by decide) rfl rfl (r_move hK rfl) fun a hK => ?_
      refine sl hK (by decide) rfl rfl (r_move hK rfl) fun a hK => ?_
      refine sl hK (by decide) rfl rfl (r_len_R Try.underlying47 h1_0 hK rfl) fun a hK => ?_
      refine sl hK (by decide) rfl rfl (r_ibin hK rfl rfl rfl) fun a hK => ?_
      refine wpList_nil ?_
      refine wp_cond_split (hK.ev rfl) (fun (hb_60 : (decide (x_25 ≥ (a1.length : Int))) = true) => ?_) (fun (hb_60 : (decide (x_25 ≥ (a1.length : Int))) = false) => ?_)
      · rw [ifb_t hb_60] at H
        refine wp_seq ?_
        refine wp_region_lit ?_
        refine sl hK (by decide) rfl rfl (r_assign hK rfl) fun a hK => ?_
        refine wpList_nil ?_
        obtain rfl := Option.some.inj H
        refine wp_ret ?_
        repeat (first | refine ret_then ?_ | refine ret_block ?_ | refine ret_scope ?_)
        exact ret_1 Try.results53 hK (rv_tmp hK rfl) ⟨rfl, hS.bel⟩
      · rw [ifb_f hb_60] at H
        refine wp_skip ?_
        refine wp_seq ?_
        refine wp_region_lit ?_
        refine sl hK (by decide) rfl rfl (r_move hK rfl) fun a hK => ?_
        refine sl hK (by decide) rfl rfl (r_move hK rfl) fun a hK => ?_
        obtain ⟨y_61, h_62, H⟩ := bind_some H
        obtain ⟨b_63, o_64, c_65, cs_66, hv_67, hr_68, hc_69, h_620, h_621⟩ := h1_0.ix h_62
        subst hr_68
        refine sl hK (by decide) rfl rfl (r_indexAddr_R Try.underlying47 Try.sizeOf3 hv_67 h_620 h_621 hK rfl rfl) fun a hK => ?_
        refine sl hK (by decide) rfl rfl (r_load Try.isAgg3 hK rfl ((hS.ra hRA nil_not).cell (hc_69 0 _ rfl))) fun a hK => ?_
        refine sl hK (by decide) rfl rfl (r_assign hK rfl) fun a hK => ?_
        refine wpList_nil ?_
        refine wp_seq ?_
        refine wp_region_lit ?_
        refine sl hK (by decide) rfl rfl (r_move hK rfl) fun a hK => ?_
        refine sl hK (by decide) rfl rfl (r_move hK rfl) fun a hK => ?_
        obtain ⟨y_70, h_71, H⟩ := bind_some H
        refine sl_callV Try.call51 hS hK (by decide) rfl rfl rfl (cmp_Compare_int.calls y_51 y_61 h_71 _) fun a w hS hK => ?_
        refine sl hK (by decide) rfl rfl (r_assign hK rfl) fun a hK => ?_
        refine wpList_nil ?_
        refine wp_seq ?_
        refine wp_region_lit ?_
        refine sl hK (by decide) rfl rfl (r_move hK rfl) fun a hK => ?_
        refine sl hK (by decide) rfl rfl (r_ibin hK rfl rfl rfl) fun a hK => ?_
        refine wpList_nil ?_
        refine wp_cond_split (hK.ev rfl) (fun (hb_72 : (y_70 != 0) = true) => ?_) (fun (hb_72 : (y_70 != 0) = false) => ?_)
        · rw [ifb_t hb_72] at H
          refine wp_seq ?_
          refine wp_region_lit ?_
          refine sl hK (by decide) rfl rfl (r_move hK rfl) fun a hK => ?_
          refine sl hK (by decide) rfl rfl (r_assign hK rfl) fun a hK => ?_
          refine wpList_nil ?_
          obtain rfl := Option.some.inj H
          refine wp_ret ?_
          repeat (first | refine ret_then ?_ | refine ret_block ?_ | refine ret_scope ?_)
          exact ret_1 Try.results53 hK (rv_tmp hK rfl) ⟨rfl, hS.bel⟩
        · rw [ifb_f hb_72] at H
          refine wp_skip ?_
          refine wp_region_lit ?_
          refine sl hK (by decide) rfl rfl (r_ibin hK rfl rfl rfl) fun a hK => ?_
          refine sl hK (by decide) rfl rfl (r_move hK rfl) fun a hK => ?_
          refine wpList_nil ?_
          exact ⟨_, Nat.lt_succ_self _, (IntKind.i64.wrap (x_25 + 1)), H, hK.sub (all_cons rfl (all_cons rfl (all_cons rfl (all_cons rfl (all_cons rfl (all_nil)))))), hS⟩
    · rw [ifb_f hb_50] at H
      refine wp_exit ?_
      refine wp_seq ?_
      refine wp_seq ?_
      refine wp_region_lit ?_
      refine sl hK (by decide) rfl rfl (r_move hK rfl) fun a hK => ?_
      refine sl hK (by decide) rfl rfl (r_len_R Try.underlying47 h0_0 hK rfl) fun a hK => ?_
      refine sl hK (by decide) rfl rfl (r_move hK rfl) fun a hK => ?_
      refine sl hK (by decide) rfl rfl (r_len_R Try.underlying47 h1_0 hK rfl) fun a hK => ?_
      refine sl hK (by decide) rfl rfl (r_ibin hK rfl rfl rfl) fun a hK => ?_
      refine wpList_nil ?_
      refine wp_cond_split (hK.ev rfl) (fun (hb_73 : (decide ((a0.length : Int) < (a1.length : Int))) = true) => ?_) (fun (hb_73 : (decide ((a0.length : Int) < (a1.length : Int))) = false) => ?_)
      · rw [ifb_t hb_73] at H
        refine wp_seq ?_
        refine wp_region_lit ?_
        refine sl hK (by decide) rfl rfl (r_assign hK rfl) fun a hK => ?_
        refine wpList_nil ?_
        obtain rfl := Option.some.inj H
        refine wp_ret ?_
        repeat (first | refine ret_then ?_ | refine ret_block ?_ | refine ret_scope ?_)
        exact ret_1 Try.results53 hK (rv_tmp hK rfl) ⟨rfl, hS.bel⟩
      · rw [ifb_f hb_73] at H
        refine wp_skip ?_
        refine wp_seq ?_
        refine wp_region_lit ?_
        refine sl hK (by decide) rfl rfl (r_assign hK rfl) fun a hK => ?_
        refine wpList_nil ?_
        obtain rfl := Option.some.inj H
        refine wp_ret ?_
        repeat (first | refine ret_then ?_ | refine ret_block ?_ | refine ret_scope ?_)
        exact ret_1 Try.results53 hK (rv_tmp hK rfl) ⟨rfl, hS.bel⟩

/-! ### cmp.Or[int]: function 50 -/
set_option maxHeartbeats 4000000 in
set_option maxRecDepth 100000 in
theorem cmp_Or_int.calls (a0 : List Int) {w0 : World} {RA : Hp} {v0_0 : Value} (hRA : RA.sub w0) (h0_0 : SlR (tyInt .i64) RA v0_0 a0) {r : Int} (H : cmp_Or_int a0 = some r) : CallsV Try.prog 50 #[v0_0] w0 (.int .i64 r) := by
  unfold cmp_Or_int at H
  refine enter (args := [v0_0]) Try.func50 rfl Try.ntmps50 rfl fun a hK => ?_
  have hS := St.init (R := fun _ => none) (w := w0) (fun _ _ h => by cases h)
  have hRL := RLe.refl (M := []) w0 (fun _ => none)
  refine wp_seq ?_
  refine wp_region_lit ?_
  refine sl hK (by decide) rfl rfl (r_assign hK rfl) fun a hK => ?_
  refine wpList_nil ?_
  refine wp_seq ?_
  refine wp_region_lit ?_
  refine sl hK (by decide) rfl rfl (r_assign hK rfl) fun a hK => ?_
  refine wpList_nil ?_
  refine wp_seq ?_
  refine wp_seq ?_
  refine wp_region_lit ?_
  refine sl hK (by decide) rfl rfl (r_move hK rfl) fun a hK => ?_
  refine sl hK (by decide) rfl rfl (r_len_R Try.underlying47 h0_0 hK rfl) fun a hK => ?_
  refine sl hK (by decide) rfl rfl (r_move hK rfl) fun a hK => ?_
  refine wpList_nil ?_
  refine wp_block ?_
  refine wp_loop_k (fun k_l0 a w => ∃ (x_13 : Int), cmp_Or_int.l0 a0 k_l0 x_13 = some r ∧ Kn 18 a [(3, .int .i64 0), (6, v0_0), (7, .int .i64 (a0.length : Int)), (8, .int .i64 x_13)] ∧ St [] w0 w (fun _ => none) []) (((a0.length : Int) - 0).toNat + 1) ?_ ?_
  · exact ⟨0, H, hK.sub (all_cons rfl (all_cons rfl (all_cons rfl (all_cons rfl (all_nil))))), hS⟩
  · rintro k_l0 a w ⟨x_13, H, hK, hS⟩
    cases k_l0 with
    | zero => cases H
    | succ k_l0 =>
    rw [cmp_Or_int.l0.eq_2] at H
    refine wp_seq ?_
    refine wp_region_lit ?_
    refine sl hK (by decide) rfl rfl (r_ibin hK rfl rfl rfl) fun a hK => ?_
    refine wpList_nil ?_
    refine wp_seq ?_
    refine wp_cond_split (hK.ev rfl) (fun (hb_26 : (decide (x_13 < (a0.length : Int))) = true) => ?_) (fun (hb_26 : (decide (x_13 < (a0.length : Int))) = false) => ?_)
    · rw [ifb_t hb_26] at H
      refine wp_skip ?_
      refine wp_seq ?_
      refine wp_block ?_
      refine wp_seq ?_
      refine wp_region_lit ?_
      obtain ⟨y_27, h_28, H⟩ := bind_some H
      obtain ⟨b_29, o_30, c_31, cs_32, hv_33, hr_34, hc_35, h_280, h_281⟩ := h0_0.ix h_28
      subst hr_34
      refine sl hK (by decide) rfl rfl (r_indexAddr_R Try.underlying47 Try.sizeOf3 hv_33 h_280 h_281 hK rfl rfl) fun a hK => ?_
      refine sl hK (by decide) rfl rfl (r_load Try.isAgg3 hK rfl ((hS.ra hRA nil_not).cell (hc_35 0 _ rfl))) fun a hK => ?_
      refine sl hK (by decide) rfl rfl (r_assign hK rfl) fun a hK => ?_
      refine wpList_nil ?_
      refine wp_seq ?_
      refine wp_region_lit ?_
      refine sl hK (by decide) rfl rfl (r_move hK rfl) fun a hK => ?_
      refine sl hK (by decide) rfl rfl (r_move hK rfl) fun a hK => ?_
      refine sl hK (by decide) rfl rfl (r_ibin hK rfl rfl rfl) fun a hK => ?_
      refine wpList_nil ?_
      refine wp_cond_split (hK.ev rfl) (fun (hb_36 : (y_27 != 0) = true) => ?_) (fun (hb_36 : (y_27 != 0) = false) => ?_)
      · rw [ifb_t hb_36] at H
        refine wp_seq ?_
        refine wp_region_lit ?_
        refine sl hK (by decide) rfl rfl (r_move hK rfl) fun a hK => ?_
        refine sl hK (by decide) rfl rfl (r_assign hK rfl) fun a hK => ?_
        refine wpList_nil ?_
        obtain rfl := Option.some.inj H
        refine wp_ret ?_
        repeat (first | refine ret_then ?_ | refine ret_block ?_ | refine ret_scope ?_)
        exact ret_1 Try.results50 hK (rv_tmp hK rfl) ⟨rfl, hS.bel⟩
      · rw [ifb_f hb_36] at H
        refine wp_skip ?_
        refine wp_region_lit ?_
        refine sl hK (by decide) rfl rfl (r_ibin hK rfl rfl rfl) fun a hK => ?_
        refine sl hK (by decide) rfl rfl (r_move hK rfl) fun a hK => ?_
        refine wpList_nil ?_
        exact ⟨_, Nat.lt_succ_self _, (IntKind.i64.wrap (x_13 + 1)), H, hK.sub (all_cons rfl (all_cons rfl (all_cons rfl (all_cons rfl (all_nil))))), hS⟩
    · rw [ifb_f hb_26] at H
      refine wp_exit ?_
      refine wp_seq ?_
      refine wp_region_lit ?_
      refine sl hK (by decide) rfl rfl (r_move hK rfl) fun a hK => ?_
      refine sl hK (by decide) rfl rfl (r_assign hK rfl) fun a hK => ?_
      refine wpList_nil ?_
      obtain rfl := Option.some.inj H
      refine wp_ret ?_
      repeat (first | refine ret_then ?_ | refine ret_block ?_ | refine ret_scope ?_)
      exact ret_1 Try.results50 hK (rv_tmp hK rfl) ⟨rfl, hS.bel⟩

/-! ### catchment/value.Compare: function 35 -/
set_option maxHeartbeats 4000000 in
set_option maxRecDepth 100000 in
theorem value_Compare.calls (a0 : api_Value) (a1 : api_Value) {r : Int} (H : value_Compare a0 a1 = some r) (w0 : World) : CallsV Try.prog 35 #[.agg #[.int .i64 a0.Kind, .int .i64 a0.N, .string a0.S, .int .i64 a0.H.a0, .int .i64 a0.H.a1, .int .i64 a0.H.a2, .int .i64 a0.H.a3, .int .i64 a0.H.a4, .int .i64 a0.H.a5, .int .i64 a0.H.a6, .int .i64 a0.H.a7], .agg #[.int .i64 a1.Kind, .int .i64 a1.N, .string a1.S, .int .i64 a1.H.a0, .int .i64 a1.H.a1, .int .i64 a1.H.a2, .int .i64 a1.H.a3, .int .i64 a1.H.a4, .int .i64 a1.H.a5, .int .i64 a1.H.a6, .int .i64 a1.H.a7]] w0 (.int .i64 r) := by
  unfold value_Compare at H
  refine enter (args := [.agg #[.int .i64 a0.Kind, .int .i64 a0.N, .string a0.S, .int .i64 a0.H.a0, .int .i64 a0.H.a1, .int .i64 a0.H.a2, .int .i64 a0.H.a3, .int .i64 a0.H.a4, .int .i64 a0.H.a5, .int .i64 a0.H.a6, .int .i64 a0.H.a7], .agg #[.int .i64 a1.Kind, .int .i64 a1.N, .string a1.S, .int .i64 a1.H.a0, .int .i64 a1.H.a1, .int .i64 a1.H.a2, .int .i64 a1.H.a3, .int .i64 a1.H.a4, .int .i64 a1.H.a5, .int .i64 a1.H.a6, .int .i64 a1.H.a7]]) Try.func35 rfl Try.ntmps35 rfl fun a hK => ?_
  have hS := St.init (R := fun _ => none) (w := w0) (fun _ _ h => by cases h)
  have hRL := RLe.refl (M := []) w0 (fun _ => none)
  refine wp_seq ?_
  refine wp_region_lit ?_
  refine sl_box hS hK (by decide) rfl rfl (c := [.int .i64 a0.Kind, .int .i64 a0.N, .string a0.S, .int .i64 a0.H.a0, .int .i64 a0.H.a1, .int .i64 a0.H.a2, .int .i64 a0.H.a3, .int .i64 a0.H.a4, .int .i64 a0.H.a5, .int .i64 a0.H.a6, .int .i64 a0.H.a7]) rfl fun a w b_1 hS hK => ?_
  refine sl_box hS hK (by decide) rfl rfl (c := [.int .i64 a1.Kind, .int .i64 a1.N, .string a1.S, .int .i64 a1.H.a0, .int .i64 a1.H.a1, .int .i64 a1.H.a2, .int .i64 a1.H.a3, .int .i64 a1.H.a4, .int .i64 a1.H.a5, .int .i64 a1.H.a6, .int .i64 a1.H.a7]) rfl fun a w b_2 hS hK => ?_
  refine sl hK (by decide) rfl rfl (r_assign hK rfl) fun a hK => ?_
  refine wpList_nil ?_
  refine wp_seq ?_
  refine parT_region (C := fun w => St [] w0 w (fun _ => none) [.cells b_2 [.int .i64 a1.Kind, .int .i64 a1.N, .string a1.S, .int .i64 a1.H.a0, .int .i64 a1.H.a1, .int .i64 a1.H.a2, .int .i64 a1.H.a3, .int .i64 a1.H.a4, .int .i64 a1.H.a5, .int .i64 a1.H.a6, .int .i64 a1.H.a7] 43, .cells b_1 [.int .i64 a0.Kind, .int .i64 a0.N, .string a0.S, .int .i64 a0.H.a0, .int .i64 a0.H.a1, .int .i64 a0.H.a2, .int .i64 a0.H.a3, .int .i64 a0.H.a4, .int .i64 a0.H.a5, .int .i64 a0.H.a6, .int .i64 a0.H.a7] 43]) 19 [(0, true), (1, true), (2, true), (3, true), (5, true), (6, true), (7, true), (8, true), (10, true), (11, true), (12, true), (13, true), (15, true), (16, true), (17, true), (18, true), (4, false), (9, false), (14, false)] mixed (by kernel_rfl) hS (fun w hS => hS) fun w hS => ?_
  refine sp (k := 0) rfl hK (by decide) rfl rfl (fun w hS => r_fieldAddr Try.underlying43 rfl Try.sizeOf3 hK rfl) fun a hK => ?_
  refine sp (k := 1) rfl hK (by decide) rfl rfl (fun w hS => r_load Try.isAgg3 hK rfl (hS.cell (.tail _ (.head _)) rfl)) fun a hK => ?_
  refine sp (k := 2) rfl hK (by decide) rfl rfl (fun w hS => r_fieldAddr Try.underlying43 rfl Try.sizeOf3 hK rfl) fun a hK => ?_
  refine sp (k := 3) rfl hK (by decide) rfl rfl (fun w hS => r_load Try.isAgg3 hK rfl (hS.cell (.head _) rfl)) fun a hK => ?_
  refine sp (k := 5) rfl hK (by decide) rfl rfl (fun w hS => r_fieldAddr Try.underlying43 rfl Try.sizeOf3 hK rfl) fun a hK => ?_
  refine sp (k := 6) rfl hK (by decide) rfl rfl (fun w hS => r_load Try.isAgg3 hK rfl (hS.cell (.tail _ (.head _)) rfl)) fun a hK => ?_
  refine sp (k := 7) rfl hK (by decide) rfl rfl (fun w hS => r_fieldAddr Try.underlying43 rfl Try.sizeOf3 hK rfl) fun a hK => ?_
  refine sp (k := 8) rfl hK (by decide) rfl rfl (fun w hS => r_load Try.isAgg3 hK rfl (hS.cell (.head _) rfl)) fun a hK => ?_
  refine sp (k := 10) rfl hK (by decide) rfl rfl (fun w hS => r_fieldAddr Try.underlying43 rfl Try.sizeOf9 hK rfl) fun a hK => ?_
  refine sp (k := 11) rfl hK (by decide) rfl rfl (fun w hS => r_load Try.isAgg9 hK rfl (hS.cell (.tail _ (.head _)) rfl)) fun a hK => ?_
  refine sp (k := 12) rfl hK (by decide) rfl rfl (fun w hS => r_fieldAddr Try.underlying43 rfl Try.sizeOf9 hK rfl) fun a hK => ?_
  refine sp (k := 13) rfl hK (by decide) rfl rfl (fun w hS => r_load Try.isAgg9 hK rfl (hS.cell (.head _) rfl)) fun a hK => ?_
  refine sp (k := 15) rfl hK (by decide) rfl rfl (fun w hS => r_fieldAddr Try.underlying43 rfl Try.sizeOf41 hK rfl) fun a hK => ?_
  refine sp (k := 16) rfl hK (by decide) rfl rfl (fun w hS => r_slice_arr0 Try.underlying41 Try.sizeOf3 hK rfl) fun a hK => ?_
  refine sp (k := 17) rfl hK (by decide) rfl rfl (fun w hS => r_fieldAddr Try.underlying43 rfl Try.sizeOf41 hK rfl) fun a hK => ?_
  refine sp (k := 18) rfl hK (by decide) rfl rfl (fun w hS => r_slice_arr0 Try.underlying41 Try.sizeOf3 hK rfl) fun a hK => ?_
  refine spw (k := 4) rfl rfl hS ?_
  obtain ⟨y_14, h_15, H⟩ := bind_some H
  refine sl_callV Try.call51 hS hK (by decide) rfl rfl rfl (cmp_Compare_int.calls a0.Kind a1.Kind h_15 _) fun a w hS hK => ?_
  refine parK_nil hS ?_
  refine spw (k := 9) rfl rfl hS ?_
  obtain ⟨y_16, h_17, H⟩ := bind_some H
  refine sl_callV Try.call51 hS hK (by decide) rfl rfl rfl (cmp_Compare_int.calls a0.N a1.N h_17 _) fun a w hS hK => ?_
  refine parK_nil hS ?_
  refine spw (k := 14) rfl rfl hS ?_
  obtain ⟨y_18, h_19, H⟩ := bind_some H
  refine sl_callV Try.call52 hS hK (by decide) rfl rfl rfl (strings_Compare.calls a0.S a1.S h_19 _) fun a w hS hK => ?_
  refine parK_nil hS ?_
  refine thenL_nil ?_
  obtain ⟨y_20, h_21, H⟩ := bind_some H
  refine sl_callV Try.call53 hS hK (by decide) rfl rfl rfl (slices_Compare_int_int.calls a0.H.list a1.H.list (lentOf_sub [] _) (hS.lend_part0 (.tail _ (.head _)) (xs := a0.H.list) rfl (Nat.le_refl _)) (hS.lend_part0 (.head _) (xs := a1.H.list) rfl (Nat.le_refl _)) h_21) fun a w hS hK => ?_
  refine sl_buildSliceF (zc := [.int .i64 0]) (ps := [(0, .int .i64 y_14), (1, .int .i64 y_16), (2, .int .i64 y_18), (3, .int .i64 y_20)]) (c := [.int .i64 y_14, .int .i64 y_16, .int .i64 y_18, .int .i64 y_20]) [[.int .i64 y_14], [.int .i64 y_16], [.int .i64 y_18], [.int .i64 y_20]] Try.underlying47 Try.sizeOf3 Try.zeroValue3 rfl (pc_cons rfl (pc_cons rfl (pc_cons rfl (pc_cons rfl pc_nil)))) rfl rfl (Nat.le_of_ble_eq_true rfl) rfl (all_cons rfl (all_cons rfl (all_cons rfl (all_cons rfl (all_nil))))) rfl hS hK (by decide) rfl fun a w b_22 hS hK => ?_
  obtain ⟨y_23, h_24, H⟩ := bind_some H
  refine sl_callV Try.call50 hS hK (by decide) rfl rfl rfl (cmp_Or_int.calls [y_14, y_16, y_18, y_20] (lentOf_sub [] _) (hS.lend_lit0 (ty := (tyInt .i64)) (xs := [y_14, y_16, y_18, y_20]) (.head _) (Reps.cons (show Ty.rep (tyInt .i64) _ [.int .i64 y_14] y_14 from rfl) (Reps.cons (show Ty.rep (tyInt .i64) _ [.int .i64 y_16] y_16 from rfl) (Reps.cons (show Ty.rep (tyInt .i64) _ [.int .i64 y_18] y_18 from rfl) (Reps.cons (show Ty.rep (tyInt .i64) _ [.int .i64 y_20] y_20 from rfl) (Reps.nil _ _))))) rfl) h_24) fun a w hS hK => ?_
  refine sl hK (by decide) rfl rfl (r_assign hK rfl) fun a hK => ?_
  refine wpList_nil (NoP_nil ?_)
  obtain rfl := Option.some.inj H
  refine wp_ret ?_
  repeat (first | refine ret_then ?_ | refine ret_block ?_ | refine ret_scope ?_)
  exact ret_1 Try.results35 hK (rv_tmp hK rfl) ⟨rfl, hS.bel⟩

/-! ### slices.CompareFunc[[]catchment/api.Value,[]catchment/api.Value,catchment/api.Value,catchment/api.Value]: function 60 -/
set_option maxHeartbeats 4000000 in
set_option maxRecDepth 100000 in
theorem slices_CompareFunc_api_Value_api_Value_api_Value_api_Value_f_value_Compare.calls (a0 : List api_Value) (a1 : List api_Value) {w0 : World} {RA : Hp} {v0_0 : Value} {v1_0 : Value} (hRA : RA.sub w0) (h0_0 : SlR ty_api_Value RA v0_0 a0) (h1_0 : SlR ty_api_Value RA v1_0 a1) {r : Int} (H : slices_CompareFunc_api_Value_api_Value_api_Value_api_Value_f_value_Compare a0 a1 = some r) : CallsV Try.prog 60 #[v0_0, v1_0, .func (.func 35) #[] #[]] w0 (.int .i64 r) := by
  unfold slices_CompareFunc_api_Value_api_Value_api_Value_api_Value_f_value_Compare at H
  refine enter (args := [v0_0, v1_0, .func (.func 35) #[] #[]]) Try.func60 rfl Try.ntmps60 rfl fun a hK => ?_
  have hS := St.init (R := fun _ => none) (w := w0) (fun _ _ h => by cases h)
  have hRL := RLe.refl (M := []) w0 (fun _ => none)
  refine wp_seq ?_
  refine wp_region_lit ?_
  refine sl hK (by decide) rfl rfl (r_assign hK rfl) fun a hK => ?_
  refine wpList_nil ?_
  refine wp_seq ?_
  refine wp_seq ?_
  refine wp_region_lit ?_
  refine sl hK (by decide) rfl rfl (r_move hK rfl) fun a hK => ?_
  refine sl hK (by decide) rfl rfl (r_len_R Try.underlying44 h0_0 hK rfl) fun a hK => ?_
  refine sl hK (by decide) rfl rfl (r_move hK rfl) fun a hK => ?_
  refine wpList_nil ?_
  refine wp_block ?_
  refine wp_loop_k (fun k_l0 a w => ∃ (x_27 : Int), slices_CompareFunc_api_Value_api_Value_api_Value_api_Value_f_value_Compare.l0 a0 a1 k_l0 x_27 = some r ∧ Kn 39 a [(0, v0_0), (1, v1_0), (2, .func (.func 35) #[] #[]), (11, v0_0), (12, .int .i64 (a0.length : Int)), (13, .int .i64 x_27)] ∧ St [] w0 w (fun _ => none) []) (((a0.length : Int) - 0).toNat + 1) ?_ ?_
  · exact ⟨0, H, hK.sub (all_cons rfl (all_cons rfl (all_cons rfl (all_cons rfl (all_cons rfl (all_cons rfl (all_nil))))))), hS⟩
  · rintro k_l0 a w ⟨x_27, H, hK, hS⟩
    cases k_l0 with
    | zero => cases H
    | succ k_l0 =>
    rw [slices_CompareFunc_api_Value_api_Value_api_Value_api_Value_f_value_Compare.l0.eq_2] at H
    refine wp_seq ?_
    refine wp_region_lit ?_
    refine sl hK (by decide) rfl rfl (r_ibin hK rfl rfl rfl) fun a hK => ?_
    refine wpList_nil ?_
    refine wp_seq ?_
    refine wp_cond_split (hK.ev rfl) (fun (hb_54 : (decide (x_27 < (a0.length : Int))) = true) => ?_) (fun (hb_54 : (decide (x_27 < (a0.length : Int))) = false) => ?_)
    · rw [ifb_t hb_54] at H
      refine wp_skip ?_
      refine wp_seq ?_
      refine wp_block ?_
      refine wp_seq ?_
      refine wp_region_lit ?_
      refine sl hK (by decide) rfl rfl (r_move hK rfl) fun a hK => ?_
      obtain ⟨y_55, h_56, H⟩ := bind_some H
      obtain ⟨b_57, o_58, c_59, cs_60, hv_61, hr_62, hc_63, h_560, h_561⟩ := h0_0.ix h_56
      subst hr_62
      refine sl hK (by decide) rfl rfl (r_indexAddr_R Try.underlying44 Try.sizeOf43 hv_61 h_560 h_561 hK rfl rfl) fun a hK => ?_
      refine sl hK (by decide) rfl rfl (r_loadA (cs := [.int .i64 y_55.Kind, .int .i64 y_55.N, .string y_55.S, .int .i64 y_55.H.a0, .int .i64 y_55.H.a1, .int .i64 y_55.H.a2, .int .i64 y_55.H.a3, .int .i64 y_55.H.a4, .int .i64 y_55.H.a5, .int .i64 y_55.H.a6, .int .i64 y_55.H.a7]) Try.isAgg43 Try.sizeOf43 rfl hK rfl (fun j v hv => (hS.ra hRA nil_not).cell (hc_63 j v hv))) fun a hK => ?_
      refine sl_alloc Try.zeroValue43 hS hK (by decide) rfl rfl fun a w b_64 hS hK => ?_
      refine sl hK (by decide) rfl rfl (r_assign hK rfl) fun a hK => ?_
      refine sl_storeA (vs := [.int .i64 y_55.Kind, .int .i64 y_55.N, .string y_55.S, .int .i64 y_55.H.a0, .int .i64 y_55.H.a1, .int .i64 y_55.H.a2, .int .i64 y_55.H.a3, .int .i64 y_55.H.a4, .int .i64 y_55.H.a5, .int .i64 y_55.H.a6, .int .i64 y_55.H.a7]) (c' := [.int .i64 y_55.Kind, .int .i64 y_55.N, .string y_55.S, .int .i64 y_55.H.a0, .int .i64 y_55.H.a1, .int .i64 y_55.H.a2, .int .i64 y_55.H.a3, .int .i64 y_55.H.a4, .int .i64 y_55.H.a5, .int .i64 y_55.H.a6, .int .i64 y_55.H.a7]) Try.sizeOf43 hS hK rfl rfl rfl rfl (all_cons rfl (all_cons rfl (all_cons rfl (all_cons rfl (all_cons rfl (all_cons rfl (all_cons rfl (all_cons rfl (all_cons rfl (all_cons rfl (all_cons rfl (all_nil)))))))))))) (Nat.le_of_ble_eq_true rfl) rfl fun a w hS hK => ?_
      refine wpList_nil ?_
      refine wp_seq ?_
      refine wp_seq ?_
      refine wp_region_lit ?_
      refine sl hK (by decide) rfl rfl (r_move hK rfl) fun a hK => ?_
      refine sl hK (by decide) rfl rfl (r_move hK rfl) fun a hK => ?_
      refine sl hK (by decide) rfl rfl (r_len_R Try.underlying44 h1_0 hK rfl) fun a hK => ?_
      refine sl hK (by decide) rfl rfl (r_ibin hK rfl rfl rfl) fun a hK => ?_
      refine wpList_nil ?_
      refine wp_cond_split (hK.ev rfl) (fun (hb_65 : (decide (x_27 ≥ (a1.length : Int))) = true) => ?_) (fun (hb_65 : (decide (x_27 ≥ (a1.length : Int))) = false) => ?_)
      · rw [ifb_t hb_65] at H
        refine wp_seq ?_
        refine wp_region_lit ?_
        refine sl hK (by decide) rfl rfl (r_assign hK rfl) fun a hK => ?_
        refine wpList_nil ?_
        obtain rfl := Option.some.inj H
        refine wp_ret ?_
        repeat (first | refine ret_then ?_ | refine ret_block ?_ | refine ret_scope ?_)
        exact ret_1 Try.results60 hK (rv_tmp hK rfl) ⟨rfl, hS.bel⟩
      · rw [ifb_f hb_65] at H
        refine wp_skip ?_
        refine wp_seq ?_
        refine wp_region_lit ?_
        refine sl hK (by decide) rfl rfl (r_move hK rfl) fun a hK => ?_
        refine sl hK (by decide) rfl rfl (r_move hK rfl) fun a hK => ?_
        obtain ⟨y_66, h_67, H⟩ := bind_some H
        obtain ⟨b_68, o_69, c_70, cs_71, hv_72, hr_73, hc_74, h_670, h_671⟩ := h1_0.ix h_67
        subst hr_73
        refine sl hK (by decide) rfl rfl (r_indexAddr_R Try.underlying44 Try.sizeOf43 hv_72 h_670 h_671 hK rfl rfl) fun a hK => ?_
        refine sl hK (by decide) rfl rfl (r_loadA (cs := [.int .i64 y_66.Kind, .int .i64 y_66.N, .string y_66.S, .int .i64 y_66.H.a0, .int .i64 y_66.H.a1, .int .i64 y_66.H.a2, .int .i64 y_66.H.a3, .int .i64 y_66.H.a4, .int .i64 y_66.H.a5, .int .i64 y_66.H.a6, .int .i64 y_66.H.a7]) Try.isAgg43 Try.sizeOf43 rfl hK rfl (fun j v hv => (hS.ra hRA nil_not).cell (hc_74 j v hv))) fun a hK => ?_
        refine sl_alloc Try.zeroValue43 hS hK (by decide) rfl rfl fun a w b_75 hS hK => ?_
        refine sl_storeA (vs := [.int .i64 y_66.Kind, .int .i64 y_66.N, .string y_66.S, .int .i64 y_66.H.a0, .int .i64 y_66.H.a1, .int .i64 y_66.H.a2, .int .i64 y_66.H.a3, .int .i64 y_66.H.a4, .int .i64 y_66.H.a5, .int .i64 y_66.H.a6, .int .i64 y_66.H.a7]) (c' := [.int .i64 y_66.Kind, .int .i64 y_66.N, .string y_66.S, .int .i64 y_66.H.a0, .int .i64 y_66.H.a1, .int .i64 y_66.H.a2, .int .i64 y_66.H.a3, .int .i64 y_66.H.a4, .int .i64 y_66.H.a5, .int .i64 y_66.H.a6, .int .i64 y_66.H.a7]) Try.sizeOf43 hS hK rfl rfl rfl rfl (all_cons rfl (all_cons rfl (all_cons rfl (all_cons rfl (all_cons rfl (all_cons rfl (all_cons rfl (all_cons rfl (all_cons rfl (all_cons rfl (all_cons rfl (all_nil)))))))))))) (Nat.le_of_ble_eq_true rfl) rfl fun a w hS hK => ?_
        refine wpList_nil ?_
        refine wp_seq ?_
        refine wp_region_lit ?_
        refine sl hK (by decide) rfl rfl (r_move hK rfl) fun a hK => ?_
        refine sl hK (by decide) rfl rfl (r_loadA (cs := [.int .i64 y_55.Kind, .int .i64 y_55.N, .string y_55.S, .int .i64 y_55.H.a0, .int .i64 y_55.H.a1, .int .i64 y_55.H.a2, .int .i64 y_55.H.a3, .int .i64 y_55.H.a4, .int .i64 y_55.H.a5, .int .i64 y_55.H.a6, .int .i64 y_55.H.a7]) Try.isAgg43 Try.sizeOf43 rfl hK rfl (hS.cells_of (m := 11) (.tail _ (.head _)) rfl)) fun a hK => ?_
        refine sl hK (by decide) rfl rfl (r_loadA (cs := [.int .i64 y_66.Kind, .int .i64 y_66.N, .string y_66.S, .int .i64 y_66.H.a0, .int .i64 y_66.H.a1, .int .i64 y_66.H.a2, .int .i64 y_66.H.a3, .int .i64 y_66.H.a4, .int .i64 y_66.H.a5, .int .i64 y_66.H.a6, .int .i64 y_66.H.a7]) Try.isAgg43 Try.sizeOf43 rfl hK rfl (hS.cells_of (m := 11) (.head _) rfl)) fun a hK => ?_
        obtain ⟨y_76, h_77, H⟩ := bind_some H
        refine sl_callV Try.call35 hS hK (by decide) rfl rfl rfl (value_Compare.calls y_55 y_66 h_77 _) fun a w hS hK => ?_
        refine sl hK (by decide) rfl rfl (r_assign hK rfl) fun a hK => ?_
        refine wpList_nil ?_
        refine wp_seq ?_
        refine wp_region_lit ?_
        refine sl hK (by decide) rfl rfl (r_move hK rfl) fun a hK => ?_
        refine sl hK (by decide) rfl rfl (r_ibin hK rfl rfl rfl) fun a hK => ?_
        refine wpList_nil ?_
        refine wp_cond_split (hK.ev rfl) (fun (hb_78 : (y_76 != 0) = true) => ?_) (fun (hb_78 : (y_76 != 0) = false) => ?_)
        · rw [ifb_t hb_78] at H
          refine wp_seq ?_
          refine wp_region_lit ?_
          refine sl hK (by decide) rfl rfl (r_move hK rfl) fun a hK => ?_
          refine sl hK (by decide) rfl rfl (r_assign hK rfl) fun a hK => ?_
          refine wpList_nil ?_
          obtain rfl := Option.some.inj H
          refine wp_ret ?_
          repeat (first | refine ret_then ?_ | refine ret_block ?_ | refine ret_scope ?_)
          exact ret_1 Try.results60 hK (rv_tmp hK rfl) ⟨rfl, hS.bel⟩
        · rw [ifb_f hb_78] at H
          refine wp_skip ?_
          refine wp_region_lit ?_
          refine sl hK (by decide) rfl rfl (r_ibin hK rfl rfl rfl) fun a hK => ?_
          refine sl hK (by decide) rfl rfl (r_move hK rfl) fun a hK => ?_
          refine wpList_nil ?_
          exact ⟨_, Nat.lt_succ_self _, (IntKind.i64.wrap (x_27 + 1)), H, hK.sub (all_cons rfl (all_cons rfl (all_cons rfl (all_cons rfl (all_cons rfl (all_cons rfl (all_nil))))))), hS.trunc 0⟩
    · rw [ifb_f hb_54] at H
      refine wp_exit ?_
      refine wp_seq ?_
      refine wp_seq ?_
      refine wp_region_lit ?_
      refine sl hK (by decide) rfl rfl (r_move hK rfl) fun a hK => ?_
      refine sl hK (by decide) rfl rfl (r_len_R Try.underlying44 h0_0 hK rfl) fun a hK => ?_
      refine sl hK (by decide) rfl rfl (r_move hK rfl) fun a hK => ?_
      refine sl hK (by decide) rfl rfl (r_len_R Try.underlying44 h1_0 hK rfl) fun a hK => ?_
      refine sl hK (by decide) rfl rfl (r_ibin hK rfl rfl rfl) fun a hK => ?_
      refine wpList_nil ?_
      refine wp_cond_split (hK.ev rfl) (fun (hb_79 : (decide ((a0.length : Int) < (a1.length : Int))) = true) => ?_) (fun (hb_79 : (decide ((a0.length : Int) < (a1.length : Int))) = false) => ?_)
      · rw [ifb_t hb_79] at H
        refine wp_seq ?_
        refine wp_region_lit ?_
        refine sl hK (by decide) rfl rfl (r_assign hK rfl) fun a hK => ?_
        refine wpList_nil ?_
        obtain rfl := Option.some.inj H
        refine wp_ret ?_
        repeat (first | refine ret_then ?_ | refine ret_block ?_ | refine ret_scope ?_)
        exact ret_1 Try.results60 hK (rv_tmp hK rfl) ⟨rfl, hS.bel⟩
      · rw [ifb_f hb_79] at H
        refine wp_skip ?_
        refine wp_seq ?_
        refine wp_region_lit ?_
        refine sl hK (by decide) rfl rfl (r_assign hK rfl) fun a hK => ?_
        refine wpList_nil ?_
        obtain rfl := Option.some.inj H
        refine wp_ret ?_
        repeat (first | refine ret_then ?_ | refine ret_block ?_ | refine ret_scope ?_)
        exact ret_1 Try.results60 hK (rv_tmp hK rfl) ⟨rfl, hS.bel⟩

/-! ### catchment/table.order: function 46 -/
set_option maxHeartbeats 4000000 in
set_option maxRecDepth 100000 in
theorem table_order.calls (a0 : List api_Value) (a1 : List api_Value) {w0 : World} {RA : Hp} {v0_0 : Value} {v1_0 : Value} (hRA : RA.sub w0) (h0_0 : SlR ty_api_Value RA v0_0 a0) (h1_0 : SlR ty_api_Value RA v1_0 a1) {r : Int} (H : table_order a0 a1 = some r) : CallsV Try.prog 46 #[v0_0, v1_0] w0 (.int .i64 r) := by
  unfold table_order at H
  refine enter (args := [v0_0, v1_0]) Try.func46 rfl Try.ntmps46 rfl fun a hK => ?_
  have hS := St.init (R := fun _ => none) (w := w0) (fun _ _ h => by cases h)
  have hRL := RLe.refl (M := []) w0 (fun _ => none)
  refine wp_seq ?_
  refine wp_region_lit ?_
  refine sl hK (by decide) rfl rfl (r_assign hK rfl) fun a hK => ?_
  refine wpList_nil ?_
  refine wp_seq ?_
  refine wp_region_lit ?_
  refine sl hK (by decide) rfl rfl (r_move hK rfl) fun a hK => ?_
  refine sl hK (by decide) rfl rfl (r_move hK rfl) fun a hK => ?_
  obtain ⟨y_1, h_2, H⟩ := bind_some H
  refine sl_callV Try.call60 hS hK (by decide) rfl rfl rfl (slices_CompareFunc_api_Value_api_Value_api_Value_api_Value_f_value_Compare.calls a0 a1 (lentOf_sub [] _) (h0_0.mono (hS.raLe0 hRA nil_not)) (h1_0.mono (hS.raLe0 hRA nil_not)) h_2) fun a w hS hK => ?_
  refine sl hK (by decide) rfl rfl (r_assign hK rfl) fun a hK => ?_
  refine wpList_nil ?_
  obtain rfl := Option.some.inj H
  refine wp_ret ?_
  repeat (first | refine ret_then ?_ | refine ret_block ?_ | refine ret_scope ?_)
  exact ret_1 Try.results46 hK (rv_tmp hK rfl) ⟨rfl, hS.bel⟩

/-! ### slices.SortFunc[[][]catchment/api.Value,[]catchment/api.Value]: function 45 -/
set_option maxHeartbeats 4000000 in
set_option maxRecDepth 100000 in
theorem slices_SortFunc_api_Value_api_Value_f_table_order.calls (a0 : List (List api_Value)) {w0 : World} {R : Hp} {M : List Own} {v0 : Value} {cs0 : List Value} (hS0 : St M w0 w0 R [.row 44 1 v0 a0.length cs0]) (h0 : Reps (tySl ty_api_Value) R cs0 a0) {r : List (List api_Value)} (H : slices_SortFunc_api_Value_api_Value_f_table_order a0 = some r) :
    Calls Try.prog 45 #[v0, .func (.func 46) #[] #[]] w0 (Rets fun v w' => ∃ (R' : Hp) (cu0 : List Value), v = .tuple #[] ∧ St M w0 w' R' [.row 44 1 v0 r.length cu0] ∧ RLe M w0 R R' ∧ Reps (tySl ty_api_Value) R' cu0 r ∧ cu0.Perm cs0) := by
  unfold slices_SortFunc_api_Value_api_Value_f_table_order at H
  exact sort_calls sortL45 (ty := (tySl ty_api_Value)) rfl Try.call46 hS0 h0 (fun w hsub u1 u2 x y i hx hy hi => by
    obtain ⟨v1, e1, s1⟩ := hx
    obtain ⟨v2, e2, s2⟩ := hy
    cases e1; cases e2
    exact table_order.calls x y hsub s1 s2 hi) H

/-! ### catchment/table.Canon: function 26 -/
set_option maxHeartbeats 4000000 in
set_option maxRecDepth 100000 in
theorem table_Canon.calls (a0 : api_Table) {w0 : World} {R : Hp} {RA : Hp} {v0_0 : Value} {v0_1 : Value} (hRA : RA.sub w0) (hR : R.sub w0) (h0_0 : SlR ty_api_Col RA v0_0 a0.Cols) (h0_1 : SlR (tySl ty_api_Value) RA v0_1 a0.Rows) {r : api_Table} (H : table_Canon a0 = some r) : Calls Try.prog 26 #[.agg #[v0_0, v0_1]] w0 (Rets fun v w' => ∃ (R' : Hp) (u0 : Value) (cu0 : List Value) (u1 : Value) (cu1 : List Value), v = .agg #[u0, u1] ∧ St [] w0 w' R' [.row 38 2 u0 r.Cols.length cu0, .row 44 1 u1 r.Rows.length cu1] ∧ RLe [] w0 R R' ∧ Reps ty_api_Col R' cu0 r.Cols ∧ Reps (tySl ty_api_Value) R' cu1 r.Rows ∧ Apart R R' cu1) := by
  unfold table_Canon at H
  refine enter (args := [.agg #[v0_0, v0_1]]) Try.func26 rfl Try.ntmps26 rfl fun a hK => ?_
  have hS := St.init hR
  have hRL := RLe.refl (M := []) w0 R
  refine wp_seq ?_
  refine wp_region_lit ?_
  refine sl_box hS hK (by decide) rfl rfl (c := [v0_0, v0_1]) rfl fun a w b_1 hS hK => ?_
  refine sl_alloc Try.zeroValue25 hS hK (by decide) rfl rfl fun a w b_2 hS hK => ?_
  refine wpList_nil ?_
  refine wp_seq ?_
  refine wp_region_lit ?_
  refine sl hK (by decide) rfl rfl (r_fieldAddr Try.underlying25 rfl Try.sizeOf22 hK rfl) fun a hK => ?_
  refine sl hK (by decide) rfl rfl (r_load Try.isAgg22 hK rfl (hS.cell (.tail _ (.head _)) rfl)) fun a hK => ?_
  obtain ⟨y_3, h_4, H⟩ := bind_some H
  refine sl_call Try.call43 hK (by decide) rfl rfl rfl (slices_Clone_api_Col_api_Col.calls a0.Cols (lentOf_sub [] _) hS.sub (h0_0.mono (hS.raLe0 hRA nil_not)) h_4) fun a v_ w hv_ hK => ?_
  obtain ⟨R_5, v_8, cs_9, hv_, hr_, hl_6, hq_10⟩ := hv_
  have hv_ := hv_.symm
  subst hv_
  obtain ⟨hS, hl_6⟩ := hS.sp0.back hr_ hl_6
  have hS := hS.un1
  have hRL := hRL.trans hl_6
  have ho_11 := hS.row_one (.head _)
  refine sl hK (by decide) rfl rfl (r_buildC (ps := [(0, v_8)]) (c := [v_8, .slice none 0 0]) Try.underlying25 Try.zeroValue25 places25 hK rfl (pc_cons (cells1 ho_11) pc_nil) rfl rfl) fun a hK => ?_
  refine sl_alloc Try.zeroValue25 hS hK (by decide) rfl rfl fun a w b_12 hS hK => ?_
  refine sl_storeA (vs := [v_8, .slice none 0 0]) (c' := [v_8, .slice none 0 0]) Try.sizeOf25 hS hK rfl rfl rfl rfl (all_cons (hS.row_one (.tail _ (.head _))) (all_cons rfl (all_nil))) (Nat.le_of_ble_eq_true rfl) rfl fun a w hS hK => ?_
  refine wpList_nil ?_
  refine wp_seq ?_
  refine wp_seq ?_
  refine wp_region_lit ?_
  refine sl hK (by decide) rfl rfl (r_fieldAddr Try.underlying25 rfl Try.sizeOf23 hK rfl) fun a hK => ?_
  refine sl hK (by decide) rfl rfl (r_load Try.isAgg23 hK rfl (hS.cell (.tail _ (.tail _ (.tail _ (.head _)))) rfl)) fun a hK => ?_
  refine sl hK (by decide) rfl rfl (r_len_R Try.underlying23 h0_1 hK rfl) fun a hK => ?_
  refine sl hK (by decide) rfl rfl (r_move hK rfl) fun a hK => ?_
  refine wpList_nil ?_
  refine wp_block ?_
  refine wp_loop_k (fun k_l0 a w => ∃ (x_79 : List (List api_Value)) (x_84 : Int) (R_85 : Hp) (v_80 : Value) (cs_81 : List Value), table_Canon.l0 a0 y_3 k_l0 x_79 x_84 = some r ∧ RLe [] w0 R_5 R_85 ∧ Reps (tySl ty_api_Value) R_85 cs_81 x_79 ∧ Apart R R_85 cs_81 ∧ Kn 29 a [(2, .pointer (some ⟨b_2, 0, none⟩)), (3, .pointer (some ⟨b_12, 0, none⟩)), (11, v0_1), (12, .int .i64 (a0.Rows.length : Int)), (13, .int .i64 x_84)] ∧ St [] w0 w R_85 [.cells b_2 [.slice none 0 0, .slice none 0 0] 25, .row 38 2 v_8 y_3.length cs_9, .row 44 1 v_80 x_79.length cs_81, .cells b_12 [v_8, v_80] 25]) (((a0.Rows.length : Int) - 0).toNat + 1) ?_ ?_
  · have hS := hS.row_nil 44 1
    have hq_144 : Reps (tySl ty_api_Value) R_5 [] ([] : List (List api_Value)) := Reps.nil _ _
    have hS := hS.pk1
    have hS := hS.pk1
    have hS := hS.pk2
    have hS := hS.pk3
    exact ⟨[], 0, _, _, _, H, (RLe.refl _ _), hq_144, (Apart.nil _ _), hK.sub (all_cons rfl (all_cons rfl (all_cons rfl (all_cons rfl (all_cons rfl (all_nil)))))), hS.trunc 4⟩
  · rintro k_l0 a w ⟨x_79, x_84, R_85, v_80, cs_81, H, hl_86, hq_82, hap_83, hK, hS⟩
    cases k_l0 with
    | zero => cases H
    | succ k_l0 =>
    rw [table_Canon.l0.eq_2] at H
    have hRL := hRL.trans hl_86
    refine wp_seq ?_
    refine wp_region_lit ?_
    refine sl hK (by decide) rfl rfl (r_ibin hK rfl rfl rfl) fun a hK => ?_
    refine wpList_nil ?_
    refine wp_seq ?_
    refine wp_cond_split (hK.ev rfl) (fun (hb_145 : (decide (x_84 < (a0.Rows.length : Int))) = true) => ?_) (fun (hb_145 : (decide (x_84 < (a0.Rows.length : Int))) = false) => ?_)
    · rw [ifb_t hb_145] at H
      refine wp_skip ?_
      refine wp_seq ?_
      refine wp_block ?_
      refine wp_seq ?_
      refine wp_region_lit ?_
      obtain ⟨y_146, h_147, H⟩ := bind_some H
      obtain ⟨b_148, o_149, c_150, cs_151, hv_152, hr_153, hc_154, h_1470, h_1471⟩ := h0_1.ix h_147
      obtain ⟨v_155, rfl, hs_156⟩ := hr_153
      refine sl hK (by decide) rfl rfl (r_indexAddr_R Try.underlying23 Try.sizeOf44 hv_152 h_1470 h_1471 hK rfl rfl) fun a hK => ?_
      refine sl hK (by decide) rfl rfl (r_load Try.isAgg44 hK rfl ((hS.ra hRA nil_not).cell (hc_154 0 _ rfl))) fun a hK => ?_
      refine sl hK (by decide) rfl rfl (r_assign hK rfl) fun a hK => ?_
      refine wpList_nil ?_
      refine parT_region (C := fun w => St [] w0 w R_85 [.cells b_2 [.slice none 0 0, .slice none 0 0] 25, .row 38 2 v_8 y_3.length cs_9, .row 44 1 v_80 x_79.length cs_81, .cells b_12 [v_8, v_80] 25]) 5 [(0, true), (1, true), (2, true), (3, false), (4, false)] mixed (by kernel_rfl) hS (fun w hS => hS) fun w hS => ?_
      refine sp (k := 0) rfl hK (by decide) rfl rfl (fun w hS => r_fieldAddr Try.underlying25 rfl Try.sizeOf23 hK rfl) fun a hK => ?_
      refine sp (k := 1) rfl hK (by decide) rfl rfl (fun w hS => r_load Try.isAgg23 hK rfl (hS.cell (.tail _ (.tail _ (.tail _ (.head _)))) rfl)) fun a hK => ?_
      refine sp (k := 2) rfl hK (by decide) rfl rfl (fun w hS => r_move hK rfl) fun a hK => ?_
      refine spw (k := 3) rfl rfl hS ?_
      obtain ⟨y_179, h_180, H⟩ := bind_some H
      refine sl_call Try.call44 hK (by decide) rfl rfl rfl (slices_Clone_api_Value_api_Value.calls y_146 (lentOf_sub [] _) hS.sub (hs_156.mono (hS.raLe0 hRA nil_not)) h_180) fun a v_ w hv_ hK => ?_
      obtain ⟨R_181, v_184, cs_185, hv_, hr_, hl_182, hq_186⟩ := hv_
      have hv_ := hv_.symm
      subst hv_
      obtain ⟨hS, hl_182⟩ := hS.sp0.back hr_ hl_182
      have hS := hS.un1
      have hRL := hRL.trans hl_182
      refine parK_nil ((hS.pk4.pk4.pk4.pk4.trunc 4).lower hl_182.le) ?_
      refine spw (k := 4) rfl rfl ((hS.pk4.pk4.pk4.pk4.trunc 4).lower hl_182.le) ?_
      have ho_187 := hS.row_one (.head _)
      refine sl_buildSliceF (zc := [.slice none 0 0]) (ps := [(0, v_184)]) (c := [v_184]) [[v_184]] Try.underlying23 Try.sizeOf44 Try.zeroValue44 rfl (pc_cons (cells1 ho_187) pc_nil) rfl rfl (Nat.le_of_ble_eq_true rfl) rfl (all_cons rfl (all_nil)) rfl hS hK (by decide) rfl fun a w b_188 hS hK => ?_
      refine parK_nil ((hS.pk5.pk5.pk5.pk5.trunc 4).lower hl_182.le) ?_
      refine thenL_nil ?_
      have hS := hS.pk4
      have hS := hS.pk2
      obtain ⟨R_189, hS, hl_191, hs_190, hn_192⟩ := hS.fz_rowN hq_186 rfl rfl
      have hRL := hRL.trans hl_191
      obtain ⟨y_193, h_194, H⟩ := bind_some H
      refine sl_append_LA (ty := (tySl ty_api_Value)) (ys := [y_179]) elT23 (by decide) rfl (hq_82.mono (hl_182.le.trans hl_191.le)) rfl (Reps.cons (show Ty.rep (tySl ty_api_Value) _ [v_184] y_179 from ⟨_, rfl, hs_190⟩) (Reps.nil _ _)) rfl h_194 hS hK (by decide) rfl rfl rfl fun a w v_195 cs_196 hcq_199 hq_197 hS hK => ?_
      have hap_200 : Apart R R_189 cs_196 := by rw [hcq_199]; exact (Apart.app (hap_83.mono hl_182.le) (hl_6.le.trans (hl_86.le.trans hl_182.le)) hl_191.le hn_192)
      refine sl hK (by decide) rfl rfl (r_fieldAddr Try.underlying25 rfl Try.sizeOf23 hK rfl) fun a hK => ?_
      have hS := hS.pk3
      refine sl_store1 (c' := [v_8, v_195]) Try.sizeOf23 hS hK rfl rfl rfl (hS.row_one (.tail _ (.head _))) (Nat.le_of_ble_eq_true rfl) rfl fun a w hS hK => ?_
      refine wpList_nil (NoP_nil ?_)
      refine wp_region_lit ?_
      refine sl hK (by decide) rfl rfl (r_ibin hK rfl rfl rfl) fun a hK => ?_
      refine sl hK (by decide) rfl rfl (r_move hK rfl) fun a hK => ?_
      refine wpList_nil ?_
      have hS := hS.pk1
      have hS := hS.pk3
      have hS := hS.pk3
      exact ⟨_, Nat.lt_succ_self _, y_193, (IntKind.i64.wrap (x_84 + 1)), _, _, _, H, (hl_86.trans (hl_182.trans hl_191)), hq_197, hap_200, hK.sub (all_cons rfl (all_cons rfl (all_cons rfl (all_cons rfl (all_cons rfl (all_nil)))))), hS⟩
    · rw [ifb_f hb_145] at H
      refine wp_exit ?_
      refine wp_seq ?_
      refine wp_region_lit ?_
      refine sl hK (by decide) rfl rfl (r_fieldAddr Try.underlying25 rfl Try.sizeOf23 hK rfl) fun a hK => ?_
      refine sl hK (by decide) rfl rfl (r_load Try.isAgg23 hK rfl (hS.cell (.tail _ (.tail _ (.tail _ (.head _)))) rfl)) fun a hK => ?_
      obtain ⟨y_201, h_202, H⟩ := bind_some H
      have hS := hS.pk2
      have hS1 := hS.sp1
      refine sl_call Try.call45 hK (by decide) rfl rfl rfl (slices_SortFunc_api_Value_api_Value_f_table_order.calls x_79 hS1.lend hq_82 h_202) fun a v_ w hv_ hK => ?_
      obtain ⟨R_203, cs_206, hv_, hr_, hl_204, hq_207, hp_208⟩ := hv_
      have hv_ := hv_.symm
      subst hv_
      obtain ⟨hS, hl_204⟩ := hS1.back hr_ hl_204
      have hS := hS.un1
      have hRL := hRL.trans hl_204
      refine wpList_nil ?_
      refine wp_seq ?_
      refine wp_region_lit ?_
      refine sl hK (by decide) rfl rfl (r_loadA (cs := [v_8, v_80]) Try.isAgg25 Try.sizeOf25 rfl hK rfl (hS.cells_of (m := 2) (.tail _ (.tail _ (.tail _ (.head _)))) rfl)) fun a hK => ?_
      have hS := hS.pk1
      refine sl_storeA (vs := [v_8, v_80]) (c' := [v_8, v_80]) Try.sizeOf25 hS hK rfl rfl rfl rfl (all_cons (hS.row_one (.tail _ (.tail _ (.head _)))) (all_cons (hS.row_one (.tail _ (.head _))) (all_nil))) (Nat.le_of_ble_eq_true rfl) rfl fun a w hS hK => ?_
      refine wpList_nil ?_
      obtain rfl := Option.some.inj H
      refine wp_ret ?_
      repeat (first | refine ret_then ?_ | refine ret_block ?_ | refine ret_scope ?_)
      exact ret_1 Try.results26 hK (rv_cell (c := [v_8, v_80]) Try.isAgg25 Try.sizeOf25 hS (.head _) rfl hK rfl) ⟨_, rfl, _, _, _, _, _, rfl, (hS.pk1.pk2.trunc 2), hRL, (hq_10.mono (hl_86.le.trans hl_204.le)), hq_207, ((Apart.perm hap_83 hp_208).mono hl_204.le)⟩

/-! ### catchment/rowops.down: function 27 -/
set_option maxHeartbeats 4000000 in
set_option maxRecDepth 100000 in
theorem rowops_down.calls (a0 : Int) (a1 : Int) {r : Int} (H : rowops_down a0 a1 = some r) (w0 : World) : CallsV Try.prog 27 #[.int .i64 a0, .int .i64 a1] w0 (.int .i64 r) := by
  unfold rowops_down at H
  refine enter (args := [.int .i64 a0, .int .i64 a1]) Try.func27 rfl Try.ntmps27 rfl fun a hK => ?_
  have hS := St.init (R := fun _ => none) (w := w0) (fun _ _ h => by cases h)
  have hRL := RLe.refl (M := []) w0 (fun _ => none)
  refine wp_seq ?_
  refine wp_region_lit ?_
  refine sl hK (by decide) rfl rfl (r_assign hK rfl) fun a hK => ?_
  refine wpList_nil ?_
  refine wp_seq ?_
  refine wp_region_lit ?_
  refine sl hK (by decide) rfl rfl (r_move hK rfl) fun a hK => ?_
  refine sl hK (by decide) rfl rfl (r_move hK rfl) fun a hK => ?_
  rcases or_b (a1 != 0) with hn_1 | hn_1
  · rw [ifb_t hn_1] at H
    refine sl hK (by decide) rfl rfl (r_rem hK rfl rfl (ne_of_bne hn_1)) fun a hK => ?_
    refine sl hK (by decide) rfl rfl (r_assign hK rfl) fun a hK => ?_
    refine wpList_nil ?_
    refine wp_seq ?_
    refine wp_seq ?_
    refine wp_region_lit ?_
    refine sl hK (by decide) rfl rfl (r_move hK rfl) fun a hK => ?_
    refine sl hK (by decide) rfl rfl (r_ibin hK rfl rfl rfl) fun a hK => ?_
    refine wpList_nil ?_
    refine wp_mid (fun a w => ∃ (x_3 : Int), rowops_down.j0 a0 x_3 = some r ∧ Kn 22 a [(0, .int .i64 a0), (5, .int .i64 x_3)] ∧ St [] w0 w (fun _ => none) []) ?_ ?_
    · refine wp_cond_split (hK.ev rfl) (fun (hb_5 : (decide ((a0.tmod a1) < 0)) = true) => ?_) (fun (hb_5 : (decide ((a0.tmod a1) < 0)) = false) => ?_)
      · rw [ifb_t hb_5] at H
        refine wp_region_lit ?_
        refine sl hK (by decide) rfl rfl (r_move hK rfl) fun a hK => ?_
        refine sl hK (by decide) rfl rfl (r_move hK rfl) fun a hK => ?_
        refine sl hK (by decide) rfl rfl (r_ibin hK rfl rfl rfl) fun a hK => ?_
        refine sl hK (by decide) rfl rfl (r_assign hK rfl) fun a hK => ?_
        refine wpList_nil ?_
        exact ⟨(IntKind.i64.wrap ((a0.tmod a1) + a1)), H, hK.sub (all_cons rfl (all_cons rfl (all_nil))), hS⟩
      · rw [ifb_f hb_5] at H
        refine wp_skip ?_
        exact ⟨(a0.tmod a1), H, hK.sub (all_cons rfl (all_cons rfl (all_nil))), hS⟩
    · rintro a w ⟨x_3, H, hK, hS⟩
      unfold rowops_down.j0 at H
      refine wp_seq ?_
      refine wp_seq ?_
      refine wp_region_lit ?_
      refine sl hK (by decide) rfl rfl (r_move hK rfl) fun a hK => ?_
      refine sl hK (by decide) rfl rfl (r_move hK rfl) fun a hK => ?_
      refine sl hK (by decide) rfl rfl (r_ibin hK rfl rfl rfl) fun a hK => ?_
      refine sl hK (by decide) rfl rfl (r_ibin hK rfl rfl rfl) fun a hK => ?_
      refine wpList_nil ?_
      refine wp_cond_split (hK.ev rfl) (fun (hb_6 : (decide (a0 < (IntKind.i64.wrap ((-9223372036854775808) + x_3)))) = true) => ?_) (fun (hb_6 : (decide (a0 < (IntKind.i64.wrap ((-9223372036854775808) + x_3)))) = false) => ?_)
      · rw [ifb_t hb_6] at H
        refine wp_seq ?_
        refine wp_region_lit ?_
        refine sl hK (by decide) rfl rfl (r_move hK rfl) fun a hK => ?_
        refine sl hK (by decide) rfl rfl (r_assign hK rfl) fun a hK => ?_
        refine wpList_nil ?_
        obtain rfl := Option.some.inj H
        refine wp_ret ?_
        repeat (first | refine ret_then ?_ | refine ret_block ?_ | refine ret_scope ?_)
        exact ret_1 Try.results27 hK (rv_tmp hK rfl) ⟨rfl, hS.bel⟩
      · rw [ifb_f hb_6] at H
        refine wp_skip ?_
        refine wp_seq ?_
        refine wp_region_lit ?_
        refine sl hK (by decide) rfl rfl (r_move hK rfl) fun a hK => ?_
        refine sl hK (by decide) rfl rfl (r_move hK rfl) fun a hK => ?_
        refine sl hK (by decide) rfl rfl (r_ibin hK rfl rfl rfl) fun a hK => ?_
        refine sl hK (by decide) rfl rfl (r_assign hK rfl) fun a hK => ?_
        refine wpList_nil ?_
        obtain rfl := Option.some.inj H
        refine wp_ret ?_
        repeat (first | refine ret_then ?_ | refine ret_block ?_ | refine ret_scope ?_)
        exact ret_1 Try.results27 hK (rv_tmp hK rfl) ⟨rfl, hS.bel⟩
  · rw [ifb_f hn_1] at H
    cases H

/-! ### catchment/rowops.Align: function 12 -/
set_option maxHeartbeats 4000000 in
set_option maxRecDepth 100000 in
theorem rowops_Align.calls (a0 : api_Table) (a1 : Int) {w0 : World} {R : Hp} {RA : Hp} {v0_0 : Value} {v0_1 : Value} (hRA : RA.sub w0) (hR : R.sub w0) (h0_0 : SlR ty_api_Col RA v0_0 a0.Cols) (h0_1 : SlR (tySl ty_api_Value) RA v0_1 a0.Rows) {r : api_Table × Int} (H : rowops_Align a0 a1 = some r) : Calls Try.prog 12 #[.agg #[v0_0, v0_1], .int .i64 a1] w0 (Rets fun v w' => ∃ (R' : Hp) (u0 : Value) (cu0 : List Value) (u1 : Value) (cu1 : List Value), v = .tuple #[.agg #[u0, u1], .int .i64 r.2] ∧ St [] w0 w' R' [.row 38 2 u0 r.1.Cols.length cu0, .row 44 1 u1 r.1.Rows.length cu1] ∧ RLe [] w0 R R' ∧ Reps ty_api_Col R' cu0 r.1.Cols ∧ Reps (tySl ty_api_Value) R' cu1 r.1.Rows) := by
  unfold rowops_Align at H
  refine enter (args := [.agg #[v0_0, v0_1], .int .i64 a1]) Try.func12 rfl Try.ntmps12 rfl fun a hK => ?_
  have hS := St.init hR
  have hRL := RLe.refl (M := []) w0 R
  refine wp_seq ?_
  refine wp_region_lit ?_
  refine sl_box hS hK (by decide) rfl rfl (c := [v0_0, v0_1]) rfl fun a w b_1 hS hK => ?_
  refine sl_alloc Try.zeroValue25 hS hK (by decide) rfl rfl fun a w b_2 hS hK => ?_
  refine sl hK (by decide) rfl rfl (r_assign hK rfl) fun a hK => ?_
  refine wpList_nil ?_
  refine wp_seq ?_
  refine wp_seq ?_
  refine wp_region_lit ?_
  refine sl hK (by decide) rfl rfl (r_loadA (cs := [v0_0, v0_1]) Try.isAgg25 Try.sizeOf25 rfl hK rfl (hS.cells_of (m := 2) (.tail _ (.head _)) rfl)) fun a hK => ?_
  obtain ⟨y_3, h_4, H⟩ := bind_some H
  refine sl_callV Try.call24 hS hK (by decide) rfl rfl rfl (table_Check.calls a0 (lentOf_sub [] _) (h0_0.mono (hS.raLe0 hRA nil_not)) (h0_1.mono (hS.raLe0 hRA nil_not)) h_4) fun a w hS hK => ?_
  refine sl hK (by decide) rfl rfl (r_assign hK rfl) fun a hK => ?_
  refine wpList_nil ?_
  refine wp_seq ?_
  refine wp_region_lit ?_
  refine sl hK (by decide) rfl rfl (r_move hK rfl) fun a hK => ?_
  refine sl hK (by decide) rfl rfl (r_ibin hK rfl rfl rfl) fun a hK => ?_
  refine wpList_nil ?_
  refine wp_cond_split (hK.ev rfl) (fun (hb_5 : (y_3 != 0) = true) => ?_) (fun (hb_5 : (y_3 != 0) = false) => ?_)
  · rw [ifb_t hb_5] at H
    refine wp_seq ?_
    refine wp_region_lit ?_
    refine sl hK (by decide) rfl rfl (r_buildC (ps := []) (c := [.slice none 0 0, .slice none 0 0]) Try.underlying25 Try.zeroValue25 places25 hK rfl pc_nil rfl rfl) fun a hK => ?_
    refine sl hK (by decide) rfl rfl (r_move hK rfl) fun a hK => ?_
    refine sl_storeA (vs := [.slice none 0 0, .slice none 0 0]) (c' := [.slice none 0 0, .slice none 0 0]) Try.sizeOf25 hS hK rfl rfl rfl rfl (all_cons rfl (all_cons rfl (all_nil))) (Nat.le_of_ble_eq_true rfl) rfl fun a w hS hK => ?_
    refine sl hK (by decide) rfl rfl (r_assign hK rfl) fun a hK => ?_
    refine wpList_nil ?_
    have hS := hS.row_nil 38 2
    have hq_7 : Reps ty_api_Col R [] ([] : List api_Col) := Reps.nil _ _
    have hS := hS.row_nil 44 1
    have hq_9 : Reps (tySl ty_api_Value) R [] ([] : List (List api_Value)) := Reps.nil _ _
    obtain rfl := Option.some.inj H
    refine wp_ret ?_
    repeat (first | refine ret_then ?_ | refine ret_block ?_ | refine ret_scope ?_)
    exact ret_2 Try.results12 hK (rv_cell (c := [(.slice none 0 0), (.slice none 0 0)]) Try.isAgg25 Try.sizeOf25 hS (.tail _ (.tail _ (.head _))) rfl hK rfl) (rv_tmp hK rfl) ⟨_, rfl, _, _, _, _, _, rfl, (hS.pk1.trunc 2), hRL, hq_7, hq_9⟩
  · rw [ifb_f hb_5] at H
    refine wp_skip ?_
    refine wp_seq ?_
    refine wp_region_lit ?_
    refine sl hK (by decide) rfl rfl (r_fieldAddr Try.underlying25 rfl Try.sizeOf22 hK rfl) fun a hK => ?_
    refine sl hK (by decide) rfl rfl (r_load Try.isAgg22 hK rfl (hS.cell (.tail _ (.head _)) rfl)) fun a hK => ?_
    refine sl hK (by decide) rfl rfl (r_buildC (ps := [(0, .string (⟨#[116, 105, 109, 101]⟩ : ByteArray)), (1, .int .i64 1)]) (c := [.string (⟨#[116, 105, 109, 101]⟩ : ByteArray), .int .i64 1]) Try.underlying38 Try.zeroValue38 places38 hK rfl (pc_cons rfl (pc_cons rfl pc_nil)) rfl rfl) fun a hK => ?_
    obtain ⟨y_10, h_11, H⟩ := bind_some H
    refine sl_callV Try.call25 hS hK (by decide) rfl rfl rfl (slices_Index_api_Col_api_Col.calls a0.Cols (⟨(⟨#[116, 105, 109, 101]⟩ : ByteArray), 1⟩ : api_Col) (lentOf_sub [] _) (h0_0.mono (hS.raLe0 hRA nil_not)) h_11) fun a w hS hK => ?_
    refine sl hK (by decide) rfl rfl (r_assign hK rfl) fun a hK => ?_
    refine wpList_nil ?_
    refine wp_seq ?_
    refine wp_seq ?_
    refine wp_mid (fun a w => ∃ (x_13 : Bool), rowops_Align.j0 a0 a1 y_10 x_13 = some r ∧ Kn 51 a [(1, .int .i64 a1), (2, .pointer (some ⟨b_1, 0, none⟩)), (4, .pointer (some ⟨b_2, 0, none⟩)), (7, .int .i64 y_10), (26, .bool x_13)] ∧ St [] w0 w R [.cells b_1 [v0_0, v0_1] 25, .cells b_2 [.slice none 0 0, .slice none 0 0] 25]) ?_ ?_
    · refine wp_region_lit ?_
      refine sl hK (by decide) rfl rfl (r_move hK rfl) fun a hK => ?_
      refine sl hK (by decide) rfl rfl (r_ibin hK rfl rfl rfl) fun a hK => ?_
      refine sl hK (by decide) rfl rfl (r_move hK rfl) fun a hK => ?_
      rcases or_b (decide (a1 < 1)) with hb_15 | hb_15
      · rw [ifb_t hb_15] at H
        refine sl_skip hK (by decide) (wft hb_15) rfl fun a hK => ?_
        refine sl_skip hK (by decide) (wft hb_15) rfl fun a hK => ?_
        refine sl hK (by decide) rfl rfl (r_pick_t hb_15 hK rfl rfl) fun a hK => ?_
        refine wpList_nil ?_
        have hS := hS.pk1
        exact ⟨true, H, hK.sub (all_cons rfl (all_cons rfl (all_cons rfl (all_cons rfl (all_cons rfl (all_nil)))))), hS⟩
      · rw [ifb_f hb_15] at H
        refine sl hK (by decide) (wff hb_15) rfl (r_move hK rfl) fun a hK => ?_
        refine sl hK (by decide) (wff hb_15) rfl (r_ibin hK rfl rfl rfl) fun a hK => ?_
        refine sl hK (by decide) rfl rfl (r_pick_f hb_15 hK rfl rfl) fun a hK => ?_
        refine wpList_nil ?_
        have hS := hS.pk1
        exact ⟨(decide (y_10 < 0)), H, hK.sub (all_cons rfl (all_cons rfl (all_cons rfl (all_cons rfl (all_cons rfl (all_nil)))))), hS⟩
    · rintro a w ⟨x_13, H, hK, hS⟩
      unfold rowops_Align.j0 at H
      refine wp_cond_split (hK.ev rfl) (fun (hb_16 : x_13 = true) => ?_) (fun (hb_16 : x_13 = false) => ?_)
      · rw [ifb_t hb_16] at H
        refine wp_seq ?_
        refine wp_region_lit ?_
        refine sl hK (by decide) rfl rfl (r_buildC (ps := []) (c := [.slice none 0 0, .slice none 0 0]) Try.underlying25 Try.zeroValue25 places25 hK rfl pc_nil rfl rfl) fun a hK => ?_
        have hS := hS.pk1
        refine sl_storeA (vs := [.slice none 0 0, .slice none 0 0]) (c' := [.slice none 0 0, .slice none 0 0]) Try.sizeOf25 hS hK rfl rfl rfl rfl (all_cons rfl (all_cons rfl (all_nil))) (Nat.le_of_ble_eq_true rfl) rfl fun a w hS hK => ?_
        refine sl hK (by decide) rfl rfl (r_assign hK rfl) fun a hK => ?_
        refine wpList_nil ?_
        have hS := hS.row_nil 38 2
        have hq_18 : Reps ty_api_Col R [] ([] : List api_Col) := Reps.nil _ _
        have hS := hS.row_nil 44 1
        have hq_20 : Reps (tySl ty_api_Value) R [] ([] : List (List api_Value)) := Reps.nil _ _
        obtain rfl := Option.some.inj H
        refine wp_ret ?_
        repeat (first | refine ret_then ?_ | refine ret_block ?_ | refine ret_scope ?_)
        exact ret_2 Try.results12 hK (rv_cell (c := [(.slice none 0 0), (.slice none 0 0)]) Try.isAgg25 Try.sizeOf25 hS (.tail _ (.tail _ (.head _))) rfl hK rfl) (rv_tmp hK rfl) ⟨_, rfl, _, _, _, _, _, rfl, (hS.pk1.trunc 2), hRL, hq_18, hq_20⟩
      · rw [ifb_f hb_16] at H
        refine wp_skip ?_
        refine wp_seq ?_
        refine wp_region_lit ?_
        refine sl hK (by decide) rfl rfl (r_loadA (cs := [v0_0, v0_1]) Try.isAgg25 Try.sizeOf25 rfl hK rfl (hS.cells_of (m := 2) (.head _) rfl)) fun a hK => ?_
        obtain ⟨y_21, h_22, H⟩ := bind_some H
        refine sl_call Try.call26 hK (by decide) rfl rfl rfl (table_Canon.calls a0 (lentOf_sub [] _) hS.sub (h0_0.mono (hS.raLe0 hRA nil_not)) (h0_1.mono (hS.raLe0 hRA nil_not)) h_22) fun a v_ w hv_ hK => ?_
        obtain ⟨R_23, v_26, cs_27, v_30, cs_31, hv_, hr_, hl_24, hq_28, hq_32, hap_33⟩ := hv_
        have hv_ := hv_.symm
        subst hv_
        obtain ⟨hS, hl_24⟩ := hS.sp0.back hr_ hl_24
        have hS := hS.un2
        have hRL := hRL.trans hl_24
        refine sl_alloc Try.zeroValue25 hS hK (by decide) rfl rfl fun a w b_34 hS hK => ?_
        refine sl_storeA (vs := [v_26, v_30]) (c' := [v_26, v_30]) Try.sizeOf25 hS hK rfl rfl rfl rfl (all_cons (hS.row_one (.tail _ (.head _))) (all_cons (hS.row_one (.tail _ (.tail _ (.head _)))) (all_nil))) (Nat.le_of_ble_eq_true rfl) rfl fun a w hS hK => ?_
        refine wpList_nil ?_
        refine wp_seq ?_
        refine wp_seq ?_
        refine wp_region_lit ?_
        refine sl hK (by decide) rfl rfl (r_fieldAddr Try.underlying25 rfl Try.sizeOf23 hK rfl) fun a hK => ?_
        refine sl hK (by decide) rfl rfl (r_load Try.isAgg23 hK rfl (hS.cell (.head _) rfl)) fun a hK => ?_
        refine sl hK (by decide) rfl rfl (r_len_O Try.underlying23 hS (.tail _ (.tail _ (.head _))) hK rfl) fun a hK => ?_
        refine sl hK (by decide) rfl rfl (r_move hK rfl) fun a hK => ?_
        refine wpList_nil ?_
        refine wp_block ?_
        refine wp_loop_k (fun k_l1 a w => ∃ (x_76 : List (List api_Value)) (x_81 : Int) (R_82 : Hp) (v_77 : Value) (cs_78 : List Value), rowops_Align.l1 a1 y_10 y_21 k_l1 x_76 x_81 = some r ∧ RLe [] w0 R R_82 ∧ Reps (tySl ty_api_Value) R_82 cs_78 x_76 ∧ Apart R R_82 cs_78 ∧ Kn 51 a [(1, .int .i64 a1), (4, .pointer (some ⟨b_2, 0, none⟩)), (7, .int .i64 y_10), (8, .pointer (some ⟨b_34, 0, none⟩)), (31, v_77), (32, .int .i64 (y_21.Rows.length : Int)), (33, .int .i64 x_81)] ∧ St [] w0 w R_82 [.cells b_2 [.slice none 0 0, .slice none 0 0] 25, .row 38 2 v_26 y_21.Cols.length cs_27, .row 44 1 v_77 x_76.length cs_78, .cells b_34 [v_26, v_77] 25]) (((y_21.Rows.length : Int) - 0).toNat + 1) ?_ ?_
        · have hS := hS.pk2
          have hS := hS.pk2
          have hS := hS.pk4
          exact ⟨y_21.Rows, 0, _, _, _, H, hl_24, hq_32, hap_33, hK.sub (all_cons rfl (all_cons rfl (all_cons rfl (all_cons rfl (all_cons rfl (all_cons rfl (all_cons rfl (all_nil)))))))), hS.trunc 4⟩
        · rintro k_l1 a w ⟨x_76, x_81, R_82, v_77, cs_78, H, hl_83, hq_79, hap_80, hK, hS⟩
          cases k_l1 with
          | zero => cases H
          | succ k_l1 =>
          rw [rowops_Align.l1.eq_2] at H
          have hRL := hl_83
          refine wp_seq ?_
          refine wp_region_lit ?_
          refine sl hK (by decide) rfl rfl (r_ibin hK rfl rfl rfl) fun a hK => ?_
          refine wpList_nil ?_
          refine wp_seq ?_
          refine wp_cond_split (hK.ev rfl) (fun (hb_123 : (decide (x_81 < (y_21.Rows.length : Int))) = true) => ?_) (fun (hb_123 : (decide (x_81 < (y_21.Rows.length : Int))) = false) => ?_)
          · rw [ifb_t hb_123] at H
            refine wp_skip ?_
            refine wp_seq ?_
            refine wp_block ?_
            refine wp_seq ?_
            refine wp_region_lit ?_
            obtain ⟨y_124, h_125, H⟩ := bind_some H
            obtain ⟨b_127, c_128, cs_129, hv_126, hr_130, hc_131, h_1250, h_1251⟩ := hS.row_ix (.tail _ (.tail _ (.head _))) hq_79 rfl rfl h_125
            obtain ⟨v_132, rfl, hs_133⟩ := hr_130
            refine sl hK (by decide) rfl rfl (r_indexAddr_R Try.underlying23 Try.sizeOf44 hv_126 h_1250 h_1251 hK rfl rfl) fun a hK => ?_
            refine sl hK (by decide) rfl rfl (r_load Try.isAgg44 hK rfl (hS.row_cell (.tail _ (.tail _ (.head _))) hv_126 (hc_131 0 _ rfl))) fun a hK => ?_
            refine sl hK (by decide) rfl rfl (r_assign hK rfl) fun a hK => ?_
            refine wpList_nil ?_
            refine wp_region_lit ?_
            refine sl hK (by decide) rfl rfl (r_move hK rfl) fun a hK => ?_
            refine sl hK (by decide) rfl rfl (r_move hK rfl) fun a hK => ?_
            refine sl hK (by decide) rfl rfl (r_move hK rfl) fun a hK => ?_
            refine sl hK (by decide) rfl rfl (r_move hK rfl) fun a hK => ?_
            obtain ⟨y_134, h_135, H⟩ := bind_some H
            obtain ⟨b_136, o_137, c_138, cs_139, hv_140, hr_141, hc_142, h_1350, h_1351⟩ := hs_133.ix h_135
            subst hr_141
            refine sl hK (by decide) rfl rfl (r_indexAddr_R Try.underlying44 Try.sizeOf43 hv_140 h_1350 h_1351 hK rfl rfl) fun a hK => ?_
            refine sl hK (by decide) rfl rfl (r_fieldAddr Try.underlying43 rfl Try.sizeOf3 hK rfl) fun a hK => ?_
            refine sl hK (by decide) rfl rfl (r_load Try.isAgg3 hK rfl (hS.sub.cell (hc_142 1 _ rfl))) fun a hK => ?_
            refine sl hK (by decide) rfl rfl (r_move hK rfl) fun a hK => ?_
            obtain ⟨y_143, h_144, H⟩ := bind_some H
            refine sl_callV Try.call27 hS hK (by decide) rfl rfl rfl (rowops_down.calls y_134.N a1 h_144 _) fun a w hS hK => ?_
            obtain ⟨y_145, h_146, H⟩ := bind_some H
            obtain ⟨b_147, o_148, c_149, cs_150, hv_151, hr_152, hc_153, h_1460, h_1461⟩ := hs_133.ix h_146
            subst hr_152
            refine sl hK (by decide) rfl rfl (r_indexAddr_R Try.underlying44 Try.sizeOf43 hv_151 h_1460 h_1461 hK rfl rfl) fun a hK => ?_
            refine sl hK (by decide) rfl rfl (r_fieldAddr Try.underlying43 rfl Try.sizeOf3 hK rfl) fun a hK => ?_
            have hS := hS.pk2
            obtain ⟨l_154, t_155, hR_156, hS⟩ := hS.thaw hl_83 hap_80 (hc_131 0 _ rfl) hv_151
            have hlt_ : o_148 + y_10.toNat * 11 + 1 < l_154.length := (cell_len ((hc_153) 1 _ rfl) hR_156).1
            refine sl_store1 (c' := spl l_154 (o_148 + y_10.toNat * 11 + 1) [.int .i64 y_143]) Try.sizeOf3 hS hK rfl rfl rfl rfl hlt_ (spl_set hlt_) fun a w hS hK => ?_
            obtain ⟨R_157, hS, hl_158, hq_159, hap_160⟩ := hS.refreeze (ty := ty_api_Value) (es := [.int .i64 y_145.Kind, .int .i64 y_145.N, .string y_145.S, .int .i64 y_145.H.a0, .int .i64 y_145.H.a1, .int .i64 y_145.H.a2, .int .i64 y_145.H.a3, .int .i64 y_145.H.a4, .int .i64 y_145.H.a5, .int .i64 y_145.H.a6, .int .i64 y_145.H.a7]) (vs := [.int .i64 y_143]) (ps := 1) (y := (⟨y_145.Kind, y_143, y_145.S, y_145.H⟩ : api_Value)) (fun _ _ _ _ h => h) hl_83 hap_80 hq_79 h_125 (hc_131 0 _ rfl) hv_151 hR_156 h_146 (show Ty.rep ty_api_Value _ [.int .i64 y_145.Kind, .int .i64 y_145.N, .string y_145.S, .int .i64 y_145.H.a0, .int .i64 y_145.H.a1, .int .i64 y_145.H.a2, .int .i64 y_145.H.a3, .int .i64 y_145.H.a4, .int .i64 y_145.H.a5, .int .i64 y_145.H.a6, .int .i64 y_145.H.a7] y_145 from rfl) (hc_153) (Nat.le_of_ble_eq_true rfl) (Nat.le_of_ble_eq_true rfl) (show Ty.rep ty_api_Value _ (spl [.int .i64 y_145.Kind, .int .i64 y_145.N, .string y_145.S, .int .i64 y_145.H.a0, .int .i64 y_145.H.a1, .int .i64 y_145.H.a2, .int .i64 y_145.H.a3, .int .i64 y_145.H.a4, .int .i64 y_145.H.a5, .int .i64 y_145.H.a6, .int .i64 y_145.H.a7] 1 [.int .i64 y_143]) (⟨y_145.Kind, y_143, y_145.S, y_145.H⟩ : api_Value) from rfl)
            have hS := hS.relen (show (upd x_76 x_81 (upd y_124 y_10 (⟨y_145.Kind, y_143, y_145.S, y_145.H⟩ : api_Value))).length = x_76.length from upd_length)
            have hRL := hl_158
            refine wpList_nil ?_
            refine wp_region_lit ?_
            refine sl hK (by decide) rfl rfl (r_ibin hK rfl rfl rfl) fun a hK => ?_
            refine sl hK (by decide) rfl rfl (r_move hK rfl) fun a hK => ?_
            refine wpList_nil ?_
            have hS := hS.pk3
            have hS := hS.pk1
            have hS := hS.pk3
            have hS := hS.pk3
            exact ⟨_, Nat.lt_succ_self _, (upd x_76 x_81 (upd y_124 y_10 (⟨y_145.Kind, y_143, y_145.S, y_145.H⟩ : api_Value))), (IntKind.i64.wrap (x_81 + 1)), _, _, _, H, hl_158, hq_159, hap_160, hK.sub (all_cons rfl (all_cons rfl (all_cons rfl (all_cons rfl (all_cons rfl (all_cons rfl (all_cons rfl (all_nil)))))))), hS⟩
          · rw [ifb_f hb_123] at H
            refine wp_exit ?_
            refine wp_seq ?_
            refine wp_region_lit ?_
            refine sl hK (by decide) rfl rfl (r_loadA (cs := [v_26, v_77]) Try.isAgg25 Try.sizeOf25 rfl hK rfl (hS.cells_of (m := 2) (.tail _ (.tail _ (.tail _ (.head _)))) rfl)) fun a hK => ?_
            obtain ⟨y_162, h_163, H⟩ := bind_some H
            refine sl_call Try.call26 hK (by decide) rfl rfl rfl (table_Canon.calls (⟨y_21.Cols, x_76⟩ : api_Table) (lentOf_sub [] _) hS.sub (hS.lend_row0 (.tail _ (.head _)) (Reps.any (fun _ _ _ _ h => h) hq_28) rfl rfl) (hS.lend_row0 (.tail _ (.tail _ (.head _))) hq_79 rfl rfl) h_163) fun a v_ w hv_ hK => ?_
            obtain ⟨R_164, v_167, cs_168, v_171, cs_172, hv_, hr_, hl_165, hq_169, hq_173, hap_174⟩ := hv_
            have hv_ := hv_.symm
            subst hv_
            obtain ⟨hS, hl_165⟩ := hS.sp0.back hr_ hl_165
            have hS := hS.un2
            have hRL := hRL.trans hl_165
            have hS := hS.pk2
            refine sl_storeA (vs := [v_167, v_171]) (c' := [v_167, v_171]) Try.sizeOf25 hS hK rfl rfl rfl rfl (all_cons (hS.row_one (.tail _ (.head _))) (all_cons (hS.row_one (.tail _ (.tail _ (.head _)))) (all_nil))) (Nat.le_of_ble_eq_true rfl) rfl fun a w hS hK => ?_
            refine sl hK (by decide) rfl rfl (r_assign hK rfl) fun a hK => ?_
            refine wpList_nil ?_
            obtain rfl := Option.some.inj H
            refine wp_ret ?_
            repeat (first | refine ret_then ?_ | refine ret_block ?_ | refine ret_scope ?_)
            exact ret_2 Try.results12 hK (rv_cell (c := [v_167, v_171]) Try.isAgg25 Try.sizeOf25 hS (.head _) rfl hK rfl) (rv_tmp hK rfl) ⟨_, rfl, _, _, _, _, _, rfl, (hS.pk2.pk2.trunc 2), hRL, hq_169, hq_173⟩

/-! ### catchment/rowops.Top$1: function 34 -/
set_option maxHeartbeats 4000000 in
set_option maxRecDepth 100000 in
theorem rowops_Top_1_cp.calls (a0 : List api_Value) (a1 : List api_Value) (a2 : Int) {w0 : World} {RA : Hp} {v0_0 : Value} {v1_0 : Value} {b2 : Nat} {o2 : Nat} (hRA : RA.sub w0) (h0_0 : SlR ty_api_Value RA v0_0 a0) (h1_0 : SlR ty_api_Value RA v1_0 a1) (hc2 : ∀ j u, ([.int .i64 a2] : List Value)[j]? = some u → RA.cell b2 (o2 + j) = some u) {r : Int} (H : rowops_Top_1_cp a0 a1 a2 = some r) : CallsV Try.prog 34 #[v0_0, v1_0, .pointer (some ⟨b2, o2, none⟩)] w0 (.int .i64 r) := by
  unfold rowops_Top_1_cp at H
  refine enter (args := [v0_0, v1_0, .pointer (some ⟨b2, o2, none⟩)]) Try.func34 rfl Try.ntmps34 rfl fun a hK => ?_
  have hS := St.init (R := fun _ => none) (w := w0) (fun _ _ h => by cases h)
  have hRL := RLe.refl (M := []) w0 (fun _ => none)
  refine wp_seq ?_
  refine wp_region_lit ?_
  refine sl hK (by decide) rfl rfl (r_assign hK rfl) fun a hK => ?_
  refine wpList_nil ?_
  refine wp_seq ?_
  refine parT_region (C := fun w => St [] w0 w (fun _ => none) []) 8 [(0, true), (1, true), (2, true), (3, true), (4, true), (5, true), (6, true), (7, true)] mixed (by kernel_rfl) hS (fun w hS => hS) fun w hS => ?_
  refine sp (k := 0) rfl hK (by decide) rfl rfl (fun w hS => r_move hK rfl) fun a hK => ?_
  refine sp (k := 1) rfl hK (by decide) rfl rfl (fun w hS => r_load Try.isAgg3 hK rfl ((hS.ra hRA nil_not).cell (hc2 0 _ rfl))) fun a hK => ?_
  obtain ⟨y_21, h_22, H⟩ := bind_some H
  obtain ⟨b_23, o_24, c_25, cs_26, hv_27, hr_28, hc_29, h_220, h_221⟩ := h1_0.ix h_22
  subst hr_28
  refine sp (k := 2) rfl hK (by decide) rfl rfl (fun w hS => r_indexAddr_R Try.underlying44 Try.sizeOf43 hv_27 h_220 h_221 hK rfl rfl) fun a hK => ?_
  refine sp (k := 3) rfl hK (by decide) rfl rfl (fun w hS => r_loadA (cs := [.int .i64 y_21.Kind, .int .i64 y_21.N, .string y_21.S, .int .i64 y_21.H.a0, .int .i64 y_21.H.a1, .int .i64 y_21.H.a2, .int .i64 y_21.H.a3, .int .i64 y_21.H.a4, .int .i64 y_21.H.a5, .int .i64 y_21.H.a6, .int .i64 y_21.H.a7]) Try.isAgg43 Try.sizeOf43 rfl hK rfl (fun j v hv => (hS.ra hRA nil_not).cell (hc_29 j v hv))) fun a hK => ?_
  refine sp (k := 4) rfl hK (by decide) rfl rfl (fun w hS => r_move hK rfl) fun a hK => ?_
  refine sp (k := 5) rfl hK (by decide) rfl rfl (fun w hS => r_load Try.isAgg3 hK rfl ((hS.ra hRA nil_not).cell (hc2 0 _ rfl))) fun a hK => ?_
  obtain ⟨y_30, h_31, H⟩ := bind_some H
  obtain ⟨b_32, o_33, c_34, cs_35, hv_36, hr_37, hc_38, h_310, h_311⟩ := h0_0.ix h_31
  subst hr_37
  refine sp (k := 6) rfl hK (by decide) rfl rfl (fun w hS => r_indexAddr_R Try.underlying44 Try.sizeOf43 hv_36 h_310 h_311 hK rfl rfl) fun a hK => ?_
  refine sp (k := 7) rfl hK (by decide) rfl rfl (fun w hS => r_loadA (cs := [.int .i64 y_30.Kind, .int .i64 y_30.N, .string y_30.S, .int .i64 y_30.H.a0, .int .i64 y_30.H.a1, .int .i64 y_30.H.a2, .int .i64 y_30.H.a3, .int .i64 y_30.H.a4, .int .i64 y_30.H.a5, .int .i64 y_30.H.a6, .int .i64 y_30.H.a7]) Try.isAgg43 Try.sizeOf43 rfl hK rfl (fun j v hv => (hS.ra hRA nil_not).cell (hc_38 j v hv))) fun a hK => ?_
  refine thenL_nil ?_
  obtain ⟨y_39, h_40, H⟩ := bind_some H
  refine sl_callV Try.call35 hS hK (by decide) rfl rfl rfl (value_Compare.calls y_21 y_30 h_40 _) fun a w hS hK => ?_
  refine sl hK (by decide) rfl rfl (r_assign hK rfl) fun a hK => ?_
  refine wpList_nil (NoP_nil ?_)
  obtain rfl := Option.some.inj H
  refine wp_ret ?_
  repeat (first | refine ret_then ?_ | refine ret_block ?_ | refine ret_scope ?_)
  exact ret_1 Try.results34 hK (rv_tmp hK rfl) ⟨rfl, hS.bel⟩

/-! ### slices.insertionSortCmpFunc[[]catchment/api.Value]: function 61 -/
set_option maxHeartbeats 4000000 in
set_option maxRecDepth 100000 in
theorem slices_insertionSortCmpFunc_api_Value_f_rowops_Top_1p.calls (a0 : List (List api_Value)) (a1 : Int) (a2 : Int) (a3_0 : Int) {w0 : World} {R : Hp} {RA : Hp} {M : List Own} {v0_0 : Value} {cs0_0 : List Value} {b3q0 : Nat} {o3q0 : Nat} (hRA : RA.sub w0) (hRM : ∀ b, blks M b → RA b = none) (hS0 : St M w0 w0 R [.row 44 1 v0_0 a0.length cs0_0]) (h0_0 : Reps (tySl ty_api_Value) R cs0_0 a0) (hc3q0 : ∀ j u, ([.int .i64 a3_0] : List Value)[j]? = some u → RA.cell b3q0 (o3q0 + j) = some u) {r : List (List api_Value)} (H : slices_insertionSortCmpFunc_api_Value_f_rowops_Top_1p a0 a1 a2 a3_0 = some r) : Calls Try.prog 61 #[v0_0, .int .i64 a1, .int .i64 a2, .func (.func 34) #[] #[.pointer (some ⟨b3q0, o3q0, none⟩)]] w0 (Rets fun v w' => ∃ (R' : Hp) (cu0 : List Value), v = .tuple #[] ∧ St M w0 w' R' [.row 44 1 v0_0 r.length cu0] ∧ RLe M w0 R R' ∧ Reps (tySl ty_api_Value) R' cu0 r) := by
  unfold slices_insertionSortCmpFunc_api_Value_f_rowops_Top_1p at H
  refine enter (args := [v0_0, .int .i64 a1, .int .i64 a2, .func (.func 34) #[] #[.pointer (some ⟨b3q0, o3q0, none⟩)]]) Try.func61 rfl Try.ntmps61 rfl fun a hK => ?_
  have hS := hS0
  have hRL := RLe.refl (M := M) w0 R
  refine wp_seq ?_
  refine wp_region_lit ?_
  refine sl hK (by decide) rfl rfl (r_move hK rfl) fun a hK => ?_
  refine sl hK (by decide) rfl rfl (r_ibin hK rfl rfl rfl) fun a hK => ?_
  refine sl hK (by decide) rfl rfl (r_assign hK rfl) fun a hK => ?_
  refine wpList_nil ?_
  refine wp_block ?_
  refine wp_loop_k (fun k_l0 a w => ∃ (x_691 : List (List api_Value)) (x_695 : Int) (cs_693 : List Value), slices_insertionSortCmpFunc_api_Value_f_rowops_Top_1p.l0 a1 a2 a3_0 k_l0 x_691 x_695 = some r ∧ Reps (tySl ty_api_Value) R cs_693 x_691 ∧ Kn 53 a [(0, v0_0), (1, .int .i64 a1), (2, .int .i64 a2), (3, .func (.func 34) #[] #[.pointer (some ⟨b3q0, o3q0, none⟩)]), (8, .int .i64 x_695)] ∧ St M w0 w R [.row 44 1 v0_0 x_691.length cs_693]) ((a2 - (IntKind.i64.wrap (a1 + 1))).toNat + 1) ?_ ?_
  · exact ⟨a0, (IntKind.i64.wrap (a1 + 1)), _, H, h0_0, hK.sub (all_cons rfl (all_cons rfl (all_cons rfl (all_cons rfl (all_cons rfl (all_nil)))))), hS⟩
  · rintro k_l0 a w ⟨x_691, x_695, cs_693, H, hq_694, hK, hS⟩
    cases k_l0 with
    | zero => cases H
    | succ k_l0 =>
    rw [slices_insertionSortCmpFunc_api_Value_f_rowops_Top_1p.l0.eq_2] at H
    refine wp_seq ?_
    refine wp_seq ?_
    refine wp_region_lit ?_
    refine sl hK (by decide) rfl rfl (r_move hK rfl) fun a hK => ?_
    refine sl hK (by decide) rfl rfl (r_move hK rfl) fun a hK => ?_
    refine sl hK (by decide) rfl rfl (r_ibin hK rfl rfl rfl) fun a hK => ?_
    refine wpList_nil ?_
    refine wp_cond_split (hK.ev rfl) (fun (hb_1385 : (decide (x_695 < a2)) = true) => ?_) (fun (hb_1385 : (decide (x_695 < a2)) = false) => ?_)
    · rw [ifb_t hb_1385] at H
      refine wp_skip ?_
      refine wp_seq ?_
      refine wp_block ?_
      refine wp_seq ?_
      refine wp_region_lit ?_
      refine sl hK (by decide) rfl rfl (r_move hK rfl) fun a hK => ?_
      refine sl hK (by decide) rfl rfl (r_assign hK rfl) fun a hK => ?_
      refine wpList_nil ?_
      refine wp_block ?_
      refine wp_loop_k (fun k_l1 a w => ∃ (x_1599 : List (List api_Value)) (x_1603 : Int) (cs_1601 : List Value), slices_insertionSortCmpFunc_api_Value_f_rowops_Top_1p.l1 (slices_insertionSortCmpFunc_api_Value_f_rowops_Top_1p.l0 a1 a2 a3_0 k_l0) a1 a2 a3_0 x_695 k_l1 x_1599 x_1603 = some r ∧ Reps (tySl ty_api_Value) R cs_1601 x_1599 ∧ Kn 53 a [(0, v0_0), (1, .int .i64 a1), (2, .int .i64 a2), (3, .func (.func 34) #[] #[.pointer (some ⟨b3q0, o3q0, none⟩)]), (8, .int .i64 x_695), (9, .int .i64 x_1603)] ∧ St M w0 w R [.row 44 1 v0_0 x_1599.length cs_1601]) ((x_695 - a1).toNat + 1) ?_ ?_
      · exact ⟨x_691, x_695, _, H, hq_694, hK.sub (all_cons rfl (all_cons rfl (all_cons rfl (all_cons rfl (all_cons rfl (all_cons rfl (all_nil))))))), hS⟩
      · rintro k_l1 a w ⟨x_1599, x_1603, cs_1601, H, hq_1602, hK, hS⟩
        cases k_l1 with
        | zero => cases H
        | succ k_l1 =>
        rw [slices_insertionSortCmpFunc_api_Value_f_rowops_Top_1p.l1.eq_2] at H
        refine wp_seq ?_
        refine wp_seq ?_
        refine wp_mid (fun a w => ∃ (x_1908 : Bool), slices_insertionSortCmpFunc_api_Value_f_rowops_Top_1p.j2 (slices_insertionSortCmpFunc_api_Value_f_rowops_Top_1p.l0 a1 a2 a3_0 k_l0) (slices_insertionSortCmpFunc_api_Value_f_rowops_Top_1p.l1 (slices_insertionSortCmpFunc_api_Value_f_rowops_Top_1p.l0 a1 a2 a3_0 k_l0) a1 a2 a3_0 x_695 k_l1) a1 a2 x_695 x_1599 x_1603 x_1908 = some r ∧ Kn 53 a [(0, v0_0), (1, .int .i64 a1), (2, .int .i64 a2), (3, .func (.func 34) #[] #[.pointer (some ⟨b3q0, o3q0, none⟩)]), (8, .int .i64 x_695), (9, .int .i64 x_1603), (34, .bool x_1908)] ∧ St M w0 w R [.row 44 1 v0_0 x_1599.length cs_1601]) ?_ ?_
        · refine parT_region (C := fun w => St M w0 w R [.row 44 1 v0_0 x_1599.length cs_1601]) 14 [(0, true), (1, true), (2, true), (3, true), (4, true), (5, true), (6, true), (7, true), (8, true), (9, true), (10, true), (11, true), (12, true), (13, true)] mixed (by kernel_rfl) hS (fun w hS => hS) fun w hS => ?_
          refine sp (k := 0) rfl hK (by decide) rfl rfl (fun w hS => r_move hK rfl) fun a hK => ?_
          refine sp (k := 1) rfl hK (by decide) rfl rfl (fun w hS => r_move hK rfl) fun a hK => ?_
          refine sp (k := 2) rfl hK (by decide) rfl rfl (fun w hS => r_ibin hK rfl rfl rfl) fun a hK => ?_
          refine sp (k := 3) rfl hK (by decide) rfl rfl (fun w hS => r_move hK rfl) fun a hK => ?_
          rcases or_b (decide (x_1603 > a1)) with hb_1933 | hb_1933
          · rw [ifb_t hb_1933] at H
            refine sp (k := 4) rfl hK (by decide) (wtt hb_1933) rfl (fun w hS => r_move hK rfl) fun a hK => ?_
            refine sp (k := 5) rfl hK (by decide) (wtt hb_1933) rfl (fun w hS => r_move hK rfl) fun a hK => ?_
            refine sp (k := 6) rfl hK (by decide) (wtt hb_1933) rfl (fun w hS => r_move hK rfl) fun a hK => ?_
            obtain ⟨y_1934, h_1935, H⟩ := bind_some H
            obtain ⟨b_1937, c_1938, cs_1939, hv_1936, hr_1940, hc_1941, h_19350, h_19351⟩ := hS.row_ix (.head _) hq_1602 rfl rfl h_1935
            obtain ⟨v_1942, rfl, hs_1943⟩ := hr_1940
            refine sp (k := 7) rfl hK (by decide) (wtt hb_1933) rfl (fun w hS => r_indexAddr_R Try.underlying23 Try.sizeOf44 hv_1936 h_19350 h_19351 hK rfl rfl) fun a hK => ?_
            refine sp (k := 8) rfl hK (by decide) (wtt hb_1933) rfl (fun w hS => r_load Try.isAgg44 hK rfl (hS.row_cell (.head _) hv_1936 (hc_1941 0 _ rfl))) fun a hK => ?_
            refine sp (k := 9) rfl hK (by decide) (wtt hb_1933) rfl (fun w hS => r_move hK rfl) fun a hK => ?_
            refine sp (k := 10) rfl hK (by decide) (wtt hb_1933) rfl (fun w hS => r_move hK rfl) fun a hK => ?_
            refine sp (k := 11) rfl hK (by decide) (wtt hb_1933) rfl (fun w hS => r_ibin hK rfl rfl rfl) fun a hK => ?_
            obtain ⟨y_1944, h_1945, H⟩ := bind_some H
            obtain ⟨b_1947, c_1948, cs_1949, hv_1946, hr_1950, hc_1951, h_19450, h_19451⟩ := hS.row_ix (.head _) hq_1602 rfl rfl h_1945
            obtain ⟨v_1952, rfl, hs_1953⟩ := hr_1950
            refine sp (k := 12) rfl hK (by decide) (wtt hb_1933) rfl (fun w hS => r_indexAddr_R Try.underlying23 Try.sizeOf44 hv_1946 h_19450 h_19451 hK rfl rfl) fun a hK => ?_
            refine sp (k := 13) rfl hK (by decide) (wtt hb_1933) rfl (fun w hS => r_load Try.isAgg44 hK rfl (hS.row_cell (.head _) hv_1946 (hc_1951 0 _ rfl))) fun a hK => ?_
            refine thenL_nil ?_
            obtain ⟨y_1954, h_1955, H⟩ := bind_some H
            refine sl_callV Try.call34 hS hK (by decide) (wtt hb_1933) rfl rfl (rowops_Top_1_cp.calls y_1934 y_1944 a3_0 (lentOf_sub [] _) (hs_1943.mono hS.rLe0) (hs_1953.mono hS.rLe0) (fun j u hu => Hp.cell_le (hS.raLe0 hRA hRM) (hc3q0 j u hu)) h_1955) fun a w hS hK => ?_
            refine sl hK (by decide) (wtt hb_1933) rfl (r_ibin hK rfl rfl rfl) fun a hK => ?_
            refine sl hK (by decide) rfl rfl (r_pick_t hb_1933 hK rfl rfl) fun a hK => ?_
            refine wpList_nil (NoP_nil ?_)
            exact ⟨(decide (y_1954 < 0)), H, hK.sub (all_cons rfl (all_cons rfl (all_cons rfl (all_cons rfl (all_cons rfl (all_cons rfl (all_cons rfl (all_nil)))))))), hS⟩
          · rw [ifb_f hb_1933] at H
            refine sp_skip (k := 4) rfl hK (by decide) (wtf hb_1933) rfl fun a hK => ?_
            refine sp_skip (k := 5) rfl hK (by decide) (wtf hb_1933) rfl fun a hK => ?_
            refine sp_skip (k := 6) rfl hK (by decide) (wtf hb_1933) rfl fun a hK => ?_
            refine sp_skip (k := 7) rfl hK (by decide) (wtf hb_1933) rfl fun a hK => ?_
            refine sp_skip (k := 8) rfl hK (by decide) (wtf hb_1933) rfl fun a hK => ?_
            refine sp_skip (k := 9) rfl hK (by decide) (wtf hb_1933) rfl fun a hK => ?_
            refine sp_skip (k := 10) rfl hK (by decide) (wtf hb_1933) rfl fun a hK => ?_
            refine sp_skip (k := 11) rfl hK (by decide) (wtf hb_1933) rfl fun a hK => ?_
            refine sp_skip (k := 12) rfl hK (by decide) (wtf hb_1933) rfl fun a hK => ?_
            refine sp_skip (k := 13) rfl hK (by decide) (wtf hb_1933) rfl fun a hK => ?_
            refine thenL_nil ?_
            refine sl_skip hK (by decide) (wtf hb_1933) rfl fun a hK => ?_
            refine sl_skip hK (by decide) (wtf hb_1933) rfl fun a hK => ?_
            refine sl hK (by decide) rfl rfl (r_pick_f hb_1933 hK rfl rfl) fun a hK => ?_
            refine wpList_nil (NoP_nil ?_)
            exact ⟨false, H, hK.sub (all_cons rfl (all_cons rfl (all_cons rfl (all_cons rfl (all_cons rfl (all_cons rfl (all_cons rfl (all_nil)))))))), hS⟩
        · rintro a w ⟨x_1908, H, hK, hS⟩
          unfold slices_insertionSortCmpFunc_api_Value_f_rowops_Top_1p.j2 at H
          refine wp_cond_split (hK.ev rfl) (fun (hb_1956 : x_1908 = true) => ?_) (fun (hb_1956 : x_1908 = false) => ?_)
          · rw [ifb_t hb_1956] at H
            refine wp_skip ?_
            refine wp_seq ?_
            refine wp_block ?_
            refine treeTS_region (C0 := (fun w => St M w0 w R [.row 44 1 v0_0 x_1599.length cs_1601])) (C1 := (fun w => St M w0 w R [])) 16 15 [(0, 2), (1, 2), (2, 1), (3, 1), (4, 1), (5, 2), (6, 2), (7, 2), (8, 2), (9, 2), (10, 2), (11, 2), (12, 2), (13, 2), (14, 2)] (.list []) mixed (by kernel_rfl) (fun w hS => (hS.trunc 0)) hS (fun w hS => hS) fun w hS => ?_
            refine spS2 (k := 0) rfl hK (by decide) rfl rfl (fun w hS => r_move hK rfl) fun a hK => ?_
            refine spS2 (k := 1) rfl hK (by decide) rfl rfl (fun w hS => r_move hK rfl) fun a hK => ?_
            refine spS1 (k := 2) rfl hK (by decide) rfl rfl (fun w hS => r_move hK rfl) fun a hK => ?_
            refine spS1 (k := 3) rfl hK (by decide) rfl rfl (fun w hS => r_move hK rfl) fun a hK => ?_
            refine spS1 (k := 4) rfl hK (by decide) rfl rfl (fun w hS => r_ibin hK rfl rfl rfl) fun a hK => ?_
            refine spS2 (k := 5) rfl hK (by decide) rfl rfl (fun w hS => r_move hK rfl) fun a hK => ?_
            refine spS2 (k := 6) rfl hK (by decide) rfl rfl (fun w hS => r_move hK rfl) fun a hK => ?_
            refine spS2 (k := 7) rfl hK (by decide) rfl rfl (fun w hS => r_ibin hK rfl rfl rfl) fun a hK => ?_
            obtain ⟨y_2015, h_2016, H⟩ := bind_some H
            obtain ⟨b_2018, c_2019, cs_2020, hv_2017, hr_2021, hc_2022, h_20160, h_20161⟩ := hS.row_ix (.head _) hq_1602 rfl rfl h_2016
            obtain ⟨v_2023, rfl, hs_2024⟩ := hr_2021
            refine spS2 (k := 8) rfl hK (by decide) rfl rfl (fun w hS => r_indexAddr_R Try.underlying23 Try.sizeOf44 hv_2017 h_20160 h_20161 hK rfl rfl) fun a hK => ?_
            refine spS2 (k := 9) rfl hK (by decide) rfl rfl (fun w hS => r_load Try.isAgg44 hK rfl (hS.row_cell (.head _) hv_2017 (hc_2022 0 _ rfl))) fun a hK => ?_
            refine spS2 (k := 10) rfl hK (by decide) rfl rfl (fun w hS => r_move hK rfl) fun a hK => ?_
            refine spS2 (k := 11) rfl hK (by decide) rfl rfl (fun w hS => r_move hK rfl) fun a hK => ?_
            obtain ⟨y_2025, h_2026, H⟩ := bind_some H
            obtain ⟨b_2028, c_2029, cs_2030, hv_2027, hr_2031, hc_2032, h_20260, h_20261⟩ := hS.row_ix (.head _) hq_1602 rfl rfl h_2026
            obtain ⟨v_2033, rfl, hs_2034⟩ := hr_2031
            refine spS2 (k := 12) rfl hK (by decide) rfl rfl (fun w hS => r_indexAddr_R Try.underlying23 Try.sizeOf44 hv_2027 h_20260 h_20261 hK rfl rfl) fun a hK => ?_
            refine spS2 (k := 13) rfl hK (by decide) rfl rfl (fun w hS => r_load Try.isAgg44 hK rfl (hS.row_cell (.head _) hv_2027 (hc_2032 0 _ rfl))) fun a hK => ?_
            obtain ⟨y_2035, h_2036, H⟩ := bind_some H
            obtain ⟨b_2038, c_2039, cs_2040, hv_2037, hr_2041, hc_2042, h_20360, h_20361⟩ := hS.row_ix (.head _) hq_1602 rfl rfl h_2036
            obtain ⟨v_2043, rfl, hs_2044⟩ := hr_2041
            refine spS2 (k := 14) rfl hK (by decide) rfl rfl (fun w hS => r_indexAddr_R Try.underlying23 Try.sizeOf44 hv_2037 h_20360 h_20361 hK rfl rfl) fun a hK => ?_
            refine parS_nil (spwB (k := 15) rfl rfl (hS.trunc 0) ?_)
            refine sl_store_row Try.sizeOf44 hv_2037 h_2036 rfl (show Ty.rep (tySl ty_api_Value) _ [v_2023] y_2015 from ⟨_, rfl, hs_2024⟩) hq_1602 rfl hS hK rfl rfl rfl hs_2024.one fun a w cs_2045 hq_2046 hS hK => ?_
            obtain ⟨z_2050, h_2048⟩ := ix_upd x_1603 y_2015 h_2016
            have hv_2049 : v0_0 = Value.slice (some ⟨b_2018, 0, none⟩) (upd x_1599 x_1603 y_2015).length c_2019 := by rw [upd_length]; exact hv_2017
            obtain ⟨z_2053, h_2051⟩ := ix_upd x_1603 y_2015 h_2026
            have hv_2052 : v0_0 = Value.slice (some ⟨b_2028, 0, none⟩) (upd x_1599 x_1603 y_2015).length c_2029 := by rw [upd_length]; exact hv_2027
            refine parKK_nil (hS.trunc 0) ?_
            refine tree_list ?_
            refine thenL_nil ?_
            obtain ⟨y_2054, h_2055, H⟩ := bind_some H
            obtain ⟨b_2057, c_2058, cs_2059, hv_2056, hr_2060, hc_2061, h_20550, h_20551⟩ := hS.row_ix (.head _) hq_2046 rfl rfl h_2055
            obtain ⟨v_2062, rfl, hs_2063⟩ := hr_2060
            refine sl hK (by decide) rfl rfl (r_indexAddr_R Try.underlying23 Try.sizeOf44 hv_2056 h_20550 h_20551 hK rfl rfl) fun a hK => ?_
            refine sl_store_row Try.sizeOf44 hv_2056 h_2055 rfl (show Ty.rep (tySl ty_api_Value) _ [v_2033] y_2025 from ⟨_, rfl, hs_2034⟩) hq_2046 rfl hS hK rfl rfl rfl hs_2034.one fun a w cs_2064 hq_2065 hS hK => ?_
            obtain ⟨z_2069, h_2067⟩ := ix_upd (IntKind.i64.wrap (x_1603 - 1)) y_2025 h_2048
            have hv_2068 : v0_0 = Value.slice (some ⟨b_2018, 0, none⟩) (upd (upd x_1599 x_1603 y_2015) (IntKind.i64.wrap (x_1603 - 1)) y_2025).length c_2019 := by rw [upd_length]; exact hv_2049
            obtain ⟨z_2072, h_2070⟩ := ix_upd (IntKind.i64.wrap (x_1603 - 1)) y_2025 h_2051
            have hv_2071 : v0_0 = Value.slice (some ⟨b_2028, 0, none⟩) (upd (upd x_1599 x_1603 y_2015) (IntKind.i64.wrap (x_1603 - 1)) y_2025).length c_2029 := by rw [upd_length]; exact hv_2052
            refine wpList_nil (NoP_nil ?_)
            refine wp_region_lit ?_
            refine sl hK (by decide) rfl rfl (r_move hK rfl) fun a hK => ?_
            refine sl hK (by decide) rfl rfl (r_ibin hK rfl rfl rfl) fun a hK => ?_
            refine sl hK (by decide) rfl rfl (r_assign hK rfl) fun a hK => ?_
            refine wpList_nil ?_
            exact ⟨_, Nat.lt_succ_self _, (upd (upd x_1599 x_1603 y_2015) (IntKind.i64.wrap (x_1603 - 1)) y_2025), (IntKind.i64.wrap (x_1603 - 1)), _, H, hq_2065, hK.sub (all_cons rfl (all_cons rfl (all_cons rfl (all_cons rfl (all_cons rfl (all_cons rfl (all_nil))))))), hS⟩
          · rw [ifb_f hb_1956] at H
            refine wp_exit ?_
            refine wp_region_lit ?_
            refine sl hK (by decide) rfl rfl (r_move hK rfl) fun a hK => ?_
            refine sl hK (by decide) rfl rfl (r_ibin hK rfl rfl rfl) fun a hK => ?_
            refine sl hK (by decide) rfl rfl (r_assign hK rfl) fun a hK => ?_
            refine wpList_nil ?_
            exact ⟨_, Nat.lt_succ_self _, x_1599, (IntKind.i64.wrap (x_695 + 1)), _, H, hq_1602, hK.sub (all_cons rfl (all_cons rfl (all_cons rfl (all_cons rfl (all_cons rfl (all_nil)))))), hS⟩
    · rw [ifb_f hb_1385] at H
      refine wp_exit ?_
      obtain rfl := Option.some.inj H
      exact ret_0n Try.results61 hK ⟨_, rfl, _, _, rfl, hS, hRL, hq_694⟩

/-! ### slices.swapRangeCmpFunc[[]catchment/api.Value]: function 91 -/
set_option maxHeartbeats 4000000 in
set_option maxRecDepth 100000 in
theorem slices_swapRangeCmpFunc_api_Value_f_rowops_Top_1p.calls (a0 : List (List api_Value)) (a1 : Int) (a2 : Int) (a3 : Int) (a4_0 : Int) {w0 : World} {R : Hp} {RA : Hp} {M : List Own} {v0_0 : Value} {cs0_0 : List Value} {b4q0 : Nat} {o4q0 : Nat} (hRA : RA.sub w0) (hRM : ∀ b, blks M b → RA b = none) (hS0 : St M w0 w0 R [.row 44 1 v0_0 a0.length cs0_0]) (h0_0 : Reps (tySl ty_api_Value) R cs0_0 a0) (hc4q0 : ∀ j u, ([.int .i64 a4_0] : List Value)[j]? = some u → RA.cell b4q0 (o4q0 + j) = some u) {r : List (List api_Value)} (H : slices_swapRangeCmpFunc_api_Value_f_rowops_Top_1p a0 a1 a2 a3 a4_0 = some r) : Calls Try.prog 91 #[v0_0, .int .i64 a1, .int .i64 a2, .int .i64 a3, .func (.func 34) #[] #[.pointer (some ⟨b4q0, o4q0, none⟩)]] w0 (Rets fun v w' => ∃ (R' : Hp) (cu0 : List Value), v = .tuple #[] ∧ St M w0 w' R' [.row 44 1 v0_0 r.length cu0] ∧ RLe M w0 R R' ∧ Reps (tySl ty_api_Value) R' cu0 r) := by
  unfold slices_swapRangeCmpFunc_api_Value_f_rowops_Top_1p at H
  refine enter (args := [v0_0, .int .i64 a1, .int .i64 a2, .int .i64 a3, .func (.func 34) #[] #[.pointer (some ⟨b4q0, o4q0, none⟩)]]) Try.func91 rfl Try.ntmps91 rfl fun a hK => ?_
  have hS := hS0
  have hRL := RLe.refl (M := M) w0 R
  refine wp_seq ?_
  refine wp_region_lit ?_
  refine sl hK (by decide) rfl rfl (r_assign hK rfl) fun a hK => ?_
  refine wpList_nil ?_
  refine wp_block ?_
  refine wp_loop_k (fun k_l0 a w => ∃ (x_120 : List (List api_Value)) (x_124 : Int) (cs_122 : List Value), slices_swapRangeCmpFunc_api_Value_f_rowops_Top_1p.l0 a1 a2 a3 k_l0 x_120 x_124 = some r ∧ Reps (tySl ty_api_Value) R cs_122 x_120 ∧ Kn 38 a [(0, v0_0), (1, .int .i64 a1), (2, .int .i64 a2), (3, .int .i64 a3), (10, .int .i64 x_124)] ∧ St M w0 w R [.row 44 1 v0_0 x_120.length cs_122]) ((a3 - 0).toNat + 1) ?_ ?_
  · exact ⟨a0, 0, _, H, h0_0, hK.sub (all_cons rfl (all_cons rfl (all_cons rfl (all_cons rfl (all_cons rfl (all_nil)))))), hS⟩
  · rintro k_l0 a w ⟨x_120, x_124, cs_122, H, hq_123, hK, hS⟩
    cases k_l0 with
    | zero => cases H
    | succ k_l0 =>
    rw [slices_swapRangeCmpFunc_api_Value_f_rowops_Top_1p.l0.eq_2] at H
    refine wp_seq ?_
    refine wp_seq ?_
    refine wp_region_lit ?_
    refine sl hK (by decide) rfl rfl (r_move hK rfl) fun a hK => ?_
    refine sl hK (by decide) rfl rfl (r_move hK rfl) fun a hK => ?_
    refine sl hK (by decide) rfl rfl (r_ibin hK rfl rfl rfl) fun a hK => ?_
    refine wpList_nil ?_
    refine wp_cond_split (hK.ev rfl) (fun (hb_243 : (decide (x_124 < a3)) = true) => ?_) (fun (hb_243 : (decide (x_124 < a3)) = false) => ?_)
    · rw [ifb_t hb_243] at H
      refine wp_skip ?_
      refine wp_seq ?_
      refine wp_block ?_
      refine treeTS_region (C0 := (fun w => St M w0 w R [.row 44 1 v0_0 x_120.length cs_122])) (C1 := (fun w => St M w0 w R [])) 22 21 [(0, 2), (1, 2), (2, 2), (3, 2), (4, 1), (5, 1), (6, 1), (7, 1), (8, 2), (9, 2), (10, 2), (11, 2), (12, 2), (13, 2), (14, 2), (15, 2), (16, 2), (17, 2), (18, 2), (19, 2), (20, 2)] (.list []) mixed (by kernel_rfl) (fun w hS => (hS.trunc 0)) hS (fun w hS => hS) fun w hS => ?_
      refine spS2 (k := 0) rfl hK (by decide) rfl rfl (fun w hS => r_move hK rfl) fun a hK => ?_
      refine spS2 (k := 1) rfl hK (by decide) rfl rfl (fun w hS => r_move hK rfl) fun a hK => ?_
      refine spS2 (k := 2) rfl hK (by decide) rfl rfl (fun w hS => r_move hK rfl) fun a hK => ?_
      refine spS2 (k := 3) rfl hK (by decide) rfl rfl (fun w hS => r_ibin hK rfl rfl rfl) fun a hK => ?_
      refine spS1 (k := 4) rfl hK (by decide) rfl rfl (fun w hS => r_move hK rfl) fun a hK => ?_
      refine spS1 (k := 5) rfl hK (by decide) rfl rfl (fun w hS => r_move hK rfl) fun a hK => ?_
      refine spS1 (k := 6) rfl hK (by decide) rfl rfl (fun w hS => r_move hK rfl) fun a hK => ?_
      refine spS1 (k := 7) rfl hK (by decide) rfl rfl (fun w hS => r_ibin hK rfl rfl rfl) fun a hK => ?_
      refine spS2 (k := 8) rfl hK (by decide) rfl rfl (fun w hS => r_move hK rfl) fun a hK => ?_
      refine spS2 (k := 9) rfl hK (by decide) rfl rfl (fun w hS => r_move hK rfl) fun a hK => ?_
      refine spS2 (k := 10) rfl hK (by decide) rfl rfl (fun w hS => r_move hK rfl) fun a hK => ?_
      refine spS2 (k := 11) rfl hK (by decide) rfl rfl (fun w hS => r_ibin hK rfl rfl rfl) fun a hK => ?_
      obtain ⟨y_302, h_303, H⟩ := bind_some H
      obtain ⟨b_305, c_306, cs_307, hv_304, hr_308, hc_309, h_3030, h_3031⟩ := hS.row_ix (.head _) hq_123 rfl rfl h_303
      obtain ⟨v_310, rfl, hs_311⟩ := hr_308
      refine spS2 (k := 12) rfl hK (by decide) rfl rfl (fun w hS => r_indexAddr_R Try.underlying23 Try.sizeOf44 hv_304 h_3030 h_3031 hK rfl rfl) fun a hK => ?_
      refine spS2 (k := 13) rfl hK (by decide) rfl rfl (fun w hS => r_load Try.isAgg44 hK rfl (by have h_ := hS.row_cell (.head _) hv_304 (hc_309 0 _ rfl); simpa [Nat.add_assoc] using h_)) fun a hK => ?_
      refine spS2 (k := 14) rfl hK (by decide) rfl rfl (fun w hS => r_move hK rfl) fun a hK => ?_
      refine spS2 (k := 15) rfl hK (by decide) rfl rfl (fun w hS => r_move hK rfl) fun a hK => ?_
      refine spS2 (k := 16) rfl hK (by decide) rfl rfl (fun w hS => r_move hK rfl) fun a hK => ?_
      refine spS2 (k := 17) rfl hK (by decide) rfl rfl (fun w hS => r_ibin hK rfl rfl rfl) fun a hK => ?_
      obtain ⟨y_312, h_313, H⟩ := bind_some H
      obtain ⟨b_315, c_316, cs_317, hv_314, hr_318, hc_319, h_3130, h_3131⟩ := hS.row_ix (.head _) hq_123 rfl rfl h_313
      obtain ⟨v_320, rfl, hs_321⟩ := hr_318
      refine spS2 (k := 18) rfl hK (by decide) rfl rfl (fun w hS => r_indexAddr_R Try.underlying23 Try.sizeOf44 hv_314 h_3130 h_3131 hK rfl rfl) fun a hK => ?_
      refine spS2 (k := 19) rfl hK (by decide) rfl rfl (fun w hS => r_load Try.isAgg44 hK rfl (by have h_ := hS.row_cell (.head _) hv_314 (hc_319 0 _ rfl); simpa [Nat.add_assoc] using h_)) fun a hK => ?_
      obtain ⟨y_322, h_323, H⟩ := bind_some H
      obtain ⟨b_325, c_326, cs_327, hv_324, hr_328, hc_329, h_3230, h_3231⟩ := hS.row_ix (.head _) hq_123 rfl rfl h_323
      obtain ⟨v_330, rfl, hs_331⟩ := hr_328
      refine spS2 (k := 20) rfl hK (by decide) rfl rfl (fun w hS => r_indexAddr_R Try.underlying23 Try.sizeOf44 hv_324 h_3230 h_3231 hK rfl rfl) fun a hK => ?_
      refine parS_nil (spwB (k := 21) rfl rfl (hS.trunc 0) ?_)
      refine sl_store_row Try.sizeOf44 hv_324 h_323 rfl (show Ty.rep (tySl ty_api_Value) _ [v_310] y_302 from ⟨_, rfl, hs_311⟩) hq_123 rfl hS hK rfl rfl rfl hs_311.one fun a w cs_332 hq_333 hS hK => ?_
      obtain ⟨z_337, h_335⟩ := ix_upd (IntKind.i64.wrap (a1 + x_124)) y_302 h_303
      have hv_336 : v0_0 = Value.slice (some ⟨b_305, 0, none⟩) (upd x_120 (IntKind.i64.wrap (a1 + x_124)) y_302).length c_306 := by rw [upd_length]; exact hv_304
      obtain ⟨z_340, h_338⟩ := ix_upd (IntKind.i64.wrap (a1 + x_124)) y_302 h_313
      have hv_339 : v0_0 = Value.slice (some ⟨b_315, 0, none⟩) (upd x_120 (IntKind.i64.wrap (a1 + x_124)) y_302).length c_316 := by rw [upd_length]; exact hv_314
      refine parKK_nil (hS.trunc 0) ?_
      refine tree_list ?_
      refine thenL_nil ?_
      obtain ⟨y_341, h_342, H⟩ := bind_some H
      obtain ⟨b_344, c_345, cs_346, hv_343, hr_347, hc_348, h_3420, h_3421⟩ := hS.row_ix (.head _) hq_333 rfl rfl h_342
      obtain ⟨v_349, rfl, hs_350⟩ := hr_347
      refine sl hK (by decide) rfl rfl (r_indexAddr_R Try.underlying23 Try.sizeOf44 hv_343 h_3420 h_3421 hK rfl rfl) fun a hK => ?_
      refine sl_store_row Try.sizeOf44 hv_343 h_342 rfl (show Ty.rep (tySl ty_api_Value) _ [v_320] y_312 from ⟨_, rfl, hs_321⟩) hq_333 rfl hS hK rfl rfl rfl hs_321.one fun a w cs_351 hq_352 hS hK => ?_
      obtain ⟨z_356, h_354⟩ := ix_upd (IntKind.i64.wrap (a2 + x_124)) y_312 h_335
      have hv_355 : v0_0 = Value.slice (some ⟨b_305, 0, none⟩) (upd (upd x_120 (IntKind.i64.wrap (a1 + x_124)) y_302) (IntKind.i64.wrap (a2 + x_124)) y_312).length c_306 := by rw [upd_length]; exact hv_336
      obtain ⟨z_359, h_357⟩ := ix_upd (IntKind.i64.wrap (a2 + x_124)) y_312 h_338
      have hv_358 : v0_0 = Value.slice (some ⟨b_315, 0, none⟩) (upd (upd x_120 (IntKind.i64.wrap (a1 + x_124)) y_302) (IntKind.i64.wrap (a2 + x_124)) y_312).length c_316 := by rw [upd_length]; exact hv_339
      refine wpList_nil (NoP_nil ?_)
      refine wp_region_lit ?_
      refine sl hK (by decide) rfl rfl (r_move hK rfl) fun a hK => ?_
      refine sl hK (by decide) rfl rfl (r_ibin hK rfl rfl rfl) fun a hK => ?_
      refine sl hK (by decide) rfl rfl (r_assign hK rfl) fun a hK => ?_
      refine wpList_nil ?_
      exact ⟨_, Nat.lt_succ_self _, (upd (upd x_120 (IntKind.i64.wrap (a1 + x_124)) y_302) (IntKind.i64.wrap (a2 + x_124)) y_312), (IntKind.i64.wrap (x_124 + 1)), _, H, hq_352, hK.sub (all_cons rfl (all_cons rfl (all_cons rfl (all_cons rfl (all_cons rfl (all_nil)))))), hS⟩
    · rw [ifb_f hb_243] at H
      refine wp_exit ?_
      obtain rfl := Option.some.inj H
      exact ret_0n Try.results91 hK ⟨_, rfl, _, _, rfl, hS, hRL, hq_123⟩

/-! ### slices.rotateCmpFunc[[]catchment/api.Value]: function 82 -/
set_option maxHeartbeats 4000000 in
set_option maxRecDepth 100000 in
theorem slices_rotateCmpFunc_api_Value_f_rowops_Top_1p.calls (a0 : List (List api_Value)) (a1 : Int) (a2 : Int) (a3 : Int) (a4_0 : Int) {w0 : World} {R : Hp} {RA : Hp} {M : List Own} {v0_0 : Value} {cs0_0 : List Value} {b4q0 : Nat} {o4q0 : Nat} (hRA : RA.sub w0) (hRM : ∀ b, blks M b → RA b = none) (hS0 : St M w0 w0 R [.row 44 1 v0_0 a0.length cs0_0]) (h0_0 : Reps (tySl ty_api_Value) R cs0_0 a0) (hc4q0 : ∀ j u, ([.int .i64 a4_0] : List Value)[j]? = some u → RA.cell b4q0 (o4q0 + j) = some u) {r : List (List api_Value)} (H : slices_rotateCmpFunc_api_Value_f_rowops_Top_1p a0 a1 a2 a3 a4_0 = some r) : Calls Try.prog 82 #[v0_0, .int .i64 a1, .int .i64 a2, .int .i64 a3, .func (.func 34) #[] #[.pointer (some ⟨b4q0, o4q0, none⟩)]] w0 (Rets fun v w' => ∃ (R' : Hp) (cu0 : List Value), v = .tuple #[] ∧ St M w0 w' R' [.row 44 1 v0_0 r.length cu0] ∧ RLe M w0 R R' ∧ Reps (tySl ty_api_Value) R' cu0 r) := by
  unfold slices_rotateCmpFunc_api_Value_f_rowops_Top_1p at H
  refine enter (args := [v0_0, .int .i64 a1, .int .i64 a2, .int .i64 a3, .func (.func 34) #[] #[.pointer (some ⟨b4q0, o4q0, none⟩)]]) Try.func82 rfl Try.ntmps82 rfl fun a hK => ?_
  have hS := hS0
  have hRL := RLe.refl (M := M) w0 R
  refine wp_seq ?_
  refine wp_region_lit ?_
  refine sl hK (by decide) rfl rfl (r_move hK rfl) fun a hK => ?_
  refine sl hK (by decide) rfl rfl (r_move hK rfl) fun a hK => ?_
  refine sl hK (by decide) rfl rfl (r_ibin hK rfl rfl rfl) fun a hK => ?_
  refine sl hK (by decide) rfl rfl (r_assign hK rfl) fun a hK => ?_
  refine wpList_nil ?_
  refine wp_seq ?_
  refine wp_region_lit ?_
  refine sl hK (by decide) rfl rfl (r_move hK rfl) fun a hK => ?_
  refine sl hK (by decide) rfl rfl (r_move hK rfl) fun a hK => ?_
  refine sl hK (by decide) rfl rfl (r_ibin hK rfl rfl rfl) fun a hK => ?_
  refine sl hK (by decide) rfl rfl (r_assign hK rfl) fun a hK => ?_
  refine wpList_nil ?_
  refine wp_seq ?_
  refine wp_block ?_
  refine wp_loop_k (fun k_l0 a w => ∃ (x_43 : List (List api_Value)) (x_47 : Int) (x_48 : Int) (R_49 : Hp) (cs_45 : List Value), slices_rotateCmpFunc_api_Value_f_rowops_Top_1p.l0 a1 a2 a3 a4_0 k_l0 x_43 x_47 x_48 = some r ∧ RLe M w0 R R_49 ∧ Reps (tySl ty_api_Value) R_49 cs_45 x_43 ∧ Kn 58 a [(0, v0_0), (2, .int .i64 a2), (4, .func (.func 34) #[] #[.pointer (some ⟨b4q0, o4q0, none⟩)]), (10, .int .i64 x_47), (11, .int .i64 x_48)] ∧ St M w0 w R_49 [.row 44 1 v0_0 x_43.length cs_45]) ((a3 - a1).toNat + 1) ?_ ?_
  · exact ⟨a0, (IntKind.i64.wrap (a2 - a1)), (IntKind.i64.wrap (a3 - a2)), _, _, H, (RLe.refl _ _), h0_0, hK.sub (all_cons rfl (all_cons rfl (all_cons rfl (all_cons rfl (all_cons rfl (all_nil)))))), hS⟩
  · rintro k_l0 a w ⟨x_43, x_47, x_48, R_49, cs_45, H, hl_50, hq_46, hK, hS⟩
    cases k_l0 with
    | zero => cases H
    | succ k_l0 =>
    rw [slices_rotateCmpFunc_api_Value_f_rowops_Top_1p.l0.eq_2] at H
    have hRL := hRL.trans hl_50
    refine wp_seq ?_
    refine wp_seq ?_
    refine wp_region_lit ?_
    refine sl hK (by decide) rfl rfl (r_move hK rfl) fun a hK => ?_
    refine sl hK (by decide) rfl rfl (r_move hK rfl) fun a hK => ?_
    refine sl hK (by decide) rfl rfl (r_ibin hK rfl rfl rfl) fun a hK => ?_
    refine wpList_nil ?_
    refine wp_cond_split (hK.ev rfl) (fun (hb_91 : (x_47 != x_48) = true) => ?_) (fun (hb_91 : (x_47 != x_48) = false) => ?_)
    · rw [ifb_t hb_91] at H
      refine wp_skip ?_
      refine wp_block ?_
      refine wp_seq ?_
      refine wp_region_lit ?_
      refine sl hK (by decide) rfl rfl (r_move hK rfl) fun a hK => ?_
      refine sl hK (by decide) rfl rfl (r_move hK rfl) fun a hK => ?_
      refine sl hK (by decide) rfl rfl (r_ibin hK rfl rfl rfl) fun a hK => ?_
      refine wpList_nil ?_
      refine wp_mid (fun a w => ∃ (x_108 : List (List api_Value)) (x_112 : Int) (x_113 : Int) (R_114 : Hp) (cs_110 : List Value), slices_rotateCmpFunc_api_Value_f_rowops_Top_1p.j1 (slices_rotateCmpFunc_api_Value_f_rowops_Top_1p.l0 a1 a2 a3 a4_0 k_l0) a1 a3 x_108 x_112 x_113 = some r ∧ RLe M w0 R_49 R_114 ∧ Reps (tySl ty_api_Value) R_114 cs_110 x_108 ∧ Kn 58 a [(0, v0_0), (2, .int .i64 a2), (4, .func (.func 34) #[] #[.pointer (some ⟨b4q0, o4q0, none⟩)]), (10, .int .i64 x_112), (11, .int .i64 x_113)] ∧ St M w0 w R_114 [.row 44 1 v0_0 x_108.length cs_110]) ?_ ?_
      · refine wp_cond_split (hK.ev rfl) (fun (hb_116 : (decide (x_47 > x_48)) = true) => ?_) (fun (hb_116 : (decide (x_47 > x_48)) = false) => ?_)
        · rw [ifb_t hb_116] at H
          refine wp_seq ?_
          refine wp_region_lit ?_
          refine sl hK (by decide) rfl rfl (r_move hK rfl) fun a hK => ?_
          refine sl hK (by decide) rfl rfl (r_move hK rfl) fun a hK => ?_
          refine sl hK (by decide) rfl rfl (r_move hK rfl) fun a hK => ?_
          refine sl hK (by decide) rfl rfl (r_ibin hK rfl rfl rfl) fun a hK => ?_
          refine sl hK (by decide) rfl rfl (r_move hK rfl) fun a hK => ?_
          refine sl hK (by decide) rfl rfl (r_move hK rfl) fun a hK => ?_
          refine sl hK (by decide) rfl rfl (r_move hK rfl) fun a hK => ?_
          obtain ⟨y_117, h_118, H⟩ := bind_some H
          have hS1 := hS.sp1
          refine sl_call Try.call91 hK (by decide) rfl rfl rfl (slices_swapRangeCmpFunc_api_Value_f_rowops_Top_1p.calls x_43 (IntKind.i64.wrap (a2 - x_47)) a2 x_48 a4_0 (lentOf_sub _ _) lentOf_not hS1.lend hq_46 (fun j u hu => Hp.cell_le (hS1.raLe hRA hRM) (hc4q0 j u hu)) h_118) fun a v_ w hv_ hK => ?_
          obtain ⟨R_119, cs_122, hv_, hr_, hl_120, hq_123⟩ := hv_
          have hv_ := hv_.symm
          subst hv_
          obtain ⟨hS, hl_120⟩ := hS1.back hr_ hl_120
          have hS := hS.un1
          have hRL := hRL.trans hl_120
          refine wpList_nil ?_
          refine wp_region_lit ?_
          refine sl hK (by decide) rfl rfl (r_move hK rfl) fun a hK => ?_
          refine sl hK (by decide) rfl rfl (r_move hK rfl) fun a hK => ?_
          refine sl hK (by decide) rfl rfl (r_ibin hK rfl rfl rfl) fun a hK => ?_
          refine sl hK (by decide) rfl rfl (r_assign hK rfl) fun a hK => ?_
          refine wpList_nil ?_
          exact ⟨y_117, (IntKind.i64.wrap (x_47 - x_48)), x_48, _, _, H, hl_120, hq_123, hK.sub (all_cons rfl (all_cons rfl (all_cons rfl (all_cons rfl (all_cons rfl (all_nil)))))), hS⟩
        · rw [ifb_f hb_116] at H
          refine wp_seq ?_
          refine wp_region_lit ?_
          refine sl hK (by decide) rfl rfl (r_move hK rfl) fun a hK => ?_
          refine sl hK (by decide) rfl rfl (r_move hK rfl) fun a hK => ?_
          refine sl hK (by decide) rfl rfl (r_move hK rfl) fun a hK => ?_
          refine sl hK (by decide) rfl rfl (r_ibin hK rfl rfl rfl) fun a hK => ?_
          refine sl hK (by decide) rfl rfl (r_move hK rfl) fun a hK => ?_
          refine sl hK (by decide) rfl rfl (r_move hK rfl) fun a hK => ?_
          refine sl hK (by decide) rfl rfl (r_ibin hK rfl rfl rfl) fun a hK => ?_
          refine sl hK (by decide) rfl rfl (r_move hK rfl) fun a hK => ?_
          refine sl hK (by decide) rfl rfl (r_ibin hK rfl rfl rfl) fun a hK => ?_
          refine sl hK (by decide) rfl rfl (r_move hK rfl) fun a hK => ?_
          refine sl hK (by decide) rfl rfl (r_move hK rfl) fun a hK => ?_
          obtain ⟨y_124, h_125, H⟩ := bind_some H
          have hS1 := hS.sp1
          refine sl_call Try.call91 hK (by decide) rfl rfl rfl (slices_swapRangeCmpFunc_api_Value_f_rowops_Top_1p.calls x_43 (IntKind.i64.wrap (a2 - x_47)) (IntKind.i64.wrap ((IntKind.i64.wrap (a2 + x_48)) - x_47)) x_47 a4_0 (lentOf_sub _ _) lentOf_not hS1.lend hq_46 (fun j u hu => Hp.cell_le (hS1.raLe hRA hRM) (hc4q0 j u hu)) h_125) fun a v_ w hv_ hK => ?_
          obtain ⟨R_126, cs_129, hv_, hr_, hl_127, hq_130⟩ := hv_
          have hv_ := hv_.symm
          subst hv_
          obtain ⟨hS, hl_127⟩ := hS1.back hr_ hl_127
          have hS := hS.un1
          have hRL := hRL.trans hl_127
          refine wpList_nil ?_
          refine wp_region_lit ?_
          refine sl hK (by decide) rfl rfl (r_move hK rfl) fun a hK => ?_
          refine sl hK (by decide) rfl rfl (r_move hK rfl) fun a hK => ?_
          refine sl hK (by decide) rfl rfl (r_ibin hK rfl rfl rfl) fun a hK => ?_
          refine sl hK (by decide) rfl rfl (r_assign hK rfl) fun a hK => ?_
          refine wpList_nil ?_
          exact ⟨y_124, x_47, (IntKind.i64.wrap (x_48 - x_47)), _, _, H, hl_127, hq_130, hK.sub (all_cons rfl (all_cons rfl (all_cons rfl (all_cons rfl (all_cons rfl (all_nil)))))), hS⟩
      · rintro a w ⟨x_108, x_112, x_113, R_114, cs_110, H, hl_115, hq_111, hK, hS⟩
        unfold slices_rotateCmpFunc_api_Value_f_rowops_Top_1p.j1 at H
        have hRL := hRL.trans hl_115
        exact ⟨_, Nat.lt_succ_self _, x_108, x_112, x_113, _, _, H, (hl_50.trans hl_115), hq_111, hK.sub (all_cons rfl (all_cons rfl (all_cons rfl (all_cons rfl (all_cons rfl (all_nil)))))), hS⟩
    · rw [ifb_f hb_91] at H
      refine wp_exit ?_
      refine wp_region_lit ?_
      refine sl hK (by decide) rfl rfl (r_move hK rfl) fun a hK => ?_
      refine sl hK (by decide) rfl rfl (r_move hK rfl) fun a hK => ?_
      refine sl hK (by decide) rfl rfl (r_move hK rfl) fun a hK => ?_
      refine sl hK (by decide) rfl rfl (r_ibin hK rfl rfl rfl) fun a hK => ?_
      refine sl hK (by decide) rfl rfl (r_move hK rfl) fun a hK => ?_
      refine sl hK (by decide) rfl rfl (r_move hK rfl) fun a hK => ?_
      refine sl hK (by decide) rfl rfl (r_move hK rfl) fun a hK => ?_
      obtain ⟨y_131, h_132, H⟩ := bind_some H
      have hS1 := hS.sp1
      refine sl_call Try.call91 hK (by decide) rfl rfl rfl (slices_swapRangeCmpFunc_api_Value_f_rowops_Top_1p.calls x_43 (IntKind.i64.wrap (a2 - x_47)) a2 x_47 a4_0 (lentOf_sub _ _) lentOf_not hS1.lend hq_46 (fun j u hu => Hp.cell_le (hS1.raLe hRA hRM) (hc4q0 j u hu)) h_132) fun a v_ w hv_ hK => ?_
      obtain ⟨R_133, cs_136, hv_, hr_, hl_134, hq_137⟩ := hv_
      have hv_ := hv_.symm
      subst hv_
      obtain ⟨hS, hl_134⟩ := hS1.back hr_ hl_134
      have hS := hS.un1
      have hRL := hRL.trans hl_134
      refine wpList_nil ?_
      obtain rfl := Option.some.inj H
      exact ret_0n Try.results82 hK ⟨_, rfl, _, _, rfl, hS, hRL, hq_137⟩

end Go.Proofs.Ytjimddbbpjpgdaa.M
