/- Each Go function of the laws answers as its plain Lean function tells, wherever that tells something. Printed by wip/eng/gen.py. -/
import Derived.Test.YtabdokppkcgdlaaPure
import Derived.Test.YtabdokppkcgdlaaProg
namespace Go.Proofs.Ytabdokppkcgdlaa.M
open Go Go.Eng Go.Proofs Go.RowKit
set_option linter.unusedVariables false
set_option linter.unusedSimpArgs false

theorem mixed : Try.prog.follows .mixedOrders = true := by kernel_rfl
set_option maxRecDepth 100000 in
theorem elT23 : ElT Try.prog 23 40 1 24 := ⟨Try.underlying23, ⟨Try.t40, _, Try.type40, rfl, rfl, rfl, rfl⟩, by decide⟩
set_option maxRecDepth 100000 in
theorem elT22 : ElT Try.prog 22 34 2 24 := ⟨Try.underlying22, ⟨Try.t34, _, Try.type34, rfl, rfl, rfl, rfl⟩, by decide⟩
set_option maxRecDepth 100000 in
theorem elT51 : ElT Try.prog 51 3 1 8 := ⟨Try.underlying51, ⟨Try.t3, _, Try.type3, rfl, rfl, rfl, rfl⟩, by decide⟩
set_option maxRecDepth 100000 in
theorem elT40 : ElT Try.prog 40 46 11 96 := ⟨Try.underlying40, ⟨Try.t46, _, Try.type46, rfl, rfl, rfl, rfl⟩, by decide⟩
set_option maxRecDepth 100000 in
theorem elT69 : ElT Try.prog 69 5 1 1 := ⟨Try.underlying69, ⟨Try.t5, _, Try.type5, rfl, rfl, rfl, rfl⟩, by decide⟩
set_option maxRecDepth 100000 in
theorem elT32 : ElT Try.prog 32 9 1 16 := ⟨Try.underlying32, ⟨Try.t9, _, Try.type9, rfl, rfl, rfl, rfl⟩, by decide⟩
theorem ext76 (a b : ByteArray) (w : World) : (callFunc 76 #[.string a, .string b]).run Try.prog w = .ok (.value (.int .i64 (Lib.compareBytes a.data.toList b.data.toList))) w := by
  rw [run_callFunc_extern Try.func76 (by kernel_rfl) (by kernel_rfl) (by kernel_rfl) (e := Extern.BytealgCompare.compare) (by kernel_rfl), Lib.run_compareString]
  rfl
theorem places34 (w : World) : (placesOf Try.prog 34).run Try.prog w = .ok #[(0, 1), (1, 1)] w := by
  unfold placesOf
  rw [Try.underlying34]
  simp [Try.sizeOf3, Try.sizeOf9]
theorem places25 (w : World) : (placesOf Try.prog 25).run Try.prog w = .ok #[(0, 1), (1, 1)] w := by
  unfold placesOf
  rw [Try.underlying25]
  simp [Try.sizeOf22, Try.sizeOf23]
theorem places46 (w : World) : (placesOf Try.prog 46).run Try.prog w = .ok #[(0, 1), (1, 1), (2, 1), (3, 8)] w := by
  unfold placesOf
  rw [Try.underlying46]
  simp [Try.sizeOf3, Try.sizeOf44, Try.sizeOf9]
theorem eqs46 (x y : api_Value) : EqS Try.prog 46 #[.int .i64 x.Kind, .int .i64 x.N, .string x.S, .int .i64 x.H.a0, .int .i64 x.H.a1, .int .i64 x.H.a2, .int .i64 x.H.a3, .int .i64 x.H.a4, .int .i64 x.H.a5, .int .i64 x.H.a6, .int .i64 x.H.a7] #[.int .i64 y.Kind, .int .i64 y.N, .string y.S, .int .i64 y.H.a0, .int .i64 y.H.a1, .int .i64 y.H.a2, .int .i64 y.H.a3, .int .i64 y.H.a4, .int .i64 y.H.a5, .int .i64 y.H.a6, .int .i64 y.H.a7] (decide (x = y)) := by
  refine eqS_of (by kernel_rfl) (by kernel_rfl) (fun w => by
    simp only [Program.fieldsOf, Try.underlying46]
    exact eqF_cons (by decide) (run_part1 Try.isAgg3 rfl) (run_part1 Try.isAgg3 rfl) (run_equalIn_int w _ _ _ _ _ _ Try.underlying3) (eqF_cons (by decide) (run_part1 Try.isAgg3 rfl) (run_part1 Try.isAgg3 rfl) (run_equalIn_int w _ _ _ _ _ _ Try.underlying3) (eqF_cons (by decide) (run_part1 Try.isAgg9 rfl) (run_part1 Try.isAgg9 rfl) (run_equalIn_string w _ _ _ _ Try.underlying9) (eqF_cons (by decide) (run_partA (ys := (x.H.list.map (Value.int .i64)).toArray) Try.isAgg44 Try.sizeOf44 rfl) (run_partA (ys := (y.H.list.map (Value.int .i64)).toArray) Try.isAgg44 Try.sizeOf44 rfl) (eq_arr' (q := 9998) Try.underlying44 (fun a b w => run_equalIn_int w 9997 _ _ _ a b Try.underlying3) Try.isAgg3 Try.sizeOf3 x.H.list y.H.list rfl rfl w) (eqF_nil))))) ?_
  simp only [beq_bytes, Arr8.list_inj, Arr2.list_inj, Bool.and_true]
  cases x; cases y; simp <;> rfl
def sortL41_ren : Go.Shelf.Ren := ⟨fun | 6 => 41 | 15 => 50 | 14 => 49 | 28 => 62 | 29 => 63 | 20 => 54 | 21 => 55 | 22 => 56 | 23 => 57 | 24 => 58 | 25 => 59 | 26 => 60 | 27 => 61 | 46 => 68 | 47 => 69 | 48 => 70 | 49 => 71 | 50 => 72 | 57 => 75 | n => n, fun | 22 => 23 | 24 => 40 | 25 => 39 | 3 => 3 | 39 => 82 | 0 => 0 | 53 => 94 | 55 => 96 | 4 => 4 | 46 => 87 | 45 => 86 | 50 => 91 | 5 => 5 | 9 => 9 | 66 => 100 | 70 => 104 | 76 => 106 | 77 => 107 | n => n, fun | n => n⟩
theorem sortL41 : Go.Proofs.SlLaysF.n6 Try.prog sortL41_ren := {
  mixed := by kernel_rfl
  f6 := ⟨Try.f41.name, by decide, Try.func41.trans (congrArg some (by kernel_rfl))⟩
  f14 := ⟨Try.f49.name, by decide, Try.func49.trans (congrArg some (by kernel_rfl))⟩
  f15 := Try.func50.trans (congrArg some (by kernel_rfl))
  f20 := ⟨Try.f54.name, by decide, Try.func54.trans (congrArg some (by kernel_rfl))⟩
  f21 := ⟨Try.f55.name, by decide, Try.func55.trans (congrArg some (by kernel_rfl))⟩
  f22 := ⟨Try.f56.name, by decide, Try.func56.trans (congrArg some (by kernel_rfl))⟩
  f23 := ⟨Try.f57.name, by decide, Try.func57.trans (congrArg some (by kernel_rfl))⟩
  f24 := ⟨Try.f58.name, by decide, Try.func58.trans (congrArg some (by kernel_rfl))⟩
  f25 := ⟨Try.f59.name, by decide, Try.func59.trans (congrArg some (by kernel_rfl))⟩
  f26 := ⟨Try.f60.name, by decide, Try.func60.trans (congrArg some (by kernel_rfl))⟩
  f27 := ⟨Try.f61.name, by decide, Try.func61.trans (congrArg some (by kernel_rfl))⟩
  f28 := Try.func62.trans (congrArg some (by kernel_rfl))
  f29 := Try.func63.trans (congrArg some (by kernel_rfl))
  f46 := ⟨Try.f68.name, by decide, Try.func68.trans (congrArg some (by kernel_rfl))⟩
  f47 := Try.func69.trans (congrArg some (by kernel_rfl))
  f48 := Try.func70.trans (congrArg some (by kernel_rfl))
  f49 := ⟨Try.f71.name, by decide, Try.func71.trans (congrArg some (by kernel_rfl))⟩
  f50 := ⟨Try.f72.name, by decide, Try.func72.trans (congrArg some (by kernel_rfl))⟩
  f57 := ⟨Try.f75.name, by decide, Try.func75.trans (congrArg some (by kernel_rfl))⟩
  t0 := Try.underlying0
  a0 := Try.isAgg0
  z0 := Try.sizeOf0
  v0 := Try.zeroValue0
  t3 := Try.underlying3
  a3 := Try.isAgg3
  z3 := Try.sizeOf3
  v3 := Try.zeroValue3
  t4 := Try.underlying4
  a4 := Try.isAgg4
  z4 := Try.sizeOf4
  v4 := Try.zeroValue4
  t5 := Try.underlying5
  a5 := Try.isAgg5
  z5 := Try.sizeOf5
  v5 := Try.zeroValue5
  t9 := Try.underlying9
  a9 := Try.isAgg9
  z9 := Try.sizeOf9
  v9 := Try.zeroValue9
  t22 := Try.underlying23
  a22 := Try.isAgg23
  z22 := Try.sizeOf23
  v22 := Try.zeroValue23
  a24 := Try.isAgg40
  z24 := Try.sizeOf40
  t25 := Try.underlying39
  a25 := Try.isAgg39
  z25 := Try.sizeOf39
  v25 := Try.zeroValue39
  t39 := Try.underlying82
  a39 := Try.isAgg82
  z39 := Try.sizeOf82
  v39 := Try.zeroValue82
  t45 := Try.underlying86
  a45 := Try.isAgg86
  z45 := Try.sizeOf86
  v45 := Try.zeroValue86
  t46 := Try.underlying87
  a46 := Try.isAgg87
  z46 := Try.sizeOf87
  v46 := Try.zeroValue87
  t50 := Try.underlying91
  a50 := Try.isAgg91
  z50 := Try.sizeOf91
  v50 := Try.zeroValue91
  t53 := Try.underlying94
  a53 := Try.isAgg94
  z53 := Try.sizeOf94
  v53 := Try.zeroValue94
  t55 := Try.underlying96
  a55 := Try.isAgg96
  z55 := Try.sizeOf96
  v55 := Try.zeroValue96
  t66 := Try.underlying100
  a66 := Try.isAgg100
  z66 := Try.sizeOf100
  v66 := Try.zeroValue100
  t70 := Try.underlying104
  a70 := Try.isAgg104
  z70 := Try.sizeOf104
  v70 := Try.zeroValue104
  t76 := Try.underlying106
  a76 := Try.isAgg106
  z76 := Try.sizeOf106
  v76 := Try.zeroValue106
  t77 := Try.underlying107
  a77 := Try.isAgg107
  z77 := Try.sizeOf107
  v77 := Try.zeroValue107 }
theorem eqs44 (x y : Arr8) : EqS Try.prog 44 (x.list.map (Value.int .i64)).toArray (y.list.map (Value.int .i64)).toArray (decide (x = y)) := eqA_of Try.underlying44 Try.underlying3 Try.isAgg3 Try.sizeOf3 rfl rfl rfl rfl Arr8.list_inj
theorem eqs34 (x y : api_Col) : EqS Try.prog 34 #[.string x.Name, .int .i64 x.Kind] #[.string y.Name, .int .i64 y.Kind] (decide (x = y)) := by
  refine eqS_of (by kernel_rfl) (by kernel_rfl) (fun w => by
    simp only [Program.fieldsOf, Try.underlying34]
    exact eqF_cons (by decide) (run_part1 Try.isAgg9 rfl) (run_part1 Try.isAgg9 rfl) (run_equalIn_string w _ _ _ _ Try.underlying9) (eqF_cons (by decide) (run_part1 Try.isAgg3 rfl) (run_part1 Try.isAgg3 rfl) (run_equalIn_int w _ _ _ _ _ _ Try.underlying3) (eqF_nil))) ?_
  simp only [beq_bytes, Arr8.list_inj, Arr2.list_inj, Bool.and_true]
  cases x; cases y; simp <;> rfl

/-! ### catchment/catchmentlaw17.of: function 17 -/
set_option maxHeartbeats 4000000 in
set_option maxRecDepth 100000 in
theorem law17_of.calls (a0 : ByteArray) (a1 : ByteArray) (a2 : List Int) {w0 : World} {R : Hp} {RA : Hp} {v2_0 : Value} (hRA : RA.sub w0) (hR : R.sub w0) (h2_0 : SlR (tyInt .i64) RA v2_0 a2) {r : api_Table} (H : law17_of a0 a1 a2 = some r) : Calls Try.prog 17 #[.string a0, .string a1, v2_0] w0 (Rets fun v w' => ∃ (R' : Hp) (u0 : Value) (cu0 : List Value) (u1 : Value) (cu1 : List Value), v = .agg #[u0, u1] ∧ St [] w0 w' R' [.row 34 2 u0 r.Cols.length cu0, .row 40 1 u1 r.Rows.length cu1] ∧ RLe [] w0 R R' ∧ Reps ty_api_Col R' cu0 r.Cols ∧ Reps (tySl ty_api_Value) R' cu1 r.Rows) := by
  unfold law17_of at H
  refine enter (args := [.string a0, .string a1, v2_0]) Try.func17 rfl Try.ntmps17 rfl fun a hK => ?_
  have hS := St.init hR
  have hRL := RLe.refl (M := []) w0 R
  refine wp_seq ?_
  refine wp_region_lit ?_
  refine sl_alloc Try.zeroValue25 hS hK (by decide) rfl rfl fun a w b_1 hS hK => ?_
  refine wpList_nil ?_
  refine wp_seq ?_
  refine wp_region_lit ?_
  refine sl hK (by decide) rfl rfl (r_move hK rfl) fun a hK => ?_
  refine sl hK (by decide) rfl rfl (r_buildC (ps := [(0, .string a0), (1, .int .i64 1)]) (c := [.string a0, .int .i64 1]) Try.underlying34 Try.zeroValue34 places34 hK rfl (pc_cons rfl (pc_cons rfl pc_nil)) rfl rfl) fun a hK => ?_
  refine sl hK (by decide) rfl rfl (r_move hK rfl) fun a hK => ?_
  refine sl hK (by decide) rfl rfl (r_buildC (ps := [(0, .string a1), (1, .int .i64 1)]) (c := [.string a1, .int .i64 1]) Try.underlying34 Try.zeroValue34 places34 hK rfl (pc_cons rfl (pc_cons rfl pc_nil)) rfl rfl) fun a hK => ?_
  refine sl_buildSliceF (zc := [.string (⟨#[]⟩ : ByteArray), .int .i64 0]) (ps := [(0, .agg #[.string a0, .int .i64 1]), (1, .agg #[.string a1, .int .i64 1])]) (c := [.string a0, .int .i64 1, .string a1, .int .i64 1]) [[.string a0, .int .i64 1], [.string a1, .int .i64 1]] Try.underlying22 Try.sizeOf34 Try.zeroValue34 rfl (pc_cons rfl (pc_cons rfl pc_nil)) rfl rfl (Nat.le_of_ble_eq_true rfl) rfl (all_cons rfl (all_cons rfl (all_nil))) rfl hS hK (by decide) rfl fun a w b_2 hS hK => ?_
  refine sl hK (by decide) rfl rfl (r_buildC (ps := [(0, .slice (some ⟨b_2, 0, none⟩) 2 2)]) (c := [.slice (some ⟨b_2, 0, none⟩) 2 2, .slice none 0 0]) Try.underlying25 Try.zeroValue25 places25 hK rfl (pc_cons rfl pc_nil) rfl rfl) fun a hK => ?_
  refine sl_alloc Try.zeroValue25 hS hK (by decide) rfl rfl fun a w b_3 hS hK => ?_
  refine sl_storeA (vs := [.slice (some ⟨b_2, 0, none⟩) 2 2, .slice none 0 0]) (c' := [.slice (some ⟨b_2, 0, none⟩) 2 2, .slice none 0 0]) Try.sizeOf25 hS hK rfl rfl rfl rfl (all_cons rfl (all_cons rfl (all_nil))) (Nat.le_of_ble_eq_true rfl) rfl fun a w hS hK => ?_
  refine wpList_nil ?_
  refine wp_seq ?_
  refine wp_seq ?_
  refine wp_region_lit ?_
  refine sl hK (by decide) rfl rfl (r_assign hK rfl) fun a hK => ?_
  refine wpList_nil ?_
  refine wp_block ?_
  refine wp_loop_k (fun k_l0 a w => ∃ (x_78 : List api_Col) (x_83 : List (List api_Value)) (x_87 : Int) (R_88 : Hp) (v_79 : Value) (cs_80 : List Value) (v_84 : Value) (cs_85 : List Value), law17_of.l0 a2 k_l0 x_78 x_83 x_87 = some r ∧ RLe [] w0 R R_88 ∧ Reps ty_api_Col R_88 cs_80 x_78 ∧ Reps (tySl ty_api_Value) R_88 cs_85 x_83 ∧ Kn 40 a [(2, v2_0), (6, .pointer (some ⟨b_1, 0, none⟩)), (7, .pointer (some ⟨b_3, 0, none⟩)), (8, .int .i64 x_87)] ∧ St [] w0 w R_88 [.cells b_1 [.slice none 0 0, .slice none 0 0] 25, .row 34 2 v_79 x_78.length cs_80, .row 40 1 v_84 x_83.length cs_85, .cells b_3 [v_79, v_84] 25]) (((a2.length : Int) - (IntKind.i64.wrap (0 + 1))).toNat + 1) ?_ ?_
  · have hS := hS.pk1
    have hS := hS.row_lit (size := 2) (m := 2) rfl (by decide)
    have hq_150 : Reps ty_api_Col R [.string a0, .int .i64 1, .string a1, .int .i64 1] [(⟨a0, 1⟩ : api_Col), (⟨a1, 1⟩ : api_Col)] := (Reps.cons (show Ty.rep ty_api_Col _ [.string a0, .int .i64 1] (⟨a0, 1⟩ : api_Col) from rfl) (Reps.cons (show Ty.rep ty_api_Col _ [.string a1, .int .i64 1] (⟨a1, 1⟩ : api_Col) from rfl) (Reps.nil _ _)))
    have hS := hS.row_nil 40 1
    have hq_152 : Reps (tySl ty_api_Value) R [] ([] : List (List api_Value)) := Reps.nil _ _
    have hS := hS.pk2
    have hS := hS.pk1
    have hS := hS.pk2
    have hS := hS.pk3
    exact ⟨[(⟨a0, 1⟩ : api_Col), (⟨a1, 1⟩ : api_Col)], [], 0, _, _, _, _, _, H, (RLe.refl _ _), hq_150, hq_152, hK.sub (all_cons rfl (all_cons rfl (all_cons rfl (all_cons rfl (all_nil))))), hS⟩
  · rintro k_l0 a w ⟨x_78, x_83, x_87, R_88, v_79, cs_80, v_84, cs_85, H, hl_89, hq_81, hq_86, hK, hS⟩
    cases k_l0 with
    | zero => cases H
    | succ k_l0 =>
    rw [law17_of.l0.eq_2] at H
    have hRL := hRL.trans hl_89
    refine wp_seq ?_
    refine wp_seq ?_
    refine wp_region_lit ?_
    refine sl hK (by decide) rfl rfl (r_move hK rfl) fun a hK => ?_
    refine sl hK (by decide) rfl rfl (r_ibin hK rfl rfl rfl) fun a hK => ?_
    refine sl hK (by decide) rfl rfl (r_move hK rfl) fun a hK => ?_
    refine sl hK (by decide) rfl rfl (r_len_R Try.underlying51 h2_0 hK rfl) fun a hK => ?_
    refine sl hK (by decide) rfl rfl (r_ibin hK rfl rfl rfl) fun a hK => ?_
    refine wpList_nil ?_
    refine wp_cond_split (hK.ev rfl) (fun (hb_153 : (decide ((IntKind.i64.wrap (x_87 + 1)) < (a2.length : Int))) = true) => ?_) (fun (hb_153 : (decide ((IntKind.i64.wrap (x_87 + 1)) < (a2.length : Int))) = false) => ?_)
    · rw [ifb_t hb_153] at H
      refine wp_skip ?_
      refine wp_seq ?_
      refine wp_block ?_
      refine parT_region (C := fun w => St [] w0 w R_88 [.cells b_1 [.slice none 0 0, .slice none 0 0] 25, .row 34 2 v_79 x_78.length cs_80, .row 40 1 v_84 x_83.length cs_85, .cells b_3 [v_79, v_84] 25]) 15 [(0, true), (1, true), (2, true), (3, true), (4, true), (5, true), (6, true), (7, true), (8, true), (9, true), (10, true), (11, true), (12, true), (13, false), (14, false)] mixed (by kernel_rfl) hS (fun w hS => hS) fun w hS => ?_
      refine sp (k := 0) rfl hK (by decide) rfl rfl (fun w hS => r_fieldAddr Try.underlying25 rfl Try.sizeOf23 hK rfl) fun a hK => ?_
      refine sp (k := 1) rfl hK (by decide) rfl rfl (fun w hS => r_load Try.isAgg23 hK rfl (hS.cell (.tail _ (.tail _ (.tail _ (.head _)))) rfl)) fun a hK => ?_
      refine sp (k := 2) rfl hK (by decide) rfl rfl (fun w hS => r_move hK rfl) fun a hK => ?_
      refine sp (k := 3) rfl hK (by decide) rfl rfl (fun w hS => r_move hK rfl) fun a hK => ?_
      obtain ⟨y_183, h_184, H⟩ := bind_some H
      obtain ⟨b_185, o_186, c_187, cs_188, hv_189, hr_190, hc_191, h_1840, h_1841⟩ := h2_0.ix h_184
      subst hr_190
      refine sp (k := 4) rfl hK (by decide) rfl rfl (fun w hS => r_indexAddr_R Try.underlying51 Try.sizeOf3 hv_189 h_1840 h_1841 hK rfl rfl) fun a hK => ?_
      refine sp (k := 5) rfl hK (by decide) rfl rfl (fun w hS => r_load Try.isAgg3 hK rfl ((hS.ra hRA nil_not).cell (hc_191 0 _ rfl))) fun a hK => ?_
      refine sp (k := 6) rfl hK (by decide) rfl rfl (fun w hS => r_buildC (ps := [(0, .int .i64 1), (1, .int .i64 y_183)]) (c := [.int .i64 1, .int .i64 y_183, .string (⟨#[]⟩ : ByteArray), .int .i64 0, .int .i64 0, .int .i64 0, .int .i64 0, .int .i64 0, .int .i64 0, .int .i64 0, .int .i64 0]) Try.underlying46 Try.zeroValue46 places46 hK rfl (pc_cons rfl (pc_cons rfl pc_nil)) rfl rfl) fun a hK => ?_
      refine sp (k := 7) rfl hK (by decide) rfl rfl (fun w hS => r_move hK rfl) fun a hK => ?_
      refine sp (k := 8) rfl hK (by decide) rfl rfl (fun w hS => r_move hK rfl) fun a hK => ?_
      refine sp (k := 9) rfl hK (by decide) rfl rfl (fun w hS => r_ibin hK rfl rfl rfl) fun a hK => ?_
      obtain ⟨y_192, h_193, H⟩ := bind_some H
      obtain ⟨b_194, o_195, c_196, cs_197, hv_198, hr_199, hc_200, h_1930, h_1931⟩ := h2_0.ix h_193
      subst hr_199
      refine sp (k := 10) rfl hK (by decide) rfl rfl (fun w hS => r_indexAddr_R Try.underlying51 Try.sizeOf3 hv_198 h_1930 h_1931 hK rfl rfl) fun a hK => ?_
      refine sp (k := 11) rfl hK (by decide) rfl rfl (fun w hS => r_load Try.isAgg3 hK rfl ((hS.ra hRA nil_not).cell (hc_200 0 _ rfl))) fun a hK => ?_
      refine sp (k := 12) rfl hK (by decide) rfl rfl (fun w hS => r_buildC (ps := [(0, .int .i64 1), (1, .int .i64 y_192)]) (c := [.int .i64 1, .int .i64 y_192, .string (⟨#[]⟩ : ByteArray), .int .i64 0, .int .i64 0, .int .i64 0, .int .i64 0, .int .i64 0, .int .i64 0, .int .i64 0, .int .i64 0]) Try.underlying46 Try.zeroValue46 places46 hK rfl (pc_cons rfl (pc_cons rfl pc_nil)) rfl rfl) fun a hK => ?_
      refine spw (k := 13) rfl rfl hS ?_
      refine sl_buildSliceF (zc := [.int .i64 0, .int .i64 0, .string (⟨#[]⟩ : ByteArray), .int .i64 0, .int .i64 0, .int .i64 0, .int .i64 0, .int .i64 0, .int .i64 0, .int .i64 0, .int .i64 0]) (ps := [(0, .agg #[.int .i64 1, .int .i64 y_183, .string (⟨#[]⟩ : ByteArray), .int .i64 0, .int .i64 0, .int .i64 0, .int .i64 0, .int .i64 0, .int .i64 0, .int .i64 0, .int .i64 0]), (1, .agg #[.int .i64 1, .int .i64 y_192, .string (⟨#[]⟩ : ByteArray), .int .i64 0, .int .i64 0, .int .i64 0, .int .i64 0, .int .i64 0, .int .i64 0, .int .i64 0, .int .i64 0])]) (c := [.int .i64 1, .int .i64 y_183, .string (⟨#[]⟩ : ByteArray), .int .i64 0, .int .i64 0, .int .i64 0, .int .i64 0, .int .i64 0, .int .i64 0, .int .i64 0, .int .i64 0, .int .i64 1, .int .i64 y_192, .string (⟨#[]⟩ : ByteArray), .int .i64 0, .int .i64 0, .int .i64 0, .int .i64 0, .int .i64 0, .int .i64 0, .int .i64 0, .int .i64 0]) [[.int .i64 1, .int .i64 y_183, .string (⟨#[]⟩ : ByteArray), .int .i64 0, .int .i64 0, .int .i64 0, .int .i64 0, .int .i64 0, .int .i64 0, .int .i64 0, .int .i64 0], [.int .i64 1, .int .i64 y_192, .string (⟨#[]⟩ : ByteArray), .int .i64 0, .int .i64 0, .int .i64 0, .int .i64 0, .int .i64 0, .int .i64 0, .int .i64 0, .int .i64 0]] Try.underlying40 Try.sizeOf46 Try.zeroValue46 rfl (pc_cons rfl (pc_cons rfl pc_nil)) rfl rfl (Nat.le_of_ble_eq_true rfl) rfl (all_cons rfl (all_cons rfl (all_nil))) rfl hS hK (by decide) rfl fun a w b_201 hS hK => ?_
      refine parK_nil (hS.pk4.pk4.pk4.pk4.trunc 4) ?_
      refine spw (k := 14) rfl rfl (hS.pk4.pk4.pk4.pk4.trunc 4) ?_
      refine sl_buildSliceF (zc := [.slice none 0 0]) (ps := [(0, .slice (some ⟨b_201, 0, none⟩) 2 2)]) (c := [.slice (some ⟨b_201, 0, none⟩) 2 2]) [[.slice (some ⟨b_201, 0, none⟩) 2 2]] Try.underlying23 Try.sizeOf40 Try.zeroValue40 rfl (pc_cons rfl pc_nil) rfl rfl (Nat.le_of_ble_eq_true rfl) rfl (all_cons rfl (all_nil)) rfl hS hK (by decide) rfl fun a w b_202 hS hK => ?_
      refine parK_nil (hS.pk5.pk5.pk5.pk5.trunc 4) ?_
      refine thenL_nil ?_
      have hS := hS.pk4
      have hS := hS.pk2
      obtain ⟨R_203, hS, hl_205, hs_204⟩ := hS.fz_lit (ty := ty_api_Value) (xs := [(⟨1, y_183, (⟨#[]⟩ : ByteArray), (⟨0, 0, 0, 0, 0, 0, 0, 0⟩ : Arr8)⟩ : api_Value), (⟨1, y_192, (⟨#[]⟩ : ByteArray), (⟨0, 0, 0, 0, 0, 0, 0, 0⟩ : Arr8)⟩ : api_Value)]) (Reps.cons (show Ty.rep ty_api_Value _ [.int .i64 1, .int .i64 y_183, .string (⟨#[]⟩ : ByteArray), .int .i64 0, .int .i64 0, .int .i64 0, .int .i64 0, .int .i64 0, .int .i64 0, .int .i64 0, .int .i64 0] (⟨1, y_183, (⟨#[]⟩ : ByteArray), (⟨0, 0, 0, 0, 0, 0, 0, 0⟩ : Arr8)⟩ : api_Value) from rfl) (Reps.cons (show Ty.rep ty_api_Value _ [.int .i64 1, .int .i64 y_192, .string (⟨#[]⟩ : ByteArray), .int .i64 0, .int .i64 0, .int .i64 0, .int .i64 0, .int .i64 0, .int .i64 0, .int .i64 0, .int .i64 0] (⟨1, y_192, (⟨#[]⟩ : ByteArray), (⟨0, 0, 0, 0, 0, 0, 0, 0⟩ : Arr8)⟩ : api_Value) from rfl) (Reps.nil _ _))) rfl
      have hRL := hRL.trans hl_205
      obtain ⟨y_206, h_207, H⟩ := bind_some H
      refine sl_append_L (ty := (tySl ty_api_Value)) (ys := [[(⟨1, y_183, (⟨#[]⟩ : ByteArray), (⟨0, 0, 0, 0, 0, 0, 0, 0⟩ : Arr8)⟩ : api_Value), (⟨1, y_192, (⟨#[]⟩ : ByteArray), (⟨0, 0, 0, 0, 0, 0, 0, 0⟩ : Arr8)⟩ : api_Value)]]) elT23 (by decide) rfl (hq_86.mono hl_205.le) rfl (Reps.cons (show Ty.rep (tySl ty_api_Value) _ [(.slice (some ⟨b_201, 0, none⟩) 2 2)] [(⟨1, y_183, (⟨#[]⟩ : ByteArray), (⟨0, 0, 0, 0, 0, 0, 0, 0⟩ : Arr8)⟩ : api_Value), (⟨1, y_192, (⟨#[]⟩ : ByteArray), (⟨0, 0, 0, 0, 0, 0, 0, 0⟩ : Arr8)⟩ : api_Value)] from ⟨_, rfl, hs_204⟩) (Reps.nil _ _)) rfl h_207 hS hK (by decide) rfl rfl rfl fun a w v_208 cs_209 hq_210 hS hK => ?_
      refine sl hK (by decide) rfl rfl (r_fieldAddr Try.underlying25 rfl Try.sizeOf23 hK rfl) fun a hK => ?_
      have hS := hS.pk3
      refine sl_store1 (c' := [v_79, v_208]) Try.sizeOf23 hS hK rfl rfl rfl (hS.row_one (.tail _ (.head _))) (Nat.le_of_ble_eq_true rfl) rfl fun a w hS hK => ?_
      refine wpList_nil (NoP_nil ?_)
      refine wp_region_lit ?_
      refine sl hK (by decide) rfl rfl (r_move hK rfl) fun a hK => ?_
      refine sl hK (by decide) rfl rfl (r_ibin hK rfl rfl rfl) fun a hK => ?_
      refine sl hK (by decide) rfl rfl (r_assign hK rfl) fun a hK => ?_
      refine wpList_nil ?_
      have hS := hS.pk1
      have hS := hS.pk3
      have hS := hS.pk3
      exact ⟨_, Nat.lt_succ_self _, x_78, y_206, (IntKind.i64.wrap (x_87 + 2)), _, _, _, _, _, H, (hl_89.trans hl_205), (hq_81.mono hl_205.le), hq_210, hK.sub (all_cons rfl (all_cons rfl (all_cons rfl (all_cons rfl (all_nil))))), hS⟩
    · rw [ifb_f hb_153] at H
      refine wp_exit ?_
      refine wp_seq ?_
      refine wp_region_lit ?_
      refine sl hK (by decide) rfl rfl (r_loadA (cs := [v_79, v_84]) Try.isAgg25 Try.sizeOf25 rfl hK rfl (hS.cells_of (m := 2) (.tail _ (.tail _ (.tail _ (.head _)))) rfl)) fun a hK => ?_
      refine sl_storeA (vs := [v_79, v_84]) (c' := [v_79, v_84]) Try.sizeOf25 hS hK rfl rfl rfl rfl (all_cons (hS.row_one (.tail _ (.head _))) (all_cons (hS.row_one (.tail _ (.tail _ (.head _)))) (all_nil))) (Nat.le_of_ble_eq_true rfl) rfl fun a w hS hK => ?_
      refine wpList_nil ?_
      obtain rfl := Option.some.inj H
      refine wp_ret ?_
      repeat (first | refine ret_then ?_ | refine ret_block ?_ | refine ret_scope ?_)
      exact ret_1 Try.results17 hK (rv_cell (c := [v_79, v_84]) Try.isAgg25 Try.sizeOf25 hS (.head _) rfl hK rfl) ⟨_, rfl, _, _, _, _, _, rfl, (hS.pk2.pk2.trunc 2), hRL, hq_81, hq_86⟩

/-! ### catchment/table.Name: function 46 -/
set_option maxHeartbeats 4000000 in
set_option maxRecDepth 100000 in
theorem table_Name.calls (a0 : ByteArray) {r : Bool} (H : table_Name a0 = some r) (w0 : World) : CallsV Try.prog 46 #[.string a0] w0 (.bool r) := by
  unfold table_Name at H
  refine enter (args := [.string a0]) Try.func46 rfl Try.ntmps46 rfl fun a hK => ?_
  have hS := St.init (R := fun _ => none) (w := w0) (fun _ _ h => by cases h)
  have hRL := RLe.refl (M := []) w0 (fun _ => none)
  refine wp_seq ?_
  refine wp_region_lit ?_
  refine sl hK (by decide) rfl rfl (r_assign hK rfl) fun a hK => ?_
  refine wpList_nil ?_
  refine wp_seq ?_
  refine wp_seq ?_
  refine wp_region_lit ?_
  refine sl hK (by decide) rfl rfl (r_move hK rfl) fun a hK => ?_
  refine sl hK (by decide) rfl rfl (r_len_str Try.underlying9 hK rfl) fun a hK => ?_
  refine sl hK (by decide) rfl rfl (r_move hK rfl) fun a hK => ?_
  refine wpList_nil ?_
  refine wp_block ?_
  refine wp_loop_k (fun k_l0 a w => ∃ (x_11 : Int), table_Name.l0 a0 k_l0 x_11 = some r ∧ Kn 48 a [(0, .string a0), (6, .int .i64 (a0.size : Int)), (7, .int .i64 x_11)] ∧ St [] w0 w (fun _ => none) []) (((a0.size : Int) - 0).toNat + 1) ?_ ?_
  · exact ⟨0, H, hK.sub (all_cons rfl (all_cons rfl (all_cons rfl (all_nil)))), hS⟩
  · rintro k_l0 a w ⟨x_11, H, hK, hS⟩
    cases k_l0 with
    | zero => cases H
    | succ k_l0 =>
    rw [table_Name.l0.eq_2] at H
    refine wp_seq ?_
    refine wp_region_lit ?_
    refine sl hK (by decide) rfl rfl (r_ibin hK rfl rfl rfl) fun a hK => ?_
    refine wpList_nil ?_
    refine wp_seq ?_
    refine wp_cond_split (hK.ev rfl) (fun (hb_49 : (decide (x_11 < (a0.size : Int))) = true) => ?_) (fun (hb_49 : (decide (x_11 < (a0.size : Int))) = false) => ?_)
    · rw [ifb_t hb_49] at H
      refine wp_skip ?_
      refine wp_seq ?_
      refine wp_block ?_
      refine wp_seq ?_
      refine wp_region_lit ?_
      refine sl hK (by decide) rfl rfl (r_move hK rfl) fun a hK => ?_
      refine sl hK (by decide) rfl rfl (r_assign hK rfl) fun a hK => ?_
      refine wpList_nil ?_
      refine wp_seq ?_
      refine wp_region_lit ?_
      refine sl hK (by decide) rfl rfl (r_move hK rfl) fun a hK => ?_
      refine sl hK (by decide) rfl rfl (r_move hK rfl) fun a hK => ?_
      obtain ⟨y_50, h_51, H⟩ := bind_some H
      refine sl hK (by decide) rfl rfl (r_index_str' Try.underlying9 h_51 hK rfl rfl) fun a hK => ?_
      refine sl hK (by decide) rfl rfl (r_assign hK rfl) fun a hK => ?_
      refine wpList_nil ?_
      refine wp_block ?_
      refine wp_seq ?_
      refine wp_mid (fun a w => ∃ (x_53 : Bool), table_Name.j1 (table_Name.l0 a0 k_l0) a0 x_11 y_50 x_53 = some r ∧ Kn 48 a [(0, .string a0), (3, .int .i64 x_11), (4, .int .u8 y_50), (6, .int .i64 (a0.size : Int)), (7, .int .i64 x_11), (13, .bool x_53)] ∧ St [] w0 w (fun _ => none) []) ?_ ?_
      · refine wp_region_lit ?_
        refine sl hK (by decide) rfl rfl (r_move hK rfl) fun a hK => ?_
        refine sl hK (by decide) rfl rfl (r_ibin hK rfl rfl rfl) fun a hK => ?_
        refine sl hK (by decide) rfl rfl (r_move hK rfl) fun a hK => ?_
        rcases or_b (decide (y_50 ≥ 97)) with hb_55 | hb_55
        · rw [ifb_t hb_55] at H
          refine sl hK (by decide) (wtt hb_55) rfl (r_move hK rfl) fun a hK => ?_
          refine sl hK (by decide) (wtt hb_55) rfl (r_ibin hK rfl rfl rfl) fun a hK => ?_
          refine sl hK (by decide) rfl rfl (r_pick_t hb_55 hK rfl rfl) fun a hK => ?_
          refine sl hK (by decide) rfl rfl (r_assign hK rfl) fun a hK => ?_
          refine wpList_nil ?_
          exact ⟨(decide (y_50 ≤ 122)), H, hK.sub (all_cons rfl (all_cons rfl (all_cons rfl (all_cons rfl (all_cons rfl (all_cons rfl (all_nil))))))), hS⟩
        · rw [ifb_f hb_55] at H
          refine sl_skip hK (by decide) (wtf hb_55) rfl fun a hK => ?_
          refine sl_skip hK (by decide) (wtf hb_55) rfl fun a hK => ?_
          refine sl hK (by decide) rfl rfl (r_pick_f hb_55 hK rfl rfl) fun a hK => ?_
          refine sl hK (by decide) rfl rfl (r_assign hK rfl) fun a hK => ?_
          refine wpList_nil ?_
          exact ⟨false, H, hK.sub (all_cons rfl (all_cons rfl (all_cons rfl (all_cons rfl (all_cons rfl (all_cons rfl (all_nil))))))), hS⟩
      · rintro a w ⟨x_53, H, hK, hS⟩
        unfold table_Name.j1 at H
        refine wp_mid (fun a w => table_Name.j2 (table_Name.l0 a0 k_l0) a0 x_11 = some r ∧ Kn 48 a [(0, .string a0), (6, .int .i64 (a0.size : Int)), (7, .int .i64 x_11)] ∧ St [] w0 w (fun _ => none) []) ?_ ?_
        · refine wp_cond_split (hK.ev rfl) (fun (hb_71 : x_53 = true) => ?_) (fun (hb_71 : x_53 = false) => ?_)
          · rw [ifb_t hb_71] at H
            refine wp_skip ?_
            exact ⟨H, hK.sub (all_cons rfl (all_cons rfl (all_cons rfl (all_nil)))), hS⟩
          · rw [ifb_f hb_71] at H
            refine wp_seq ?_
            refine wp_mid (fun a w => ∃ (x_77 : Bool), table_Name.j3 (table_Name.l0 a0 k_l0) a0 x_11 x_77 = some r ∧ Kn 48 a [(0, .string a0), (6, .int .i64 (a0.size : Int)), (7, .int .i64 x_11), (20, .bool x_77)] ∧ St [] w0 w (fun _ => none) []) ?_ ?_
            · refine wp_region_lit ?_
              refine sl hK (by decide) rfl rfl (r_move hK rfl) fun a hK => ?_
              refine sl hK (by decide) rfl rfl (r_ibin hK rfl rfl rfl) fun a hK => ?_
              refine sl hK (by decide) rfl rfl (r_move hK rfl) fun a hK => ?_
              rcases or_b (decide (x_11 > 0)) with hb_79 | hb_79
              · rw [ifb_t hb_79] at H
                refine sl hK (by decide) (wtt hb_79) rfl (r_move hK rfl) fun a hK => ?_
                refine sl hK (by decide) (wtt hb_79) rfl (r_ibin hK rfl rfl rfl) fun a hK => ?_
                refine sl hK (by decide) (wtt hb_79) rfl (r_move hK rfl) fun a hK => ?_
                rcases or_b (decide (y_50 ≥ 48)) with hb_80 | hb_80
                · rw [ifb_t hb_80] at H
                  refine sl hK (by decide) (wtt hb_80) rfl (r_move hK rfl) fun a hK => ?_
                  refine sl hK (by decide) (wtt hb_80) rfl (r_ibin hK rfl rfl rfl) fun a hK => ?_
                  refine sl hK (by decide) (wtt hb_79) rfl (r_pick_t hb_80 hK rfl rfl) fun a hK => ?_
                  refine sl hK (by decide) (wtt hb_79) rfl (r_move hK rfl) fun a hK => ?_
                  rcases or_b (decide (y_50 ≤ 57)) with hb_81 | hb_81
                  · rw [ifb_t hb_81] at H
                    refine sl_skip hK (by decide) (wft hb_81) rfl fun a hK => ?_
                    refine sl_skip hK (by decide) (wft hb_81) rfl fun a hK => ?_
                    refine sl hK (by decide) (wtt hb_79) rfl (r_pick_t hb_81 hK rfl rfl) fun a hK => ?_
                    refine sl hK (by decide) (wtt hb_79) rfl (r_move hK rfl) fun a hK => ?_
                    refine sl_skip hK (by decide) rfl rfl fun a hK => ?_
                    refine sl_skip hK (by decide) rfl rfl fun a hK => ?_
                    refine sl hK (by decide) (wtt hb_79) rfl (r_pick hK rfl rfl rfl) fun a hK => ?_
                    refine sl hK (by decide) rfl rfl (r_pick_t hb_79 hK rfl rfl) fun a hK => ?_
                    refine sl hK (by decide) rfl rfl (r_assign hK rfl) fun a hK => ?_
                    refine wpList_nil ?_
                    exact ⟨true, H, hK.sub (all_cons rfl (all_cons rfl (all_cons rfl (all_cons rfl (all_nil))))), hS⟩
                  · rw [ifb_f hb_81] at H
                    refine sl hK (by decide) (wff hb_81) rfl (r_move hK rfl) fun a hK => ?_
                    refine sl hK (by decide) (wff hb_81) rfl (r_ibin hK rfl rfl rfl) fun a hK => ?_
                    refine sl hK (by decide) (wtt hb_79) rfl (r_pick_f hb_81 hK rfl rfl) fun a hK => ?_
                    refine sl hK (by decide) (wtt hb_79) rfl (r_move hK rfl) fun a hK => ?_
                    rcases or_b (y_50 == 95) with hb_82 | hb_82
                    · rw [ifb_t hb_82] at H
                      refine sl_skip hK (by decide) (wft hb_82) rfl fun a hK => ?_
                      refine sl_skip hK (by decide) (wft hb_82) rfl fun a hK => ?_
                      refine sl hK (by decide) (wtt hb_79) rfl (r_pick_t hb_82 hK rfl rfl) fun a hK => ?_
                      refine sl hK (by decide) rfl rfl (r_pick_t hb_79 hK rfl rfl) fun a hK => ?_
                      refine sl hK (by decide) rfl rfl (r_assign hK rfl) fun a hK => ?_
                      refine wpList_nil ?_
                      exact ⟨true, H, hK.sub (all_cons rfl (all_cons rfl (all_cons rfl (all_cons rfl (all_nil))))), hS⟩
                    · rw [ifb_f hb_82] at H
                      refine sl hK (by decide) (wff hb_82) rfl (r_move hK rfl) fun a hK => ?_
                      refine sl hK (by decide) (wff hb_82) rfl (r_ibin hK rfl rfl rfl) fun a hK => ?_
                      refine sl hK (by decide) (wtt hb_79) rfl (r_pick_f hb_82 hK rfl rfl) fun a hK => ?_
                      refine sl hK (by decide) rfl rfl (r_pick_t hb_79 hK rfl rfl) fun a hK => ?_
                      refine sl hK (by decide) rfl rfl (r_assign hK rfl) fun a hK => ?_
                      refine wpList_nil ?_
                      exact ⟨(y_50 == 35), H, hK.sub (all_cons rfl (all_cons rfl (all_cons rfl (all_cons rfl (all_nil))))), hS⟩
                · rw [ifb_f hb_80] at H
                  refine sl_skip hK (by decide) (wtf hb_80) rfl fun a hK => ?_
                  refine sl_skip hK (by decide) (wtf hb_80) rfl fun a hK => ?_
                  refine sl hK (by decide) (wtt hb_79) rfl (r_pick_f hb_80 hK rfl rfl) fun a hK => ?_
                  refine sl hK (by decide) (wtt hb_79) rfl (r_move hK rfl) fun a hK => ?_
                  refine sl hK (by decide) rfl rfl (r_move hK rfl) fun a hK => ?_
                  refine sl hK (by decide) rfl rfl (r_ibin hK rfl rfl rfl) fun a hK => ?_
                  refine sl hK (by decide) (wtt hb_79) rfl (r_pick hK rfl rfl rfl) fun a hK => ?_
                  refine sl hK (by decide) (wtt hb_79) rfl (r_move hK rfl) fun a hK => ?_
                  rcases or_b (y_50 == 95) with hb_83 | hb_83
                  · rw [ifb_t hb_83] at H
                    refine sl_skip hK (by decide) (wft hb_83) rfl fun a hK => ?_
                    refine sl_skip hK (by decide) (wft hb_83) rfl fun a hK => ?_
                    refine sl hK (by decide) (wtt hb_79) rfl (r_pick_t hb_83 hK rfl rfl) fun a hK => ?_
                    refine sl hK (by decide) rfl rfl (r_pick_t hb_79 hK rfl rfl) fun a hK => ?_
                    refine sl hK (by decide) rfl rfl (r_assign hK rfl) fun a hK => ?_
                    refine wpList_nil ?_
                    exact ⟨true, H, hK.sub (all_cons rfl (all_cons rfl (all_cons rfl (all_cons rfl (all_nil))))), hS⟩
                  · rw [ifb_f hb_83] at H
                    refine sl hK (by decide) (wff hb_83) rfl (r_move hK rfl) fun a hK => ?_
                    refine sl hK (by decide) (wff hb_83) rfl (r_ibin hK rfl rfl rfl) fun a hK => ?_
                    refine sl hK (by decide) (wtt hb_79) rfl (r_pick_f hb_83 hK rfl rfl) fun a hK => ?_
                    refine sl hK (by decide) rfl rfl (r_pick_t hb_79 hK rfl rfl) fun a hK => ?_
                    refine sl hK (by decide) rfl rfl (r_assign hK rfl) fun a hK => ?_
                    refine wpList_nil ?_
                    exact ⟨(y_50 == 35), H, hK.sub (all_cons rfl (all_cons rfl (all_cons rfl (all_cons rfl (all_nil))))), hS⟩
              · rw [ifb_f hb_79] at H
                refine sl_skip hK (by decide) (wtf hb_79) rfl fun a hK => ?_
                refine sl_skip hK (by decide) (wtf hb_79) rfl fun a hK => ?_
                refine sl_skip hK (by decide) (wtf hb_79) rfl fun a hK => ?_
                refine sl_skip hK (by decide) rfl rfl fun a hK => ?_
                refine sl_skip hK (by decide) rfl rfl fun a hK => ?_
                refine sl_skip hK (by decide) (wtf hb_79) rfl fun a hK => ?_
                refine sl_skip hK (by decide) (wtf hb_79) rfl fun a hK => ?_
                refine sl_skip hK (by decide) rfl rfl fun a hK => ?_
                refine sl_skip hK (by decide) rfl rfl fun a hK => ?_
                refine sl_skip hK (by decide) (wtf hb_79) rfl fun a hK => ?_
                refine sl_skip hK (by decide) (wtf hb_79) rfl fun a hK => ?_
                refine sl_skip hK (by decide) rfl rfl fun a hK => ?_
                refine sl_skip hK (by decide) rfl rfl fun a hK => ?_
                refine sl_skip hK (by decide) (wtf hb_79) rfl fun a hK => ?_
                refine sl hK (by decide) rfl rfl (r_pick_f hb_79 hK rfl rfl) fun a hK => ?_
                refine sl hK (by decide) rfl rfl (r_assign hK rfl) fun a hK => ?_
                refine wpList_nil ?_
                exact ⟨false, H, hK.sub (all_cons rfl (all_cons rfl (all_cons rfl (all_cons rfl (all_nil))))), hS⟩
            · rintro a w ⟨x_77, H, hK, hS⟩
              unfold table_Name.j3 at H
              refine wp_cond_split (hK.ev rfl) (fun (hb_84 : x_77 = true) => ?_) (fun (hb_84 : x_77 = false) => ?_)
              · rw [ifb_t hb_84] at H
                refine wp_skip ?_
                exact ⟨H, hK.sub (all_cons rfl (all_cons rfl (all_cons rfl (all_nil)))), hS⟩
              · rw [ifb_f hb_84] at H
                refine wp_seq ?_
                refine wp_region_lit ?_
                refine sl hK (by decide) rfl rfl (r_assign hK rfl) fun a hK => ?_
                refine wpList_nil ?_
                obtain rfl := Option.some.inj H
                refine wp_ret ?_
                repeat (first | refine ret_then ?_ | refine ret_block ?_ | refine ret_scope ?_)
                exact ret_1 Try.results46 hK (rv_tmp hK rfl) ⟨rfl, hS.bel⟩
        · rintro a w ⟨H, hK, hS⟩
          unfold table_Name.j2 at H
          refine wp_region_lit ?_
          refine sl hK (by decide) rfl rfl (r_ibin hK rfl rfl rfl) fun a hK => ?_
          refine sl hK (by decide) rfl rfl (r_move hK rfl) fun a hK => ?_
          refine wpList_nil ?_
          exact ⟨_, Nat.lt_succ_self _, (IntKind.i64.wrap (x_11 + 1)), H, hK.sub (all_cons rfl (all_cons rfl (all_cons rfl (all_nil)))), hS⟩
    · rw [ifb_f hb_49] at H
      refine wp_exit ?_
      refine wp_seq ?_
      refine wp_region_lit ?_
      refine sl hK (by decide) rfl rfl (r_move hK rfl) fun a hK => ?_
      refine sl hK (by decide) rfl rfl (r_len_str Try.underlying9 hK rfl) fun a hK => ?_
      refine sl hK (by decide) rfl rfl (r_ibin hK rfl rfl rfl) fun a hK => ?_
      refine sl hK (by decide) rfl rfl (r_move hK rfl) fun a hK => ?_
      rcases or_b (decide ((a0.size : Int) ≥ 1)) with hb_85 | hb_85
      · rw [ifb_t hb_85] at H
        refine sl hK (by decide) (wtt hb_85) rfl (r_move hK rfl) fun a hK => ?_
        refine sl hK (by decide) (wtt hb_85) rfl (r_len_str Try.underlying9 hK rfl) fun a hK => ?_
        refine sl hK (by decide) (wtt hb_85) rfl (r_ibin hK rfl rfl rfl) fun a hK => ?_
        refine sl hK (by decide) rfl rfl (r_pick_t hb_85 hK rfl rfl) fun a hK => ?_
        refine sl hK (by decide) rfl rfl (r_assign hK rfl) fun a hK => ?_
        refine wpList_nil ?_
        obtain rfl := Option.some.inj H
        refine wp_ret ?_
        repeat (first | refine ret_then ?_ | refine ret_block ?_ | refine ret_scope ?_)
        exact ret_1 Try.results46 hK (rv_tmp hK rfl) ⟨rfl, hS.bel⟩
      · rw [ifb_f hb_85] at H
        refine sl_skip hK (by decide) (wtf hb_85) rfl fun a hK => ?_
        refine sl_skip hK (by decide) (wtf hb_85) rfl fun a hK => ?_
        refine sl_skip hK (by decide) (wtf hb_85) rfl fun a hK => ?_
        refine sl hK (by decide) rfl rfl (r_pick_f hb_85 hK rfl rfl) fun a hK => ?_
        refine sl hK (by decide) rfl rfl (r_assign hK rfl) fun a hK => ?_
        refine wpList_nil ?_
        obtain rfl := Option.some.inj H
        refine wp_ret ?_
        repeat (first | refine ret_then ?_ | refine ret_block ?_ | refine ret_scope ?_)
        exact ret_1 Try.results46 hK (rv_tmp hK rfl) ⟨rfl, hS.bel⟩

/-! ### catchment/table.Find$1: function 37 -/
set_option maxHeartbeats 4000000 in
set_option maxRecDepth 100000 in
theorem table_Find_1_cp.calls (a0 : api_Col) (a1 : ByteArray) {w0 : World} {RA : Hp} {b1 : Nat} {o1 : Nat} (hRA : RA.sub w0) (hc1 : ∀ j u, ([.string a1] : List Value)[j]? = some u → RA.cell b1 (o1 + j) = some u) {r : Bool} (H : table_Find_1_cp a0 a1 = some r) : CallsV Try.prog 37 #[.agg #[.string a0.Name, .int .i64 a0.Kind], .pointer (some ⟨b1, o1, none⟩)] w0 (.bool r) := by
  unfold table_Find_1_cp at H
  refine enter (args := [.agg #[.string a0.Name, .int .i64 a0.Kind], .pointer (some ⟨b1, o1, none⟩)]) Try.func37 rfl Try.ntmps37 rfl fun a hK => ?_
  have hS := St.init (R := fun _ => none) (w := w0) (fun _ _ h => by cases h)
  have hRL := RLe.refl (M := []) w0 (fun _ => none)
  refine wp_seq ?_
  refine wp_region_lit ?_
  refine sl_box hS hK (by decide) rfl rfl (c := [.string a0.Name, .int .i64 a0.Kind]) rfl fun a w b_1 hS hK => ?_
  refine sl hK (by decide) rfl rfl (r_assign hK rfl) fun a hK => ?_
  refine wpList_nil ?_
  refine wp_seq ?_
  refine wp_region_lit ?_
  refine sl hK (by decide) rfl rfl (r_fieldAddr Try.underlying34 rfl Try.sizeOf9 hK rfl) fun a hK => ?_
  refine sl hK (by decide) rfl rfl (r_load Try.isAgg9 hK rfl (hS.cell (.head _) rfl)) fun a hK => ?_
  refine sl hK (by decide) rfl rfl (r_load Try.isAgg9 hK rfl ((hS.ra hRA nil_not).cell (hc1 0 _ rfl))) fun a hK => ?_
  refine sl hK (by decide) rfl rfl (r_sbin hK rfl rfl rfl) fun a hK => ?_
  refine sl hK (by decide) rfl rfl (r_assign hK rfl) fun a hK => ?_
  refine wpList_nil ?_
  obtain rfl := Option.some.inj H
  refine wp_ret ?_
  repeat (first | refine ret_then ?_ | refine ret_block ?_ | refine ret_scope ?_)
  exact ret_1 Try.results37 hK (rv_tmp hK rfl) ⟨rfl, hS.bel⟩

/-! ### slices.IndexFunc[[]catchment/api.Col,catchment/api.Col]: function 36 -/
set_option maxHeartbeats 4000000 in
set_option maxRecDepth 100000 in
theorem slices_IndexFunc_api_Col_api_Col_f_table_Find_1p.calls (a0 : List api_Col) (a1_0 : ByteArray) {w0 : World} {RA : Hp} {v0_0 : Value} {b1q0 : Nat} {o1q0 : Nat} (hRA : RA.sub w0) (h0_0 : SlR ty_api_Col RA v0_0 a0) (hc1q0 : ∀ j u, ([.string a1_0] : List Value)[j]? = some u → RA.cell b1q0 (o1q0 + j) = some u) {r : Int} (H : slices_IndexFunc_api_Col_api_Col_f_table_Find_1p a0 a1_0 = some r) : CallsV Try.prog 36 #[v0_0, .func (.func 37) #[] #[.pointer (some ⟨b1q0, o1q0, none⟩)]] w0 (.int .i64 r) := by
  unfold slices_IndexFunc_api_Col_api_Col_f_table_Find_1p at H
  refine enter (args := [v0_0, .func (.func 37) #[] #[.pointer (some ⟨b1q0, o1q0, none⟩)]]) Try.func36 rfl Try.ntmps36 rfl fun a hK => ?_
  have hS := St.init (R := fun _ => none) (w := w0) (fun _ _ h => by cases h)
  have hRL := RLe.refl (M := []) w0 (fun _ => none)
  refine wp_seq ?_
  refine wp_region_lit ?_
  refine sl hK (by decide) rfl rfl (r_assign hK rfl) fun a hK => ?_
  refine wpList_nil ?_
  refine wp_seq ?_
  refine wp_seq ?_
  refine wp_region_lit ?_
  refine sl hK (by decide) rfl rfl (r_move hK rfl) fun a hK => ?_
  refine sl hK (by decide) rfl rfl (r_len_R Try.underlying22 h0_0 hK rfl) fun a hK => ?_
  refine sl hK (by decide) rfl rfl (r_move hK rfl) fun a hK => ?_
  refine wpList_nil ?_
  refine wp_block ?_
  refine wp_loop_k (fun k_l0 a w => ∃ (x_15 : Int), slices_IndexFunc_api_Col_api_Col_f_table_Find_1p.l0 a0 a1_0 k_l0 x_15 = some r ∧ Kn 19 a [(0, v0_0), (1, .func (.func 37) #[] #[.pointer (some ⟨b1q0, o1q0, none⟩)]), (7, .int .i64 (a0.length : Int)), (8, .int .i64 x_15)] ∧ St [] w0 w (fun _ => none) []) (((a0.length : Int) - 0).toNat + 1) ?_ ?_
  · exact ⟨0, H, hK.sub (all_cons rfl (all_cons rfl (all_cons rfl (all_cons rfl (all_nil))))), hS⟩
  · rintro k_l0 a w ⟨x_15, H, hK, hS⟩
    cases k_l0 with
    | zero => cases H
    | succ k_l0 =>
    rw [slices_IndexFunc_api_Col_api_Col_f_table_Find_1p.l0.eq_2] at H
    refine wp_seq ?_
    refine wp_region_lit ?_
    refine sl hK (by decide) rfl rfl (r_ibin hK rfl rfl rfl) fun a hK => ?_
    refine wpList_nil ?_
    refine wp_seq ?_
    refine wp_cond_split (hK.ev rfl) (fun (hb_30 : (decide (x_15 < (a0.length : Int))) = true) => ?_) (fun (hb_30 : (decide (x_15 < (a0.length : Int))) = false) => ?_)
    · rw [ifb_t hb_30] at H
      refine wp_skip ?_
      refine wp_seq ?_
      refine wp_block ?_
      refine wp_seq ?_
      refine wp_region_lit ?_
      refine sl hK (by decide) rfl rfl (r_move hK rfl) fun a hK => ?_
      refine sl hK (by decide) rfl rfl (r_assign hK rfl) fun a hK => ?_
      refine wpList_nil ?_
      refine wp_seq ?_
      refine wp_region_lit ?_
      refine sl hK (by decide) rfl rfl (r_move hK rfl) fun a hK => ?_
      refine sl hK (by decide) rfl rfl (r_move hK rfl) fun a hK => ?_
      refine sl hK (by decide) rfl rfl (r_move hK rfl) fun a hK => ?_
      obtain ⟨y_31, h_32, H⟩ := bind_some H
      obtain ⟨b_33, o_34, c_35, cs_36, hv_37, hr_38, hc_39, h_320, h_321⟩ := h0_0.ix h_32
      subst hr_38
      refine sl hK (by decide) rfl rfl (r_indexAddr_R Try.underlying22 Try.sizeOf34 hv_37 h_320 h_321 hK rfl rfl) fun a hK => ?_
      refine sl hK (by decide) rfl rfl (r_loadA (cs := [.string y_31.Name, .int .i64 y_31.Kind]) Try.isAgg34 Try.sizeOf34 rfl hK rfl (fun j v hv => (hS.ra hRA nil_not).cell (hc_39 j v hv))) fun a hK => ?_
      obtain ⟨y_40, h_41, H⟩ := bind_some H
      refine sl_callV Try.call37 hS hK (by decide) rfl rfl rfl (table_Find_1_cp.calls y_31 a1_0 (lentOf_sub [] _) (fun j u hu => Hp.cell_le (hS.raLe0 hRA nil_not) (hc1q0 j u hu)) h_41) fun a w hS hK => ?_
      refine wpList_nil ?_
      refine wp_cond_split (hK.ev rfl) (fun (hb_42 : y_40 = true) => ?_) (fun (hb_42 : y_40 = false) => ?_)
      · rw [ifb_t hb_42] at H
        refine wp_seq ?_
        refine wp_region_lit ?_
        refine sl hK (by decide) rfl rfl (r_move hK rfl) fun a hK => ?_
        refine sl hK (by decide) rfl rfl (r_assign hK rfl) fun a hK => ?_
        refine wpList_nil ?_
        obtain rfl := Option.some.inj H
        refine wp_ret ?_
        repeat (first | refine ret_then ?_ | refine ret_block ?_ | refine ret_scope ?_)
        exact ret_1 Try.results36 hK (rv_tmp hK rfl) ⟨rfl, hS.bel⟩
      · rw [ifb_f hb_42] at H
        refine wp_skip ?_
        refine wp_region_lit ?_
        refine sl hK (by decide) rfl rfl (r_ibin hK rfl rfl rfl) fun a hK => ?_
        refine sl hK (by decide) rfl rfl (r_move hK rfl) fun a hK => ?_
        refine wpList_nil ?_
        exact ⟨_, Nat.lt_succ_self _, (IntKind.i64.wrap (x_15 + 1)), H, hK.sub (all_cons rfl (all_cons rfl (all_cons rfl (all_cons rfl (all_nil))))), hS⟩
    · rw [ifb_f hb_30] at H
      refine wp_exit ?_
      refine wp_seq ?_
      refine wp_region_lit ?_
      refine sl hK (by decide) rfl rfl (r_assign hK rfl) fun a hK => ?_
      refine wpList_nil ?_
      obtain rfl := Option.some.inj H
      refine wp_ret ?_
      repeat (first | refine ret_then ?_ | refine ret_block ?_ | refine ret_scope ?_)
      exact ret_1 Try.results36 hK (rv_tmp hK rfl) ⟨rfl, hS.bel⟩

/-! ### catchment/table.Find: function 23 -/
set_option maxHeartbeats 4000000 in
set_option maxRecDepth 100000 in
theorem table_Find.calls (a0 : List api_Col) (a1 : ByteArray) {w0 : World} {RA : Hp} {v0_0 : Value} (hRA : RA.sub w0) (h0_0 : SlR ty_api_Col RA v0_0 a0) {r : Int} (H : table_Find a0 a1 = some r) : CallsV Try.prog 23 #[v0_0, .string a1] w0 (.int .i64 r) := by
  unfold table_Find at H
  refine enter (args := [v0_0, .string a1]) Try.func23 rfl Try.ntmps23 rfl fun a hK => ?_
  have hS := St.init (R := fun _ => none) (w := w0) (fun _ _ h => by cases h)
  have hRL := RLe.refl (M := []) w0 (fun _ => none)
  refine wp_seq ?_
  refine wp_region_lit ?_
  refine sl_box hS hK (by decide) rfl rfl (c := [.string a1]) rfl fun a w b_1 hS hK => ?_
  refine sl hK (by decide) rfl rfl (r_assign hK rfl) fun a hK => ?_
  refine wpList_nil ?_
  refine wp_seq ?_
  refine wp_region_lit ?_
  refine sl hK (by decide) rfl rfl (r_move hK rfl) fun a hK => ?_
  refine sl hK (by decide) rfl rfl (r_func (us := []) (vs := [.pointer (some ⟨b_1, 0, none⟩)]) rfl (hK.evs rfl)) fun a hK => ?_
  obtain ⟨y_2, h_3, H⟩ := bind_some H
  refine sl_callV Try.call36 hS hK (by decide) rfl rfl rfl (slices_IndexFunc_api_Col_api_Col_f_table_Find_1p.calls a0 a1 (lentOf_sub [] _) (h0_0.mono (hS.raLe0 hRA nil_not)) (hS.lend_box0 (.head _)) h_3) fun a w hS hK => ?_
  refine sl hK (by decide) rfl rfl (r_assign hK rfl) fun a hK => ?_
  refine wpList_nil ?_
  obtain rfl := Option.some.inj H
  refine wp_ret ?_
  repeat (first | refine ret_then ?_ | refine ret_block ?_ | refine ret_scope ?_)
  exact ret_1 Try.results23 hK (rv_tmp hK rfl) ⟨rfl, hS.bel⟩

/-! ### catchment/table.columns: function 32 -/
set_option maxHeartbeats 4000000 in
set_option maxRecDepth 100000 in
theorem table_columns.calls (a0 : List api_Col) {w0 : World} {RA : Hp} {v0_0 : Value} (hRA : RA.sub w0) (h0_0 : SlR ty_api_Col RA v0_0 a0) {r : Bool} (H : table_columns a0 = some r) : CallsV Try.prog 32 #[v0_0] w0 (.bool r) := by
  unfold table_columns at H
  refine enter (args := [v0_0]) Try.func32 rfl Try.ntmps32 rfl fun a hK => ?_
  have hS := St.init (R := fun _ => none) (w := w0) (fun _ _ h => by cases h)
  have hRL := RLe.refl (M := []) w0 (fun _ => none)
  refine wp_seq ?_
  refine wp_region_lit ?_
  refine sl hK (by decide) rfl rfl (r_assign hK rfl) fun a hK => ?_
  refine wpList_nil ?_
  refine wp_seq ?_
  refine wp_seq ?_
  refine wp_region_lit ?_
  refine sl hK (by decide) rfl rfl (r_move hK rfl) fun a hK => ?_
  refine sl hK (by decide) rfl rfl (r_len_R Try.underlying22 h0_0 hK rfl) fun a hK => ?_
  refine sl hK (by decide) rfl rfl (r_move hK rfl) fun a hK => ?_
  refine wpList_nil ?_
  refine wp_block ?_
  refine wp_loop_k (fun k_l0 a w => ∃ (x_30 : Int), table_columns.l0 a0 k_l0 x_30 = some r ∧ Kn 43 a [(0, v0_0), (5, v0_0), (6, .int .i64 (a0.length : Int)), (7, .int .i64 x_30)] ∧ St [] w0 w (fun _ => none) []) (((a0.length : Int) - 0).toNat + 1) ?_ ?_
  · exact ⟨0, H, hK.sub (all_cons rfl (all_cons rfl (all_cons rfl (all_cons rfl (all_nil))))), hS⟩
  · rintro k_l0 a w ⟨x_30, H, hK, hS⟩
    cases k_l0 with
    | zero => cases H
    | succ k_l0 =>
    rw [table_columns.l0.eq_2] at H
    refine wp_seq ?_
    refine wp_region_lit ?_
    refine sl hK (by decide) rfl rfl (r_ibin hK rfl rfl rfl) fun a hK => ?_
    refine wpList_nil ?_
    refine wp_seq ?_
    refine wp_cond_split (hK.ev rfl) (fun (hb_60 : (decide (x_30 < (a0.length : Int))) = true) => ?_) (fun (hb_60 : (decide (x_30 < (a0.length : Int))) = false) => ?_)
    · rw [ifb_t hb_60] at H
      refine wp_skip ?_
      refine wp_seq ?_
      refine wp_block ?_
      refine wp_seq ?_
      refine wp_region_lit ?_
      refine sl hK (by decide) rfl rfl (r_move hK rfl) fun a hK => ?_
      obtain ⟨y_61, h_62, H⟩ := bind_some H
      obtain ⟨b_63, o_64, c_65, cs_66, hv_67, hr_68, hc_69, h_620, h_621⟩ := h0_0.ix h_62
      subst hr_68
      refine sl hK (by decide) rfl rfl (r_indexAddr_R Try.underlying22 Try.sizeOf34 hv_67 h_620 h_621 hK rfl rfl) fun a hK => ?_
      refine sl hK (by decide) rfl rfl (r_loadA (cs := [.string y_61.Name, .int .i64 y_61.Kind]) Try.isAgg34 Try.sizeOf34 rfl hK rfl (fun j v hv => (hS.ra hRA nil_not).cell (hc_69 j v hv))) fun a hK => ?_
      refine sl_alloc Try.zeroValue34 hS hK (by decide) rfl rfl fun a w b_70 hS hK => ?_
      refine sl hK (by decide) rfl rfl (r_assign hK rfl) fun a hK => ?_
      refine sl_storeA (vs := [.string y_61.Name, .int .i64 y_61.Kind]) (c' := [.string y_61.Name, .int .i64 y_61.Kind]) Try.sizeOf34 hS hK rfl rfl rfl rfl (all_cons rfl (all_cons rfl (all_nil))) (Nat.le_of_ble_eq_true rfl) rfl fun a w hS hK => ?_
      refine wpList_nil ?_
      refine wp_seq ?_
      refine wp_mid (fun a w => ∃ (x_78 : Bool), table_columns.j1 (table_columns.l0 a0 k_l0) a0 x_30 x_78 = some r ∧ Kn 43 a [(0, v0_0), (5, v0_0), (6, .int .i64 (a0.length : Int)), (7, .int .i64 x_30), (33, .bool x_78)] ∧ St [] w0 w (fun _ => none) []) ?_ ?_
      · refine wp_region_lit ?_
        refine sl hK (by decide) rfl rfl (r_fieldAddr Try.underlying34 rfl Try.sizeOf9 hK rfl) fun a hK => ?_
        refine sl hK (by decide) rfl rfl (r_load Try.isAgg9 hK rfl (hS.cell (.head _) rfl)) fun a hK => ?_
        obtain ⟨y_80, h_81, H⟩ := bind_some H
        refine sl_callV Try.call46 hS hK (by decide) rfl rfl rfl (table_Name.calls y_61.Name h_81 _) fun a w hS hK => ?_
        refine sl hK (by decide) rfl rfl (r_un hK rfl (u_not _)) fun a hK => ?_
        refine sl hK (by decide) rfl rfl (r_move hK rfl) fun a hK => ?_
        rcases or_b (!y_80) with hb_82 | hb_82
        · rw [ifb_t hb_82] at H
          refine sl_skip hK (by decide) (wft hb_82) rfl fun a hK => ?_
          refine sl_skip hK (by decide) (wft hb_82) rfl fun a hK => ?_
          refine sl_skip hK (by decide) (wft hb_82) rfl fun a hK => ?_
          refine sl hK (by decide) rfl rfl (r_pick_t hb_82 hK rfl rfl) fun a hK => ?_
          refine sl hK (by decide) rfl rfl (r_move hK rfl) fun a hK => ?_
          refine sl_skip hK (by decide) rfl rfl fun a hK => ?_
          refine sl_skip hK (by decide) rfl rfl fun a hK => ?_
          refine sl_skip hK (by decide) rfl rfl fun a hK => ?_
          refine sl hK (by decide) rfl rfl (r_pick hK rfl rfl rfl) fun a hK => ?_
          refine sl hK (by decide) rfl rfl (r_move hK rfl) fun a hK => ?_
          refine sl_skip hK (by decide) rfl rfl fun a hK => ?_
          refine sl_skip hK (by decide) rfl rfl fun a hK => ?_
          refine sl_skip hK (by decide) rfl rfl fun a hK => ?_
          refine sl_skip hK (by decide) rfl rfl fun a hK => ?_
          refine sl_skip hK (by decide) rfl rfl fun a hK => ?_
          refine sl_skip hK (by decide) rfl rfl fun a hK => ?_
          refine sl hK (by decide) rfl rfl (r_pick hK rfl rfl rfl) fun a hK => ?_
          refine wpList_nil ?_
          exact ⟨true, H, hK.sub (all_cons rfl (all_cons rfl (all_cons rfl (all_cons rfl (all_cons rfl (all_nil)))))), hS.trunc 0⟩
        · rw [ifb_f hb_82] at H
          refine sl hK (by decide) (wff hb_82) rfl (r_fieldAddr Try.underlying34 rfl Try.sizeOf3 hK rfl) fun a hK => ?_
          refine sl hK (by decide) (wff hb_82) rfl (r_load Try.isAgg3 hK rfl (hS.cell (.head _) rfl)) fun a hK => ?_
          refine sl hK (by decide) (wff hb_82) rfl (r_ibin hK rfl rfl rfl) fun a hK => ?_
          refine sl hK (by decide) rfl rfl (r_pick_f hb_82 hK rfl rfl) fun a hK => ?_
          refine sl hK (by decide) rfl rfl (r_move hK rfl) fun a hK => ?_
          rcases or_b (decide (y_61.Kind < 1)) with hb_83 | hb_83
          · rw [ifb_t hb_83] at H
            refine sl_skip hK (by decide) (wft hb_83) rfl fun a hK => ?_
            refine sl_skip hK (by decide) (wft hb_83) rfl fun a hK => ?_
            refine sl_skip hK (by decide) (wft hb_83) rfl fun a hK => ?_
            refine sl hK (by decide) rfl rfl (r_pick_t hb_83 hK rfl rfl) fun a hK => ?_
            refine sl hK (by decide) rfl rfl (r_move hK rfl) fun a hK => ?_
            refine sl_skip hK (by decide) rfl rfl fun a hK => ?_
            refine sl_skip hK (by decide) rfl rfl fun a hK => ?_
            refine sl_skip hK (by decide) rfl rfl fun a hK => ?_
            refine sl_skip hK (by decide) rfl rfl fun a hK => ?_
            refine sl_skip hK (by decide) rfl rfl fun a hK => ?_
            refine sl_skip hK (by decide) rfl rfl fun a hK => ?_
            refine sl hK (by decide) rfl rfl (r_pick hK rfl rfl rfl) fun a hK => ?_
            refine wpList_nil ?_
            exact ⟨true, H, hK.sub (all_cons rfl (all_cons rfl (all_cons rfl (all_cons rfl (all_cons rfl (all_nil)))))), hS.trunc 0⟩
          · rw [ifb_f hb_83] at H
            refine sl hK (by decide) (wff hb_83) rfl (r_fieldAddr Try.underlying34 rfl Try.sizeOf3 hK rfl) fun a hK => ?_
            refine sl hK (by decide) (wff hb_83) rfl (r_load Try.isAgg3 hK rfl (hS.cell (.head _) rfl)) fun a hK => ?_
            refine sl hK (by decide) (wff hb_83) rfl (r_ibin hK rfl rfl rfl) fun a hK => ?_
            refine sl hK (by decide) rfl rfl (r_pick_f hb_83 hK rfl rfl) fun a hK => ?_
            refine sl hK (by decide) rfl rfl (r_move hK rfl) fun a hK => ?_
            rcases or_b (decide (y_61.Kind > 4)) with hb_84 | hb_84
            · rw [ifb_t hb_84] at H
              refine sl_skip hK (by decide) (wft hb_84) rfl fun a hK => ?_
              refine sl_skip hK (by decide) (wft hb_84) rfl fun a hK => ?_
              refine sl_skip hK (by decide) (wft hb_84) rfl fun a hK => ?_
              refine sl_skip hK (by decide) (wft hb_84) rfl fun a hK => ?_
              refine sl_skip hK (by decide) (wft hb_84) rfl fun a hK => ?_
              refine sl_skip hK (by decide) (wft hb_84) rfl fun a hK => ?_
              refine sl hK (by decide) rfl rfl (r_pick_t hb_84 hK rfl rfl) fun a hK => ?_
              refine wpList_nil ?_
              exact ⟨true, H, hK.sub (all_cons rfl (all_cons rfl (all_cons rfl (all_cons rfl (all_cons rfl (all_nil)))))), hS.trunc 0⟩
            · rw [ifb_f hb_84] at H
              refine sl hK (by decide) (wff hb_84) rfl (r_move hK rfl) fun a hK => ?_
              refine sl hK (by decide) (wff hb_84) rfl (r_fieldAddr Try.underlying34 rfl Try.sizeOf9 hK rfl) fun a hK => ?_
              refine sl hK (by decide) (wff hb_84) rfl (r_load Try.isAgg9 hK rfl (hS.cell (.head _) rfl)) fun a hK => ?_
              obtain ⟨y_85, h_86, H⟩ := bind_some H
              refine sl_callV Try.call23 hS hK (by decide) (wff hb_84) rfl rfl (table_Find.calls a0 y_61.Name (lentOf_sub [] _) (h0_0.mono (hS.raLe0 hRA nil_not)) h_86) fun a w hS hK => ?_
              refine sl hK (by decide) (wff hb_84) rfl (r_move hK rfl) fun a hK => ?_
              refine sl hK (by decide) (wff hb_84) rfl (r_ibin hK rfl rfl rfl) fun a hK => ?_
              refine sl hK (by decide) rfl rfl (r_pick_f hb_84 hK rfl rfl) fun a hK => ?_
              refine wpList_nil ?_
              exact ⟨(y_85 != x_30), H, hK.sub (all_cons rfl (all_cons rfl (all_cons rfl (all_cons rfl (all_cons rfl (all_nil)))))), hS.trunc 0⟩
      · rintro a w ⟨x_78, H, hK, hS⟩
        unfold table_columns.j1 at H
        refine wp_cond_split (hK.ev rfl) (fun (hb_87 : x_78 = true) => ?_) (fun (hb_87 : x_78 = false) => ?_)
        · rw [ifb_t hb_87] at H
          refine wp_seq ?_
          refine wp_region_lit ?_
          refine sl hK (by decide) rfl rfl (r_assign hK rfl) fun a hK => ?_
          refine wpList_nil ?_
          obtain rfl := Option.some.inj H
          refine wp_ret ?_
          repeat (first | refine ret_then ?_ | refine ret_block ?_ | refine ret_scope ?_)
          exact ret_1 Try.results32 hK (rv_tmp hK rfl) ⟨rfl, hS.bel⟩
        · rw [ifb_f hb_87] at H
          refine wp_skip ?_
          refine wp_region_lit ?_
          refine sl hK (by decide) rfl rfl (r_ibin hK rfl rfl rfl) fun a hK => ?_
          refine sl hK (by decide) rfl rfl (r_move hK rfl) fun a hK => ?_
          refine wpList_nil ?_
          exact ⟨_, Nat.lt_succ_self _, (IntKind.i64.wrap (x_30 + 1)), H, hK.sub (all_cons rfl (all_cons rfl (all_cons rfl (all_cons rfl (all_nil))))), hS⟩
    · rw [ifb_f hb_60] at H
      refine wp_exit ?_
      refine wp_seq ?_
      refine wp_region_lit ?_
      refine sl hK (by decide) rfl rfl (r_move hK rfl) fun a hK => ?_
      refine sl hK (by decide) rfl rfl (r_len_R Try.underlying22 h0_0 hK rfl) fun a hK => ?_
      refine sl hK (by decide) rfl rfl (r_ibin hK rfl rfl rfl) fun a hK => ?_
      refine sl hK (by decide) rfl rfl (r_move hK rfl) fun a hK => ?_
      rcases or_b (decide ((a0.length : Int) ≥ 1)) with hb_88 | hb_88
      · rw [ifb_t hb_88] at H
        refine sl hK (by decide) (wtt hb_88) rfl (r_move hK rfl) fun a hK => ?_
        refine sl hK (by decide) (wtt hb_88) rfl (r_len_R Try.underlying22 h0_0 hK rfl) fun a hK => ?_
        refine sl hK (by decide) (wtt hb_88) rfl (r_ibin hK rfl rfl rfl) fun a hK => ?_
        refine sl hK (by decide) rfl rfl (r_pick_t hb_88 hK rfl rfl) fun a hK => ?_
        refine sl hK (by decide) rfl rfl (r_assign hK rfl) fun a hK => ?_
        refine wpList_nil ?_
        obtain rfl := Option.some.inj H
        refine wp_ret ?_
        repeat (first | refine ret_then ?_ | refine ret_block ?_ | refine ret_scope ?_)
        exact ret_1 Try.results32 hK (rv_tmp hK rfl) ⟨rfl, hS.bel⟩
      · rw [ifb_f hb_88] at H
        refine sl_skip hK (by decide) (wtf hb_88) rfl fun a hK => ?_
        refine sl_skip hK (by decide) (wtf hb_88) rfl fun a hK => ?_
        refine sl_skip hK (by decide) (wtf hb_88) rfl fun a hK => ?_
        refine sl hK (by decide) rfl rfl (r_pick_f hb_88 hK rfl rfl) fun a hK => ?_
        refine sl hK (by decide) rfl rfl (r_assign hK rfl) fun a hK => ?_
        refine wpList_nil ?_
        obtain rfl := Option.some.inj H
        refine wp_ret ?_
        repeat (first | refine ret_then ?_ | refine ret_block ?_ | refine ret_scope ?_)
        exact ret_1 Try.results32 hK (rv_tmp hK rfl) ⟨rfl, hS.bel⟩

/-! ### catchment/value.Valid: function 33 -/
set_option maxHeartbeats 4000000 in
set_option maxRecDepth 100000 in
theorem value_Valid.calls (a0 : api_Value) {r : Bool} (H : value_Valid a0 = some r) (w0 : World) : CallsV Try.prog 33 #[.agg #[.int .i64 a0.Kind, .int .i64 a0.N, .string a0.S, .int .i64 a0.H.a0, .int .i64 a0.H.a1, .int .i64 a0.H.a2, .int .i64 a0.H.a3, .int .i64 a0.H.a4, .int .i64 a0.H.a5, .int .i64 a0.H.a6, .int .i64 a0.H.a7]] w0 (.bool r) := by
  unfold value_Valid at H
  refine enter (args := [.agg #[.int .i64 a0.Kind, .int .i64 a0.N, .string a0.S, .int .i64 a0.H.a0, .int .i64 a0.H.a1, .int .i64 a0.H.a2, .int .i64 a0.H.a3, .int .i64 a0.H.a4, .int .i64 a0.H.a5, .int .i64 a0.H.a6, .int .i64 a0.H.a7]]) Try.func33 rfl Try.ntmps33 rfl fun a hK => ?_
  have hS := St.init (R := fun _ => none) (w := w0) (fun _ _ h => by cases h)
  have hRL := RLe.refl (M := []) w0 (fun _ => none)
  refine wp_seq ?_
  refine wp_region_lit ?_
  refine sl_box hS hK (by decide) rfl rfl (c := [.int .i64 a0.Kind, .int .i64 a0.N, .string a0.S, .int .i64 a0.H.a0, .int .i64 a0.H.a1, .int .i64 a0.H.a2, .int .i64 a0.H.a3, .int .i64 a0.H.a4, .int .i64 a0.H.a5, .int .i64 a0.H.a6, .int .i64 a0.H.a7]) rfl fun a w b_1 hS hK => ?_
  refine sl hK (by decide) rfl rfl (r_assign hK rfl) fun a hK => ?_
  refine wpList_nil ?_
  refine wp_seq ?_
  refine wp_region_lit ?_
  refine sl hK (by decide) rfl rfl (r_loadA (cs := [.int .i64 a0.Kind, .int .i64 a0.N, .string a0.S, .int .i64 a0.H.a0, .int .i64 a0.H.a1, .int .i64 a0.H.a2, .int .i64 a0.H.a3, .int .i64 a0.H.a4, .int .i64 a0.H.a5, .int .i64 a0.H.a6, .int .i64 a0.H.a7]) Try.isAgg46 Try.sizeOf46 rfl hK rfl (hS.cells_of (m := 11) (.head _) rfl)) fun a hK => ?_
  refine sl_alloc Try.zeroValue46 hS hK (by decide) rfl rfl fun a w b_2 hS hK => ?_
  refine sl_storeA (vs := [.int .i64 a0.Kind, .int .i64 a0.N, .string a0.S, .int .i64 a0.H.a0, .int .i64 a0.H.a1, .int .i64 a0.H.a2, .int .i64 a0.H.a3, .int .i64 a0.H.a4, .int .i64 a0.H.a5, .int .i64 a0.H.a6, .int .i64 a0.H.a7]) (c' := [.int .i64 a0.Kind, .int .i64 a0.N, .string a0.S, .int .i64 a0.H.a0, .int .i64 a0.H.a1, .int .i64 a0.H.a2, .int .i64 a0.H.a3, .int .i64 a0.H.a4, .int .i64 a0.H.a5, .int .i64 a0.H.a6, .int .i64 a0.H.a7]) Try.sizeOf46 hS hK rfl rfl rfl rfl (all_cons rfl (all_cons rfl (all_cons rfl (all_cons rfl (all_cons rfl (all_cons rfl (all_cons rfl (all_cons rfl (all_cons rfl (all_cons rfl (all_cons rfl (all_nil)))))))))))) (Nat.le_of_ble_eq_true rfl) rfl fun a w hS hK => ?_
  refine wpList_nil ?_
  refine wp_seq ?_
  refine wp_region_lit ?_
  refine sl hK (by decide) rfl rfl (r_fieldAddr Try.underlying46 rfl Try.sizeOf3 hK rfl) fun a hK => ?_
  refine sl_store1 (c' := [.int .i64 0, .int .i64 a0.N, .string a0.S, .int .i64 a0.H.a0, .int .i64 a0.H.a1, .int .i64 a0.H.a2, .int .i64 a0.H.a3, .int .i64 a0.H.a4, .int .i64 a0.H.a5, .int .i64 a0.H.a6, .int .i64 a0.H.a7]) Try.sizeOf3 hS hK rfl rfl rfl rfl (Nat.le_of_ble_eq_true rfl) rfl fun a w hS hK => ?_
  refine wpList_nil ?_
  refine wp_seq ?_
  refine wp_region_lit ?_
  refine sl hK (by decide) rfl rfl (r_assign hK rfl) fun a hK => ?_
  refine wpList_nil ?_
  refine wp_seq ?_
  refine wp_seq ?_
  refine wp_region_lit ?_
  refine sl hK (by decide) rfl rfl (r_fieldAddr Try.underlying46 rfl Try.sizeOf3 hK rfl) fun a hK => ?_
  refine sl hK (by decide) rfl rfl (r_load Try.isAgg3 hK rfl (hS.cell (.tail _ (.head _)) rfl)) fun a hK => ?_
  refine wpList_nil ?_
  refine wp_block ?_
  refine wp_seq ?_
  refine wp_region_lit ?_
  refine sl hK (by decide) rfl rfl (r_ibin hK rfl rfl rfl) fun a hK => ?_
  refine sl hK (by decide) rfl rfl (r_assign hK rfl) fun a hK => ?_
  refine wpList_nil ?_
  refine wp_mid (fun a w => ∃ (x_59 : Int) (x_60 : ByteArray) (x_61 : Arr8) (x_62 : Bool), value_Valid.j0 x_59 x_60 x_61 x_62 = some r ∧ Kn 40 a [(3, .pointer (some ⟨b_2, 0, none⟩)), (4, .bool x_62)] ∧ St [] w0 w (fun _ => none) [.cells b_2 [.int .i64 0, .int .i64 x_59, .string x_60, .int .i64 x_61.a0, .int .i64 x_61.a1, .int .i64 x_61.a2, .int .i64 x_61.a3, .int .i64 x_61.a4, .int .i64 x_61.a5, .int .i64 x_61.a6, .int .i64 x_61.a7] 46]) ?_ ?_
  · refine wp_cond_split (hK.ev rfl) (fun (hb_64 : (a0.Kind == 1) = true) => ?_) (fun (hb_64 : (a0.Kind == 1) = false) => ?_)
    · rw [ifb_t hb_64] at H
      refine wp_region_lit ?_
      refine sl hK (by decide) rfl rfl (r_fieldAddr Try.underlying46 rfl Try.sizeOf3 hK rfl) fun a hK => ?_
      refine sl_store1 (c' := [.int .i64 0, .int .i64 0, .string a0.S, .int .i64 a0.H.a0, .int .i64 a0.H.a1, .int .i64 a0.H.a2, .int .i64 a0.H.a3, .int .i64 a0.H.a4, .int .i64 a0.H.a5, .int .i64 a0.H.a6, .int .i64 a0.H.a7]) Try.sizeOf3 hS hK rfl rfl rfl rfl (Nat.le_of_ble_eq_true rfl) rfl fun a w hS hK => ?_
      refine wpList_nil ?_
      exact ⟨0, a0.S, a0.H, true, H, hK.sub (all_cons rfl (all_cons rfl (all_nil))), hS.trunc 1⟩
    · rw [ifb_f hb_64] at H
      refine wp_seq ?_
      refine wp_region_lit ?_
      refine sl hK (by decide) rfl rfl (r_ibin hK rfl rfl rfl) fun a hK => ?_
      refine sl hK (by decide) rfl rfl (r_assign hK rfl) fun a hK => ?_
      refine wpList_nil ?_
      refine wp_mid (fun a w => ∃ (x_90 : Int) (x_91 : ByteArray) (x_92 : Arr8) (x_93 : Bool), value_Valid.j1 x_90 x_91 x_92 x_93 = some r ∧ Kn 40 a [(3, .pointer (some ⟨b_2, 0, none⟩)), (4, .bool x_93)] ∧ St [] w0 w (fun _ => none) [.cells b_2 [.int .i64 0, .int .i64 x_90, .string x_91, .int .i64 x_92.a0, .int .i64 x_92.a1, .int .i64 x_92.a2, .int .i64 x_92.a3, .int .i64 x_92.a4, .int .i64 x_92.a5, .int .i64 x_92.a6, .int .i64 x_92.a7] 46]) ?_ ?_
      · refine wp_cond_split (hK.ev rfl) (fun (hb_95 : (a0.Kind == 2) = true) => ?_) (fun (hb_95 : (a0.Kind == 2) = false) => ?_)
        · rw [ifb_t hb_95] at H
          refine wp_seq ?_
          refine wp_region_lit ?_
          refine sl hK (by decide) rfl rfl (r_fieldAddr Try.underlying46 rfl Try.sizeOf9 hK rfl) fun a hK => ?_
          refine sl_store1 (c' := [.int .i64 0, .int .i64 a0.N, .string (⟨#[]⟩ : ByteArray), .int .i64 a0.H.a0, .int .i64 a0.H.a1, .int .i64 a0.H.a2, .int .i64 a0.H.a3, .int .i64 a0.H.a4, .int .i64 a0.H.a5, .int .i64 a0.H.a6, .int .i64 a0.H.a7]) Try.sizeOf9 hS hK rfl rfl rfl rfl (Nat.le_of_ble_eq_true rfl) rfl fun a w hS hK => ?_
          refine wpList_nil ?_
          refine wp_region_lit ?_
          refine sl hK (by decide) rfl rfl (r_fieldAddr Try.underlying46 rfl Try.sizeOf9 hK rfl) fun a hK => ?_
          refine sl hK (by decide) rfl rfl (r_load Try.isAgg9 hK rfl (hS.cell (.tail _ (.head _)) rfl)) fun a hK => ?_
          refine sl hK (by decide) rfl rfl (r_len_str Try.underlying9 hK rfl) fun a hK => ?_
          refine sl hK (by decide) rfl rfl (r_ibin hK rfl rfl rfl) fun a hK => ?_
          refine sl hK (by decide) rfl rfl (r_assign hK rfl) fun a hK => ?_
          refine wpList_nil ?_
          exact ⟨a0.N, (⟨#[]⟩ : ByteArray), a0.H, (decide ((a0.S.size : Int) ≤ 64)), H, hK.sub (all_cons rfl (all_cons rfl (all_nil))), hS.trunc 1⟩
        · rw [ifb_f hb_95] at H
          refine wp_seq ?_
          refine wp_region_lit ?_
          refine sl hK (by decide) rfl rfl (r_ibin hK rfl rfl rfl) fun a hK => ?_
          refine sl hK (by decide) rfl rfl (r_assign hK rfl) fun a hK => ?_
          refine wpList_nil ?_
          refine wp_mid (fun a w => ∃ (x_106 : Int) (x_107 : Arr8) (x_108 : Bool), value_Valid.j2 a0 x_106 x_107 x_108 = some r ∧ Kn 40 a [(3, .pointer (some ⟨b_2, 0, none⟩)), (4, .bool x_108)] ∧ St [] w0 w (fun _ => none) [.cells b_2 [.int .i64 0, .int .i64 x_106, .string a0.S, .int .i64 x_107.a0, .int .i64 x_107.a1, .int .i64 x_107.a2, .int .i64 x_107.a3, .int .i64 x_107.a4, .int .i64 x_107.a5, .int .i64 x_107.a6, .int .i64 x_107.a7] 46]) ?_ ?_
          · refine wp_cond_split (hK.ev rfl) (fun (hb_110 : (a0.Kind == 3) = true) => ?_) (fun (hb_110 : (a0.Kind == 3) = false) => ?_)
            · rw [ifb_t hb_110] at H
              refine wp_seq ?_
              refine wp_region_lit ?_
              refine sl hK (by decide) rfl rfl (r_fieldAddr Try.underlying46 rfl Try.sizeOf3 hK rfl) fun a hK => ?_
              refine sl_store1 (c' := [.int .i64 0, .int .i64 0, .string a0.S, .int .i64 a0.H.a0, .int .i64 a0.H.a1, .int .i64 a0.H.a2, .int .i64 a0.H.a3, .int .i64 a0.H.a4, .int .i64 a0.H.a5, .int .i64 a0.H.a6, .int .i64 a0.H.a7]) Try.sizeOf3 hS hK rfl rfl rfl rfl (Nat.le_of_ble_eq_true rfl) rfl fun a w hS hK => ?_
              refine wpList_nil ?_
              refine wp_mid (fun a w => ∃ (x_112 : Bool), value_Valid.j3 a0 x_112 = some r ∧ Kn 40 a [(3, .pointer (some ⟨b_2, 0, none⟩)), (4, .bool x_112)] ∧ St [] w0 w (fun _ => none) [.cells b_2 [.int .i64 0, .int .i64 0, .string a0.S, .int .i64 a0.H.a0, .int .i64 a0.H.a1, .int .i64 a0.H.a2, .int .i64 a0.H.a3, .int .i64 a0.H.a4, .int .i64 a0.H.a5, .int .i64 a0.H.a6, .int .i64 a0.H.a7] 46]) ?_ ?_
              · refine wp_region_lit ?_
                refine sl hK (by decide) rfl rfl (r_fieldAddr Try.underlying46 rfl Try.sizeOf3 hK rfl) fun a hK => ?_
                refine sl hK (by decide) rfl rfl (r_load Try.isAgg3 hK rfl (hS.cell (.tail _ (.head _)) rfl)) fun a hK => ?_
                refine sl hK (by decide) rfl rfl (r_ibin hK rfl rfl rfl) fun a hK => ?_
                refine sl hK (by decide) rfl rfl (r_move hK rfl) fun a hK => ?_
                rcases or_b (a0.N == 0) with hb_114 | hb_114
                · rw [ifb_t hb_114] at H
                  refine sl_skip hK (by decide) (wft hb_114) rfl fun a hK => ?_
                  refine sl_skip hK (by decide) (wft hb_114) rfl fun a hK => ?_
                  refine sl_skip hK (by decide) (wft hb_114) rfl fun a hK => ?_
                  refine sl hK (by decide) rfl rfl (r_pick_t hb_114 hK rfl rfl) fun a hK => ?_
                  refine sl hK (by decide) rfl rfl (r_assign hK rfl) fun a hK => ?_
                  refine wpList_nil ?_
                  exact ⟨true, H, hK.sub (all_cons rfl (all_cons rfl (all_nil))), hS.trunc 1⟩
                · rw [ifb_f hb_114] at H
                  refine sl hK (by decide) (wff hb_114) rfl (r_fieldAddr Try.underlying46 rfl Try.sizeOf3 hK rfl) fun a hK => ?_
                  refine sl hK (by decide) (wff hb_114) rfl (r_load Try.isAgg3 hK rfl (hS.cell (.tail _ (.head _)) rfl)) fun a hK => ?_
                  refine sl hK (by decide) (wff hb_114) rfl (r_ibin hK rfl rfl rfl) fun a hK => ?_
                  refine sl hK (by decide) rfl rfl (r_pick_f hb_114 hK rfl rfl) fun a hK => ?_
                  refine sl hK (by decide) rfl rfl (r_assign hK rfl) fun a hK => ?_
                  refine wpList_nil ?_
                  exact ⟨(a0.N == 1), H, hK.sub (all_cons rfl (all_cons rfl (all_nil))), hS.trunc 1⟩
              · rintro a w ⟨x_112, H, hK, hS⟩
                unfold value_Valid.j3 at H
                exact ⟨0, a0.H, x_112, H, hK.sub (all_cons rfl (all_cons rfl (all_nil))), hS⟩
            · rw [ifb_f hb_110] at H
              refine wp_seq ?_
              refine wp_region_lit ?_
              refine sl hK (by decide) rfl rfl (r_ibin hK rfl rfl rfl) fun a hK => ?_
              refine sl hK (by decide) rfl rfl (r_assign hK rfl) fun a hK => ?_
              refine wpList_nil ?_
              refine wp_mid (fun a w => ∃ (x_116 : Arr8) (x_117 : Bool), value_Valid.j4 a0 x_116 x_117 = some r ∧ Kn 40 a [(3, .pointer (some ⟨b_2, 0, none⟩)), (4, .bool x_117)] ∧ St [] w0 w (fun _ => none) [.cells b_2 [.int .i64 0, .int .i64 a0.N, .string a0.S, .int .i64 x_116.a0, .int .i64 x_116.a1, .int .i64 x_116.a2, .int .i64 x_116.a3, .int .i64 x_116.a4, .int .i64 x_116.a5, .int .i64 x_116.a6, .int .i64 x_116.a7] 46]) ?_ ?_
              · refine wp_cond_split (hK.ev rfl) (fun (hb_119 : (a0.Kind == 4) = true) => ?_) (fun (hb_119 : (a0.Kind == 4) = false) => ?_)
                · rw [ifb_t hb_119] at H
                  refine wp_region_lit ?_
                  refine sl hK (by decide) rfl rfl (r_buildAC (ps := []) (c := [.int .i64 0, .int .i64 0, .int .i64 0, .int .i64 0, .int .i64 0, .int .i64 0, .int .i64 0, .int .i64 0]) Try.underlying44 Try.zeroValue44 Try.sizeOf3 hK rfl pc_nil rfl rfl) fun a hK => ?_
                  refine sl hK (by decide) rfl rfl (r_fieldAddr Try.underlying46 rfl Try.sizeOf44 hK rfl) fun a hK => ?_
                  refine sl_storeA (vs := [.int .i64 0, .int .i64 0, .int .i64 0, .int .i64 0, .int .i64 0, .int .i64 0, .int .i64 0, .int .i64 0]) (c' := [.int .i64 0, .int .i64 a0.N, .string a0.S, .int .i64 0, .int .i64 0, .int .i64 0, .int .i64 0, .int .i64 0, .int .i64 0, .int .i64 0, .int .i64 0]) Try.sizeOf44 hS hK rfl rfl rfl rfl (all_cons rfl (all_cons rfl (all_cons rfl (all_cons rfl (all_cons rfl (all_cons rfl (all_cons rfl (all_cons rfl (all_nil))))))))) (Nat.le_of_ble_eq_true rfl) rfl fun a w hS hK => ?_
                  refine wpList_nil ?_
                  exact ⟨(⟨0, 0, 0, 0, 0, 0, 0, 0⟩ : Arr8), true, H, hK.sub (all_cons rfl (all_cons rfl (all_nil))), hS.trunc 1⟩
                · rw [ifb_f hb_119] at H
                  refine wp_region_lit ?_
                  refine sl hK (by decide) rfl rfl (r_assign hK rfl) fun a hK => ?_
                  refine wpList_nil ?_
                  exact ⟨a0.H, false, H, hK.sub (all_cons rfl (all_cons rfl (all_nil))), hS.trunc 1⟩
              · rintro a w ⟨x_116, x_117, H, hK, hS⟩
                unfold value_Valid.j4 at H
                exact ⟨a0.N, x_116, x_117, H, hK.sub (all_cons rfl (all_cons rfl (all_nil))), hS⟩
          · rintro a w ⟨x_106, x_107, x_108, H, hK, hS⟩
            unfold value_Valid.j2 at H
            exact ⟨x_106, a0.S, x_107, x_108, H, hK.sub (all_cons rfl (all_cons rfl (all_nil))), hS⟩
      · rintro a w ⟨x_90, x_91, x_92, x_93, H, hK, hS⟩
        unfold value_Valid.j1 at H
        exact ⟨x_90, x_91, x_92, x_93, H, hK.sub (all_cons rfl (all_cons rfl (all_nil))), hS⟩
  · rintro a w ⟨x_59, x_60, x_61, x_62, H, hK, hS⟩
    unfold value_Valid.j0 at H
    refine wp_seq ?_
    refine wp_region_lit ?_
    refine sl hK (by decide) rfl rfl (r_move hK rfl) fun a hK => ?_
    refine sl hK (by decide) rfl rfl (r_move hK rfl) fun a hK => ?_
    rcases or_b x_62 with hb_120 | hb_120
    · rw [ifb_t hb_120] at H
      refine sl hK (by decide) (wtt hb_120) rfl (r_loadA (cs := [.int .i64 0, .int .i64 x_59, .string x_60, .int .i64 x_61.a0, .int .i64 x_61.a1, .int .i64 x_61.a2, .int .i64 x_61.a3, .int .i64 x_61.a4, .int .i64 x_61.a5, .int .i64 x_61.a6, .int .i64 x_61.a7]) Try.isAgg46 Try.sizeOf46 rfl hK rfl (hS.cells_of (m := 11) (.head _) rfl)) fun a hK => ?_
      refine sl hK (by decide) (wtt hb_120) rfl (r_buildC (ps := []) (c := [.int .i64 0, .int .i64 0, .string (⟨#[]⟩ : ByteArray), .int .i64 0, .int .i64 0, .int .i64 0, .int .i64 0, .int .i64 0, .int .i64 0, .int .i64 0, .int .i64 0]) Try.underlying46 Try.zeroValue46 places46 hK rfl pc_nil rfl rfl) fun a hK => ?_
      refine sl hK (by decide) (wtt hb_120) rfl (r_seq (by kernel_rfl) (eqs46 (⟨0, x_59, x_60, x_61⟩ : api_Value) (⟨0, 0, (⟨#[]⟩ : ByteArray), (⟨0, 0, 0, 0, 0, 0, 0, 0⟩ : Arr8)⟩ : api_Value)) hK rfl rfl) fun a hK => ?_
      refine sl hK (by decide) rfl rfl (r_pick_t hb_120 hK rfl rfl) fun a hK => ?_
      refine sl hK (by decide) rfl rfl (r_assign hK rfl) fun a hK => ?_
      refine wpList_nil ?_
      obtain rfl := Option.some.inj H
      refine wp_ret ?_
      repeat (first | refine ret_then ?_ | refine ret_block ?_ | refine ret_scope ?_)
      exact ret_1 Try.results33 hK (rv_tmp hK rfl) ⟨rfl, hS.bel⟩
    · rw [ifb_f hb_120] at H
      refine sl_skip hK (by decide) (wtf hb_120) rfl fun a hK => ?_
      refine sl_skip hK (by decide) (wtf hb_120) rfl fun a hK => ?_
      refine sl_skip hK (by decide) (wtf hb_120) rfl fun a hK => ?_
      refine sl hK (by decide) rfl rfl (r_pick_f hb_120 hK rfl rfl) fun a hK => ?_
      refine sl hK (by decide) rfl rfl (r_assign hK rfl) fun a hK => ?_
      refine wpList_nil ?_
      obtain rfl := Option.some.inj H
      refine wp_ret ?_
      repeat (first | refine ret_then ?_ | refine ret_block ?_ | refine ret_scope ?_)
      exact ret_1 Try.results33 hK (rv_tmp hK rfl) ⟨rfl, hS.bel⟩

/-! ### catchment/table.Check: function 18 -/
set_option maxHeartbeats 4000000 in
set_option maxRecDepth 100000 in
theorem table_Check.calls (a0 : api_Table) {w0 : World} {RA : Hp} {v0_0 : Value} {v0_1 : Value} (hRA : RA.sub w0) (h0_0 : SlR ty_api_Col RA v0_0 a0.Cols) (h0_1 : SlR (tySl ty_api_Value) RA v0_1 a0.Rows) {r : Int} (H : table_Check a0 = some r) : CallsV Try.prog 18 #[.agg #[v0_0, v0_1]] w0 (.int .i64 r) := by
  unfold table_Check at H
  refine enter (args := [.agg #[v0_0, v0_1]]) Try.func18 rfl Try.ntmps18 rfl fun a hK => ?_
  have hS := St.init (R := fun _ => none) (w := w0) (fun _ _ h => by cases h)
  have hRL := RLe.refl (M := []) w0 (fun _ => none)
  refine wp_seq ?_
  refine wp_region_lit ?_
  refine sl_box hS hK (by decide) rfl rfl (c := [v0_0, v0_1]) rfl fun a w b_1 hS hK => ?_
  refine sl hK (by decide) rfl rfl (r_assign hK rfl) fun a hK => ?_
  refine wpList_nil ?_
  refine wp_seq ?_
  refine wp_seq ?_
  refine wp_region_lit ?_
  refine sl hK (by decide) rfl rfl (r_fieldAddr Try.underlying25 rfl Try.sizeOf22 hK rfl) fun a hK => ?_
  refine sl hK (by decide) rfl rfl (r_load Try.isAgg22 hK rfl (hS.cell (.head _) rfl)) fun a hK => ?_
  obtain ⟨y_2, h_3, H⟩ := bind_some H
  refine sl_callV Try.call32 hS hK (by decide) rfl rfl rfl (table_columns.calls a0.Cols (lentOf_sub [] _) (h0_0.mono (hS.raLe0 hRA nil_not)) h_3) fun a w hS hK => ?_
  refine sl hK (by decide) rfl rfl (r_un hK rfl (u_not _)) fun a hK => ?_
  refine wpList_nil ?_
  refine wp_cond_split (hK.ev rfl) (fun (hb_4 : (!y_2) = true) => ?_) (fun (hb_4 : (!y_2) = false) => ?_)
  · rw [ifb_t hb_4] at H
    refine wp_seq ?_
    refine wp_region_lit ?_
    refine sl hK (by decide) rfl rfl (r_assign hK rfl) fun a hK => ?_
    refine wpList_nil ?_
    obtain rfl := Option.some.inj H
    refine wp_ret ?_
    repeat (first | refine ret_then ?_ | refine ret_block ?_ | refine ret_scope ?_)
    exact ret_1 Try.results18 hK (rv_tmp hK rfl) ⟨rfl, hS.bel⟩
  · rw [ifb_f hb_4] at H
    refine wp_skip ?_
    refine wp_seq ?_
    refine wp_seq ?_
    refine wp_region_lit ?_
    refine sl hK (by decide) rfl rfl (r_fieldAddr Try.underlying25 rfl Try.sizeOf23 hK rfl) fun a hK => ?_
    refine sl hK (by decide) rfl rfl (r_load Try.isAgg23 hK rfl (hS.cell (.head _) rfl)) fun a hK => ?_
    refine sl hK (by decide) rfl rfl (r_len_R Try.underlying23 h0_1 hK rfl) fun a hK => ?_
    refine sl hK (by decide) rfl rfl (r_move hK rfl) fun a hK => ?_
    refine wpList_nil ?_
    refine wp_block ?_
    refine wp_loop_k (fun k_l0 a w => ∃ (x_208 : Int), table_Check.l0 a0 k_l0 x_208 = some r ∧ Kn 47 a [(1, .pointer (some ⟨b_1, 0, none⟩)), (12, v0_1), (13, .int .i64 (a0.Rows.length : Int)), (14, .int .i64 x_208)] ∧ St [] w0 w (fun _ => none) [.cells b_1 [v0_0, v0_1] 25]) (((a0.Rows.length : Int) - 0).toNat + 1) ?_ ?_
    · exact ⟨0, H, hK.sub (all_cons rfl (all_cons rfl (all_cons rfl (all_cons rfl (all_nil))))), hS⟩
    · rintro k_l0 a w ⟨x_208, H, hK, hS⟩
      cases k_l0 with
      | zero => cases H
      | succ k_l0 =>
      rw [table_Check.l0.eq_2] at H
      refine wp_seq ?_
      refine wp_region_lit ?_
      refine sl hK (by decide) rfl rfl (r_ibin hK rfl rfl rfl) fun a hK => ?_
      refine wpList_nil ?_
      refine wp_seq ?_
      refine wp_cond_split (hK.ev rfl) (fun (hb_412 : (decide (x_208 < (a0.Rows.length : Int))) = true) => ?_) (fun (hb_412 : (decide (x_208 < (a0.Rows.length : Int))) = false) => ?_)
      · rw [ifb_t hb_412] at H
        refine wp_skip ?_
        refine wp_seq ?_
        refine wp_block ?_
        refine wp_seq ?_
        refine wp_region_lit ?_
        obtain ⟨y_413, h_414, H⟩ := bind_some H
        obtain ⟨b_415, o_416, c_417, cs_418, hv_419, hr_420, hc_421, h_4140, h_4141⟩ := h0_1.ix h_414
        obtain ⟨v_422, rfl, hs_423⟩ := hr_420
        refine sl hK (by decide) rfl rfl (r_indexAddr_R Try.underlying23 Try.sizeOf40 hv_419 h_4140 h_4141 hK rfl rfl) fun a hK => ?_
        refine sl hK (by decide) rfl rfl (r_load Try.isAgg40 hK rfl ((hS.ra hRA nil_not).cell (hc_421 0 _ rfl))) fun a hK => ?_
        refine sl hK (by decide) rfl rfl (r_assign hK rfl) fun a hK => ?_
        refine wpList_nil ?_
        refine wp_seq ?_
        refine wp_seq ?_
        refine wp_region_lit ?_
        refine sl hK (by decide) rfl rfl (r_move hK rfl) fun a hK => ?_
        refine sl hK (by decide) rfl rfl (r_len_R Try.underlying40 hs_423 hK rfl) fun a hK => ?_
        refine sl hK (by decide) rfl rfl (r_fieldAddr Try.underlying25 rfl Try.sizeOf22 hK rfl) fun a hK => ?_
        refine sl hK (by decide) rfl rfl (r_load Try.isAgg22 hK rfl (hS.cell (.head _) rfl)) fun a hK => ?_
        refine sl hK (by decide) rfl rfl (r_len_R Try.underlying22 h0_0 hK rfl) fun a hK => ?_
        refine sl hK (by decide) rfl rfl (r_ibin hK rfl rfl rfl) fun a hK => ?_
        refine wpList_nil ?_
        refine wp_cond_split (hK.ev rfl) (fun (hb_424 : ((y_413.length : Int) != (a0.Cols.length : Int)) = true) => ?_) (fun (hb_424 : ((y_413.length : Int) != (a0.Cols.length : Int)) = false) => ?_)
        · rw [ifb_t hb_424] at H
          refine wp_seq ?_
          refine wp_region_lit ?_
          refine sl hK (by decide) rfl rfl (r_assign hK rfl) fun a hK => ?_
          refine wpList_nil ?_
          obtain rfl := Option.some.inj H
          refine wp_ret ?_
          repeat (first | refine ret_then ?_ | refine ret_block ?_ | refine ret_scope ?_)
          exact ret_1 Try.results18 hK (rv_tmp hK rfl) ⟨rfl, hS.bel⟩
        · rw [ifb_f hb_424] at H
          refine wp_skip ?_
          refine wp_seq ?_
          refine wp_region_lit ?_
          refine sl hK (by decide) rfl rfl (r_move hK rfl) fun a hK => ?_
          refine sl hK (by decide) rfl rfl (r_len_R Try.underlying40 hs_423 hK rfl) fun a hK => ?_
          refine sl hK (by decide) rfl rfl (r_move hK rfl) fun a hK => ?_
          refine wpList_nil ?_
          refine wp_block ?_
          refine wp_loop_k (fun k_l1 a w => ∃ (x_488 : Int), table_Check.l1 (table_Check.l0 a0 k_l0) a0 x_208 y_413 k_l1 x_488 = some r ∧ Kn 47 a [(1, .pointer (some ⟨b_1, 0, none⟩)), (12, v0_1), (13, .int .i64 (a0.Rows.length : Int)), (14, .int .i64 x_208), (24, v_422), (25, .int .i64 (y_413.length : Int)), (26, .int .i64 x_488)] ∧ St [] w0 w (fun _ => none) [.cells b_1 [v0_0, v0_1] 25]) (((y_413.length : Int) - 0).toNat + 1) ?_ ?_
          · exact ⟨0, H, hK.sub (all_cons rfl (all_cons rfl (all_cons rfl (all_cons rfl (all_cons rfl (all_cons rfl (all_cons rfl (all_nil)))))))), hS⟩
          · rintro k_l1 a w ⟨x_488, H, hK, hS⟩
            cases k_l1 with
            | zero => cases H
            | succ k_l1 =>
            rw [table_Check.l1.eq_2] at H
            refine wp_seq ?_
            refine wp_region_lit ?_
            refine sl hK (by decide) rfl rfl (r_ibin hK rfl rfl rfl) fun a hK => ?_
            refine wpList_nil ?_
            refine wp_seq ?_
            refine wp_cond_split (hK.ev rfl) (fun (hb_552 : (decide (x_488 < (y_413.length : Int))) = true) => ?_) (fun (hb_552 : (decide (x_488 < (y_413.length : Int))) = false) => ?_)
            · rw [ifb_t hb_552] at H
              refine wp_skip ?_
              refine wp_seq ?_
              refine wp_block ?_
              refine wp_seq ?_
              refine wp_region_lit ?_
              refine sl hK (by decide) rfl rfl (r_move hK rfl) fun a hK => ?_
              obtain ⟨y_553, h_554, H⟩ := bind_some H
              obtain ⟨b_555, o_556, c_557, cs_558, hv_559, hr_560, hc_561, h_5540, h_5541⟩ := hs_423.ix h_554
              subst hr_560
              refine sl hK (by decide) rfl rfl (r_indexAddr_R Try.underlying40 Try.sizeOf46 hv_559 h_5540 h_5541 hK rfl rfl) fun a hK => ?_
              refine sl hK (by decide) rfl rfl (r_loadA (cs := [.int .i64 y_553.Kind, .int .i64 y_553.N, .string y_553.S, .int .i64 y_553.H.a0, .int .i64 y_553.H.a1, .int .i64 y_553.H.a2, .int .i64 y_553.H.a3, .int .i64 y_553.H.a4, .int .i64 y_553.H.a5, .int .i64 y_553.H.a6, .int .i64 y_553.H.a7]) Try.isAgg46 Try.sizeOf46 rfl hK rfl (fun j v hv => (hS.ra hRA nil_not).cell (hc_561 j v hv))) fun a hK => ?_
              refine sl_alloc Try.zeroValue46 hS hK (by decide) rfl rfl fun a w b_562 hS hK => ?_
              refine sl hK (by decide) rfl rfl (r_assign hK rfl) fun a hK => ?_
              refine sl_storeA (vs := [.int .i64 y_553.Kind, .int .i64 y_553.N, .string y_553.S, .int .i64 y_553.H.a0, .int .i64 y_553.H.a1, .int .i64 y_553.H.a2, .int .i64 y_553.H.a3, .int .i64 y_553.H.a4, .int .i64 y_553.H.a5, .int .i64 y_553.H.a6, .int .i64 y_553.H.a7]) (c' := [.int .i64 y_553.Kind, .int .i64 y_553.N, .string y_553.S, .int .i64 y_553.H.a0, .int .i64 y_553.H.a1, .int .i64 y_553.H.a2, .int .i64 y_553.H.a3, .int .i64 y_553.H.a4, .int .i64 y_553.H.a5, .int .i64 y_553.H.a6, .int .i64 y_553.H.a7]) Try.sizeOf46 hS hK rfl rfl rfl rfl (all_cons rfl (all_cons rfl (all_cons rfl (all_cons rfl (all_cons rfl (all_cons rfl (all_cons rfl (all_cons rfl (all_cons rfl (all_cons rfl (all_cons rfl (all_nil)))))))))))) (Nat.le_of_ble_eq_true rfl) rfl fun a w hS hK => ?_
              refine wpList_nil ?_
              refine wp_seq ?_
              refine wp_mid (fun a w => ∃ (x_587 : Bool), table_Check.j2 (table_Check.l1 (table_Check.l0 a0 k_l0) a0 x_208 y_413 k_l1) y_413 x_488 x_587 = some r ∧ Kn 47 a [(1, .pointer (some ⟨b_1, 0, none⟩)), (12, v0_1), (13, .int .i64 (a0.Rows.length : Int)), (14, .int .i64 x_208), (24, v_422), (25, .int .i64 (y_413.length : Int)), (26, .int .i64 x_488), (44, .bool x_587)] ∧ St [] w0 w (fun _ => none) [.cells b_1 [v0_0, v0_1] 25]) ?_ ?_
              · refine parT_region (C := fun w => St [] w0 w (fun _ => none) [.cells b_562 [.int .i64 y_553.Kind, .int .i64 y_553.N, .string y_553.S, .int .i64 y_553.H.a0, .int .i64 y_553.H.a1, .int .i64 y_553.H.a2, .int .i64 y_553.H.a3, .int .i64 y_553.H.a4, .int .i64 y_553.H.a5, .int .i64 y_553.H.a6, .int .i64 y_553.H.a7] 46, .cells b_1 [v0_0, v0_1] 25]) 8 [(0, true), (1, true), (2, true), (3, true), (4, true), (5, true), (6, true), (7, true)] mixed (by kernel_rfl) hS (fun w hS => hS) fun w hS => ?_
                refine sp (k := 0) rfl hK (by decide) rfl rfl (fun w hS => r_fieldAddr Try.underlying46 rfl Try.sizeOf3 hK rfl) fun a hK => ?_
                refine sp (k := 1) rfl hK (by decide) rfl rfl (fun w hS => r_load Try.isAgg3 hK rfl (hS.cell (.head _) rfl)) fun a hK => ?_
                refine sp (k := 2) rfl hK (by decide) rfl rfl (fun w hS => r_fieldAddr Try.underlying25 rfl Try.sizeOf22 hK rfl) fun a hK => ?_
                refine sp (k := 3) rfl hK (by decide) rfl rfl (fun w hS => r_load Try.isAgg22 hK rfl (hS.cell (.tail _ (.head _)) rfl)) fun a hK => ?_
                refine sp (k := 4) rfl hK (by decide) rfl rfl (fun w hS => r_move hK rfl) fun a hK => ?_
                obtain ⟨y_601, h_602, H⟩ := bind_some H
                obtain ⟨b_603, o_604, c_605, cs_606, hv_607, hr_608, hc_609, h_6020, h_6021⟩ := h0_0.ix h_602
                subst hr_608
                refine sp (k := 5) rfl hK (by decide) rfl rfl (fun w hS => r_indexAddr_R Try.underlying22 Try.sizeOf34 hv_607 h_6020 h_6021 hK rfl rfl) fun a hK => ?_
                refine sp (k := 6) rfl hK (by decide) rfl rfl (fun w hS => r_fieldAddr Try.underlying34 rfl Try.sizeOf3 hK rfl) fun a hK => ?_
                refine sp (k := 7) rfl hK (by decide) rfl rfl (fun w hS => r_load Try.isAgg3 hK rfl ((hS.ra hRA nil_not).cell (hc_609 1 _ rfl))) fun a hK => ?_
                refine thenL_nil ?_
                refine sl hK (by decide) rfl rfl (r_ibin hK rfl rfl rfl) fun a hK => ?_
                refine sl hK (by decide) rfl rfl (r_move hK rfl) fun a hK => ?_
                rcases or_b (y_553.Kind != y_601.Kind) with hb_610 | hb_610
                · rw [ifb_t hb_610] at H
                  refine sl_skip hK (by decide) (wft hb_610) rfl fun a hK => ?_
                  refine sl_skip hK (by decide) (wft hb_610) rfl fun a hK => ?_
                  refine sl_skip hK (by decide) (wft hb_610) rfl fun a hK => ?_
                  refine sl hK (by decide) rfl rfl (r_pick_t hb_610 hK rfl rfl) fun a hK => ?_
                  refine wpList_nil (NoP_nil ?_)
                  have hS := hS.pk1
                  exact ⟨true, H, hK.sub (all_cons rfl (all_cons rfl (all_cons rfl (all_cons rfl (all_cons rfl (all_cons rfl (all_cons rfl (all_cons rfl (all_nil))))))))), hS.trunc 1⟩
                · rw [ifb_f hb_610] at H
                  refine sl hK (by decide) (wff hb_610) rfl (r_loadA (cs := [.int .i64 y_553.Kind, .int .i64 y_553.N, .string y_553.S, .int .i64 y_553.H.a0, .int .i64 y_553.H.a1, .int .i64 y_553.H.a2, .int .i64 y_553.H.a3, .int .i64 y_553.H.a4, .int .i64 y_553.H.a5, .int .i64 y_553.H.a6, .int .i64 y_553.H.a7]) Try.isAgg46 Try.sizeOf46 rfl hK rfl (hS.cells_of (m := 11) (.head _) rfl)) fun a hK => ?_
                  obtain ⟨y_611, h_612, H⟩ := bind_some H
                  refine sl_callV Try.call33 hS hK (by decide) (wff hb_610) rfl rfl (value_Valid.calls y_553 h_612 _) fun a w hS hK => ?_
                  refine sl hK (by decide) (wff hb_610) rfl (r_un hK rfl (u_not _)) fun a hK => ?_
                  refine sl hK (by decide) rfl rfl (r_pick_f hb_610 hK rfl rfl) fun a hK => ?_
                  refine wpList_nil (NoP_nil ?_)
                  have hS := hS.pk1
                  exact ⟨(!y_611), H, hK.sub (all_cons rfl (all_cons rfl (all_cons rfl (all_cons rfl (all_cons rfl (all_cons rfl (all_cons rfl (all_cons rfl (all_nil))))))))), hS.trunc 1⟩
              · rintro a w ⟨x_587, H, hK, hS⟩
                unfold table_Check.j2 at H
                refine wp_cond_split (hK.ev rfl) (fun (hb_613 : x_587 = true) => ?_) (fun (hb_613 : x_587 = false) => ?_)
                · rw [ifb_t hb_613] at H
                  refine wp_seq ?_
                  refine wp_region_lit ?_
                  refine sl hK (by decide) rfl rfl (r_assign hK rfl) fun a hK => ?_
                  refine wpList_nil ?_
                  obtain rfl := Option.some.inj H
                  refine wp_ret ?_
                  repeat (first | refine ret_then ?_ | refine ret_block ?_ | refine ret_scope ?_)
                  exact ret_1 Try.results18 hK (rv_tmp hK rfl) ⟨rfl, hS.bel⟩
                · rw [ifb_f hb_613] at H
                  refine wp_skip ?_
                  refine wp_region_lit ?_
                  refine sl hK (by decide) rfl rfl (r_ibin hK rfl rfl rfl) fun a hK => ?_
                  refine sl hK (by decide) rfl rfl (r_move hK rfl) fun a hK => ?_
                  refine wpList_nil ?_
                  exact ⟨_, Nat.lt_succ_self _, (IntKind.i64.wrap (x_488 + 1)), H, hK.sub (all_cons rfl (all_cons rfl (all_cons rfl (all_cons rfl (all_cons rfl (all_cons rfl (all_cons rfl (all_nil)))))))), hS⟩
            · rw [ifb_f hb_552] at H
              refine wp_exit ?_
              refine wp_region_lit ?_
              refine sl hK (by decide) rfl rfl (r_ibin hK rfl rfl rfl) fun a hK => ?_
              refine sl hK (by decide) rfl rfl (r_move hK rfl) fun a hK => ?_
              refine wpList_nil ?_
              exact ⟨_, Nat.lt_succ_self _, (IntKind.i64.wrap (x_208 + 1)), H, hK.sub (all_cons rfl (all_cons rfl (all_cons rfl (all_cons rfl (all_nil))))), hS⟩
      · rw [ifb_f hb_412] at H
        refine wp_exit ?_
        refine wp_seq ?_
        refine wp_region_lit ?_
        refine sl hK (by decide) rfl rfl (r_assign hK rfl) fun a hK => ?_
        refine wpList_nil ?_
        obtain rfl := Option.some.inj H
        refine wp_ret ?_
        repeat (first | refine ret_then ?_ | refine ret_block ?_ | refine ret_scope ?_)
        exact ret_1 Try.results18 hK (rv_tmp hK rfl) ⟨rfl, hS.bel⟩

/-! ### slices.Clone[[]catchment/api.Col,catchment/api.Col]: function 34 -/
set_option maxHeartbeats 4000000 in
set_option maxRecDepth 100000 in
theorem slices_Clone_api_Col_api_Col.calls (a0 : List api_Col) {w0 : World} {R : Hp} {RA : Hp} {v0_0 : Value} (hRA : RA.sub w0) (hR : R.sub w0) (h0_0 : SlR ty_api_Col RA v0_0 a0) {r : List api_Col} (H : slices_Clone_api_Col_api_Col a0 = some r) : Calls Try.prog 34 #[v0_0] w0 (Rets fun v w' => ∃ (R' : Hp) (u0 : Value) (cu0 : List Value), v = u0 ∧ St [] w0 w' R' [.row 34 2 u0 r.length cu0] ∧ RLe [] w0 R R' ∧ Reps ty_api_Col R' cu0 r) := by
  unfold slices_Clone_api_Col_api_Col at H
  rcases SlR.nilcase h0_0 with ⟨hn, hx⟩ | ⟨ad_, m_, c_, hn⟩
  · subst hx
    have H : some ([] : List api_Col) = some r := by simpa [apd] using H
    refine enter (args := [v0_0]) Try.func34 rfl Try.ntmps34 rfl fun a hK => ?_
    have hS := St.init hR
    have hRL := RLe.refl (M := []) w0 R
    refine wp_seq ?_
    refine wp_region_lit ?_
    refine sl hK (by decide) rfl rfl (r_assign hK rfl) fun a hK => ?_
    refine wpList_nil ?_
    refine wp_seq ?_
    refine wp_seq ?_
    refine wp_region_lit ?_
    refine sl hK (by decide) rfl rfl (r_move hK rfl) fun a hK => ?_
    refine sl hK (by decide) rfl rfl (r_sleqN Try.underlying22 hn hK rfl rfl) fun a hK => ?_
    refine wpList_nil ?_
    refine wp_cond_true (hK.ev rfl) ?_
    refine wp_seq ?_
    refine wp_region_lit ?_
    refine sl hK (by decide) rfl rfl (r_assign hK rfl) fun a hK => ?_
    refine wpList_nil ?_
    have hS := hS.row_nil 34 2
    have hq_11 : Reps ty_api_Col R [] ([] : List api_Col) := Reps.nil _ _
    obtain rfl := Option.some.inj H
    refine wp_ret ?_
    repeat (first | refine ret_then ?_ | refine ret_block ?_ | refine ret_scope ?_)
    exact ret_1 Try.results34 hK (rv_tmp hK rfl) ⟨_, rfl, _, _, _, rfl, hS, hRL, hq_11⟩
  · refine enter (args := [v0_0]) Try.func34 rfl Try.ntmps34 rfl fun a hK => ?_
    have hS := St.init hR
    have hRL := RLe.refl (M := []) w0 R
    refine wp_seq ?_
    refine wp_region_lit ?_
    refine sl hK (by decide) rfl rfl (r_assign hK rfl) fun a hK => ?_
    refine wpList_nil ?_
    refine wp_seq ?_
    refine wp_seq ?_
    refine wp_region_lit ?_
    refine sl hK (by decide) rfl rfl (r_move hK rfl) fun a hK => ?_
    refine sl hK (by decide) rfl rfl (r_sleqS Try.underlying22 hn hK rfl rfl) fun a hK => ?_
    refine wpList_nil ?_
    refine wp_cond_false (hK.ev rfl) ?_
    refine wp_skip ?_
    refine wp_seq ?_
    refine wp_region_lit ?_
    refine sl_buildSliceC (zc := [.string (⟨#[]⟩ : ByteArray), .int .i64 0]) (zs := []) (ps := []) (c := []) Try.underlying22 Try.sizeOf34 Try.zeroValue34 rfl pc_nil rfl rfl (by decide) (by kernel_rfl) rfl hS hK (by decide) rfl fun a w b_1 hS hK => ?_
    refine sl hK (by decide) rfl rfl (r_move hK rfl) fun a hK => ?_
    obtain ⟨y_4, h_5, H⟩ := bind_some H
    have hS := hS.row_lit (size := 2) (m := 0) rfl (by decide)
    have hq_3 : Reps ty_api_Col R [] ([] : List api_Col) := (Reps.nil _ _)
    refine sl_append_A elT22 (by decide) rfl (fun _ _ _ _ h => h) (hS.ra hRA nil_not) hq_3 rfl h0_0 h_5 hS hK (by decide) rfl rfl rfl fun a w v_6 cs_7 hq_8 hS hK => ?_
    refine sl hK (by decide) rfl rfl (r_assign hK rfl) fun a hK => ?_
    refine wpList_nil ?_
    obtain rfl := Option.some.inj H
    refine wp_ret ?_
    repeat (first | refine ret_then ?_ | refine ret_block ?_ | refine ret_scope ?_)
    exact ret_1 Try.results34 hK (rv_tmp hK rfl) ⟨_, rfl, _, _, _, rfl, hS, hRL, hq_8⟩

/-! ### catchment/join.Cols: function 19 -/
set_option maxHeartbeats 4000000 in
set_option maxRecDepth 100000 in
theorem join_Cols.calls (a0 : List api_Col) (a1 : List api_Col) {w0 : World} {R : Hp} {RA : Hp} {v0_0 : Value} {v1_0 : Value} (hRA : RA.sub w0) (hR : R.sub w0) (h0_0 : SlR ty_api_Col RA v0_0 a0) (h1_0 : SlR ty_api_Col RA v1_0 a1) {r : (List api_Col) × Bool} (H : join_Cols a0 a1 = some r) : Calls Try.prog 19 #[v0_0, v1_0] w0 (Rets fun v w' => ∃ (R' : Hp) (u0 : Value) (cu0 : List Value), v = .tuple #[u0, .bool r.2] ∧ St [] w0 w' R' [.row 34 2 u0 r.1.length cu0] ∧ RLe [] w0 R R' ∧ Reps ty_api_Col R' cu0 r.1) := by
  unfold join_Cols at H
  refine enter (args := [v0_0, v1_0]) Try.func19 rfl Try.ntmps19 rfl fun a hK => ?_
  have hS := St.init hR
  have hRL := RLe.refl (M := []) w0 R
  refine wp_seq ?_
  refine wp_region_lit ?_
  refine sl hK (by decide) rfl rfl (r_assign hK rfl) fun a hK => ?_
  refine sl hK (by decide) rfl rfl (r_assign hK rfl) fun a hK => ?_
  refine wpList_nil ?_
  refine wp_seq ?_
  refine wp_region_lit ?_
  refine sl hK (by decide) rfl rfl (r_move hK rfl) fun a hK => ?_
  obtain ⟨y_1, h_2, H⟩ := bind_some H
  refine sl_call Try.call34 hK (by decide) rfl rfl rfl (slices_Clone_api_Col_api_Col.calls a0 (lentOf_sub [] _) hS.sub (h0_0.mono (hS.raLe0 hRA nil_not)) h_2) fun a v_ w hv_ hK => ?_
  obtain ⟨R_3, v_6, cs_7, hv_, hr_, hl_4, hq_8⟩ := hv_
  have hv_ := hv_.symm
  subst hv_
  obtain ⟨hS, hl_4⟩ := hS.sp0.back hr_ hl_4
  have hS := hS.un1
  have hRL := hRL.trans hl_4
  refine sl hK (by decide) rfl rfl (r_assign hK rfl) fun a hK => ?_
  refine wpList_nil ?_
  refine wp_seq ?_
  refine wp_seq ?_
  refine wp_region_lit ?_
  refine sl hK (by decide) rfl rfl (r_move hK rfl) fun a hK => ?_
  refine sl hK (by decide) rfl rfl (r_len_R Try.underlying22 h1_0 hK rfl) fun a hK => ?_
  refine sl hK (by decide) rfl rfl (r_move hK rfl) fun a hK => ?_
  refine wpList_nil ?_
  refine wp_block ?_
  refine wp_loop_k (fun k_l0 a w => ∃ (x_136 : List api_Col) (x_140 : Int) (v_137 : Value) (cs_138 : List Value), join_Cols.l0 a0 a1 k_l0 x_136 x_140 = some r ∧ Reps ty_api_Col R_3 cs_138 x_136 ∧ Kn 58 a [(0, v0_0), (1, v1_0), (6, v_137), (12, v1_0), (13, .int .i64 (a1.length : Int)), (14, .int .i64 x_140)] ∧ St [] w0 w R_3 [.row 34 2 v_137 x_136.length cs_138]) (((a1.length : Int) - 0).toNat + 1) ?_ ?_
  · exact ⟨y_1, 0, _, _, H, hq_8, hK.sub (all_cons rfl (all_cons rfl (all_cons rfl (all_cons rfl (all_cons rfl (all_cons rfl (all_nil))))))), hS⟩
  · rintro k_l0 a w ⟨x_136, x_140, v_137, cs_138, H, hq_139, hK, hS⟩
    cases k_l0 with
    | zero => cases H
    | succ k_l0 =>
    rw [join_Cols.l0.eq_2] at H
    refine wp_seq ?_
    refine wp_region_lit ?_
    refine sl hK (by decide) rfl rfl (r_ibin hK rfl rfl rfl) fun a hK => ?_
    refine wpList_nil ?_
    refine wp_seq ?_
    refine wp_cond_split (hK.ev rfl) (fun (hb_267 : (decide (x_140 < (a1.length : Int))) = true) => ?_) (fun (hb_267 : (decide (x_140 < (a1.length : Int))) = false) => ?_)
    · rw [ifb_t hb_267] at H
      refine wp_skip ?_
      refine wp_seq ?_
      refine wp_block ?_
      refine wp_seq ?_
      refine wp_region_lit ?_
      obtain ⟨y_268, h_269, H⟩ := bind_some H
      obtain ⟨b_270, o_271, c_272, cs_273, hv_274, hr_275, hc_276, h_2690, h_2691⟩ := h1_0.ix h_269
      subst hr_275
      refine sl hK (by decide) rfl rfl (r_indexAddr_R Try.underlying22 Try.sizeOf34 hv_274 h_2690 h_2691 hK rfl rfl) fun a hK => ?_
      refine sl hK (by decide) rfl rfl (r_loadA (cs := [.string y_268.Name, .int .i64 y_268.Kind]) Try.isAgg34 Try.sizeOf34 rfl hK rfl (fun j v hv => (hS.ra hRA nil_not).cell (hc_276 j v hv))) fun a hK => ?_
      refine sl_alloc Try.zeroValue34 hS hK (by decide) rfl rfl fun a w b_277 hS hK => ?_
      refine sl_storeA (vs := [.string y_268.Name, .int .i64 y_268.Kind]) (c' := [.string y_268.Name, .int .i64 y_268.Kind]) Try.sizeOf34 hS hK rfl rfl rfl rfl (all_cons rfl (all_cons rfl (all_nil))) (Nat.le_of_ble_eq_true rfl) rfl fun a w hS hK => ?_
      refine wpList_nil ?_
      refine wp_seq ?_
      refine wp_region_lit ?_
      refine sl hK (by decide) rfl rfl (r_move hK rfl) fun a hK => ?_
      refine sl hK (by decide) rfl rfl (r_fieldAddr Try.underlying34 rfl Try.sizeOf9 hK rfl) fun a hK => ?_
      refine sl hK (by decide) rfl rfl (r_load Try.isAgg9 hK rfl (hS.cell (.head _) rfl)) fun a hK => ?_
      obtain ⟨y_278, h_279, H⟩ := bind_some H
      refine sl_callV Try.call23 hS hK (by decide) rfl rfl rfl (table_Find.calls a0 y_268.Name (lentOf_sub [] _) (h0_0.mono (hS.raLe0 hRA nil_not)) h_279) fun a w hS hK => ?_
      refine sl hK (by decide) rfl rfl (r_assign hK rfl) fun a hK => ?_
      refine wpList_nil ?_
      refine wp_block ?_
      refine wp_seq ?_
      refine wp_region_lit ?_
      refine sl hK (by decide) rfl rfl (r_move hK rfl) fun a hK => ?_
      refine sl hK (by decide) rfl rfl (r_ibin hK rfl rfl rfl) fun a hK => ?_
      refine sl hK (by decide) rfl rfl (r_assign hK rfl) fun a hK => ?_
      refine wpList_nil ?_
      refine wp_mid (fun a w => ∃ (x_334 : List api_Col) (v_335 : Value) (cs_336 : List Value), join_Cols.j1 (join_Cols.l0 a0 a1 k_l0) a1 x_140 x_334 = some r ∧ Reps ty_api_Col R_3 cs_336 x_334 ∧ Kn 58 a [(0, v0_0), (1, v1_0), (6, v_335), (12, v1_0), (13, .int .i64 (a1.length : Int)), (14, .int .i64 x_140)] ∧ St [] w0 w R_3 [.row 34 2 v_335 x_334.length cs_336]) ?_ ?_
      · refine wp_cond_split (hK.ev rfl) (fun (hb_339 : (decide (y_278 < 0)) = true) => ?_) (fun (hb_339 : (decide (y_278 < 0)) = false) => ?_)
        · rw [ifb_t hb_339] at H
          refine wp_region_lit ?_
          refine sl hK (by decide) rfl rfl (r_move hK rfl) fun a hK => ?_
          refine sl hK (by decide) rfl rfl (r_loadA (cs := [.string y_268.Name, .int .i64 y_268.Kind]) Try.isAgg34 Try.sizeOf34 rfl hK rfl (hS.cells_of (m := 2) (.head _) rfl)) fun a hK => ?_
          refine sl_buildSliceF (zc := [.string (⟨#[]⟩ : ByteArray), .int .i64 0]) (ps := [(0, .agg #[.string y_268.Name, .int .i64 y_268.Kind])]) (c := [.string y_268.Name, .int .i64 y_268.Kind]) [[.string y_268.Name, .int .i64 y_268.Kind]] Try.underlying22 Try.sizeOf34 Try.zeroValue34 rfl (pc_cons rfl pc_nil) rfl rfl (Nat.le_of_ble_eq_true rfl) rfl (all_cons rfl (all_nil)) rfl hS hK (by decide) rfl fun a w b_340 hS hK => ?_
          obtain ⟨y_341, h_342, H⟩ := bind_some H
          have hS := hS.pk2
          refine sl_append_L (ty := ty_api_Col) (ys := [y_268]) elT22 (by decide) rfl hq_139 rfl (Reps.cons (show Ty.rep ty_api_Col _ [.string y_268.Name, .int .i64 y_268.Kind] y_268 from rfl) (Reps.nil _ _)) rfl h_342 hS hK (by decide) rfl rfl rfl fun a w v_343 cs_344 hq_345 hS hK => ?_
          refine sl hK (by decide) rfl rfl (r_assign hK rfl) fun a hK => ?_
          refine wpList_nil ?_
          exact ⟨y_341, _, _, H, hq_345, hK.sub (all_cons rfl (all_cons rfl (all_cons rfl (all_cons rfl (all_cons rfl (all_cons rfl (all_nil))))))), hS.trunc 1⟩
        · rw [ifb_f hb_339] at H
          refine wp_seq ?_
          refine wp_mid (fun a w => ∃ (x_367 : Bool), join_Cols.j2 (join_Cols.l0 a0 a1 k_l0) a1 x_136 x_140 x_367 = some r ∧ Kn 58 a [(0, v0_0), (1, v1_0), (6, v_137), (12, v1_0), (13, .int .i64 (a1.length : Int)), (14, .int .i64 x_140), (29, .bool x_367)] ∧ St [] w0 w R_3 [.row 34 2 v_137 x_136.length cs_138]) ?_ ?_
          · refine par_region (C := fun w => St [] w0 w R_3 [.cells b_277 [.string y_268.Name, .int .i64 y_268.Kind] 34, .row 34 2 v_137 x_136.length cs_138]) [(0, true), (1, true), (2, true), (3, true), (4, true), (5, true), (6, true), (7, true), (8, true), (9, true), (10, true), (11, true), (12, true), (13, true)] mixed (by kernel_rfl) hS (fun w hS => hS) fun w hS => ?_
            refine sp (k := 0) rfl hK (by decide) rfl rfl (fun w hS => r_move hK rfl) fun a hK => ?_
            refine sp (k := 1) rfl hK (by decide) rfl rfl (fun w hS => r_move hK rfl) fun a hK => ?_
            obtain ⟨y_379, h_380, H⟩ := bind_some H
            obtain ⟨b_381, o_382, c_383, cs_384, hv_385, hr_386, hc_387, h_3800, h_3801⟩ := h0_0.ix h_380
            subst hr_386
            refine sp (k := 2) rfl hK (by decide) rfl rfl (fun w hS => r_indexAddr_R Try.underlying22 Try.sizeOf34 hv_385 h_3800 h_3801 hK rfl rfl) fun a hK => ?_
            refine sp (k := 3) rfl hK (by decide) rfl rfl (fun w hS => r_fieldAddr Try.underlying34 rfl Try.sizeOf3 hK rfl) fun a hK => ?_
            refine sp (k := 4) rfl hK (by decide) rfl rfl (fun w hS => r_load Try.isAgg3 hK rfl ((hS.ra hRA nil_not).cell (hc_387 1 _ rfl))) fun a hK => ?_
            refine sp (k := 5) rfl hK (by decide) rfl rfl (fun w hS => r_fieldAddr Try.underlying34 rfl Try.sizeOf3 hK rfl) fun a hK => ?_
            refine sp (k := 6) rfl hK (by decide) rfl rfl (fun w hS => r_load Try.isAgg3 hK rfl (hS.cell (.head _) rfl)) fun a hK => ?_
            refine sp (k := 7) rfl hK (by decide) rfl rfl (fun w hS => r_ibin hK rfl rfl rfl) fun a hK => ?_
            refine sp (k := 8) rfl hK (by decide) rfl rfl (fun w hS => r_move hK rfl) fun a hK => ?_
            rcases or_b (y_379.Kind != y_268.Kind) with hb_388 | hb_388
            · rw [ifb_t hb_388] at H
              refine sp_skip (k := 9) rfl hK (by decide) (wft hb_388) rfl fun a hK => ?_
              refine sp_skip (k := 10) rfl hK (by decide) (wft hb_388) rfl fun a hK => ?_
              refine sp_skip (k := 11) rfl hK (by decide) (wft hb_388) rfl fun a hK => ?_
              refine sp (k := 12) rfl hK (by decide) rfl rfl (fun w hS => r_pick_t hb_388 hK rfl rfl) fun a hK => ?_
              refine sp (k := 13) rfl hK (by decide) rfl rfl (fun w hS => r_assign hK rfl) fun a hK => ?_
              refine wpPar_nil (NoP_nil ?_)
              have hS := hS.pk1
              exact ⟨true, H, hK.sub (all_cons rfl (all_cons rfl (all_cons rfl (all_cons rfl (all_cons rfl (all_cons rfl (all_cons rfl (all_nil)))))))), hS.trunc 1⟩
            · rw [ifb_f hb_388] at H
              refine sp (k := 9) rfl hK (by decide) (wff hb_388) rfl (fun w hS => r_fieldAddr Try.underlying34 rfl Try.sizeOf3 hK rfl) fun a hK => ?_
              refine sp (k := 10) rfl hK (by decide) (wff hb_388) rfl (fun w hS => r_load Try.isAgg3 hK rfl (hS.cell (.head _) rfl)) fun a hK => ?_
              refine sp (k := 11) rfl hK (by decide) (wff hb_388) rfl (fun w hS => r_ibin hK rfl rfl rfl) fun a hK => ?_
              refine sp (k := 12) rfl hK (by decide) rfl rfl (fun w hS => r_pick_f hb_388 hK rfl rfl) fun a hK => ?_
              refine sp (k := 13) rfl hK (by decide) rfl rfl (fun w hS => r_assign hK rfl) fun a hK => ?_
              refine wpPar_nil (NoP_nil ?_)
              have hS := hS.pk1
              exact ⟨(y_268.Kind == 4), H, hK.sub (all_cons rfl (all_cons rfl (all_cons rfl (all_cons rfl (all_cons rfl (all_cons rfl (all_cons rfl (all_nil)))))))), hS.trunc 1⟩
          · rintro a w ⟨x_367, H, hK, hS⟩
            unfold join_Cols.j2 at H
            refine wp_cond_split (hK.ev rfl) (fun (hb_389 : x_367 = true) => ?_) (fun (hb_389 : x_367 = false) => ?_)
            · rw [ifb_t hb_389] at H
              refine wp_seq ?_
              refine wp_region_lit ?_
              refine sl hK (by decide) rfl rfl (r_assign hK rfl) fun a hK => ?_
              refine sl hK (by decide) rfl rfl (r_assign hK rfl) fun a hK => ?_
              refine wpList_nil ?_
              have hS := hS.row_nil 34 2
              have hq_391 : Reps ty_api_Col R_3 [] ([] : List api_Col) := Reps.nil _ _
              obtain rfl := Option.some.inj H
              refine wp_ret ?_
              repeat (first | refine ret_then ?_ | refine ret_block ?_ | refine ret_scope ?_)
              exact ret_2 Try.results19 hK (rv_tmp hK rfl) (rv_tmp hK rfl) ⟨_, rfl, _, _, _, rfl, (hS.trunc 1), hRL, hq_391⟩
            · rw [ifb_f hb_389] at H
              refine wp_skip ?_
              exact ⟨x_136, _, _, H, hq_139, hK.sub (all_cons rfl (all_cons rfl (all_cons rfl (all_cons rfl (all_cons rfl (all_cons rfl (all_nil))))))), hS⟩
      · rintro a w ⟨x_334, v_335, cs_336, H, hq_337, hK, hS⟩
        unfold join_Cols.j1 at H
        refine wp_region_lit ?_
        refine sl hK (by decide) rfl rfl (r_ibin hK rfl rfl rfl) fun a hK => ?_
        refine sl hK (by decide) rfl rfl (r_move hK rfl) fun a hK => ?_
        refine wpList_nil ?_
        exact ⟨_, Nat.lt_succ_self _, x_334, (IntKind.i64.wrap (x_140 + 1)), _, _, H, hq_337, hK.sub (all_cons rfl (all_cons rfl (all_cons rfl (all_cons rfl (all_cons rfl (all_cons rfl (all_nil))))))), hS⟩
    · rw [ifb_f hb_267] at H
      refine wp_exit ?_
      refine wp_seq ?_
      refine wp_seq ?_
      refine wp_mid (fun a w => ∃ (x_393 : Bool), join_Cols.j3 x_136 x_393 = some r ∧ Kn 58 a [(6, v_137), (56, .bool x_393)] ∧ St [] w0 w R_3 [.row 34 2 v_137 x_136.length cs_138]) ?_ ?_
      · refine wp_region_lit ?_
        refine sl hK (by decide) rfl rfl (r_move hK rfl) fun a hK => ?_
        refine sl hK (by decide) rfl rfl (r_len_O Try.underlying22 hS (.head _) hK rfl) fun a hK => ?_
        refine sl hK (by decide) rfl rfl (r_move hK rfl) fun a hK => ?_
        refine sl hK (by decide) rfl rfl (r_len_R Try.underlying22 h0_0 hK rfl) fun a hK => ?_
        refine sl hK (by decide) rfl rfl (r_move hK rfl) fun a hK => ?_
        refine sl hK (by decide) rfl rfl (r_len_R Try.underlying22 h1_0 hK rfl) fun a hK => ?_
        refine sl hK (by decide) rfl rfl (r_ibin hK rfl rfl rfl) fun a hK => ?_
        refine sl hK (by decide) rfl rfl (r_ibin hK rfl rfl rfl) fun a hK => ?_
        refine sl hK (by decide) rfl rfl (r_move hK rfl) fun a hK => ?_
        rcases or_b ((x_136.length : Int) == (IntKind.i64.wrap ((a0.length : Int) + (a1.length : Int)))) with hb_395 | hb_395
        · rw [ifb_t hb_395] at H
          refine sl_skip hK (by decide) (wft hb_395) rfl fun a hK => ?_
          refine sl_skip hK (by decide) (wft hb_395) rfl fun a hK => ?_
          refine sl_skip hK (by decide) (wft hb_395) rfl fun a hK => ?_
          refine sl hK (by decide) rfl rfl (r_pick_t hb_395 hK rfl rfl) fun a hK => ?_
          refine wpList_nil ?_
          exact ⟨true, H, hK.sub (all_cons rfl (all_cons rfl (all_nil))), hS⟩
        · rw [ifb_f hb_395] at H
          refine sl hK (by decide) (wff hb_395) rfl (r_move hK rfl) fun a hK => ?_
          refine sl hK (by decide) (wff hb_395) rfl (r_len_O Try.underlying22 hS (.head _) hK rfl) fun a hK => ?_
          refine sl hK (by decide) (wff hb_395) rfl (r_ibin hK rfl rfl rfl) fun a hK => ?_
          refine sl hK (by decide) rfl rfl (r_pick_f hb_395 hK rfl rfl) fun a hK => ?_
          refine wpList_nil ?_
          exact ⟨(decide ((x_136.length : Int) > 16)), H, hK.sub (all_cons rfl (all_cons rfl (all_nil))), hS⟩
      · rintro a w ⟨x_393, H, hK, hS⟩
        unfold join_Cols.j3 at H
        refine wp_cond_split (hK.ev rfl) (fun (hb_396 : x_393 = true) => ?_) (fun (hb_396 : x_393 = false) => ?_)
        · rw [ifb_t hb_396] at H
          refine wp_seq ?_
          refine wp_region_lit ?_
          refine sl hK (by decide) rfl rfl (r_assign hK rfl) fun a hK => ?_
          refine sl hK (by decide) rfl rfl (r_assign hK rfl) fun a hK => ?_
          refine wpList_nil ?_
          have hS := hS.row_nil 34 2
          have hq_398 : Reps ty_api_Col R_3 [] ([] : List api_Col) := Reps.nil _ _
          obtain rfl := Option.some.inj H
          refine wp_ret ?_
          repeat (first | refine ret_then ?_ | refine ret_block ?_ | refine ret_scope ?_)
          exact ret_2 Try.results19 hK (rv_tmp hK rfl) (rv_tmp hK rfl) ⟨_, rfl, _, _, _, rfl, (hS.trunc 1), hRL, hq_398⟩
        · rw [ifb_f hb_396] at H
          refine wp_skip ?_
          refine wp_seq ?_
          refine wp_region_lit ?_
          refine sl hK (by decide) rfl rfl (r_move hK rfl) fun a hK => ?_
          refine sl hK (by decide) rfl rfl (r_assign hK rfl) fun a hK => ?_
          refine sl hK (by decide) rfl rfl (r_assign hK rfl) fun a hK => ?_
          refine wpList_nil ?_
          obtain rfl := Option.some.inj H
          refine wp_ret ?_
          repeat (first | refine ret_then ?_ | refine ret_block ?_ | refine ret_scope ?_)
          exact ret_2 Try.results19 hK (rv_tmp hK rfl) (rv_tmp hK rfl) ⟨_, rfl, _, _, _, rfl, hS, hRL, hq_139⟩

/-! ### catchment/join.split: function 20 -/
set_option maxHeartbeats 4000000 in
set_option maxRecDepth 100000 in
theorem join_split.calls (a0 : List api_Col) (a1 : List api_Col) {w0 : World} {R : Hp} {RA : Hp} {v0_0 : Value} {v1_0 : Value} (hRA : RA.sub w0) (hR : R.sub w0) (h0_0 : SlR ty_api_Col RA v0_0 a0) (h1_0 : SlR ty_api_Col RA v1_0 a1) {r : join_side} (H : join_split a0 a1 = some r) : Calls Try.prog 20 #[v0_0, v1_0] w0 (Rets fun v w' => ∃ (R' : Hp) (u0 : Value) (cu0 : List Value) (u1 : Value) (cu1 : List Value), v = .agg #[u0, u1] ∧ St [] w0 w' R' [.row 3 1 u0 r.shared.length cu0, .row 3 1 u1 r.others.length cu1] ∧ RLe [] w0 R R' ∧ Reps (tyInt .i64) R' cu0 r.shared ∧ Reps (tyInt .i64) R' cu1 r.others) := by
  unfold join_split at H
  refine enter (args := [v0_0, v1_0]) Try.func20 rfl Try.ntmps20 rfl fun a hK => ?_
  have hS := St.init hR
  have hRL := RLe.refl (M := []) w0 R
  refine wp_seq ?_
  refine wp_region_lit ?_
  refine sl_alloc Try.zeroValue53 hS hK (by decide) rfl rfl fun a w b_1 hS hK => ?_
  refine wpList_nil ?_
  refine wp_seq ?_
  refine wp_region_lit ?_
  refine sl_alloc Try.zeroValue53 hS hK (by decide) rfl rfl fun a w b_2 hS hK => ?_
  refine wpList_nil ?_
  refine wp_seq ?_
  refine wp_seq ?_
  refine wp_region_lit ?_
  refine sl hK (by decide) rfl rfl (r_move hK rfl) fun a hK => ?_
  refine sl hK (by decide) rfl rfl (r_len_R Try.underlying22 h1_0 hK rfl) fun a hK => ?_
  refine sl hK (by decide) rfl rfl (r_move hK rfl) fun a hK => ?_
  refine wpList_nil ?_
  refine wp_block ?_
  refine wp_loop_k (fun k_l0 a w => ∃ (x_46 : List Int) (x_50 : Int) (v_47 : Value) (cs_48 : List Value), join_split.l0 a0 a1 k_l0 x_46 x_50 = some r ∧ Reps (tyInt .i64) R cs_48 x_46 ∧ Kn 50 a [(0, v0_0), (1, v1_0), (4, .pointer (some ⟨b_1, 0, none⟩)), (5, .pointer (some ⟨b_2, 0, none⟩)), (11, v1_0), (12, .int .i64 (a1.length : Int)), (13, .int .i64 x_50)] ∧ St [] w0 w R [.cells b_1 [.slice none 0 0, .slice none 0 0] 53, .row 3 1 v_47 x_46.length cs_48, .cells b_2 [v_47, .slice none 0 0] 53]) (((a1.length : Int) - 0).toNat + 1) ?_ ?_
  · have hS := hS.row_nil 3 1
    have hq_88 : Reps (tyInt .i64) R [] ([] : List Int) := Reps.nil _ _
    have hS := hS.pk1
    have hS := hS.pk1
    have hS := hS.pk2
    exact ⟨[], 0, _, _, H, hq_88, hK.sub (all_cons rfl (all_cons rfl (all_cons rfl (all_cons rfl (all_cons rfl (all_cons rfl (all_cons rfl (all_nil)))))))), hS⟩
  · rintro k_l0 a w ⟨x_46, x_50, v_47, cs_48, H, hq_49, hK, hS⟩
    cases k_l0 with
    | zero => cases H
    | succ k_l0 =>
    rw [join_split.l0.eq_2] at H
    refine wp_seq ?_
    refine wp_region_lit ?_
    refine sl hK (by decide) rfl rfl (r_ibin hK rfl rfl rfl) fun a hK => ?_
    refine wpList_nil ?_
    refine wp_seq ?_
    refine wp_cond_split (hK.ev rfl) (fun (hb_89 : (decide (x_50 < (a1.length : Int))) = true) => ?_) (fun (hb_89 : (decide (x_50 < (a1.length : Int))) = false) => ?_)
    · rw [ifb_t hb_89] at H
      refine wp_skip ?_
      refine wp_seq ?_
      refine wp_block ?_
      refine wp_seq ?_
      refine wp_region_lit ?_
      obtain ⟨y_90, h_91, H⟩ := bind_some H
      obtain ⟨b_92, o_93, c_94, cs_95, hv_96, hr_97, hc_98, h_910, h_911⟩ := h1_0.ix h_91
      subst hr_97
      refine sl hK (by decide) rfl rfl (r_indexAddr_R Try.underlying22 Try.sizeOf34 hv_96 h_910 h_911 hK rfl rfl) fun a hK => ?_
      refine sl hK (by decide) rfl rfl (r_loadA (cs := [.string y_90.Name, .int .i64 y_90.Kind]) Try.isAgg34 Try.sizeOf34 rfl hK rfl (fun j v hv => (hS.ra hRA nil_not).cell (hc_98 j v hv))) fun a hK => ?_
      refine sl_alloc Try.zeroValue34 hS hK (by decide) rfl rfl fun a w b_99 hS hK => ?_
      refine sl_storeA (vs := [.string y_90.Name, .int .i64 y_90.Kind]) (c' := [.string y_90.Name, .int .i64 y_90.Kind]) Try.sizeOf34 hS hK rfl rfl rfl rfl (all_cons rfl (all_cons rfl (all_nil))) (Nat.le_of_ble_eq_true rfl) rfl fun a w hS hK => ?_
      refine wpList_nil ?_
      refine wp_seq ?_
      refine wp_region_lit ?_
      refine sl hK (by decide) rfl rfl (r_move hK rfl) fun a hK => ?_
      refine sl hK (by decide) rfl rfl (r_fieldAddr Try.underlying34 rfl Try.sizeOf9 hK rfl) fun a hK => ?_
      refine sl hK (by decide) rfl rfl (r_load Try.isAgg9 hK rfl (hS.cell (.head _) rfl)) fun a hK => ?_
      obtain ⟨y_100, h_101, H⟩ := bind_some H
      refine sl_callV Try.call23 hS hK (by decide) rfl rfl rfl (table_Find.calls a0 y_90.Name (lentOf_sub [] _) (h0_0.mono (hS.raLe0 hRA nil_not)) h_101) fun a w hS hK => ?_
      refine sl hK (by decide) rfl rfl (r_assign hK rfl) fun a hK => ?_
      refine wpList_nil ?_
      refine wp_seq ?_
      refine wp_region_lit ?_
      refine sl hK (by decide) rfl rfl (r_move hK rfl) fun a hK => ?_
      refine sl hK (by decide) rfl rfl (r_ibin hK rfl rfl rfl) fun a hK => ?_
      refine wpList_nil ?_
      refine wp_mid (fun a w => ∃ (x_111 : List Int) (v_112 : Value) (cs_113 : List Value), join_split.j1 (join_split.l0 a0 a1 k_l0) a1 x_50 x_111 = some r ∧ Reps (tyInt .i64) R cs_113 x_111 ∧ Kn 50 a [(0, v0_0), (1, v1_0), (4, .pointer (some ⟨b_1, 0, none⟩)), (5, .pointer (some ⟨b_2, 0, none⟩)), (11, v1_0), (12, .int .i64 (a1.length : Int)), (13, .int .i64 x_50)] ∧ St [] w0 w R [.cells b_1 [.slice none 0 0, .slice none 0 0] 53, .row 3 1 v_112 x_111.length cs_113, .cells b_2 [v_112, .slice none 0 0] 53]) ?_ ?_
      · refine wp_cond_split (hK.ev rfl) (fun (hb_116 : (decide (y_100 ≥ 0)) = true) => ?_) (fun (hb_116 : (decide (y_100 ≥ 0)) = false) => ?_)
        · rw [ifb_t hb_116] at H
          refine wp_region_lit ?_
          refine sl hK (by decide) rfl rfl (r_fieldAddr Try.underlying53 rfl Try.sizeOf51 hK rfl) fun a hK => ?_
          refine sl hK (by decide) rfl rfl (r_load Try.isAgg51 hK rfl (hS.cell (.tail _ (.tail _ (.tail _ (.head _)))) rfl)) fun a hK => ?_
          refine sl hK (by decide) rfl rfl (r_move hK rfl) fun a hK => ?_
          refine sl_buildSliceF (zc := [.int .i64 0]) (ps := [(0, .int .i64 y_100)]) (c := [.int .i64 y_100]) [[.int .i64 y_100]] Try.underlying51 Try.sizeOf3 Try.zeroValue3 rfl (pc_cons rfl pc_nil) rfl rfl (Nat.le_of_ble_eq_true rfl) rfl (all_cons rfl (all_nil)) rfl hS hK (by decide) rfl fun a w b_117 hS hK => ?_
          obtain ⟨y_118, h_119, H⟩ := bind_some H
          have hS := hS.pk3
          refine sl_append_L (ty := (tyInt .i64)) (ys := [y_100]) elT51 (by decide) rfl hq_49 rfl (Reps.cons (show Ty.rep (tyInt .i64) _ [.int .i64 y_100] y_100 from rfl) (Reps.nil _ _)) rfl h_119 hS hK (by decide) rfl rfl rfl fun a w v_120 cs_121 hq_122 hS hK => ?_
          refine sl hK (by decide) rfl rfl (r_fieldAddr Try.underlying53 rfl Try.sizeOf51 hK rfl) fun a hK => ?_
          have hS := hS.pk3
          refine sl_store1 (c' := [v_120, .slice none 0 0]) Try.sizeOf51 hS hK rfl rfl rfl (hS.row_one (.tail _ (.head _))) (Nat.le_of_ble_eq_true rfl) rfl fun a w hS hK => ?_
          refine wpList_nil ?_
          have hS := hS.pk1
          have hS := hS.pk3
          exact ⟨y_118, _, _, H, hq_122, hK.sub (all_cons rfl (all_cons rfl (all_cons rfl (all_cons rfl (all_cons rfl (all_cons rfl (all_cons rfl (all_nil)))))))), hS.trunc 3⟩
        · rw [ifb_f hb_116] at H
          refine wp_skip ?_
          have hS := hS.pk3
          have hS := hS.pk3
          have hS := hS.pk3
          exact ⟨x_46, _, _, H, hq_49, hK.sub (all_cons rfl (all_cons rfl (all_cons rfl (all_cons rfl (all_cons rfl (all_cons rfl (all_cons rfl (all_nil)))))))), hS.trunc 3⟩
      · rintro a w ⟨x_111, v_112, cs_113, H, hq_114, hK, hS⟩
        unfold join_split.j1 at H
        refine wp_region_lit ?_
        refine sl hK (by decide) rfl rfl (r_ibin hK rfl rfl rfl) fun a hK => ?_
        refine sl hK (by decide) rfl rfl (r_move hK rfl) fun a hK => ?_
        refine wpList_nil ?_
        have hS := hS.pk2
        have hS := hS.pk2
        have hS := hS.pk2
        exact ⟨_, Nat.lt_succ_self _, x_111, (IntKind.i64.wrap (x_50 + 1)), _, _, H, hq_114, hK.sub (all_cons rfl (all_cons rfl (all_cons rfl (all_cons rfl (all_cons rfl (all_cons rfl (all_cons rfl (all_nil)))))))), hS⟩
    · rw [ifb_f hb_89] at H
      refine wp_exit ?_
      refine wp_seq ?_
      refine wp_seq ?_
      refine wp_region_lit ?_
      refine sl hK (by decide) rfl rfl (r_move hK rfl) fun a hK => ?_
      refine sl hK (by decide) rfl rfl (r_len_R Try.underlying22 h0_0 hK rfl) fun a hK => ?_
      refine sl hK (by decide) rfl rfl (r_move hK rfl) fun a hK => ?_
      refine wpList_nil ?_
      refine wp_block ?_
      refine wp_loop_k (fun k_l2 a w => ∃ (x_167 : List Int) (x_171 : Int) (v_168 : Value) (cs_169 : List Value), join_split.l2 a0 a1 x_46 k_l2 x_167 x_171 = some r ∧ Reps (tyInt .i64) R cs_169 x_167 ∧ Kn 50 a [(1, v1_0), (4, .pointer (some ⟨b_1, 0, none⟩)), (5, .pointer (some ⟨b_2, 0, none⟩)), (30, v0_0), (31, .int .i64 (a0.length : Int)), (32, .int .i64 x_171)] ∧ St [] w0 w R [.cells b_1 [.slice none 0 0, .slice none 0 0] 53, .row 3 1 v_47 x_46.length cs_48, .row 3 1 v_168 x_167.length cs_169, .cells b_2 [v_47, v_168] 53]) (((a0.length : Int) - 0).toNat + 1) ?_ ?_
      · have hS := hS.row_nil 3 1
        have hq_209 : Reps (tyInt .i64) R [] ([] : List Int) := Reps.nil _ _
        have hS := hS.pk3
        have hS := hS.pk1
        have hS := hS.pk3
        have hS := hS.pk3
        exact ⟨[], 0, _, _, H, hq_209, hK.sub (all_cons rfl (all_cons rfl (all_cons rfl (all_cons rfl (all_cons rfl (all_cons rfl (all_nil))))))), hS⟩
      · rintro k_l2 a w ⟨x_167, x_171, v_168, cs_169, H, hq_170, hK, hS⟩
        cases k_l2 with
        | zero => cases H
        | succ k_l2 =>
        rw [join_split.l2.eq_2] at H
        refine wp_seq ?_
        refine wp_region_lit ?_
        refine sl hK (by decide) rfl rfl (r_ibin hK rfl rfl rfl) fun a hK => ?_
        refine wpList_nil ?_
        refine wp_seq ?_
        refine wp_cond_split (hK.ev rfl) (fun (hb_210 : (decide (x_171 < (a0.length : Int))) = true) => ?_) (fun (hb_210 : (decide (x_171 < (a0.length : Int))) = false) => ?_)
        · rw [ifb_t hb_210] at H
          refine wp_skip ?_
          refine wp_seq ?_
          refine wp_block ?_
          refine wp_seq ?_
          refine wp_region_lit ?_
          refine sl hK (by decide) rfl rfl (r_move hK rfl) fun a hK => ?_
          obtain ⟨y_211, h_212, H⟩ := bind_some H
          obtain ⟨b_213, o_214, c_215, cs_216, hv_217, hr_218, hc_219, h_2120, h_2121⟩ := h0_0.ix h_212
          subst hr_218
          refine sl hK (by decide) rfl rfl (r_indexAddr_R Try.underlying22 Try.sizeOf34 hv_217 h_2120 h_2121 hK rfl rfl) fun a hK => ?_
          refine sl hK (by decide) rfl rfl (r_loadA (cs := [.string y_211.Name, .int .i64 y_211.Kind]) Try.isAgg34 Try.sizeOf34 rfl hK rfl (fun j v hv => (hS.ra hRA nil_not).cell (hc_219 j v hv))) fun a hK => ?_
          refine sl_alloc Try.zeroValue34 hS hK (by decide) rfl rfl fun a w b_220 hS hK => ?_
          refine sl hK (by decide) rfl rfl (r_assign hK rfl) fun a hK => ?_
          refine sl_storeA (vs := [.string y_211.Name, .int .i64 y_211.Kind]) (c' := [.string y_211.Name, .int .i64 y_211.Kind]) Try.sizeOf34 hS hK rfl rfl rfl rfl (all_cons rfl (all_cons rfl (all_nil))) (Nat.le_of_ble_eq_true rfl) rfl fun a w hS hK => ?_
          refine wpList_nil ?_
          refine wp_seq ?_
          refine wp_region_lit ?_
          refine sl hK (by decide) rfl rfl (r_move hK rfl) fun a hK => ?_
          refine sl hK (by decide) rfl rfl (r_fieldAddr Try.underlying34 rfl Try.sizeOf9 hK rfl) fun a hK => ?_
          refine sl hK (by decide) rfl rfl (r_load Try.isAgg9 hK rfl (hS.cell (.head _) rfl)) fun a hK => ?_
          obtain ⟨y_221, h_222, H⟩ := bind_some H
          refine sl_callV Try.call23 hS hK (by decide) rfl rfl rfl (table_Find.calls a1 y_211.Name (lentOf_sub [] _) (h1_0.mono (hS.raLe0 hRA nil_not)) h_222) fun a w hS hK => ?_
          refine sl hK (by decide) rfl rfl (r_ibin hK rfl rfl rfl) fun a hK => ?_
          refine wpList_nil ?_
          refine wp_mid (fun a w => ∃ (x_232 : List Int) (v_233 : Value) (cs_234 : List Value), join_split.j3 (join_split.l2 a0 a1 x_46 k_l2) a0 x_171 x_232 = some r ∧ Reps (tyInt .i64) R cs_234 x_232 ∧ Kn 50 a [(1, v1_0), (4, .pointer (some ⟨b_1, 0, none⟩)), (5, .pointer (some ⟨b_2, 0, none⟩)), (30, v0_0), (31, .int .i64 (a0.length : Int)), (32, .int .i64 x_171)] ∧ St [] w0 w R [.cells b_1 [.slice none 0 0, .slice none 0 0] 53, .row 3 1 v_47 x_46.length cs_48, .row 3 1 v_233 x_232.length cs_234, .cells b_2 [v_47, v_233] 53]) ?_ ?_
          · refine wp_cond_split (hK.ev rfl) (fun (hb_237 : (decide (y_221 < 0)) = true) => ?_) (fun (hb_237 : (decide (y_221 < 0)) = false) => ?_)
            · rw [ifb_t hb_237] at H
              refine wp_region_lit ?_
              refine sl hK (by decide) rfl rfl (r_fieldAddr Try.underlying53 rfl Try.sizeOf51 hK rfl) fun a hK => ?_
              refine sl hK (by decide) rfl rfl (r_load Try.isAgg51 hK rfl (hS.cell (.tail _ (.tail _ (.tail _ (.tail _ (.head _))))) rfl)) fun a hK => ?_
              refine sl hK (by decide) rfl rfl (r_move hK rfl) fun a hK => ?_
              refine sl_buildSliceF (zc := [.int .i64 0]) (ps := [(0, .int .i64 x_171)]) (c := [.int .i64 x_171]) [[.int .i64 x_171]] Try.underlying51 Try.sizeOf3 Try.zeroValue3 rfl (pc_cons rfl pc_nil) rfl rfl (Nat.le_of_ble_eq_true rfl) rfl (all_cons rfl (all_nil)) rfl hS hK (by decide) rfl fun a w b_238 hS hK => ?_
              obtain ⟨y_239, h_240, H⟩ := bind_some H
              have hS := hS.pk4
              refine sl_append_L (ty := (tyInt .i64)) (ys := [x_171]) elT51 (by decide) rfl hq_170 rfl (Reps.cons (show Ty.rep (tyInt .i64) _ [.int .i64 x_171] x_171 from rfl) (Reps.nil _ _)) rfl h_240 hS hK (by decide) rfl rfl rfl fun a w v_241 cs_242 hq_243 hS hK => ?_
              refine sl hK (by decide) rfl rfl (r_fieldAddr Try.underlying53 rfl Try.sizeOf51 hK rfl) fun a hK => ?_
              have hS := hS.pk4
              refine sl_store1 (c' := [v_47, v_241]) Try.sizeOf51 hS hK rfl rfl rfl (hS.row_one (.tail _ (.head _))) (Nat.le_of_ble_eq_true rfl) rfl fun a w hS hK => ?_
              refine wpList_nil ?_
              have hS := hS.pk1
              have hS := hS.pk4
              have hS := hS.pk4
              exact ⟨y_239, _, _, H, hq_243, hK.sub (all_cons rfl (all_cons rfl (all_cons rfl (all_cons rfl (all_cons rfl (all_cons rfl (all_nil))))))), hS.trunc 4⟩
            · rw [ifb_f hb_237] at H
              refine wp_skip ?_
              have hS := hS.pk4
              have hS := hS.pk4
              have hS := hS.pk4
              have hS := hS.pk4
              exact ⟨x_167, _, _, H, hq_170, hK.sub (all_cons rfl (all_cons rfl (all_cons rfl (all_cons rfl (all_cons rfl (all_cons rfl (all_nil))))))), hS.trunc 4⟩
          · rintro a w ⟨x_232, v_233, cs_234, H, hq_235, hK, hS⟩
            unfold join_split.j3 at H
            refine wp_region_lit ?_
            refine sl hK (by decide) rfl rfl (r_ibin hK rfl rfl rfl) fun a hK => ?_
            refine sl hK (by decide) rfl rfl (r_move hK rfl) fun a hK => ?_
            refine wpList_nil ?_
            have hS := hS.pk3
            have hS := hS.pk3
            have hS := hS.pk3
            have hS := hS.pk3
            exact ⟨_, Nat.lt_succ_self _, x_232, (IntKind.i64.wrap (x_171 + 1)), _, _, H, hq_235, hK.sub (all_cons rfl (all_cons rfl (all_cons rfl (all_cons rfl (all_cons rfl (all_cons rfl (all_nil))))))), hS⟩
        · rw [ifb_f hb_210] at H
          refine wp_exit ?_
          refine wp_seq ?_
          refine wp_region_lit ?_
          refine sl hK (by decide) rfl rfl (r_loadA (cs := [v_47, v_168]) Try.isAgg53 Try.sizeOf53 rfl hK rfl (hS.cells_of (m := 2) (.tail _ (.tail _ (.tail _ (.head _)))) rfl)) fun a hK => ?_
          refine sl_storeA (vs := [v_47, v_168]) (c' := [v_47, v_168]) Try.sizeOf53 hS hK rfl rfl rfl rfl (all_cons (hS.row_one (.tail _ (.head _))) (all_cons (hS.row_one (.tail _ (.tail _ (.head _)))) (all_nil))) (Nat.le_of_ble_eq_true rfl) rfl fun a w hS hK => ?_
          refine wpList_nil ?_
          obtain rfl := Option.some.inj H
          refine wp_ret ?_
          repeat (first | refine ret_then ?_ | refine ret_block ?_ | refine ret_scope ?_)
          exact ret_1 Try.results20 hK (rv_cell (c := [v_47, v_168]) Try.isAgg53 Try.sizeOf53 hS (.head _) rfl hK rfl) ⟨_, rfl, _, _, _, _, _, rfl, (hS.pk2.pk2.trunc 2), hRL, hq_49, hq_170⟩

/-! ### catchment/join.Join$1: function 22 -/
set_option maxHeartbeats 4000000 in
set_option maxRecDepth 100000 in
theorem join_Join_1_cp_cp.calls (a0 : Int) (a1 : api_Table) (a2 : api_Table) {w0 : World} {RA : Hp} {b1 : Nat} {o1 : Nat} {v1_0 : Value} {v1_1 : Value} {b2 : Nat} {o2 : Nat} {v2_0 : Value} {v2_1 : Value} (hRA : RA.sub w0) (hc1 : ∀ j u, ([v1_0, v1_1] : List Value)[j]? = some u → RA.cell b1 (o1 + j) = some u) (h1_0 : SlR ty_api_Col RA v1_0 a1.Cols) (h1_1 : SlR (tySl ty_api_Value) RA v1_1 a1.Rows) (hc2 : ∀ j u, ([v2_0, v2_1] : List Value)[j]? = some u → RA.cell b2 (o2 + j) = some u) (h2_0 : SlR ty_api_Col RA v2_0 a2.Cols) (h2_1 : SlR (tySl ty_api_Value) RA v2_1 a2.Rows) {r : Bool} (H : join_Join_1_cp_cp a0 a1 a2 = some r) : CallsV Try.prog 22 #[.int .i64 a0, .pointer (some ⟨b1, o1, none⟩), .pointer (some ⟨b2, o2, none⟩)] w0 (.bool r) := by
  unfold join_Join_1_cp_cp at H
  refine enter (args := [.int .i64 a0, .pointer (some ⟨b1, o1, none⟩), .pointer (some ⟨b2, o2, none⟩)]) Try.func22 rfl Try.ntmps22 rfl fun a hK => ?_
  have hS := St.init (R := fun _ => none) (w := w0) (fun _ _ h => by cases h)
  have hRL := RLe.refl (M := []) w0 (fun _ => none)
  refine wp_seq ?_
  refine wp_region_lit ?_
  refine sl hK (by decide) rfl rfl (r_assign hK rfl) fun a hK => ?_
  refine wpList_nil ?_
  refine wp_seq ?_
  refine parT_region (C := fun w => St [] w0 w (fun _ => none) []) 8 [(0, true), (1, true), (2, true), (3, true), (4, true), (5, true), (6, true), (7, true)] mixed (by kernel_rfl) hS (fun w hS => hS) fun w hS => ?_
  refine sp (k := 0) rfl hK (by decide) rfl rfl (fun w hS => r_fieldAddr Try.underlying25 rfl Try.sizeOf22 hK rfl) fun a hK => ?_
  refine sp (k := 1) rfl hK (by decide) rfl rfl (fun w hS => r_load Try.isAgg22 hK rfl ((hS.ra hRA nil_not).cell (hc1 0 _ rfl))) fun a hK => ?_
  refine sp (k := 2) rfl hK (by decide) rfl rfl (fun w hS => r_fieldAddr Try.underlying25 rfl Try.sizeOf22 hK rfl) fun a hK => ?_
  refine sp (k := 3) rfl hK (by decide) rfl rfl (fun w hS => r_load Try.isAgg22 hK rfl ((hS.ra hRA nil_not).cell (hc2 0 _ rfl))) fun a hK => ?_
  refine sp (k := 4) rfl hK (by decide) rfl rfl (fun w hS => r_move hK rfl) fun a hK => ?_
  obtain ⟨y_12, h_13, H⟩ := bind_some H
  obtain ⟨b_14, o_15, c_16, cs_17, hv_18, hr_19, hc_20, h_130, h_131⟩ := h2_0.ix h_13
  subst hr_19
  refine sp (k := 5) rfl hK (by decide) rfl rfl (fun w hS => r_indexAddr_R Try.underlying22 Try.sizeOf34 hv_18 h_130 h_131 hK rfl rfl) fun a hK => ?_
  refine sp (k := 6) rfl hK (by decide) rfl rfl (fun w hS => r_fieldAddr Try.underlying34 rfl Try.sizeOf9 hK rfl) fun a hK => ?_
  refine sp (k := 7) rfl hK (by decide) rfl rfl (fun w hS => r_load Try.isAgg9 hK rfl ((hS.ra hRA nil_not).cell (hc_20 0 _ rfl))) fun a hK => ?_
  refine thenL_nil ?_
  obtain ⟨y_21, h_22, H⟩ := bind_some H
  refine sl_callV Try.call23 hS hK (by decide) rfl rfl rfl (table_Find.calls a1.Cols y_12.Name (lentOf_sub [] _) (h1_0.mono (hS.raLe0 hRA nil_not)) h_22) fun a w hS hK => ?_
  refine sl hK (by decide) rfl rfl (r_ibin hK rfl rfl rfl) fun a hK => ?_
  refine sl hK (by decide) rfl rfl (r_assign hK rfl) fun a hK => ?_
  refine wpList_nil (NoP_nil ?_)
  obtain rfl := Option.some.inj H
  refine wp_ret ?_
  repeat (first | refine ret_then ?_ | refine ret_block ?_ | refine ret_scope ?_)
  exact ret_1 Try.results22 hK (rv_tmp hK rfl) ⟨rfl, hS.bel⟩

/-! ### slices.IndexFunc[[]int,int]: function 35 -/
set_option maxHeartbeats 4000000 in
set_option maxRecDepth 100000 in
theorem slices_IndexFunc_int_int_f_join_Join_1pp.calls (a0 : List Int) (a1_0 : api_Table) (a1_1 : api_Table) {w0 : World} {RA : Hp} {v0_0 : Value} {b1q0 : Nat} {o1q0 : Nat} {v1q0_0 : Value} {v1q0_1 : Value} {b1q1 : Nat} {o1q1 : Nat} {v1q1_0 : Value} {v1q1_1 : Value} (hRA : RA.sub w0) (h0_0 : SlR (tyInt .i64) RA v0_0 a0) (hc1q0 : ∀ j u, ([v1q0_0, v1q0_1] : List Value)[j]? = some u → RA.cell b1q0 (o1q0 + j) = some u) (h1q0_0 : SlR ty_api_Col RA v1q0_0 a1_0.Cols) (h1q0_1 : SlR (tySl ty_api_Value) RA v1q0_1 a1_0.Rows) (hc1q1 : ∀ j u, ([v1q1_0, v1q1_1] : List Value)[j]? = some u → RA.cell b1q1 (o1q1 + j) = some u) (h1q1_0 : SlR ty_api_Col RA v1q1_0 a1_1.Cols) (h1q1_1 : SlR (tySl ty_api_Value) RA v1q1_1 a1_1.Rows) {r : Int} (H : slices_IndexFunc_int_int_f_join_Join_1pp a0 a1_0 a1_1 = some r) : CallsV Try.prog 35 #[v0_0, .func (.func 22) #[] #[.pointer (some ⟨b1q0, o1q0, none⟩), .pointer (some ⟨b1q1, o1q1, none⟩)]] w0 (.int .i64 r) := by
  unfold slices_IndexFunc_int_int_f_join_Join_1pp at H
  refine enter (args := [v0_0, .func (.func 22) #[] #[.pointer (some ⟨b1q0, o1q0, none⟩), .pointer (some ⟨b1q1, o1q1, none⟩)]]) Try.func35 rfl Try.ntmps35 rfl fun a hK => ?_
  have hS := St.init (R := fun _ => none) (w := w0) (fun _ _ h => by cases h)
  have hRL := RLe.refl (M := []) w0 (fun _ => none)
  refine wp_seq ?_
  refine wp_region_lit ?_
  refine sl hK (by decide) rfl rfl (r_assign hK rfl) fun a hK => ?_
  refine wpList_nil ?_
  refine wp_seq ?_
  refine wp_seq ?_
  refine wp_region_lit ?_
  refine sl hK (by decide) rfl rfl (r_move hK rfl) fun a hK => ?_
  refine sl hK (by decide) rfl rfl (r_len_R Try.underlying51 h0_0 hK rfl) fun a hK => ?_
  refine sl hK (by decide) rfl rfl (r_move hK rfl) fun a hK => ?_
  refine wpList_nil ?_
  refine wp_block ?_
  refine wp_loop_k (fun k_l0 a w => ∃ (x_15 : Int), slices_IndexFunc_int_int_f_join_Join_1pp.l0 a0 a1_0 a1_1 k_l0 x_15 = some r ∧ Kn 19 a [(0, v0_0), (1, .func (.func 22) #[] #[.pointer (some ⟨b1q0, o1q0, none⟩), .pointer (some ⟨b1q1, o1q1, none⟩)]), (7, .int .i64 (a0.length : Int)), (8, .int .i64 x_15)] ∧ St [] w0 w (fun _ => none) []) (((a0.length : Int) - 0).toNat + 1) ?_ ?_
  · exact ⟨0, H, hK.sub (all_cons rfl (all_cons rfl (all_cons rfl (all_cons rfl (all_nil))))), hS⟩
  · rintro k_l0 a w ⟨x_15, H, hK, hS⟩
    cases k_l0 with
    | zero => cases H
    | succ k_l0 =>
    rw [slices_IndexFunc_int_int_f_join_Join_1pp.l0.eq_2] at H
    refine wp_seq ?_
    refine wp_region_lit ?_
    refine sl hK (by decide) rfl rfl (r_ibin hK rfl rfl rfl) fun a hK => ?_
    refine wpList_nil ?_
    refine wp_seq ?_
    refine wp_cond_split (hK.ev rfl) (fun (hb_30 : (decide (x_15 < (a0.length : Int))) = true) => ?_) (fun (hb_30 : (decide (x_15 < (a0.length : Int))) = false) => ?_)
    · rw [ifb_t hb_30] at H
      refine wp_skip ?_
      refine wp_seq ?_
      refine wp_block ?_
      refine wp_seq ?_
      refine wp_region_lit ?_
      refine sl hK (by decide) rfl rfl (r_move hK rfl) fun a hK => ?_
      refine sl hK (by decide) rfl rfl (r_assign hK rfl) fun a hK => ?_
      refine wpList_nil ?_
      refine wp_seq ?_
      refine wp_region_lit ?_
      refine sl hK (by decide) rfl rfl (r_move hK rfl) fun a hK => ?_
      refine sl hK (by decide) rfl rfl (r_move hK rfl) fun a hK => ?_
      refine sl hK (by decide) rfl rfl (r_move hK rfl) fun a hK => ?_
      obtain ⟨y_31, h_32, H⟩ := bind_some H
      obtain ⟨b_33, o_34, c_35, cs_36, hv_37, hr_38, hc_39, h_320, h_321⟩ := h0_0.ix h_32
      subst hr_38
      refine sl hK (by decide) rfl rfl (r_indexAddr_R Try.underlying51 Try.sizeOf3 hv_37 h_320 h_321 hK rfl rfl) fun a hK => ?_
      refine sl hK (by decide) rfl rfl (r_load Try.isAgg3 hK rfl ((hS.ra hRA nil_not).cell (hc_39 0 _ rfl))) fun a hK => ?_
      obtain ⟨y_40, h_41, H⟩ := bind_some H
      refine sl_callV Try.call22 hS hK (by decide) rfl rfl rfl (join_Join_1_cp_cp.calls y_31 a1_0 a1_1 (lentOf_sub [] _) (fun j u hu => Hp.cell_le (hS.raLe0 hRA nil_not) (hc1q0 j u hu)) (h1q0_0.mono (hS.raLe0 hRA nil_not)) (h1q0_1.mono (hS.raLe0 hRA nil_not)) (fun j u hu => Hp.cell_le (hS.raLe0 hRA nil_not) (hc1q1 j u hu)) (h1q1_0.mono (hS.raLe0 hRA nil_not)) (h1q1_1.mono (hS.raLe0 hRA nil_not)) h_41) fun a w hS hK => ?_
      refine wpList_nil ?_
      refine wp_cond_split (hK.ev rfl) (fun (hb_42 : y_40 = true) => ?_) (fun (hb_42 : y_40 = false) => ?_)
      · rw [ifb_t hb_42] at H
        refine wp_seq ?_
        refine wp_region_lit ?_
        refine sl hK (by decide) rfl rfl (r_move hK rfl) fun a hK => ?_
        refine sl hK (by decide) rfl rfl (r_assign hK rfl) fun a hK => ?_
        refine wpList_nil ?_
        obtain rfl := Option.some.inj H
        refine wp_ret ?_
        repeat (first | refine ret_then ?_ | refine ret_block ?_ | refine ret_scope ?_)
        exact ret_1 Try.results35 hK (rv_tmp hK rfl) ⟨rfl, hS.bel⟩
      · rw [ifb_f hb_42] at H
        refine wp_skip ?_
        refine wp_region_lit ?_
        refine sl hK (by decide) rfl rfl (r_ibin hK rfl rfl rfl) fun a hK => ?_
        refine sl hK (by decide) rfl rfl (r_move hK rfl) fun a hK => ?_
        refine wpList_nil ?_
        exact ⟨_, Nat.lt_succ_self _, (IntKind.i64.wrap (x_15 + 1)), H, hK.sub (all_cons rfl (all_cons rfl (all_cons rfl (all_cons rfl (all_nil))))), hS⟩
    · rw [ifb_f hb_30] at H
      refine wp_exit ?_
      refine wp_seq ?_
      refine wp_region_lit ?_
      refine sl hK (by decide) rfl rfl (r_assign hK rfl) fun a hK => ?_
      refine wpList_nil ?_
      obtain rfl := Option.some.inj H
      refine wp_ret ?_
      repeat (first | refine ret_then ?_ | refine ret_block ?_ | refine ret_scope ?_)
      exact ret_1 Try.results35 hK (rv_tmp hK rfl) ⟨rfl, hS.bel⟩

/-! ### slices.DeleteFunc[[]int,int]: function 21 -/
set_option maxHeartbeats 4000000 in
set_option maxRecDepth 100000 in
theorem slices_DeleteFunc_int_int_f_join_Join_1pp.calls (a0 : List Int) (a1_0 : api_Table) (a1_1 : api_Table) {w0 : World} {R : Hp} {RA : Hp} {M : List Own} {v0_0 : Value} {cs0_0 : List Value} {b1q0 : Nat} {o1q0 : Nat} {v1q0_0 : Value} {v1q0_1 : Value} {b1q1 : Nat} {o1q1 : Nat} {v1q1_0 : Value} {v1q1_1 : Value} (hRA : RA.sub w0) (hRM : ∀ b, blks M b → RA b = none) (hS0 : St M w0 w0 R [.row 3 1 v0_0 a0.length cs0_0]) (h0_0 : Reps (tyInt .i64) R cs0_0 a0) (hc1q0 : ∀ j u, ([v1q0_0, v1q0_1] : List Value)[j]? = some u → RA.cell b1q0 (o1q0 + j) = some u) (h1q0_0 : SlR ty_api_Col RA v1q0_0 a1_0.Cols) (h1q0_1 : SlR (tySl ty_api_Value) RA v1q0_1 a1_0.Rows) (hc1q1 : ∀ j u, ([v1q1_0, v1q1_1] : List Value)[j]? = some u → RA.cell b1q1 (o1q1 + j) = some u) (h1q1_0 : SlR ty_api_Col RA v1q1_0 a1_1.Cols) (h1q1_1 : SlR (tySl ty_api_Value) RA v1q1_1 a1_1.Rows) {r : List Int} (H : slices_DeleteFunc_int_int_f_join_Join_1pp a0 a1_0 a1_1 = some r) : Calls Try.prog 21 #[v0_0, .func (.func 22) #[] #[.pointer (some ⟨b1q0, o1q0, none⟩), .pointer (some ⟨b1q1, o1q1, none⟩)]] w0 (Rets fun v w' => ∃ (R' : Hp) (u0 : Value), v = u0 ∧ St M w0 w' R' [] ∧ RLe M w0 R R' ∧ SlR (tyInt .i64) R' u0 r) := by
  unfold slices_DeleteFunc_int_int_f_join_Join_1pp at H
  refine enter (args := [v0_0, .func (.func 22) #[] #[.pointer (some ⟨b1q0, o1q0, none⟩), .pointer (some ⟨b1q1, o1q1, none⟩)]]) Try.func21 rfl Try.ntmps21 rfl fun a hK => ?_
  have hS := hS0
  have hRL := RLe.refl (M := M) w0 R
  refine wp_seq ?_
  refine wp_region_lit ?_
  refine sl hK (by decide) rfl rfl (r_assign hK rfl) fun a hK => ?_
  refine wpList_nil ?_
  refine wp_seq ?_
  refine wp_region_lit ?_
  refine sl hK (by decide) rfl rfl (r_move hK rfl) fun a hK => ?_
  refine sl hK (by decide) rfl rfl (r_move hK rfl) fun a hK => ?_
  obtain ⟨y_1, h_2, H⟩ := bind_some H
  refine sl_callV Try.call35 hS hK (by decide) rfl rfl rfl (slices_IndexFunc_int_int_f_join_Join_1pp.calls a0 a1_0 a1_1 (lentOf_sub [] _) (hS.lend_row0 (.head _) h0_0 rfl rfl) (fun j u hu => Hp.cell_le (hS.raLe0 hRA hRM) (hc1q0 j u hu)) (h1q0_0.mono (hS.raLe0 hRA hRM)) (h1q0_1.mono (hS.raLe0 hRA hRM)) (fun j u hu => Hp.cell_le (hS.raLe0 hRA hRM) (hc1q1 j u hu)) (h1q1_0.mono (hS.raLe0 hRA hRM)) (h1q1_1.mono (hS.raLe0 hRA hRM)) h_2) fun a w hS hK => ?_
  refine sl hK (by decide) rfl rfl (r_assign hK rfl) fun a hK => ?_
  refine wpList_nil ?_
  refine wp_seq ?_
  refine wp_seq ?_
  refine wp_region_lit ?_
  refine sl hK (by decide) rfl rfl (r_move hK rfl) fun a hK => ?_
  refine sl hK (by decide) rfl rfl (r_ibin hK rfl rfl rfl) fun a hK => ?_
  refine wpList_nil ?_
  refine wp_cond_split (hK.ev rfl) (fun (hb_3 : (y_1 == (-1)) = true) => ?_) (fun (hb_3 : (y_1 == (-1)) = false) => ?_)
  · rw [ifb_t hb_3] at H
    refine wp_seq ?_
    refine wp_region_lit ?_
    refine sl hK (by decide) rfl rfl (r_move hK rfl) fun a hK => ?_
    refine sl hK (by decide) rfl rfl (r_assign hK rfl) fun a hK => ?_
    refine wpList_nil ?_
    obtain ⟨R_4, hS, hl_6, hs_5⟩ := hS.fz_row h0_0 rfl rfl
    have hRL := hRL.trans hl_6
    obtain rfl := Option.some.inj H
    refine wp_ret ?_
    repeat (first | refine ret_then ?_ | refine ret_block ?_ | refine ret_scope ?_)
    exact ret_1 Try.results21 hK (rv_tmp hK rfl) ⟨_, rfl, _, _, rfl, hS, hRL, hs_5⟩
  · rw [ifb_f hb_3] at H
    refine wp_skip ?_
    refine wp_seq ?_
    refine wp_seq ?_
    refine wp_region_lit ?_
    refine sl hK (by decide) rfl rfl (r_move hK rfl) fun a hK => ?_
    refine sl hK (by decide) rfl rfl (r_ibin hK rfl rfl rfl) fun a hK => ?_
    refine sl hK (by decide) rfl rfl (r_assign hK rfl) fun a hK => ?_
    refine wpList_nil ?_
    refine wp_block ?_
    refine wp_loop_k (fun k_l0 a w => ∃ (x_57 : List Int) (x_61 : Int) (x_62 : Int) (v_58 : Value) (cs_59 : List Value), slices_DeleteFunc_int_int_f_join_Join_1pp.l0 a0 a1_0 a1_1 y_1 k_l0 x_57 x_61 x_62 = some r ∧ Reps (tyInt .i64) R cs_59 x_57 ∧ Kn 42 a [(0, v_58), (1, .func (.func 22) #[] #[.pointer (some ⟨b1q0, o1q0, none⟩), .pointer (some ⟨b1q1, o1q1, none⟩)]), (5, .int .i64 x_61), (6, .int .i64 x_62)] ∧ St M w0 w R [.row 3 1 v_58 x_57.length cs_59]) (((a0.length : Int) - (IntKind.i64.wrap (y_1 + 1))).toNat + 1) ?_ ?_
    · exact ⟨a0, y_1, (IntKind.i64.wrap (y_1 + 1)), _, _, H, h0_0, hK.sub (all_cons rfl (all_cons rfl (all_cons rfl (all_cons rfl (all_nil))))), hS⟩
    · rintro k_l0 a w ⟨x_57, x_61, x_62, v_58, cs_59, H, hq_60, hK, hS⟩
      cases k_l0 with
      | zero => cases H
      | succ k_l0 =>
      rw [slices_DeleteFunc_int_int_f_join_Join_1pp.l0.eq_2] at H
      refine wp_seq ?_
      refine wp_seq ?_
      refine wp_region_lit ?_
      refine sl hK (by decide) rfl rfl (r_move hK rfl) fun a hK => ?_
      refine sl hK (by decide) rfl rfl (r_move hK rfl) fun a hK => ?_
      refine sl hK (by decide) rfl rfl (r_len_O Try.underlying51 hS (.head _) hK rfl) fun a hK => ?_
      refine sl hK (by decide) rfl rfl (r_ibin hK rfl rfl rfl) fun a hK => ?_
      refine wpList_nil ?_
      refine wp_cond_split (hK.ev rfl) (fun (hb_112 : (decide (x_62 < (x_57.length : Int))) = true) => ?_) (fun (hb_112 : (decide (x_62 < (x_57.length : Int))) = false) => ?_)
      · rw [ifb_t hb_112] at H
        refine wp_skip ?_
        refine wp_seq ?_
        refine wp_block ?_
        refine wp_seq ?_
        refine wp_region_lit ?_
        refine sl hK (by decide) rfl rfl (r_move hK rfl) fun a hK => ?_
        refine sl hK (by decide) rfl rfl (r_move hK rfl) fun a hK => ?_
        obtain ⟨y_113, h_114, H⟩ := bind_some H
        obtain ⟨b_116, c_117, cs_118, hv_115, hr_119, hc_120, h_1140, h_1141⟩ := hS.row_ix (.head _) hq_60 rfl rfl h_114
        subst hr_119
        refine sl hK (by decide) rfl rfl (r_indexAddr_R Try.underlying51 Try.sizeOf3 hv_115 h_1140 h_1141 hK rfl rfl) fun a hK => ?_
        refine sl hK (by decide) rfl rfl (r_load Try.isAgg3 hK rfl (hS.row_cell (.head _) hv_115 (hc_120 0 _ rfl))) fun a hK => ?_
        refine sl hK (by decide) rfl rfl (r_assign hK rfl) fun a hK => ?_
        refine wpList_nil ?_
        refine wp_seq ?_
        refine wp_region_lit ?_
        refine sl hK (by decide) rfl rfl (r_move hK rfl) fun a hK => ?_
        refine sl hK (by decide) rfl rfl (r_move hK rfl) fun a hK => ?_
        obtain ⟨y_121, h_122, H⟩ := bind_some H
        refine sl_callV Try.call22 hS hK (by decide) rfl rfl rfl (join_Join_1_cp_cp.calls y_113 a1_0 a1_1 (lentOf_sub [] _) (fun j u hu => Hp.cell_le (hS.raLe0 hRA hRM) (hc1q0 j u hu)) (h1q0_0.mono (hS.raLe0 hRA hRM)) (h1q0_1.mono (hS.raLe0 hRA hRM)) (fun j u hu => Hp.cell_le (hS.raLe0 hRA hRM) (hc1q1 j u hu)) (h1q1_0.mono (hS.raLe0 hRA hRM)) (h1q1_1.mono (hS.raLe0 hRA hRM)) h_122) fun a w hS hK => ?_
        refine sl hK (by decide) rfl rfl (r_un hK rfl (u_not _)) fun a hK => ?_
        refine wpList_nil ?_
        refine wp_mid (fun a w => ∃ (x_139 : List Int) (x_143 : Int) (v_140 : Value) (cs_141 : List Value), slices_DeleteFunc_int_int_f_join_Join_1pp.j1 (slices_DeleteFunc_int_int_f_join_Join_1pp.l0 a0 a1_0 a1_1 y_1 k_l0) a0 y_1 x_62 x_139 x_143 = some r ∧ Reps (tyInt .i64) R cs_141 x_139 ∧ Kn 42 a [(0, v_140), (1, .func (.func 22) #[] #[.pointer (some ⟨b1q0, o1q0, none⟩), .pointer (some ⟨b1q1, o1q1, none⟩)]), (5, .int .i64 x_143), (6, .int .i64 x_62)] ∧ St M w0 w R [.row 3 1 v_140 x_139.length cs_141]) ?_ ?_
        · refine wp_cond_split (hK.ev rfl) (fun (hb_145 : (!y_121) = true) => ?_) (fun (hb_145 : (!y_121) = false) => ?_)
          · rw [ifb_t hb_145] at H
            refine wp_seq ?_
            refine wp_region_lit ?_
            refine sl hK (by decide) rfl rfl (r_move hK rfl) fun a hK => ?_
            refine sl hK (by decide) rfl rfl (r_move hK rfl) fun a hK => ?_
            refine sl hK (by decide) rfl rfl (r_move hK rfl) fun a hK => ?_
            obtain ⟨y_146, h_147, H⟩ := bind_some H
            obtain ⟨b_149, c_150, cs_151, hv_148, hr_152, hc_153, h_1470, h_1471⟩ := hS.row_ix (.head _) hq_60 rfl rfl h_147
            subst hr_152
            refine sl hK (by decide) rfl rfl (r_indexAddr_R Try.underlying51 Try.sizeOf3 hv_148 h_1470 h_1471 hK rfl rfl) fun a hK => ?_
            refine sl_store_row Try.sizeOf3 hv_148 h_147 rfl (show Ty.rep (tyInt .i64) _ [.int .i64 y_113] y_113 from rfl) hq_60 rfl hS hK rfl rfl rfl rfl fun a w cs_154 hq_155 hS hK => ?_
            obtain ⟨z_159, h_157⟩ := ix_upd x_61 y_113 h_114
            have hv_158 : v_58 = Value.slice (some ⟨b_116, 0, none⟩) (upd x_57 x_61 y_113).length c_117 := by rw [upd_length]; exact hv_115
            refine wpList_nil ?_
            refine wp_region_lit ?_
            refine sl hK (by decide) rfl rfl (r_move hK rfl) fun a hK => ?_
            refine sl hK (by decide) rfl rfl (r_ibin hK rfl rfl rfl) fun a hK => ?_
            refine sl hK (by decide) rfl rfl (r_assign hK rfl) fun a hK => ?_
            refine wpList_nil ?_
            exact ⟨(upd x_57 x_61 y_113), (IntKind.i64.wrap (x_61 + 1)), _, _, H, hq_155, hK.sub (all_cons rfl (all_cons rfl (all_cons rfl (all_cons rfl (all_nil))))), hS⟩
          · rw [ifb_f hb_145] at H
            refine wp_skip ?_
            exact ⟨x_57, x_61, _, _, H, hq_60, hK.sub (all_cons rfl (all_cons rfl (all_cons rfl (all_cons rfl (all_nil))))), hS⟩
        · rintro a w ⟨x_139, x_143, v_140, cs_141, H, hq_142, hK, hS⟩
          unfold slices_DeleteFunc_int_int_f_join_Join_1pp.j1 at H
          refine wp_region_lit ?_
          refine sl hK (by decide) rfl rfl (r_move hK rfl) fun a hK => ?_
          refine sl hK (by decide) rfl rfl (r_ibin hK rfl rfl rfl) fun a hK => ?_
          refine sl hK (by decide) rfl rfl (r_assign hK rfl) fun a hK => ?_
          refine wpList_nil ?_
          exact ⟨_, Nat.lt_succ_self _, x_139, x_143, (IntKind.i64.wrap (x_62 + 1)), _, _, H, hq_142, hK.sub (all_cons rfl (all_cons rfl (all_cons rfl (all_cons rfl (all_nil))))), hS⟩
      · rw [ifb_f hb_112] at H
        refine wp_exit ?_
        refine wp_seq ?_
        refine wp_region_lit ?_
        refine sl hK (by decide) rfl rfl (r_move hK rfl) fun a hK => ?_
        refine sl hK (by decide) rfl rfl (r_move hK rfl) fun a hK => ?_
        obtain ⟨y_160, h_161, H⟩ := bind_some H
        obtain ⟨u_162, hT_163, hr_164⟩ := hS.slice_tail (x := .tmp 36) (y := .tmp 37) hK (.head _) rfl Try.underlying51 Try.sizeOf3 h_161 rfl rfl
        refine sl hK (by decide) rfl rfl (hr_164 _ _ _ _ _ _ _ hK) fun a hK => ?_
        refine sl_clear elT51 rfl Try.zeroValue3 rfl (show Ty.rep (tyInt .i64) _ [.int .i64 0] 0 from rfl) hT_163 hq_60 rfl hS hK rfl rfl fun a w cs_165 hq_166 hS hK => ?_
        refine wpList_nil ?_
        refine wp_seq ?_
        refine wp_region_lit ?_
        refine sl hK (by decide) rfl rfl (r_move hK rfl) fun a hK => ?_
        refine sl hK (by decide) rfl rfl (r_move hK rfl) fun a hK => ?_
        obtain ⟨y_168, h_169, H⟩ := bind_some H
        obtain ⟨v_170, cs_171, hS, hq_172, hr_173⟩ := hS.slice_head (x := .tmp 39) (y := .tmp 40) hK hq_166 rfl rfl Try.underlying51 Try.sizeOf3 h_169 rfl rfl
        refine sl hK (by decide) rfl rfl (hr_173 _ _ _ _ _ _ _ hK) fun a hK => ?_
        refine sl hK (by decide) rfl rfl (r_assign hK rfl) fun a hK => ?_
        refine wpList_nil ?_
        obtain ⟨R_175, hS, hl_177, hs_176⟩ := hS.fz_row hq_172 rfl rfl
        have hRL := hRL.trans hl_177
        obtain rfl := Option.some.inj H
        refine wp_ret ?_
        repeat (first | refine ret_then ?_ | refine ret_block ?_ | refine ret_scope ?_)
        exact ret_1 Try.results21 hK (rv_tmp hK rfl) ⟨_, rfl, _, _, rfl, hS, hRL, hs_176⟩

/-! ### catchment/join.pick: function 25 -/
set_option maxHeartbeats 4000000 in
set_option maxRecDepth 100000 in
theorem join_pick.calls (a0 : List api_Value) (a1 : List Int) {w0 : World} {R : Hp} {RA : Hp} {v0_0 : Value} {v1_0 : Value} (hRA : RA.sub w0) (hR : R.sub w0) (h0_0 : SlR ty_api_Value RA v0_0 a0) (h1_0 : SlR (tyInt .i64) RA v1_0 a1) {r : List api_Value} (H : join_pick a0 a1 = some r) : Calls Try.prog 25 #[v0_0, v1_0] w0 (Rets fun v w' => ∃ (R' : Hp) (u0 : Value) (cu0 : List Value), v = u0 ∧ St [] w0 w' R' [.row 46 11 u0 r.length cu0] ∧ RLe [] w0 R R' ∧ Reps ty_api_Value R' cu0 r) := by
  unfold join_pick at H
  refine enter (args := [v0_0, v1_0]) Try.func25 rfl Try.ntmps25 rfl fun a hK => ?_
  have hS := St.init hR
  have hRL := RLe.refl (M := []) w0 R
  refine wp_seq ?_
  refine wp_region_lit ?_
  refine sl hK (by decide) rfl rfl (r_assign hK rfl) fun a hK => ?_
  refine wpList_nil ?_
  refine wp_seq ?_
  refine wp_region_lit ?_
  refine sl hK (by decide) rfl rfl (r_assign hK rfl) fun a hK => ?_
  refine wpList_nil ?_
  refine wp_seq ?_
  refine wp_seq ?_
  refine wp_region_lit ?_
  refine sl hK (by decide) rfl rfl (r_move hK rfl) fun a hK => ?_
  refine sl hK (by decide) rfl rfl (r_len_R Try.underlying51 h1_0 hK rfl) fun a hK => ?_
  refine sl hK (by decide) rfl rfl (r_move hK rfl) fun a hK => ?_
  refine wpList_nil ?_
  refine wp_block ?_
  refine wp_loop_k (fun k_l0 a w => ∃ (x_31 : List api_Value) (x_35 : Int) (v_32 : Value) (cs_33 : List Value), join_pick.l0 a0 a1 k_l0 x_31 x_35 = some r ∧ Reps ty_api_Value R cs_33 x_31 ∧ Kn 23 a [(0, v0_0), (5, v_32), (8, v1_0), (9, .int .i64 (a1.length : Int)), (10, .int .i64 x_35)] ∧ St [] w0 w R [.row 46 11 v_32 x_31.length cs_33]) (((a1.length : Int) - 0).toNat + 1) ?_ ?_
  · have hS := hS.row_nil 46 11
    have hq_64 : Reps ty_api_Value R [] ([] : List api_Value) := Reps.nil _ _
    exact ⟨[], 0, _, _, H, hq_64, hK.sub (all_cons rfl (all_cons rfl (all_cons rfl (all_cons rfl (all_cons rfl (all_nil)))))), hS⟩
  · rintro k_l0 a w ⟨x_31, x_35, v_32, cs_33, H, hq_34, hK, hS⟩
    cases k_l0 with
    | zero => cases H
    | succ k_l0 =>
    rw [join_pick.l0.eq_2] at H
    refine wp_seq ?_
    refine wp_region_lit ?_
    refine sl hK (by decide) rfl rfl (r_ibin hK rfl rfl rfl) fun a hK => ?_
    refine wpList_nil ?_
    refine wp_seq ?_
    refine wp_cond_split (hK.ev rfl) (fun (hb_65 : (decide (x_35 < (a1.length : Int))) = true) => ?_) (fun (hb_65 : (decide (x_35 < (a1.length : Int))) = false) => ?_)
    · rw [ifb_t hb_65] at H
      refine wp_skip ?_
      refine wp_seq ?_
      refine wp_block ?_
      refine wp_seq ?_
      refine wp_region_lit ?_
      obtain ⟨y_66, h_67, H⟩ := bind_some H
      obtain ⟨b_68, o_69, c_70, cs_71, hv_72, hr_73, hc_74, h_670, h_671⟩ := h1_0.ix h_67
      subst hr_73
      refine sl hK (by decide) rfl rfl (r_indexAddr_R Try.underlying51 Try.sizeOf3 hv_72 h_670 h_671 hK rfl rfl) fun a hK => ?_
      refine sl hK (by decide) rfl rfl (r_load Try.isAgg3 hK rfl ((hS.ra hRA nil_not).cell (hc_74 0 _ rfl))) fun a hK => ?_
      refine sl hK (by decide) rfl rfl (r_assign hK rfl) fun a hK => ?_
      refine wpList_nil ?_
      refine wp_region_lit ?_
      refine sl hK (by decide) rfl rfl (r_move hK rfl) fun a hK => ?_
      refine sl hK (by decide) rfl rfl (r_move hK rfl) fun a hK => ?_
      refine sl hK (by decide) rfl rfl (r_move hK rfl) fun a hK => ?_
      obtain ⟨y_75, h_76, H⟩ := bind_some H
      obtain ⟨b_77, o_78, c_79, cs_80, hv_81, hr_82, hc_83, h_760, h_761⟩ := h0_0.ix h_76
      subst hr_82
      refine sl hK (by decide) rfl rfl (r_indexAddr_R Try.underlying40 Try.sizeOf46 hv_81 h_760 h_761 hK rfl rfl) fun a hK => ?_
      refine sl hK (by decide) rfl rfl (r_loadA (cs := [.int .i64 y_75.Kind, .int .i64 y_75.N, .string y_75.S, .int .i64 y_75.H.a0, .int .i64 y_75.H.a1, .int .i64 y_75.H.a2, .int .i64 y_75.H.a3, .int .i64 y_75.H.a4, .int .i64 y_75.H.a5, .int .i64 y_75.H.a6, .int .i64 y_75.H.a7]) Try.isAgg46 Try.sizeOf46 rfl hK rfl (fun j v hv => (hS.ra hRA nil_not).cell (hc_83 j v hv))) fun a hK => ?_
      refine sl_buildSliceF (zc := [.int .i64 0, .int .i64 0, .string (⟨#[]⟩ : ByteArray), .int .i64 0, .int .i64 0, .int .i64 0, .int .i64 0, .int .i64 0, .int .i64 0, .int .i64 0, .int .i64 0]) (ps := [(0, .agg #[.int .i64 y_75.Kind, .int .i64 y_75.N, .string y_75.S, .int .i64 y_75.H.a0, .int .i64 y_75.H.a1, .int .i64 y_75.H.a2, .int .i64 y_75.H.a3, .int .i64 y_75.H.a4, .int .i64 y_75.H.a5, .int .i64 y_75.H.a6, .int .i64 y_75.H.a7])]) (c := [.int .i64 y_75.Kind, .int .i64 y_75.N, .string y_75.S, .int .i64 y_75.H.a0, .int .i64 y_75.H.a1, .int .i64 y_75.H.a2, .int .i64 y_75.H.a3, .int .i64 y_75.H.a4, .int .i64 y_75.H.a5, .int .i64 y_75.H.a6, .int .i64 y_75.H.a7]) [[.int .i64 y_75.Kind, .int .i64 y_75.N, .string y_75.S, .int .i64 y_75.H.a0, .int .i64 y_75.H.a1, .int .i64 y_75.H.a2, .int .i64 y_75.H.a3, .int .i64 y_75.H.a4, .int .i64 y_75.H.a5, .int .i64 y_75.H.a6, .int .i64 y_75.H.a7]] Try.underlying40 Try.sizeOf46 Try.zeroValue46 rfl (pc_cons rfl pc_nil) rfl rfl (Nat.le_of_ble_eq_true rfl) rfl (all_cons rfl (all_nil)) rfl hS hK (by decide) rfl fun a w b_84 hS hK => ?_
      obtain ⟨y_85, h_86, H⟩ := bind_some H
      have hS := hS.pk1
      refine sl_append_L (ty := ty_api_Value) (ys := [y_75]) elT40 (by decide) rfl hq_34 rfl (Reps.cons (show Ty.rep ty_api_Value _ [.int .i64 y_75.Kind, .int .i64 y_75.N, .string y_75.S, .int .i64 y_75.H.a0, .int .i64 y_75.H.a1, .int .i64 y_75.H.a2, .int .i64 y_75.H.a3, .int .i64 y_75.H.a4, .int .i64 y_75.H.a5, .int .i64 y_75.H.a6, .int .i64 y_75.H.a7] y_75 from rfl) (Reps.nil _ _)) rfl h_86 hS hK (by decide) rfl rfl rfl fun a w v_87 cs_88 hq_89 hS hK => ?_
      refine sl hK (by decide) rfl rfl (r_assign hK rfl) fun a hK => ?_
      refine wpList_nil ?_
      refine wp_region_lit ?_
      refine sl hK (by decide) rfl rfl (r_ibin hK rfl rfl rfl) fun a hK => ?_
      refine sl hK (by decide) rfl rfl (r_move hK rfl) fun a hK => ?_
      refine wpList_nil ?_
      exact ⟨_, Nat.lt_succ_self _, y_85, (IntKind.i64.wrap (x_35 + 1)), _, _, H, hq_89, hK.sub (all_cons rfl (all_cons rfl (all_cons rfl (all_cons rfl (all_cons rfl (all_nil)))))), hS⟩
    · rw [ifb_f hb_65] at H
      refine wp_exit ?_
      refine wp_seq ?_
      refine wp_region_lit ?_
      refine sl hK (by decide) rfl rfl (r_move hK rfl) fun a hK => ?_
      refine sl hK (by decide) rfl rfl (r_assign hK rfl) fun a hK => ?_
      refine wpList_nil ?_
      obtain rfl := Option.some.inj H
      refine wp_ret ?_
      repeat (first | refine ret_then ?_ | refine ret_block ?_ | refine ret_scope ?_)
      exact ret_1 Try.results25 hK (rv_tmp hK rfl) ⟨_, rfl, _, _, _, rfl, hS, hRL, hq_34⟩

/-! ### slices.Clone[[]byte,byte]: function 48 -/
set_option maxHeartbeats 4000000 in
set_option maxRecDepth 100000 in
theorem slices_Clone_byte_byte.calls (a0 : List Int) {w0 : World} {R : Hp} {RA : Hp} {v0_0 : Value} (hRA : RA.sub w0) (hR : R.sub w0) (h0_0 : SlR (tyInt .u8) RA v0_0 a0) {r : List Int} (H : slices_Clone_byte_byte a0 = some r) : Calls Try.prog 48 #[v0_0] w0 (Rets fun v w' => ∃ (R' : Hp) (u0 : Value) (cu0 : List Value), v = u0 ∧ St [] w0 w' R' [.row 5 1 u0 r.length cu0] ∧ RLe [] w0 R R' ∧ Reps (tyInt .u8) R' cu0 r) := by
  unfold slices_Clone_byte_byte at H
  rcases SlR.nilcase h0_0 with ⟨hn, hx⟩ | ⟨ad_, m_, c_, hn⟩
  · subst hx
    have H : some ([] : List Int) = some r := by simpa [apd] using H
    refine enter (args := [v0_0]) Try.func48 rfl Try.ntmps48 rfl fun a hK => ?_
    have hS := St.init hR
    have hRL := RLe.refl (M := []) w0 R
    refine wp_seq ?_
    refine wp_region_lit ?_
    refine sl hK (by decide) rfl rfl (r_assign hK rfl) fun a hK => ?_
    refine wpList_nil ?_
    refine wp_seq ?_
    refine wp_seq ?_
    refine wp_region_lit ?_
    refine sl hK (by decide) rfl rfl (r_move hK rfl) fun a hK => ?_
    refine sl hK (by decide) rfl rfl (r_sleqN Try.underlying69 hn hK rfl rfl) fun a hK => ?_
    refine wpList_nil ?_
    refine wp_cond_true (hK.ev rfl) ?_
    refine wp_seq ?_
    refine wp_region_lit ?_
    refine sl hK (by decide) rfl rfl (r_assign hK rfl) fun a hK => ?_
    refine wpList_nil ?_
    have hS := hS.row_nil 5 1
    have hq_11 : Reps (tyInt .u8) R [] ([] : List Int) := Reps.nil _ _
    obtain rfl := Option.some.inj H
    refine wp_ret ?_
    repeat (first | refine ret_then ?_ | refine ret_block ?_ | refine ret_scope ?_)
    exact ret_1 Try.results48 hK (rv_tmp hK rfl) ⟨_, rfl, _, _, _, rfl, hS, hRL, hq_11⟩
  · refine enter (args := [v0_0]) Try.func48 rfl Try.ntmps48 rfl fun a hK => ?_
    have hS := St.init hR
    have hRL := RLe.refl (M := []) w0 R
    refine wp_seq ?_
    refine wp_region_lit ?_
    refine sl hK (by decide) rfl rfl (r_assign hK rfl) fun a hK => ?_
    refine wpList_nil ?_
    refine wp_seq ?_
    refine wp_seq ?_
    refine wp_region_lit ?_
    refine sl hK (by decide) rfl rfl (r_move hK rfl) fun a hK => ?_
    refine sl hK (by decide) rfl rfl (r_sleqS Try.underlying69 hn hK rfl rfl) fun a hK => ?_
    refine wpList_nil ?_
    refine wp_cond_false (hK.ev rfl) ?_
    refine wp_skip ?_
    refine wp_seq ?_
    refine wp_region_lit ?_
    refine sl_buildSliceC (zc := [.int .u8 0]) (zs := []) (ps := []) (c := []) Try.underlying69 Try.sizeOf5 Try.zeroValue5 rfl pc_nil rfl rfl (by decide) (by kernel_rfl) rfl hS hK (by decide) rfl fun a w b_1 hS hK => ?_
    refine sl hK (by decide) rfl rfl (r_move hK rfl) fun a hK => ?_
    obtain ⟨y_4, h_5, H⟩ := bind_some H
    have hS := hS.row_lit (size := 1) (m := 0) rfl (by decide)
    have hq_3 : Reps (tyInt .u8) R [] ([] : List Int) := (Reps.nil _ _)
    refine sl_append_A elT69 (by decide) rfl (fun _ _ _ _ h => h) (hS.ra hRA nil_not) hq_3 rfl h0_0 h_5 hS hK (by decide) rfl rfl rfl fun a w v_6 cs_7 hq_8 hS hK => ?_
    refine sl hK (by decide) rfl rfl (r_assign hK rfl) fun a hK => ?_
    refine wpList_nil ?_
    obtain rfl := Option.some.inj H
    refine wp_ret ?_
    repeat (first | refine ret_then ?_ | refine ret_block ?_ | refine ret_scope ?_)
    exact ret_1 Try.results48 hK (rv_tmp hK rfl) ⟨_, rfl, _, _, _, rfl, hS, hRL, hq_8⟩

/-! ### catchment/wire.big: function 53 -/
set_option maxHeartbeats 4000000 in
set_option maxRecDepth 100000 in
theorem wire_big.calls (a0 : List Int) (a1 : Int) (a2 : Int) {w0 : World} {R : Hp} {M : List Own} {v0_0 : Value} {cs0_0 : List Value} (hS0 : St M w0 w0 R [.row 5 1 v0_0 a0.length cs0_0]) (h0_0 : Reps (tyInt .u8) R cs0_0 a0) {r : List Int} (H : wire_big a0 a1 a2 = some r) : Calls Try.prog 53 #[v0_0, .int .i64 a1, .int .i64 a2] w0 (Rets fun v w' => ∃ (R' : Hp) (u0 : Value) (cu0 : List Value), v = u0 ∧ St M w0 w' R' [.row 5 1 u0 r.length cu0] ∧ RLe M w0 R R' ∧ Reps (tyInt .u8) R' cu0 r) := by
  unfold wire_big at H
  refine enter (args := [v0_0, .int .i64 a1, .int .i64 a2]) Try.func53 rfl Try.ntmps53 rfl fun a hK => ?_
  have hS := hS0
  have hRL := RLe.refl (M := M) w0 R
  refine wp_seq ?_
  refine wp_region_lit ?_
  refine sl hK (by decide) rfl rfl (r_assign hK rfl) fun a hK => ?_
  refine wpList_nil ?_
  refine wp_seq ?_
  refine wp_seq ?_
  refine wp_region_lit ?_
  refine sl hK (by decide) rfl rfl (r_move hK rfl) fun a hK => ?_
  refine sl hK (by decide) rfl rfl (r_ibin hK rfl rfl rfl) fun a hK => ?_
  refine sl hK (by decide) rfl rfl (r_assign hK rfl) fun a hK => ?_
  refine wpList_nil ?_
  refine wp_block ?_
  refine wp_loop_k (fun k_l0 a w => ∃ (x_12 : List Int) (x_16 : Int) (v_13 : Value) (cs_14 : List Value), wire_big.l0 a1 a2 k_l0 x_12 x_16 = some r ∧ Reps (tyInt .u8) R cs_14 x_12 ∧ Kn 23 a [(0, v_13), (1, .int .i64 a1), (7, .int .i64 x_16)] ∧ St M w0 w R [.row 5 1 v_13 x_12.length cs_14]) (((IntKind.i64.wrap (a2 - 1)) - 0).toNat + 2) ?_ ?_
  · exact ⟨a0, (IntKind.i64.wrap (a2 - 1)), _, _, H, h0_0, hK.sub (all_cons rfl (all_cons rfl (all_cons rfl (all_nil)))), hS⟩
  · rintro k_l0 a w ⟨x_12, x_16, v_13, cs_14, H, hq_15, hK, hS⟩
    cases k_l0 with
    | zero => cases H
    | succ k_l0 =>
    rw [wire_big.l0.eq_2] at H
    refine wp_seq ?_
    refine wp_seq ?_
    refine wp_region_lit ?_
    refine sl hK (by decide) rfl rfl (r_move hK rfl) fun a hK => ?_
    refine sl hK (by decide) rfl rfl (r_ibin hK rfl rfl rfl) fun a hK => ?_
    refine wpList_nil ?_
    refine wp_cond_split (hK.ev rfl) (fun (hb_27 : (decide (x_16 ≥ 0)) = true) => ?_) (fun (hb_27 : (decide (x_16 ≥ 0)) = false) => ?_)
    · rw [ifb_t hb_27] at H
      refine wp_skip ?_
      refine wp_seq ?_
      refine wp_block ?_
      refine wp_region_lit ?_
      refine sl hK (by decide) rfl rfl (r_move hK rfl) fun a hK => ?_
      refine sl hK (by decide) rfl rfl (r_move hK rfl) fun a hK => ?_
      refine sl hK (by decide) rfl rfl (r_move hK rfl) fun a hK => ?_
      refine sl hK (by decide) rfl rfl (r_ibin hK rfl rfl rfl) fun a hK => ?_
      rcases or_b (decide (0 ≤ (IntKind.i64.wrap (8 * x_16)))) with hn_28 | hn_28
      · rw [ifb_t hn_28] at H
        refine sl hK (by decide) rfl rfl (r_shr hK rfl rfl (of_decide_eq_true hn_28)) fun a hK => ?_
        refine sl hK (by decide) rfl rfl (r_conv Try.underlying3 Try.underlying5 hK rfl) fun a hK => ?_
        refine sl_buildSliceF (zc := [.int .u8 0]) (ps := [(0, .int .u8 (IntKind.u8.wrap (a1.fdiv (2 ^ (min (IntKind.i64.wrap (8 * x_16)).toNat 64)))))]) (c := [.int .u8 (IntKind.u8.wrap (a1.fdiv (2 ^ (min (IntKind.i64.wrap (8 * x_16)).toNat 64))))]) [[.int .u8 (IntKind.u8.wrap (a1.fdiv (2 ^ (min (IntKind.i64.wrap (8 * x_16)).toNat 64))))]] Try.underlying69 Try.sizeOf5 Try.zeroValue5 rfl (pc_cons rfl pc_nil) rfl rfl (Nat.le_of_ble_eq_true rfl) rfl (all_cons rfl (all_nil)) rfl hS hK (by decide) rfl fun a w b_29 hS hK => ?_
        obtain ⟨y_30, h_31, H⟩ := bind_some H
        have hS := hS.pk1
        refine sl_append_L (ty := (tyInt .u8)) (ys := [IntKind.u8.wrap (a1.fdiv (2 ^ (min (IntKind.i64.wrap (8 * x_16)).toNat 64)))]) elT69 (by decide) rfl hq_15 rfl (Reps.cons (show Ty.rep (tyInt .u8) _ [.int .u8 (IntKind.u8.wrap (a1.fdiv (2 ^ (min (IntKind.i64.wrap (8 * x_16)).toNat 64))))] (IntKind.u8.wrap (a1.fdiv (2 ^ (min (IntKind.i64.wrap (8 * x_16)).toNat 64)))) from rfl) (Reps.nil _ _)) rfl h_31 hS hK (by decide) rfl rfl rfl fun a w v_32 cs_33 hq_34 hS hK => ?_
        refine sl hK (by decide) rfl rfl (r_assign hK rfl) fun a hK => ?_
        refine wpList_nil ?_
        refine wp_region_lit ?_
        refine sl hK (by decide) rfl rfl (r_move hK rfl) fun a hK => ?_
        refine sl hK (by decide) rfl rfl (r_ibin hK rfl rfl rfl) fun a hK => ?_
        refine sl hK (by decide) rfl rfl (r_assign hK rfl) fun a hK => ?_
        refine wpList_nil ?_
        exact ⟨_, Nat.lt_succ_self _, y_30, (IntKind.i64.wrap (x_16 - 1)), _, _, H, hq_34, hK.sub (all_cons rfl (all_cons rfl (all_cons rfl (all_nil)))), hS⟩
      · rw [ifb_f hn_28] at H
        cases H
    · rw [ifb_f hb_27] at H
      refine wp_exit ?_
      refine wp_seq ?_
      refine wp_region_lit ?_
      refine sl hK (by decide) rfl rfl (r_move hK rfl) fun a hK => ?_
      refine sl hK (by decide) rfl rfl (r_assign hK rfl) fun a hK => ?_
      refine wpList_nil ?_
      obtain rfl := Option.some.inj H
      refine wp_ret ?_
      repeat (first | refine ret_then ?_ | refine ret_block ?_ | refine ret_scope ?_)
      exact ret_1 Try.results53 hK (rv_tmp hK rfl) ⟨_, rfl, _, _, _, rfl, hS, hRL, hq_15⟩

/-! ### catchment/wire.put: function 47 -/
set_option maxHeartbeats 4000000 in
set_option maxRecDepth 100000 in
theorem wire_put.calls (a0 : List Int) (a1 : api_Value) {w0 : World} {R : Hp} {M : List Own} {v0_0 : Value} {cs0_0 : List Value} (hS0 : St M w0 w0 R [.row 5 1 v0_0 a0.length cs0_0]) (h0_0 : Reps (tyInt .u8) R cs0_0 a0) {r : List Int} (H : wire_put a0 a1 = some r) : Calls Try.prog 47 #[v0_0, .agg #[.int .i64 a1.Kind, .int .i64 a1.N, .string a1.S, .int .i64 a1.H.a0, .int .i64 a1.H.a1, .int .i64 a1.H.a2, .int .i64 a1.H.a3, .int .i64 a1.H.a4, .int .i64 a1.H.a5, .int .i64 a1.H.a6, .int .i64 a1.H.a7]] w0 (Rets fun v w' => ∃ (R' : Hp) (u0 : Value) (cu0 : List Value), v = u0 ∧ St M w0 w' R' [.row 5 1 u0 r.length cu0] ∧ RLe M w0 R R' ∧ Reps (tyInt .u8) R' cu0 r) := by
  unfold wire_put at H
  refine enter (args := [v0_0, .agg #[.int .i64 a1.Kind, .int .i64 a1.N, .string a1.S, .int .i64 a1.H.a0, .int .i64 a1.H.a1, .int .i64 a1.H.a2, .int .i64 a1.H.a3, .int .i64 a1.H.a4, .int .i64 a1.H.a5, .int .i64 a1.H.a6, .int .i64 a1.H.a7]]) Try.func47 rfl Try.ntmps47 rfl fun a hK => ?_
  have hS := hS0
  have hRL := RLe.refl (M := M) w0 R
  refine wp_seq ?_
  refine wp_region_lit ?_
  refine sl_box hS hK (by decide) rfl rfl (c := [.int .i64 a1.Kind, .int .i64 a1.N, .string a1.S, .int .i64 a1.H.a0, .int .i64 a1.H.a1, .int .i64 a1.H.a2, .int .i64 a1.H.a3, .int .i64 a1.H.a4, .int .i64 a1.H.a5, .int .i64 a1.H.a6, .int .i64 a1.H.a7]) rfl fun a w b_1 hS hK => ?_
  refine sl hK (by decide) rfl rfl (r_assign hK rfl) fun a hK => ?_
  refine wpList_nil ?_
  refine wp_seq ?_
  refine wp_seq ?_
  refine wp_region_lit ?_
  refine sl hK (by decide) rfl rfl (r_fieldAddr Try.underlying46 rfl Try.sizeOf3 hK rfl) fun a hK => ?_
  refine sl hK (by decide) rfl rfl (r_load Try.isAgg3 hK rfl (hS.cell (.head _) rfl)) fun a hK => ?_
  refine wpList_nil ?_
  refine wp_block ?_
  refine wp_seq ?_
  refine wp_region_lit ?_
  refine sl hK (by decide) rfl rfl (r_ibin hK rfl rfl rfl) fun a hK => ?_
  refine sl hK (by decide) rfl rfl (r_assign hK rfl) fun a hK => ?_
  refine wpList_nil ?_
  refine wp_cond_split (hK.ev rfl) (fun (hb_2 : (a1.Kind == 1) = true) => ?_) (fun (hb_2 : (a1.Kind == 1) = false) => ?_)
  · rw [ifb_t hb_2] at H
    refine wp_seq ?_
    refine wp_region_lit ?_
    refine sl hK (by decide) rfl rfl (r_move hK rfl) fun a hK => ?_
    refine sl hK (by decide) rfl rfl (r_fieldAddr Try.underlying46 rfl Try.sizeOf3 hK rfl) fun a hK => ?_
    refine sl hK (by decide) rfl rfl (r_load Try.isAgg3 hK rfl (hS.cell (.head _) rfl)) fun a hK => ?_
    obtain ⟨y_3, h_4, H⟩ := bind_some H
    have hS := hS.pk1
    have hS1 := hS.sp1
    refine sl_call Try.call53 hK (by decide) rfl rfl rfl (wire_big.calls a0 a1.N 8 hS1.lend h0_0 h_4) fun a v_ w hv_ hK => ?_
    obtain ⟨R_5, v_8, cs_9, hv_, hr_, hl_6, hq_10⟩ := hv_
    have hv_ := hv_.symm
    subst hv_
    obtain ⟨hS, hl_6⟩ := hS1.back hr_ hl_6
    have hS := hS.un1
    have hRL := hRL.trans hl_6
    refine sl hK (by decide) rfl rfl (r_assign hK rfl) fun a hK => ?_
    refine wpList_nil ?_
    obtain rfl := Option.some.inj H
    refine wp_ret ?_
    repeat (first | refine ret_then ?_ | refine ret_block ?_ | refine ret_scope ?_)
    exact ret_1 Try.results47 hK (rv_tmp hK rfl) ⟨_, rfl, _, _, _, rfl, (hS.trunc 1), hRL, hq_10⟩
  · rw [ifb_f hb_2] at H
    refine wp_seq ?_
    refine wp_region_lit ?_
    refine sl hK (by decide) rfl rfl (r_ibin hK rfl rfl rfl) fun a hK => ?_
    refine sl hK (by decide) rfl rfl (r_assign hK rfl) fun a hK => ?_
    refine wpList_nil ?_
    refine wp_cond_split (hK.ev rfl) (fun (hb_11 : (a1.Kind == 2) = true) => ?_) (fun (hb_11 : (a1.Kind == 2) = false) => ?_)
    · rw [ifb_t hb_11] at H
      refine wp_seq ?_
      refine parT_region (C := fun w => St M w0 w R [.cells b_1 [.int .i64 a1.Kind, .int .i64 a1.N, .string a1.S, .int .i64 a1.H.a0, .int .i64 a1.H.a1, .int .i64 a1.H.a2, .int .i64 a1.H.a3, .int .i64 a1.H.a4, .int .i64 a1.H.a5, .int .i64 a1.H.a6, .int .i64 a1.H.a7] 46]) 9 [(0, true), (1, true), (2, true), (3, true), (4, true), (7, true), (8, true), (5, false), (6, false)] mixed (by kernel_rfl) hS (fun w hS => (hS.trunc 1)) fun w hS => ?_
      refine sp (k := 0) rfl hK (by decide) rfl rfl (fun w hS => r_move hK rfl) fun a hK => ?_
      refine sp (k := 1) rfl hK (by decide) rfl rfl (fun w hS => r_fieldAddr Try.underlying46 rfl Try.sizeOf9 hK rfl) fun a hK => ?_
      refine sp (k := 2) rfl hK (by decide) rfl rfl (fun w hS => r_load Try.isAgg9 hK rfl (hS.cell (.head _) rfl)) fun a hK => ?_
      refine sp (k := 3) rfl hK (by decide) rfl rfl (fun w hS => r_len_str Try.underlying9 hK rfl) fun a hK => ?_
      refine sp (k := 4) rfl hK (by decide) rfl rfl (fun w hS => r_conv Try.underlying3 Try.underlying5 hK rfl) fun a hK => ?_
      refine sp (k := 7) rfl hK (by decide) rfl rfl (fun w hS => r_fieldAddr Try.underlying46 rfl Try.sizeOf9 hK rfl) fun a hK => ?_
      refine sp (k := 8) rfl hK (by decide) rfl rfl (fun w hS => r_load Try.isAgg9 hK rfl (hS.cell (.head _) rfl)) fun a hK => ?_
      refine spw (k := 5) rfl rfl (hS.trunc 1) ?_
      refine sl_buildSliceF (zc := [.int .u8 0]) (ps := [(0, .int .u8 (IntKind.u8.wrap (a1.S.size : Int)))]) (c := [.int .u8 (IntKind.u8.wrap (a1.S.size : Int))]) [[.int .u8 (IntKind.u8.wrap (a1.S.size : Int))]] Try.underlying69 Try.sizeOf5 Try.zeroValue5 rfl (pc_cons rfl pc_nil) rfl rfl (Nat.le_of_ble_eq_true rfl) rfl (all_cons rfl (all_nil)) rfl hS hK (by decide) rfl fun a w b_25 hS hK => ?_
      refine parK_nil (hS.pk1.trunc 1) ?_
      refine spw (k := 6) rfl rfl (hS.pk1.trunc 1) ?_
      obtain ⟨y_26, h_27, H⟩ := bind_some H
      have hS := hS.pk2
      refine sl_append_L (ty := (tyInt .u8)) (ys := [IntKind.u8.wrap (a1.S.size : Int)]) elT69 (by decide) rfl h0_0 rfl (Reps.cons (show Ty.rep (tyInt .u8) _ [.int .u8 (IntKind.u8.wrap (a1.S.size : Int))] (IntKind.u8.wrap (a1.S.size : Int)) from rfl) (Reps.nil _ _)) rfl h_27 hS hK (by decide) rfl rfl rfl fun a w v_28 cs_29 hq_30 hS hK => ?_
      refine parK_nil (hS.pk1.trunc 1) ?_
      refine thenL_nil ?_
      obtain ⟨y_32, h_33, H⟩ := bind_some H
      refine sl_append_S elT69 Try.underlying9 Try.zeroValue5 hq_30 rfl h_33 hS hK (by decide) rfl rfl rfl fun a w v_34 cs_35 hq_36 hS hK => ?_
      refine sl hK (by decide) rfl rfl (r_assign hK rfl) fun a hK => ?_
      refine wpList_nil (NoP_nil ?_)
      obtain rfl := Option.some.inj H
      refine wp_ret ?_
      repeat (first | refine ret_then ?_ | refine ret_block ?_ | refine ret_scope ?_)
      exact ret_1 Try.results47 hK (rv_tmp hK rfl) ⟨_, rfl, _, _, _, rfl, (hS.trunc 1), hRL, hq_36⟩
    · rw [ifb_f hb_11] at H
      refine wp_seq ?_
      refine wp_region_lit ?_
      refine sl hK (by decide) rfl rfl (r_ibin hK rfl rfl rfl) fun a hK => ?_
      refine sl hK (by decide) rfl rfl (r_assign hK rfl) fun a hK => ?_
      refine wpList_nil ?_
      refine wp_cond_split (hK.ev rfl) (fun (hb_38 : (a1.Kind == 3) = true) => ?_) (fun (hb_38 : (a1.Kind == 3) = false) => ?_)
      · rw [ifb_t hb_38] at H
        refine wp_seq ?_
        refine wp_region_lit ?_
        refine sl hK (by decide) rfl rfl (r_move hK rfl) fun a hK => ?_
        refine sl hK (by decide) rfl rfl (r_fieldAddr Try.underlying46 rfl Try.sizeOf3 hK rfl) fun a hK => ?_
        refine sl hK (by decide) rfl rfl (r_load Try.isAgg3 hK rfl (hS.cell (.head _) rfl)) fun a hK => ?_
        refine sl hK (by decide) rfl rfl (r_conv Try.underlying3 Try.underlying5 hK rfl) fun a hK => ?_
        refine sl_buildSliceF (zc := [.int .u8 0]) (ps := [(0, .int .u8 (IntKind.u8.wrap a1.N))]) (c := [.int .u8 (IntKind.u8.wrap a1.N)]) [[.int .u8 (IntKind.u8.wrap a1.N)]] Try.underlying69 Try.sizeOf5 Try.zeroValue5 rfl (pc_cons rfl pc_nil) rfl rfl (Nat.le_of_ble_eq_true rfl) rfl (all_cons rfl (all_nil)) rfl hS hK (by decide) rfl fun a w b_39 hS hK => ?_
        obtain ⟨y_40, h_41, H⟩ := bind_some H
        have hS := hS.pk2
        refine sl_append_L (ty := (tyInt .u8)) (ys := [IntKind.u8.wrap a1.N]) elT69 (by decide) rfl h0_0 rfl (Reps.cons (show Ty.rep (tyInt .u8) _ [.int .u8 (IntKind.u8.wrap a1.N)] (IntKind.u8.wrap a1.N) from rfl) (Reps.nil _ _)) rfl h_41 hS hK (by decide) rfl rfl rfl fun a w v_42 cs_43 hq_44 hS hK => ?_
        refine sl hK (by decide) rfl rfl (r_assign hK rfl) fun a hK => ?_
        refine wpList_nil ?_
        obtain rfl := Option.some.inj H
        refine wp_ret ?_
        repeat (first | refine ret_then ?_ | refine ret_block ?_ | refine ret_scope ?_)
        exact ret_1 Try.results47 hK (rv_tmp hK rfl) ⟨_, rfl, _, _, _, rfl, (hS.trunc 1), hRL, hq_44⟩
      · rw [ifb_f hb_38] at H
        refine wp_skip ?_
        refine wp_seq ?_
        refine wp_seq ?_
        refine wp_region_lit ?_
        refine sl hK (by decide) rfl rfl (r_fieldAddr Try.underlying46 rfl Try.sizeOf44 hK rfl) fun a hK => ?_
        refine sl hK (by decide) rfl rfl (r_loadA (cs := [.int .i64 a1.H.a0, .int .i64 a1.H.a1, .int .i64 a1.H.a2, .int .i64 a1.H.a3, .int .i64 a1.H.a4, .int .i64 a1.H.a5, .int .i64 a1.H.a6, .int .i64 a1.H.a7]) Try.isAgg44 Try.sizeOf44 rfl hK rfl (hS.cells_of (m := 8) (.head _) rfl)) fun a hK => ?_
        refine sl hK (by decide) rfl rfl (r_move hK rfl) fun a hK => ?_
        refine wpList_nil ?_
        refine wp_block ?_
        refine wp_loop_k (fun k_l0 a w => ∃ (x_56 : List Int) (x_60 : Int) (R_61 : Hp) (v_57 : Value) (cs_58 : List Value), wire_put.l0 a1 k_l0 x_56 x_60 = some r ∧ RLe M w0 R R_61 ∧ Reps (tyInt .u8) R_61 cs_58 x_56 ∧ Kn 45 a [(0, v_57), (36, .agg #[.int .i64 a1.H.a0, .int .i64 a1.H.a1, .int .i64 a1.H.a2, .int .i64 a1.H.a3, .int .i64 a1.H.a4, .int .i64 a1.H.a5, .int .i64 a1.H.a6, .int .i64 a1.H.a7]), (37, .int .i64 x_60)] ∧ St M w0 w R_61 [.row 5 1 v_57 x_56.length cs_58]) (((8 : Int) - 0).toNat + 1) ?_ ?_
        · have hS := hS.pk1
          exact ⟨a0, 0, _, _, _, H, (RLe.refl _ _), h0_0, hK.sub (all_cons rfl (all_cons rfl (all_cons rfl (all_nil)))), hS.trunc 1⟩
        · rintro k_l0 a w ⟨x_56, x_60, R_61, v_57, cs_58, H, hl_62, hq_59, hK, hS⟩
          cases k_l0 with
          | zero => cases H
          | succ k_l0 =>
          rw [wire_put.l0.eq_2] at H
          have hRL := hRL.trans hl_62
          refine wp_seq ?_
          refine wp_region_lit ?_
          refine sl hK (by decide) rfl rfl (r_ibin hK rfl rfl rfl) fun a hK => ?_
          refine wpList_nil ?_
          refine wp_seq ?_
          refine wp_cond_split (hK.ev rfl) (fun (hb_74 : (decide (x_60 < 8)) = true) => ?_) (fun (hb_74 : (decide (x_60 < 8)) = false) => ?_)
          · rw [ifb_t hb_74] at H
            refine wp_skip ?_
            refine wp_seq ?_
            refine wp_block ?_
            refine wp_seq ?_
            refine wp_region_lit ?_
            obtain ⟨y_75, h_76, H⟩ := bind_some H
            refine sl hK (by decide) rfl rfl (r_index_arr Try.underlying44 Try.isAgg3 Try.sizeOf3 (Arr8.ix_lt h_76).1 (Arr8.ix_lt h_76).2 (Arr8.ix_agg h_76) hK rfl rfl) fun a hK => ?_
            refine sl hK (by decide) rfl rfl (r_assign hK rfl) fun a hK => ?_
            refine wpList_nil ?_
            refine wp_region_lit ?_
            refine sl hK (by decide) rfl rfl (r_move hK rfl) fun a hK => ?_
            refine sl hK (by decide) rfl rfl (r_move hK rfl) fun a hK => ?_
            obtain ⟨y_77, h_78, H⟩ := bind_some H
            have hS1 := hS.sp1
            refine sl_call Try.call53 hK (by decide) rfl rfl rfl (wire_big.calls x_56 y_75 8 hS1.lend hq_59 h_78) fun a v_ w hv_ hK => ?_
            obtain ⟨R_79, v_82, cs_83, hv_, hr_, hl_80, hq_84⟩ := hv_
            have hv_ := hv_.symm
            subst hv_
            obtain ⟨hS, hl_80⟩ := hS1.back hr_ hl_80
            have hS := hS.un1
            have hRL := hRL.trans hl_80
            refine sl hK (by decide) rfl rfl (r_assign hK rfl) fun a hK => ?_
            refine wpList_nil ?_
            refine wp_region_lit ?_
            refine sl hK (by decide) rfl rfl (r_ibin hK rfl rfl rfl) fun a hK => ?_
            refine sl hK (by decide) rfl rfl (r_move hK rfl) fun a hK => ?_
            refine wpList_nil ?_
            exact ⟨_, Nat.lt_succ_self _, y_77, (IntKind.i64.wrap (x_60 + 1)), _, _, _, H, (hl_62.trans hl_80), hq_84, hK.sub (all_cons rfl (all_cons rfl (all_cons rfl (all_nil)))), hS⟩
          · rw [ifb_f hb_74] at H
            refine wp_exit ?_
            refine wp_seq ?_
            refine wp_region_lit ?_
            refine sl hK (by decide) rfl rfl (r_move hK rfl) fun a hK => ?_
            refine sl hK (by decide) rfl rfl (r_assign hK rfl) fun a hK => ?_
            refine wpList_nil ?_
            obtain rfl := Option.some.inj H
            refine wp_ret ?_
            repeat (first | refine ret_then ?_ | refine ret_block ?_ | refine ret_scope ?_)
            exact ret_1 Try.results47 hK (rv_tmp hK rfl) ⟨_, rfl, _, _, _, rfl, hS, hRL, hq_59⟩

/-! ### catchment/wire.Put: function 38 -/
set_option maxHeartbeats 4000000 in
set_option maxRecDepth 100000 in
theorem wire_Put.calls (a0 : List Int) (a1 : api_Value) {w0 : World} {R : Hp} {RA : Hp} {v0_0 : Value} (hRA : RA.sub w0) (hR : R.sub w0) (h0_0 : SlR (tyInt .u8) RA v0_0 a0) {r : (List Int) × Int} (H : wire_Put a0 a1 = some r) : Calls Try.prog 38 #[v0_0, .agg #[.int .i64 a1.Kind, .int .i64 a1.N, .string a1.S, .int .i64 a1.H.a0, .int .i64 a1.H.a1, .int .i64 a1.H.a2, .int .i64 a1.H.a3, .int .i64 a1.H.a4, .int .i64 a1.H.a5, .int .i64 a1.H.a6, .int .i64 a1.H.a7]] w0 (Rets fun v w' => ∃ (R' : Hp) (u0 : Value) (cu0 : List Value), v = .tuple #[u0, .int .i64 r.2] ∧ St [] w0 w' R' [.row 5 1 u0 r.1.length cu0] ∧ RLe [] w0 R R' ∧ Reps (tyInt .u8) R' cu0 r.1) := by
  unfold wire_Put at H
  refine enter (args := [v0_0, .agg #[.int .i64 a1.Kind, .int .i64 a1.N, .string a1.S, .int .i64 a1.H.a0, .int .i64 a1.H.a1, .int .i64 a1.H.a2, .int .i64 a1.H.a3, .int .i64 a1.H.a4, .int .i64 a1.H.a5, .int .i64 a1.H.a6, .int .i64 a1.H.a7]]) Try.func38 rfl Try.ntmps38 rfl fun a hK => ?_
  have hS := St.init hR
  have hRL := RLe.refl (M := []) w0 R
  refine wp_seq ?_
  refine wp_region_lit ?_
  refine sl_box hS hK (by decide) rfl rfl (c := [.int .i64 a1.Kind, .int .i64 a1.N, .string a1.S, .int .i64 a1.H.a0, .int .i64 a1.H.a1, .int .i64 a1.H.a2, .int .i64 a1.H.a3, .int .i64 a1.H.a4, .int .i64 a1.H.a5, .int .i64 a1.H.a6, .int .i64 a1.H.a7]) rfl fun a w b_1 hS hK => ?_
  refine sl hK (by decide) rfl rfl (r_assign hK rfl) fun a hK => ?_
  refine sl hK (by decide) rfl rfl (r_assign hK rfl) fun a hK => ?_
  refine wpList_nil ?_
  refine wp_seq ?_
  refine wp_seq ?_
  refine wp_region_lit ?_
  refine sl hK (by decide) rfl rfl (r_loadA (cs := [.int .i64 a1.Kind, .int .i64 a1.N, .string a1.S, .int .i64 a1.H.a0, .int .i64 a1.H.a1, .int .i64 a1.H.a2, .int .i64 a1.H.a3, .int .i64 a1.H.a4, .int .i64 a1.H.a5, .int .i64 a1.H.a6, .int .i64 a1.H.a7]) Try.isAgg46 Try.sizeOf46 rfl hK rfl (hS.cells_of (m := 11) (.head _) rfl)) fun a hK => ?_
  obtain ⟨y_2, h_3, H⟩ := bind_some H
  refine sl_callV Try.call33 hS hK (by decide) rfl rfl rfl (value_Valid.calls a1 h_3 _) fun a w hS hK => ?_
  refine sl hK (by decide) rfl rfl (r_un hK rfl (u_not _)) fun a hK => ?_
  refine wpList_nil ?_
  refine wp_cond_split (hK.ev rfl) (fun (hb_4 : (!y_2) = true) => ?_) (fun (hb_4 : (!y_2) = false) => ?_)
  · rw [ifb_t hb_4] at H
    refine wp_seq ?_
    refine wp_region_lit ?_
    refine sl hK (by decide) rfl rfl (r_assign hK rfl) fun a hK => ?_
    refine sl hK (by decide) rfl rfl (r_assign hK rfl) fun a hK => ?_
    refine wpList_nil ?_
    have hS := hS.row_nil 5 1
    have hq_6 : Reps (tyInt .u8) R [] ([] : List Int) := Reps.nil _ _
    obtain rfl := Option.some.inj H
    refine wp_ret ?_
    repeat (first | refine ret_then ?_ | refine ret_block ?_ | refine ret_scope ?_)
    exact ret_2 Try.results38 hK (rv_tmp hK rfl) (rv_tmp hK rfl) ⟨_, rfl, _, _, _, rfl, (hS.trunc 1), hRL, hq_6⟩
  · rw [ifb_f hb_4] at H
    refine wp_skip ?_
    refine wp_seq ?_
    refine parT_region (C := fun w => St [] w0 w R [.cells b_1 [.int .i64 a1.Kind, .int .i64 a1.N, .string a1.S, .int .i64 a1.H.a0, .int .i64 a1.H.a1, .int .i64 a1.H.a2, .int .i64 a1.H.a3, .int .i64 a1.H.a4, .int .i64 a1.H.a5, .int .i64 a1.H.a6, .int .i64 a1.H.a7] 46]) 3 [(0, true), (2, true), (1, false)] mixed (by kernel_rfl) hS (fun w hS => hS) fun w hS => ?_
    refine sp (k := 0) rfl hK (by decide) rfl rfl (fun w hS => r_move hK rfl) fun a hK => ?_
    refine sp (k := 2) rfl hK (by decide) rfl rfl (fun w hS => r_loadA (cs := [.int .i64 a1.Kind, .int .i64 a1.N, .string a1.S, .int .i64 a1.H.a0, .int .i64 a1.H.a1, .int .i64 a1.H.a2, .int .i64 a1.H.a3, .int .i64 a1.H.a4, .int .i64 a1.H.a5, .int .i64 a1.H.a6, .int .i64 a1.H.a7]) Try.isAgg46 Try.sizeOf46 rfl hK rfl (hS.cells_of (m := 11) (.head _) rfl)) fun a hK => ?_
    refine spw (k := 1) rfl rfl hS ?_
    obtain ⟨y_23, h_24, H⟩ := bind_some H
    refine sl_call Try.call48 hK (by decide) rfl rfl rfl (slices_Clone_byte_byte.calls a0 (lentOf_sub [] _) hS.sub (h0_0.mono (hS.raLe0 hRA nil_not)) h_24) fun a v_ w hv_ hK => ?_
    obtain ⟨R_25, v_28, cs_29, hv_, hr_, hl_26, hq_30⟩ := hv_
    have hv_ := hv_.symm
    subst hv_
    obtain ⟨hS, hl_26⟩ := hS.sp0.back hr_ hl_26
    have hS := hS.un1
    have hRL := hRL.trans hl_26
    refine parK_nil ((hS.pk1.trunc 1).lower hl_26.le) ?_
    refine thenL_nil ?_
    obtain ⟨y_31, h_32, H⟩ := bind_some H
    have hS1 := hS.sp1
    refine sl_call Try.call47 hK (by decide) rfl rfl rfl (wire_put.calls y_23 a1 hS1.lend hq_30 h_32) fun a v_ w hv_ hK => ?_
    obtain ⟨R_33, v_36, cs_37, hv_, hr_, hl_34, hq_38⟩ := hv_
    have hv_ := hv_.symm
    subst hv_
    obtain ⟨hS, hl_34⟩ := hS1.back hr_ hl_34
    have hS := hS.un1
    have hRL := hRL.trans hl_34
    refine sl hK (by decide) rfl rfl (r_assign hK rfl) fun a hK => ?_
    refine sl hK (by decide) rfl rfl (r_assign hK rfl) fun a hK => ?_
    refine wpList_nil (NoP_nil ?_)
    obtain rfl := Option.some.inj H
    refine wp_ret ?_
    repeat (first | refine ret_then ?_ | refine ret_block ?_ | refine ret_scope ?_)
    exact ret_2 Try.results38 hK (rv_tmp hK rfl) (rv_tmp hK rfl) ⟨_, rfl, _, _, _, rfl, (hS.trunc 1), hRL, hq_38⟩

/-! ### catchment/join.mark: function 24 -/
set_option maxHeartbeats 4000000 in
set_option maxRecDepth 100000 in
theorem join_mark.calls (a0 : List api_Value) {w0 : World} {RA : Hp} {v0_0 : Value} (hRA : RA.sub w0) (h0_0 : SlR ty_api_Value RA v0_0 a0) {r : ByteArray} (H : join_mark a0 = some r) : CallsV Try.prog 24 #[v0_0] w0 (.string r) := by
  unfold join_mark at H
  refine enter (args := [v0_0]) Try.func24 rfl Try.ntmps24 rfl fun a hK => ?_
  have hS := St.init (R := fun _ => none) (w := w0) (fun _ _ h => by cases h)
  have hRL := RLe.refl (M := []) w0 (fun _ => none)
  refine wp_seq ?_
  refine wp_region_lit ?_
  refine sl hK (by decide) rfl rfl (r_assign hK rfl) fun a hK => ?_
  refine wpList_nil ?_
  refine wp_seq ?_
  refine wp_region_lit ?_
  refine sl hK (by decide) rfl rfl (r_assign hK rfl) fun a hK => ?_
  refine wpList_nil ?_
  refine wp_seq ?_
  refine wp_seq ?_
  refine wp_region_lit ?_
  refine sl hK (by decide) rfl rfl (r_move hK rfl) fun a hK => ?_
  refine sl hK (by decide) rfl rfl (r_len_R Try.underlying40 h0_0 hK rfl) fun a hK => ?_
  refine sl hK (by decide) rfl rfl (r_move hK rfl) fun a hK => ?_
  refine wpList_nil ?_
  refine wp_block ?_
  refine wp_loop_k (fun k_l0 a w => ∃ (x_35 : List Int) (x_39 : Int) (R_40 : Hp) (v_36 : Value) (cs_37 : List Value), join_mark.l0 a0 k_l0 x_35 x_39 = some r ∧ RLe [] w0 (fun _ => none) R_40 ∧ Reps (tyInt .u8) R_40 cs_37 x_35 ∧ Kn 25 a [(3, v_36), (8, v0_0), (9, .int .i64 (a0.length : Int)), (10, .int .i64 x_39)] ∧ St [] w0 w R_40 [.row 5 1 v_36 x_35.length cs_37]) (((a0.length : Int) - 0).toNat + 1) ?_ ?_
  · have hS := hS.row_nil 5 1
    have hq_71 : Reps (tyInt .u8) (fun _ => none) [] ([] : List Int) := Reps.nil _ _
    exact ⟨[], 0, _, _, _, H, (RLe.refl _ _), hq_71, hK.sub (all_cons rfl (all_cons rfl (all_cons rfl (all_cons rfl (all_nil))))), hS⟩
  · rintro k_l0 a w ⟨x_35, x_39, R_40, v_36, cs_37, H, hl_41, hq_38, hK, hS⟩
    cases k_l0 with
    | zero => cases H
    | succ k_l0 =>
    rw [join_mark.l0.eq_2] at H
    have hRL := hRL.trans hl_41
    refine wp_seq ?_
    refine wp_region_lit ?_
    refine sl hK (by decide) rfl rfl (r_ibin hK rfl rfl rfl) fun a hK => ?_
    refine wpList_nil ?_
    refine wp_seq ?_
    refine wp_cond_split (hK.ev rfl) (fun (hb_72 : (decide (x_39 < (a0.length : Int))) = true) => ?_) (fun (hb_72 : (decide (x_39 < (a0.length : Int))) = false) => ?_)
    · rw [ifb_t hb_72] at H
      refine wp_skip ?_
      refine wp_seq ?_
      refine wp_block ?_
      refine wp_seq ?_
      refine wp_region_lit ?_
      obtain ⟨y_73, h_74, H⟩ := bind_some H
      obtain ⟨b_75, o_76, c_77, cs_78, hv_79, hr_80, hc_81, h_740, h_741⟩ := h0_0.ix h_74
      subst hr_80
      refine sl hK (by decide) rfl rfl (r_indexAddr_R Try.underlying40 Try.sizeOf46 hv_79 h_740 h_741 hK rfl rfl) fun a hK => ?_
      refine sl hK (by decide) rfl rfl (r_loadA (cs := [.int .i64 y_73.Kind, .int .i64 y_73.N, .string y_73.S, .int .i64 y_73.H.a0, .int .i64 y_73.H.a1, .int .i64 y_73.H.a2, .int .i64 y_73.H.a3, .int .i64 y_73.H.a4, .int .i64 y_73.H.a5, .int .i64 y_73.H.a6, .int .i64 y_73.H.a7]) Try.isAgg46 Try.sizeOf46 rfl hK rfl (fun j v hv => (hS.ra hRA nil_not).cell (hc_81 j v hv))) fun a hK => ?_
      refine sl_alloc Try.zeroValue46 hS hK (by decide) rfl rfl fun a w b_82 hS hK => ?_
      refine sl_storeA (vs := [.int .i64 y_73.Kind, .int .i64 y_73.N, .string y_73.S, .int .i64 y_73.H.a0, .int .i64 y_73.H.a1, .int .i64 y_73.H.a2, .int .i64 y_73.H.a3, .int .i64 y_73.H.a4, .int .i64 y_73.H.a5, .int .i64 y_73.H.a6, .int .i64 y_73.H.a7]) (c' := [.int .i64 y_73.Kind, .int .i64 y_73.N, .string y_73.S, .int .i64 y_73.H.a0, .int .i64 y_73.H.a1, .int .i64 y_73.H.a2, .int .i64 y_73.H.a3, .int .i64 y_73.H.a4, .int .i64 y_73.H.a5, .int .i64 y_73.H.a6, .int .i64 y_73.H.a7]) Try.sizeOf46 hS hK rfl rfl rfl rfl (all_cons rfl (all_cons rfl (all_cons rfl (all_cons rfl (all_cons rfl (all_cons rfl (all_cons rfl (all_cons rfl (all_cons rfl (all_cons rfl (all_cons rfl (all_nil)))))))))))) (Nat.le_of_ble_eq_true rfl) rfl fun a w hS hK => ?_
      refine wpList_nil ?_
      refine wp_seq ?_
      refine wp_region_lit ?_
      refine sl hK (by decide) rfl rfl (r_loadA (cs := [.int .i64 y_73.Kind, .int .i64 y_73.N, .string y_73.S, .int .i64 y_73.H.a0, .int .i64 y_73.H.a1, .int .i64 y_73.H.a2, .int .i64 y_73.H.a3, .int .i64 y_73.H.a4, .int .i64 y_73.H.a5, .int .i64 y_73.H.a6, .int .i64 y_73.H.a7]) Try.isAgg46 Try.sizeOf46 rfl hK rfl (hS.cells_of (m := 11) (.head _) rfl)) fun a hK => ?_
      obtain ⟨y_83, h_84, H⟩ := bind_some H
      refine sl_call Try.call38 hK (by decide) rfl rfl rfl (wire_Put.calls ([] : List Int) y_73 (lentOf_sub [] _) hS.sub (SlR.nil (tyInt .u8) _) h_84) fun a v_ w hv_ hK => ?_
      obtain ⟨R_85, v_88, cs_89, hv_, hr_, hl_86, hq_90⟩ := hv_
      have hv_ := hv_.symm
      subst hv_
      obtain ⟨hS, hl_86⟩ := hS.sp0.back hr_ hl_86
      have hS := hS.un1
      have hRL := hRL.trans hl_86
      refine sl hK (by decide) rfl rfl (r_move hK rfl) fun a hK => ?_
      refine sl hK (by decide) rfl rfl (r_extract hK rfl rfl) fun a hK => ?_
      refine sl hK (by decide) rfl rfl (r_extract hK rfl rfl) fun a hK => ?_
      refine sl hK (by decide) rfl rfl (r_assign hK rfl) fun a hK => ?_
      refine sl hK (by decide) rfl rfl (r_assign hK rfl) fun a hK => ?_
      refine wpList_nil ?_
      refine wp_region_lit ?_
      refine sl hK (by decide) rfl rfl (r_move hK rfl) fun a hK => ?_
      refine sl hK (by decide) rfl rfl (r_move hK rfl) fun a hK => ?_
      have hS := hS.pk2
      have hS := hS.pk1
      obtain ⟨R_91, hS, hl_93, hs_92⟩ := hS.fz_row hq_90 rfl rfl
      have hRL := hRL.trans hl_93
      obtain ⟨y_94, h_95, H⟩ := bind_some H
      refine sl_append_R elT69 (by decide) rfl (hq_38.mono (hl_86.le.trans hl_93.le)) rfl hs_92 h_95 hS hK (by decide) rfl rfl rfl fun a w v_96 cs_97 hq_98 hS hK => ?_
      refine sl hK (by decide) rfl rfl (r_assign hK rfl) fun a hK => ?_
      refine wpList_nil ?_
      refine wp_region_lit ?_
      refine sl hK (by decide) rfl rfl (r_ibin hK rfl rfl rfl) fun a hK => ?_
      refine sl hK (by decide) rfl rfl (r_move hK rfl) fun a hK => ?_
      refine wpList_nil ?_
      exact ⟨_, Nat.lt_succ_self _, y_94, (IntKind.i64.wrap (x_39 + 1)), _, _, _, H, (hl_41.trans (hl_86.trans hl_93)), hq_98, hK.sub (all_cons rfl (all_cons rfl (all_cons rfl (all_cons rfl (all_nil))))), hS.trunc 1⟩
    · rw [ifb_f hb_72] at H
      refine wp_exit ?_
      refine wp_seq ?_
      refine wp_region_lit ?_
      refine sl hK (by decide) rfl rfl (r_move hK rfl) fun a hK => ?_
      refine sl hK (by decide) rfl rfl (r_conv_bo Try.underlying69 Try.underlying9 Try.underlying5 hq_38 rfl hS (.head _) hK rfl) fun a hK => ?_
      refine sl hK (by decide) rfl rfl (r_assign hK rfl) fun a hK => ?_
      refine wpList_nil ?_
      obtain rfl := Option.some.inj H
      refine wp_ret ?_
      repeat (first | refine ret_then ?_ | refine ret_block ?_ | refine ret_scope ?_)
      exact ret_1 Try.results24 hK (rv_tmp hK rfl) ⟨rfl, hS.bel⟩

/-! ### slices.Grow[[]catchment/api.Value,catchment/api.Value]: function 39 -/
set_option maxHeartbeats 4000000 in
set_option maxRecDepth 100000 in
theorem slices_Grow_api_Value_api_Value.calls (a0 : List api_Value) (a1 : Int) {w0 : World} {R RA : Hp} (hRA : RA.sub w0) (hR : R.sub w0) (h0 : SlR ty_api_Value RA (.slice none 0 0) a0) {r : List api_Value} (H : slices_Grow_api_Value_api_Value a0 a1 = some r) :
    Calls Try.prog 39 #[.slice none 0 0, .int .i64 a1] w0 (Rets fun v w' => ∃ (R' : Hp) (u0 : Value) (cu0 : List Value), v = u0 ∧ St [] w0 w' R' [.row 46 11 u0 r.length cu0] ∧ RLe [] w0 R R' ∧ Reps ty_api_Value R' cu0 r) := by
  obtain ⟨k, rfl, hb, rfl⟩ := grow0_some H
  have hl0 : a0 = [] := by
    obtain ⟨ad, cap, h1, _⟩ := h0
    simp only [Value.slice.injEq] at h1
    exact List.eq_nil_of_length_eq_zero h1.2.1.symm
  subst hl0
  have hbig : k ≤ 140737488355328 := Nat.le_trans (Nat.le_mul_of_pos_right _ (by decide)) hb
  refine enter (args := [.slice none 0 0, .int .i64 (k : Int)]) Try.func39 rfl Try.ntmps39 rfl fun a hK => ?_
  have hS := St.init hR
  refine wp_seq ?_
  refine wp_region_lit ?_
  refine sl hK (by decide) rfl rfl (r_assign hK rfl) fun a hK => ?_
  refine wpList_nil ?_
  refine wp_seq ?_
  refine wp_seq ?_
  refine wp_region_lit ?_
  refine sl hK (by decide) rfl rfl (r_move hK rfl) fun a hK => ?_
  refine sl hK (by decide) rfl rfl (r_ibin hK rfl rfl rfl) fun a hK => ?_
  refine wpList_nil ?_
  refine wp_cond_false ((hK.ev rfl).trans (congrArg Value.bool (show decide ((k : Int) < 0) = false by simp))) ?_
  refine wp_skip ?_
  refine wp_seq ?_
  refine wp_seq ?_
  refine wp_region_lit ?_
  refine sl hK (by decide) rfl rfl (r_move hK rfl) fun a hK => ?_
  refine sl hK (by decide) rfl rfl (r_move hK rfl) fun a hK => ?_
  refine sl hK (by decide) rfl rfl (r_cap Try.underlying40 hK rfl) fun a hK => ?_
  refine sl hK (by decide) rfl rfl (r_move hK rfl) fun a hK => ?_
  refine sl hK (by decide) rfl rfl (r_len_sl Try.underlying40 hK rfl) fun a hK => ?_
  refine sl hK (by decide) rfl rfl (r_ibin (k := .i64) (v := .int .i64 0) hK rfl rfl rfl) fun a hK => ?_
  refine sl hK (by decide) rfl rfl (r_ibin (k := .i64) (v := .int .i64 (k : Int)) hK rfl rfl (by show some (Value.int .i64 (IntKind.i64.wrap ((k : Int) - 0))) = _; rw [Int.sub_zero, w64 (by omega) (by omega)])) fun a hK => ?_
  refine sl hK (by decide) rfl rfl (r_assign hK rfl) fun a hK => ?_
  refine wpList_nil ?_
  refine wp_seq ?_
  refine wp_region_lit ?_
  refine sl hK (by decide) rfl rfl (r_move hK rfl) fun a hK => ?_
  refine sl hK (by decide) rfl rfl (r_ibin hK rfl rfl rfl) fun a hK => ?_
  refine wpList_nil ?_
  by_cases hk : k = 0
  · refine wp_cond_false ((hK.ev rfl).trans (congrArg Value.bool (show decide ((k : Int) > 0) = false by simp; omega))) ?_
    refine wp_skip ?_
    refine wp_seq ?_
    refine wp_region_lit ?_
    refine sl hK (by decide) rfl rfl (r_move hK rfl) fun a hK => ?_
    refine sl hK (by decide) rfl rfl (r_assign hK rfl) fun a hK => ?_
    refine wpList_nil ?_
    refine wp_ret ?_
    repeat (first | refine ret_then ?_ | refine ret_block ?_)
    exact ret_1 Try.results39 hK (rv_tmp hK rfl) ⟨_, rfl, R, _, [], rfl, hS.row_nil 46 11, RLe.refl _ _, Reps.nil _ _⟩
  · refine wp_cond_true ((hK.ev rfl).trans (congrArg Value.bool (show decide ((k : Int) > 0) = true by simp; omega))) ?_
    refine wp_region_lit ?_
    refine sl hK (by decide) rfl rfl (r_move hK rfl) fun a hK => ?_
    refine sl hK (by decide) rfl rfl (r_move hK rfl) fun a hK => ?_
    refine sl hK (by decide) rfl rfl (r_cap Try.underlying40 hK rfl) fun a hK => ?_
    refine sl hK (by decide) rfl rfl (r_slice_H (l := 0) (h := 0) Try.underlying40 Try.sizeOf46 (Nat.le_refl _) (Nat.le_refl _) hK rfl rfl ⟨_, rfl⟩) fun a hK => ?_
    refine sl hK (by decide) rfl rfl (r_move hK rfl) fun a hK => ?_
    refine sl_append_zeros (i := 0) (k := k) (olds := []) (cap := 0) (ad := none) elT40 Try.underlying3 (by omega) (by omega) (by decide) (by simpa using hb) (by simp) (fun h => absurd rfl h) (fun h => absurd rfl h) hS hK (by decide) rfl rfl rfl fun a w b capn rest' hgn hcmn hln hS hK => ?_
    refine sl hK (by decide) rfl rfl (r_move hK rfl) fun a hK => ?_
    refine sl hK (by decide) rfl rfl (r_len_sl Try.underlying40 hK rfl) fun a hK => ?_
    refine sl hK (by decide) rfl rfl (r_slice_Hv (b := b) (o := 0) (m := 0 + k) (c := capn) (l := 0) (h := 0) (o' := 0) (m' := 0) (c' := capn) Try.underlying40 Try.sizeOf46 (by omega) (by omega) (Or.inr rfl) rfl rfl rfl hK rfl rfl ⟨_, rfl⟩) fun a hK => ?_
    refine sl hK (by decide) rfl rfl (r_assign hK rfl) fun a hK => ?_
    refine wpList_nil ?_
    refine wp_seq ?_
    refine wp_region_lit ?_
    refine sl hK (by decide) rfl rfl (r_move hK rfl) fun a hK => ?_
    refine sl hK (by decide) rfl rfl (r_assign hK rfl) fun a hK => ?_
    refine wpList_nil ?_
    refine wp_ret ?_
    repeat (first | refine ret_then ?_ | refine ret_block ?_)
    have hS := hS.raw_row (z := 11) (m := 0) (Nat.zero_le _) hcmn hln
    rw [Nat.zero_mul, List.take_zero] at hS
    exact ret_1 Try.results39 hK (rv_tmp hK rfl) ⟨_, rfl, R, _, [], rfl, hS, RLe.refl _ _, Reps.nil _ _⟩


/-! ### slices.Concat[[]catchment/api.Value,catchment/api.Value]: function 26 -/
set_option maxHeartbeats 4000000 in
set_option maxRecDepth 100000 in
theorem slices_Concat_api_Value_api_Value.calls (a0 : List (List api_Value)) {w0 : World} {R : Hp} {RA : Hp} {v0_0 : Value} (hRA : RA.sub w0) (hR : R.sub w0) (h0_0 : SlR (tySl ty_api_Value) RA v0_0 a0) {r : List api_Value} (H : slices_Concat_api_Value_api_Value a0 = some r) : Calls Try.prog 26 #[v0_0] w0 (Rets fun v w' => ∃ (R' : Hp) (u0 : Value) (cu0 : List Value), v = u0 ∧ St [] w0 w' R' [.row 46 11 u0 r.length cu0] ∧ RLe [] w0 R R' ∧ Reps ty_api_Value R' cu0 r) := by
  unfold slices_Concat_api_Value_api_Value at H
  refine enter (args := [v0_0]) Try.func26 rfl Try.ntmps26 rfl fun a hK => ?_
  have hS := St.init hR
  have hRL := RLe.refl (M := []) w0 R
  refine wp_seq ?_
  refine wp_region_lit ?_
  refine sl hK (by decide) rfl rfl (r_assign hK rfl) fun a hK => ?_
  refine wpList_nil ?_
  refine wp_seq ?_
  refine wp_region_lit ?_
  refine sl hK (by decide) rfl rfl (r_assign hK rfl) fun a hK => ?_
  refine wpList_nil ?_
  refine wp_seq ?_
  refine wp_seq ?_
  refine wp_region_lit ?_
  refine sl hK (by decide) rfl rfl (r_move hK rfl) fun a hK => ?_
  refine sl hK (by decide) rfl rfl (r_len_R Try.underlying23 h0_0 hK rfl) fun a hK => ?_
  refine sl hK (by decide) rfl rfl (r_move hK rfl) fun a hK => ?_
  refine wpList_nil ?_
  refine wp_block ?_
  refine wp_loop_k (fun k_l0 a w => ∃ (x_16 : Int) (x_17 : Int), slices_Concat_api_Value_api_Value.l0 a0 k_l0 x_16 x_17 = some r ∧ Kn 36 a [(0, v0_0), (3, .int .i64 x_16), (9, v0_0), (10, .int .i64 (a0.length : Int)), (11, .int .i64 x_17)] ∧ St [] w0 w R []) (((a0.length : Int) - 0).toNat + 1) ?_ ?_
  · exact ⟨0, 0, H, hK.sub (all_cons rfl (all_cons rfl (all_cons rfl (all_cons rfl (all_cons rfl (all_nil)))))), hS⟩
  · rintro k_l0 a w ⟨x_16, x_17, H, hK, hS⟩
    cases k_l0 with
    | zero => cases H
    | succ k_l0 =>
    rw [slices_Concat_api_Value_api_Value.l0.eq_2] at H
    refine wp_seq ?_
    refine wp_region_lit ?_
    refine sl hK (by decide) rfl rfl (r_ibin hK rfl rfl rfl) fun a hK => ?_
    refine wpList_nil ?_
    refine wp_seq ?_
    refine wp_cond_split (hK.ev rfl) (fun (hb_33 : (decide (x_17 < (a0.length : Int))) = true) => ?_) (fun (hb_33 : (decide (x_17 < (a0.length : Int))) = false) => ?_)
    · rw [ifb_t hb_33] at H
      refine wp_skip ?_
      refine wp_seq ?_
      refine wp_block ?_
      refine wp_seq ?_
      refine wp_region_lit ?_
      obtain ⟨y_34, h_35, H⟩ := bind_some H
      obtain ⟨b_36, o_37, c_38, cs_39, hv_40, hr_41, hc_42, h_350, h_351⟩ := h0_0.ix h_35
      obtain ⟨v_43, rfl, hs_44⟩ := hr_41
      refine sl hK (by decide) rfl rfl (r_indexAddr_R Try.underlying23 Try.sizeOf40 hv_40 h_350 h_351 hK rfl rfl) fun a hK => ?_
      refine sl hK (by decide) rfl rfl (r_load Try.isAgg40 hK rfl ((hS.ra hRA nil_not).cell (hc_42 0 _ rfl))) fun a hK => ?_
      refine sl hK (by decide) rfl rfl (r_assign hK rfl) fun a hK => ?_
      refine wpList_nil ?_
      refine wp_seq ?_
      refine wp_region_lit ?_
      refine sl hK (by decide) rfl rfl (r_move hK rfl) fun a hK => ?_
      refine sl hK (by decide) rfl rfl (r_move hK rfl) fun a hK => ?_
      refine sl hK (by decide) rfl rfl (r_len_R Try.underlying40 hs_44 hK rfl) fun a hK => ?_
      refine sl hK (by decide) rfl rfl (r_ibin hK rfl rfl rfl) fun a hK => ?_
      refine sl hK (by decide) rfl rfl (r_assign hK rfl) fun a hK => ?_
      refine wpList_nil ?_
      refine wp_seq ?_
      refine wp_region_lit ?_
      refine sl hK (by decide) rfl rfl (r_move hK rfl) fun a hK => ?_
      refine sl hK (by decide) rfl rfl (r_ibin hK rfl rfl rfl) fun a hK => ?_
      refine wpList_nil ?_
      refine wp_cond_split (hK.ev rfl) (fun (hb_46 : (decide ((IntKind.i64.wrap (x_16 + (y_34.length : Int))) < 0)) = true) => ?_) (fun (hb_46 : (decide ((IntKind.i64.wrap (x_16 + (y_34.length : Int))) < 0)) = false) => ?_)
      · rw [ifb_t hb_46] at H
        refine wp_region_lit ?_
        cases H
      · rw [ifb_f hb_46] at H
        refine wp_skip ?_
        refine wp_region_lit ?_
        refine sl hK (by decide) rfl rfl (r_ibin hK rfl rfl rfl) fun a hK => ?_
        refine sl hK (by decide) rfl rfl (r_move hK rfl) fun a hK => ?_
        refine wpList_nil ?_
        exact ⟨_, Nat.lt_succ_self _, (IntKind.i64.wrap (x_16 + (y_34.length : Int))), (IntKind.i64.wrap (x_17 + 1)), H, hK.sub (all_cons rfl (all_cons rfl (all_cons rfl (all_cons rfl (all_cons rfl (all_nil)))))), hS⟩
    · rw [ifb_f hb_33] at H
      refine wp_exit ?_
      refine wp_seq ?_
      refine wp_region_lit ?_
      refine sl hK (by decide) rfl rfl (r_move hK rfl) fun a hK => ?_
      obtain ⟨y_47, h_48, H⟩ := bind_some H
      refine sl_call Try.call39 hK (by decide) rfl rfl rfl (slices_Grow_api_Value_api_Value.calls ([] : List api_Value) x_16 (lentOf_sub [] _) hS.sub (SlR.nil ty_api_Value _) h_48) fun a v_ w hv_ hK => ?_
      obtain ⟨R_49, v_52, cs_53, hv_, hr_, hl_50, hq_54⟩ := hv_
      have hv_ := hv_.symm
      subst hv_
      obtain ⟨hS, hl_50⟩ := hS.sp0.back hr_ hl_50
      have hS := hS.un1
      have hRL := hRL.trans hl_50
      refine sl hK (by decide) rfl rfl (r_assign hK rfl) fun a hK => ?_
      refine wpList_nil ?_
      refine wp_seq ?_
      refine wp_seq ?_
      refine wp_region_lit ?_
      refine sl hK (by decide) rfl rfl (r_move hK rfl) fun a hK => ?_
      refine sl hK (by decide) rfl rfl (r_len_R Try.underlying23 h0_0 hK rfl) fun a hK => ?_
      refine sl hK (by decide) rfl rfl (r_move hK rfl) fun a hK => ?_
      refine wpList_nil ?_
      refine wp_block ?_
      refine wp_loop_k (fun k_l1 a w => ∃ (x_75 : List api_Value) (x_79 : Int) (v_76 : Value) (cs_77 : List Value), slices_Concat_api_Value_api_Value.l1 a0 k_l1 x_75 x_79 = some r ∧ Reps ty_api_Value R_49 cs_77 x_75 ∧ Kn 36 a [(6, v_76), (25, v0_0), (26, .int .i64 (a0.length : Int)), (27, .int .i64 x_79)] ∧ St [] w0 w R_49 [.row 46 11 v_76 x_75.length cs_77]) (((a0.length : Int) - 0).toNat + 1) ?_ ?_
      · exact ⟨y_47, 0, _, _, H, hq_54, hK.sub (all_cons rfl (all_cons rfl (all_cons rfl (all_cons rfl (all_nil))))), hS⟩
      · rintro k_l1 a w ⟨x_75, x_79, v_76, cs_77, H, hq_78, hK, hS⟩
        cases k_l1 with
        | zero => cases H
        | succ k_l1 =>
        rw [slices_Concat_api_Value_api_Value.l1.eq_2] at H
        refine wp_seq ?_
        refine wp_region_lit ?_
        refine sl hK (by decide) rfl rfl (r_ibin hK rfl rfl rfl) fun a hK => ?_
        refine wpList_nil ?_
        refine wp_seq ?_
        refine wp_cond_split (hK.ev rfl) (fun (hb_99 : (decide (x_79 < (a0.length : Int))) = true) => ?_) (fun (hb_99 : (decide (x_79 < (a0.length : Int))) = false) => ?_)
        · rw [ifb_t hb_99] at H
          refine wp_skip ?_
          refine wp_seq ?_
          refine wp_block ?_
          refine wp_seq ?_
          refine wp_region_lit ?_
          obtain ⟨y_100, h_101, H⟩ := bind_some H
          obtain ⟨b_102, o_103, c_104, cs_105, hv_106, hr_107, hc_108, h_1010, h_1011⟩ := h0_0.ix h_101
          obtain ⟨v_109, rfl, hs_110⟩ := hr_107
          refine sl hK (by decide) rfl rfl (r_indexAddr_R Try.underlying23 Try.sizeOf40 hv_106 h_1010 h_1011 hK rfl rfl) fun a hK => ?_
          refine sl hK (by decide) rfl rfl (r_load Try.isAgg40 hK rfl ((hS.ra hRA nil_not).cell (hc_108 0 _ rfl))) fun a hK => ?_
          refine sl hK (by decide) rfl rfl (r_assign hK rfl) fun a hK => ?_
          refine wpList_nil ?_
          refine wp_region_lit ?_
          refine sl hK (by decide) rfl rfl (r_move hK rfl) fun a hK => ?_
          refine sl hK (by decide) rfl rfl (r_move hK rfl) fun a hK => ?_
          obtain ⟨y_111, h_112, H⟩ := bind_some H
          refine sl_append_A elT40 (by decide) rfl (fun _ _ _ _ h => h) (hS.ra hRA nil_not) hq_78 rfl hs_110 h_112 hS hK (by decide) rfl rfl rfl fun a w v_113 cs_114 hq_115 hS hK => ?_
          refine sl hK (by decide) rfl rfl (r_assign hK rfl) fun a hK => ?_
          refine wpList_nil ?_
          refine wp_region_lit ?_
          refine sl hK (by decide) rfl rfl (r_ibin hK rfl rfl rfl) fun a hK => ?_
          refine sl hK (by decide) rfl rfl (r_move hK rfl) fun a hK => ?_
          refine wpList_nil ?_
          exact ⟨_, Nat.lt_succ_self _, y_111, (IntKind.i64.wrap (x_79 + 1)), _, _, H, hq_115, hK.sub (all_cons rfl (all_cons rfl (all_cons rfl (all_cons rfl (all_nil))))), hS⟩
        · rw [ifb_f hb_99] at H
          refine wp_exit ?_
          refine wp_seq ?_
          refine wp_region_lit ?_
          refine sl hK (by decide) rfl rfl (r_move hK rfl) fun a hK => ?_
          refine sl hK (by decide) rfl rfl (r_assign hK rfl) fun a hK => ?_
          refine wpList_nil ?_
          obtain rfl := Option.some.inj H
          refine wp_ret ?_
          repeat (first | refine ret_then ?_ | refine ret_block ?_ | refine ret_scope ?_)
          exact ret_1 Try.results26 hK (rv_tmp hK rfl) ⟨_, rfl, _, _, _, rfl, hS, hRL, hq_78⟩

/-! ### slices.Clone[[]catchment/api.Value,catchment/api.Value]: function 40 -/
set_option maxHeartbeats 4000000 in
set_option maxRecDepth 100000 in
theorem slices_Clone_api_Value_api_Value.calls (a0 : List api_Value) {w0 : World} {R : Hp} {RA : Hp} {v0_0 : Value} (hRA : RA.sub w0) (hR : R.sub w0) (h0_0 : SlR ty_api_Value RA v0_0 a0) {r : List api_Value} (H : slices_Clone_api_Value_api_Value a0 = some r) : Calls Try.prog 40 #[v0_0] w0 (Rets fun v w' => ∃ (R' : Hp) (u0 : Value) (cu0 : List Value), v = u0 ∧ St [] w0 w' R' [.row 46 11 u0 r.length cu0] ∧ RLe [] w0 R R' ∧ Reps ty_api_Value R' cu0 r) := by
  unfold slices_Clone_api_Value_api_Value at H
  rcases SlR.nilcase h0_0 with ⟨hn, hx⟩ | ⟨ad_, m_, c_, hn⟩
  · subst hx
    have H : some ([] : List api_Value) = some r := by simpa [apd] using H
    refine enter (args := [v0_0]) Try.func40 rfl Try.ntmps40 rfl fun a hK => ?_
    have hS := St.init hR
    have hRL := RLe.refl (M := []) w0 R
    refine wp_seq ?_
    refine wp_region_lit ?_
    refine sl hK (by decide) rfl rfl (r_assign hK rfl) fun a hK => ?_
    refine wpList_nil ?_
    refine wp_seq ?_
    refine wp_seq ?_
    refine wp_region_lit ?_
    refine sl hK (by decide) rfl rfl (r_move hK rfl) fun a hK => ?_
    refine sl hK (by decide) rfl rfl (r_sleqN Try.underlying40 hn hK rfl rfl) fun a hK => ?_
    refine wpList_nil ?_
    refine wp_cond_true (hK.ev rfl) ?_
    refine wp_seq ?_
    refine wp_region_lit ?_
    refine sl hK (by decide) rfl rfl (r_assign hK rfl) fun a hK => ?_
    refine wpList_nil ?_
    have hS := hS.row_nil 46 11
    have hq_11 : Reps ty_api_Value R [] ([] : List api_Value) := Reps.nil _ _
    obtain rfl := Option.some.inj H
    refine wp_ret ?_
    repeat (first | refine ret_then ?_ | refine ret_block ?_ | refine ret_scope ?_)
    exact ret_1 Try.results40 hK (rv_tmp hK rfl) ⟨_, rfl, _, _, _, rfl, hS, hRL, hq_11⟩
  · refine enter (args := [v0_0]) Try.func40 rfl Try.ntmps40 rfl fun a hK => ?_
    have hS := St.init hR
    have hRL := RLe.refl (M := []) w0 R
    refine wp_seq ?_
    refine wp_region_lit ?_
    refine sl hK (by decide) rfl rfl (r_assign hK rfl) fun a hK => ?_
    refine wpList_nil ?_
    refine wp_seq ?_
    refine wp_seq ?_
    refine wp_region_lit ?_
    refine sl hK (by decide) rfl rfl (r_move hK rfl) fun a hK => ?_
    refine sl hK (by decide) rfl rfl (r_sleqS Try.underlying40 hn hK rfl rfl) fun a hK => ?_
    refine wpList_nil ?_
    refine wp_cond_false (hK.ev rfl) ?_
    refine wp_skip ?_
    refine wp_seq ?_
    refine wp_region_lit ?_
    refine sl_buildSliceC (zc := [.int .i64 0, .int .i64 0, .string (⟨#[]⟩ : ByteArray), .int .i64 0, .int .i64 0, .int .i64 0, .int .i64 0, .int .i64 0, .int .i64 0, .int .i64 0, .int .i64 0]) (zs := []) (ps := []) (c := []) Try.underlying40 Try.sizeOf46 Try.zeroValue46 rfl pc_nil rfl rfl (by decide) (by kernel_rfl) rfl hS hK (by decide) rfl fun a w b_1 hS hK => ?_
    refine sl hK (by decide) rfl rfl (r_move hK rfl) fun a hK => ?_
    obtain ⟨y_4, h_5, H⟩ := bind_some H
    have hS := hS.row_lit (size := 11) (m := 0) rfl (by decide)
    have hq_3 : Reps ty_api_Value R [] ([] : List api_Value) := (Reps.nil _ _)
    refine sl_append_A elT40 (by decide) rfl (fun _ _ _ _ h => h) (hS.ra hRA nil_not) hq_3 rfl h0_0 h_5 hS hK (by decide) rfl rfl rfl fun a w v_6 cs_7 hq_8 hS hK => ?_
    refine sl hK (by decide) rfl rfl (r_assign hK rfl) fun a hK => ?_
    refine wpList_nil ?_
    obtain rfl := Option.some.inj H
    refine wp_ret ?_
    repeat (first | refine ret_then ?_ | refine ret_block ?_ | refine ret_scope ?_)
    exact ret_1 Try.results40 hK (rv_tmp hK rfl) ⟨_, rfl, _, _, _, rfl, hS, hRL, hq_8⟩

/-! ### cmp.isNaN[int]: function 73 -/
set_option maxHeartbeats 4000000 in
set_option maxRecDepth 100000 in
theorem cmp_isNaN_int.calls (a0 : Int) {r : Bool} (H : cmp_isNaN_int a0 = some r) (w0 : World) : CallsV Try.prog 73 #[.int .i64 a0] w0 (.bool r) := by
  unfold cmp_isNaN_int at H
  refine enter (args := [.int .i64 a0]) Try.func73 rfl Try.ntmps73 rfl fun a hK => ?_
  have hS := St.init (R := fun _ => none) (w := w0) (fun _ _ h => by cases h)
  have hRL := RLe.refl (M := []) w0 (fun _ => none)
  refine wp_seq ?_
  refine wp_region_lit ?_
  refine sl hK (by decide) rfl rfl (r_assign hK rfl) fun a hK => ?_
  refine wpList_nil ?_
  refine wp_seq ?_
  refine wp_region_lit ?_
  refine sl hK (by decide) rfl rfl (r_move hK rfl) fun a hK => ?_
  refine sl hK (by decide) rfl rfl (r_move hK rfl) fun a hK => ?_
  refine sl hK (by decide) rfl rfl (r_ibin hK rfl rfl rfl) fun a hK => ?_
  refine sl hK (by decide) rfl rfl (r_assign hK rfl) fun a hK => ?_
  refine wpList_nil ?_
  obtain rfl := Option.some.inj H
  refine wp_ret ?_
  repeat (first | refine ret_then ?_ | refine ret_block ?_ | refine ret_scope ?_)
  exact ret_1 Try.results73 hK (rv_tmp hK rfl) ⟨rfl, hS.bel⟩

/-! ### cmp.Compare[int]: function 65 -/
set_option maxHeartbeats 4000000 in
set_option maxRecDepth 100000 in
theorem cmp_Compare_int.calls (a0 : Int) (a1 : Int) {r : Int} (H : cmp_Compare_int a0 a1 = some r) (w0 : World) : CallsV Try.prog 65 #[.int .i64 a0, .int .i64 a1] w0 (.int .i64 r) := by
  unfold cmp_Compare_int at H
  refine enter (args := [.int .i64 a0, .int .i64 a1]) Try.func65 rfl Try.ntmps65 rfl fun a hK => ?_
  have hS := St.init (R := fun _ => none) (w := w0) (fun _ _ h => by cases h)
  have hRL := RLe.refl (M := []) w0 (fun _ => none)
  refine wp_seq ?_
  refine wp_region_lit ?_
  refine sl hK (by decide) rfl rfl (r_assign hK rfl) fun a hK => ?_
  refine wpList_nil ?_
  refine wp_seq ?_
  refine wp_region_lit ?_
  refine sl hK (by decide) rfl rfl (r_move hK rfl) fun a hK => ?_
  obtain ⟨y_1, h_2, H⟩ := bind_some H
  refine sl_callV Try.call73 hS hK (by decide) rfl rfl rfl (cmp_isNaN_int.calls a0 h_2 _) fun a w hS hK => ?_
  refine sl hK (by decide) rfl rfl (r_assign hK rfl) fun a hK => ?_
  refine wpList_nil ?_
  refine wp_seq ?_
  refine wp_region_lit ?_
  refine sl hK (by decide) rfl rfl (r_move hK rfl) fun a hK => ?_
  obtain ⟨y_3, h_4, H⟩ := bind_some H
  refine sl_callV Try.call73 hS hK (by decide) rfl rfl rfl (cmp_isNaN_int.calls a1 h_4 _) fun a w hS hK => ?_
  refine sl hK (by decide) rfl rfl (r_assign hK rfl) fun a hK => ?_
  refine wpList_nil ?_
  refine wp_seq ?_
  refine wp_seq ?_
  refine wp_region_lit ?_
  refine sl hK (by decide) rfl rfl (r_move hK rfl) fun a hK => ?_
  refine wpList_nil ?_
  refine wp_cond_split (hK.ev rfl) (fun (hb_5 : y_1 = true) => ?_) (fun (hb_5 : y_1 = false) => ?_)
  · rw [ifb_t hb_5] at H
    refine wp_seq ?_
    refine wp_seq ?_
    refine wp_region_lit ?_
    refine sl hK (by decide) rfl rfl (r_move hK rfl) fun a hK => ?_
    refine wpList_nil ?_
    refine wp_cond_split (hK.ev rfl) (fun (hb_6 : y_3 = true) => ?_) (fun (hb_6 : y_3 = false) => ?_)
    · rw [ifb_t hb_6] at H
      refine wp_seq ?_
      refine wp_region_lit ?_
      refine sl hK (by decide) rfl rfl (r_assign hK rfl) fun a hK => ?_
      refine wpList_nil ?_
      obtain rfl := Option.some.inj H
      refine wp_ret ?_
      repeat (first | refine ret_then ?_ | refine ret_block ?_ | refine ret_scope ?_)
      exact ret_1 Try.results65 hK (rv_tmp hK rfl) ⟨rfl, hS.bel⟩
    · rw [ifb_f hb_6] at H
      refine wp_skip ?_
      refine wp_seq ?_
      refine wp_region_lit ?_
      refine sl hK (by decide) rfl rfl (r_assign hK rfl) fun a hK => ?_
      refine wpList_nil ?_
      obtain rfl := Option.some.inj H
      refine wp_ret ?_
      repeat (first | refine ret_then ?_ | refine ret_block ?_ | refine ret_scope ?_)
      exact ret_1 Try.results65 hK (rv_tmp hK rfl) ⟨rfl, hS.bel⟩
  · rw [ifb_f hb_5] at H
    refine wp_skip ?_
    refine wp_seq ?_
    refine wp_seq ?_
    refine wp_region_lit ?_
    refine sl hK (by decide) rfl rfl (r_move hK rfl) fun a hK => ?_
    refine wpList_nil ?_
    refine wp_cond_split (hK.ev rfl) (fun (hb_7 : y_3 = true) => ?_) (fun (hb_7 : y_3 = false) => ?_)
    · rw [ifb_t hb_7] at H
      refine wp_seq ?_
      refine wp_region_lit ?_
      refine sl hK (by decide) rfl rfl (r_assign hK rfl) fun a hK => ?_
      refine wpList_nil ?_
      obtain rfl := Option.some.inj H
      refine wp_ret ?_
      repeat (first | refine ret_then ?_ | refine ret_block ?_ | refine ret_scope ?_)
      exact ret_1 Try.results65 hK (rv_tmp hK rfl) ⟨rfl, hS.bel⟩
    · rw [ifb_f hb_7] at H
      refine wp_skip ?_
      refine wp_seq ?_
      refine wp_seq ?_
      refine wp_region_lit ?_
      refine sl hK (by decide) rfl rfl (r_move hK rfl) fun a hK => ?_
      refine sl hK (by decide) rfl rfl (r_move hK rfl) fun a hK => ?_
      refine sl hK (by decide) rfl rfl (r_ibin hK rfl rfl rfl) fun a hK => ?_
      refine wpList_nil ?_
      refine wp_cond_split (hK.ev rfl) (fun (hb_8 : (decide (a0 < a1)) = true) => ?_) (fun (hb_8 : (decide (a0 < a1)) = false) => ?_)
      · rw [ifb_t hb_8] at H
        refine wp_seq ?_
        refine wp_region_lit ?_
        refine sl hK (by decide) rfl rfl (r_assign hK rfl) fun a hK => ?_
        refine wpList_nil ?_
        obtain rfl := Option.some.inj H
        refine wp_ret ?_
        repeat (first | refine ret_then ?_ | refine ret_block ?_ | refine ret_scope ?_)
        exact ret_1 Try.results65 hK (rv_tmp hK rfl) ⟨rfl, hS.bel⟩
      · rw [ifb_f hb_8] at H
        refine wp_skip ?_
        refine wp_seq ?_
        refine wp_seq ?_
        refine wp_region_lit ?_
        refine sl hK (by decide) rfl rfl (r_move hK rfl) fun a hK => ?_
        refine sl hK (by decide) rfl rfl (r_move hK rfl) fun a hK => ?_
        refine sl hK (by decide) rfl rfl (r_ibin hK rfl rfl rfl) fun a hK => ?_
        refine wpList_nil ?_
        refine wp_cond_split (hK.ev rfl) (fun (hb_9 : (decide (a0 > a1)) = true) => ?_) (fun (hb_9 : (decide (a0 > a1)) = false) => ?_)
        · rw [ifb_t hb_9] at H
          refine wp_seq ?_
          refine wp_region_lit ?_
          refine sl hK (by decide) rfl rfl (r_assign hK rfl) fun a hK => ?_
          refine wpList_nil ?_
          obtain rfl := Option.some.inj H
          refine wp_ret ?_
          repeat (first | refine ret_then ?_ | refine ret_block ?_ | refine ret_scope ?_)
          exact ret_1 Try.results65 hK (rv_tmp hK rfl) ⟨rfl, hS.bel⟩
        · rw [ifb_f hb_9] at H
          refine wp_skip ?_
          refine wp_seq ?_
          refine wp_region_lit ?_
          refine sl hK (by decide) rfl rfl (r_assign hK rfl) fun a hK => ?_
          refine wpList_nil ?_
          obtain rfl := Option.some.inj H
          refine wp_ret ?_
          repeat (first | refine ret_then ?_ | refine ret_block ?_ | refine ret_scope ?_)
          exact ret_1 Try.results65 hK (rv_tmp hK rfl) ⟨rfl, hS.bel⟩

/-! ### internal/bytealg.CompareString: function 74 -/
set_option maxHeartbeats 4000000 in
set_option maxRecDepth 100000 in
theorem internal_bytealg_CompareString.calls (a0 : ByteArray) (a1 : ByteArray) {r : Int} (H : internal_bytealg_CompareString a0 a1 = some r) (w0 : World) : CallsV Try.prog 74 #[.string a0, .string a1] w0 (.int .i64 r) := by
  unfold internal_bytealg_CompareString at H
  refine enter (args := [.string a0, .string a1]) Try.func74 rfl Try.ntmps74 rfl fun a hK => ?_
  have hS := St.init (R := fun _ => none) (w := w0) (fun _ _ h => by cases h)
  have hRL := RLe.refl (M := []) w0 (fun _ => none)
  refine wp_seq ?_
  refine wp_region_lit ?_
  refine sl hK (by decide) rfl rfl (r_assign hK rfl) fun a hK => ?_
  refine wpList_nil ?_
  refine wp_seq ?_
  refine wp_region_lit ?_
  refine sl hK (by decide) rfl rfl (r_move hK rfl) fun a hK => ?_
  refine sl hK (by decide) rfl rfl (r_move hK rfl) fun a hK => ?_
  refine sl hK (by decide) rfl rfl (r_ext (ext76 a0 a1 _) hK rfl rfl) fun a hK => ?_
  refine sl hK (by decide) rfl rfl (r_assign hK rfl) fun a hK => ?_
  refine wpList_nil ?_
  obtain rfl := Option.some.inj H
  refine wp_ret ?_
  repeat (first | refine ret_then ?_ | refine ret_block ?_ | refine ret_scope ?_)
  exact ret_1 Try.results74 hK (rv_tmp hK rfl) ⟨rfl, hS.bel⟩

/-! ### strings.Compare: function 66 -/
set_option maxHeartbeats 4000000 in
set_option maxRecDepth 100000 in
theorem strings_Compare.calls (a0 : ByteArray) (a1 : ByteArray) {r : Int} (H : strings_Compare a0 a1 = some r) (w0 : World) : CallsV Try.prog 66 #[.string a0, .string a1] w0 (.int .i64 r) := by
  unfold strings_Compare at H
  refine enter (args := [.string a0, .string a1]) Try.func66 rfl Try.ntmps66 rfl fun a hK => ?_
  have hS := St.init (R := fun _ => none) (w := w0) (fun _ _ h => by cases h)
  have hRL := RLe.refl (M := []) w0 (fun _ => none)
  refine wp_seq ?_
  refine wp_region_lit ?_
  refine sl hK (by decide) rfl rfl (r_assign hK rfl) fun a hK => ?_
  refine wpList_nil ?_
  refine wp_seq ?_
  refine wp_region_lit ?_
  refine sl hK (by decide) rfl rfl (r_move hK rfl) fun a hK => ?_
  refine sl hK (by decide) rfl rfl (r_move hK rfl) fun a hK => ?_
  obtain ⟨y_1, h_2, H⟩ := bind_some H
  refine sl_callV Try.call74 hS hK (by decide) rfl rfl rfl (internal_bytealg_CompareString.calls a0 a1 h_2 _) fun a w hS hK => ?_
  refine sl hK (by decide) rfl rfl (r_assign hK rfl) fun a hK => ?_
  refine wpList_nil ?_
  obtain rfl := Option.some.inj H
  refine wp_ret ?_
  repeat (first | refine ret_then ?_ | refine ret_block ?_ | refine ret_scope ?_)
  exact ret_1 Try.results66 hK (rv_tmp hK rfl) ⟨rfl, hS.bel⟩

/-! ### slices.Compare[[]int,int]: function 67 -/
set_option maxHeartbeats 4000000 in
set_option maxRecDepth 100000 in
theorem slices_Compare_int_int.calls (a0 : List Int) (a1 : List Int) {w0 : World} {RA : Hp} {v0_0 : Value} {v1_0 : Value} (hRA : RA.sub w0) (h0_0 : SlR (tyInt .i64) RA v0_0 a0) (h1_0 : SlR (tyInt .i64) RA v1_0 a1) {r : Int} (H : slices_Compare_int_int a0 a1 = some r) : CallsV Try.prog 67 #[v0_0, v1_0] w0 (.int .i64 r) := by
  unfold slices_Compare_int_int at H
  refine enter (args := [v0_0, v1_0]) Try.func67 rfl Try.ntmps67 rfl fun a hK => ?_
  have hS := St.init (R := fun _ => none) (w := w0) (fun _ _ h => by cases h)
  have hRL := RLe.refl (M := []) w0 (fun _ => none)
  refine wp_seq ?_
  refine wp_region_lit ?_
  refine sl hK (by decide) rfl rfl (r_assign hK rfl) fun a hK => ?_
  refine wpList_nil ?_
  refine wp_seq ?_
  refine wp_seq ?_
  refine wp_region_lit ?_
  refine sl hK (by decide) rfl rfl (r_move hK rfl) fun a hK => ?_
  refine sl hK (by decide) rfl rfl (r_len_R Try.underlying51 h0_0 hK rfl) fun a hK => ?_
  refine sl hK (by decide) rfl rfl (r_move hK rfl) fun a hK => ?_
  refine wpList_nil ?_
  refine wp_block ?_
  refine wp_loop_k (fun k_l0 a w => ∃ (x_25 : Int), slices_Compare_int_int.l0 a0 a1 k_l0 x_25 = some r ∧ Kn 36 a [(0, v0_0), (1, v1_0), (9, v0_0), (10, .int .i64 (a0.length : Int)), (11, .int .i64 x_25)] ∧ St [] w0 w (fun _ => none) []) (((a0.length : Int) - 0).toNat + 1) ?_ ?_
  · exact ⟨0, H, hK.sub (all_cons rfl (all_cons rfl (all_cons rfl (all_cons rfl (all_cons rfl (all_nil)))))), hS⟩
  · rintro k_l0 a w ⟨x_25, H, hK, hS⟩
    cases k_l0 with
    | zero => cases H
    | succ k_l0 =>
    rw [slices_Compare_int_int.l0.eq_2] at H
    refine wp_seq ?_
    refine wp_region_lit ?_
    refine sl hK (by decide) rfl rfl (r_ibin hK rfl rfl rfl) fun a hK => ?_
    refine wpList_nil ?_
    refine wp_seq ?_
    refine wp_cond_split (hK.ev rfl) (fun (hb_50 : (decide (x_25 < (a0.length : Int))) = true) => ?_) (fun (hb_50 : (decide (x_25 < (a0.length : Int))) = false) => ?_)
    · rw [ifb_t hb_50] at H
      refine wp_skip ?_
      refine wp_seq ?_
      refine wp_block ?_
      refine wp_seq ?_
      refine wp_region_lit ?_
      refine sl hK (by decide) rfl rfl (r_move hK rfl) fun a hK => ?_
      obtain ⟨y_51, h_52, H⟩ := bind_some H
      obtain ⟨b_53, o_54, c_55, cs_56, hv_57, hr_58, hc_59, h_520, h_521⟩ := h0_0.ix h_52
      subst hr_58
      refine sl hK (by decide) rfl rfl (r_indexAddr_R Try.underlying51 Try.sizeOf3 hv_57 h_520 h_521 hK rfl rfl) fun a hK => ?_
      refine sl hK (by decide) rfl rfl (r_load Try.isAgg3 hK rfl ((hS.ra hRA nil_not).cell (hc_59 0 _ rfl))) fun a hK => ?_
      refine sl hK (by decide) rfl rfl (r_assign hK rfl) fun a hK => ?_
      refine sl hK (by decide) rfl rfl (r_assign hK rfl) fun a hK => ?_
      refine wpList_nil ?_
      refine wp_seq ?_
      refine wp_seq ?_
      refine wp_region_lit ?_
      refine sl hK (by decide) rfl rfl (r_move hK rfl) fun a hK => ?_
      refine sl hK (by decide) rfl rfl (r_move hK rfl) fun a hK => ?_
      refine sl hK (by decide) rfl rfl (r_len_R Try.underlying51 h1_0 hK rfl) fun a hK => ?_
      refine sl hK (by decide) rfl rfl (r_ibin hK rfl rfl rfl) fun a hK => ?_
      refine wpList_nil ?_
      refine wp_cond_split (hK.ev rfl) (fun (hb_60 : (decide (x_25 ≥ (a1.length : Int))) = true) => ?_) (fun (hb_60 : (decide (x_25 ≥ (a1.length : Int))) = false) => ?_)
      · rw [ifb_t hb_60] at H
        refine wp_seq ?_
        refine wp_region_lit ?_
        refine sl hK (by decide) rfl rfl (r_assign hK rfl) fun a hK => ?_
        refine wpList_nil ?_
        obtain rfl := Option.some.inj H
        refine wp_ret ?_
        repeat (first | refine ret_then ?_ | refine ret_block ?_ | refine ret_scope ?_)
        exact ret_1 Try.results67 hK (rv_tmp hK rfl) ⟨rfl, hS.bel⟩
      · rw [ifb_f hb_60] at H
        refine wp_skip ?_
        refine wp_seq ?_
        refine wp_region_lit ?_
        refine sl hK (by decide) rfl rfl (r_move hK rfl) fun a hK => ?_
        refine sl hK (by decide) rfl rfl (r_move hK rfl) fun a hK => ?_
        obtain ⟨y_61, h_62, H⟩ := bind_some H
        obtain ⟨b_63, o_64, c_65, cs_66, hv_67, hr_68, hc_69, h_620, h_621⟩ := h1_0.ix h_62
        subst hr_68
        refine sl hK (by decide) rfl rfl (r_indexAddr_R Try.underlying51 Try.sizeOf3 hv_67 h_620 h_621 hK rfl rfl) fun a hK => ?_
        refine sl hK (by decide) rfl rfl (r_load Try.isAgg3 hK rfl ((hS.ra hRA nil_not).cell (hc_69 0 _ rfl))) fun a hK => ?_
        refine sl hK (by decide) rfl rfl (r_assign hK rfl) fun a hK => ?_
        refine wpList_nil ?_
        refine wp_seq ?_
        refine wp_region_lit ?_
        refine sl hK (by decide) rfl rfl (r_move hK rfl) fun a hK => ?_
        refine sl hK (by decide) rfl rfl (r_move hK rfl) fun a hK => ?_
        obtain ⟨y_70, h_71, H⟩ := bind_some H
        refine sl_callV Try.call65 hS hK (by decide) rfl rfl rfl (cmp_Compare_int.calls y_51 y_61 h_71 _) fun a w hS hK => ?_
        refine sl hK (by decide) rfl rfl (r_assign hK rfl) fun a hK => ?_
        refine wpList_nil ?_
        refine wp_seq ?_
        refine wp_region_lit ?_
        refine sl hK (by decide) rfl rfl (r_move hK rfl) fun a hK => ?_
        refine sl hK (by decide) rfl rfl (r_ibin hK rfl rfl rfl) fun a hK => ?_
        refine wpList_nil ?_
        refine wp_cond_split (hK.ev rfl) (fun (hb_72 : (y_70 != 0) = true) => ?_) (fun (hb_72 : (y_70 != 0) = false) => ?_)
        · rw [ifb_t hb_72] at H
          refine wp_seq ?_
          refine wp_region_lit ?_
          refine sl hK (by decide) rfl rfl (r_move hK rfl) fun a hK => ?_
          refine sl hK (by decide) rfl rfl (r_assign hK rfl) fun a hK => ?_
          refine wpList_nil ?_
          obtain rfl := Option.some.inj H
          refine wp_ret ?_
          repeat (first | refine ret_then ?_ | refine ret_block ?_ | refine ret_scope ?_)
          exact ret_1 Try.results67 hK (rv_tmp hK rfl) ⟨rfl, hS.bel⟩
        · rw [ifb_f hb_72] at H
          refine wp_skip ?_
          refine wp_region_lit ?_
          refine sl hK (by decide) rfl rfl (r_ibin hK rfl rfl rfl) fun a hK => ?_
          refine sl hK (by decide) rfl rfl (r_move hK rfl) fun a hK => ?_
          refine wpList_nil ?_
          exact ⟨_, Nat.lt_succ_self _, (IntKind.i64.wrap (x_25 + 1)), H, hK.sub (all_cons rfl (all_cons rfl (all_cons rfl (all_cons rfl (all_cons rfl (all_nil)))))), hS⟩
    · rw [ifb_f hb_50] at H
      refine wp_exit ?_
      refine wp_seq ?_
      refine wp_seq ?_
      refine wp_region_lit ?_
      refine sl hK (by decide) rfl rfl (r_move hK rfl) fun a hK => ?_
      refine sl hK (by decide) rfl rfl (r_len_R Try.underlying51 h0_0 hK rfl) fun a hK => ?_
      refine sl hK (by decide) rfl rfl (r_move hK rfl) fun a hK => ?_
      refine sl hK (by decide) rfl rfl (r_len_R Try.underlying51 h1_0 hK rfl) fun a hK => ?_
      refine sl hK (by decide) rfl rfl (r_ibin hK rfl rfl rfl) fun a hK => ?_
      refine wpList_nil ?_
      refine wp_cond_split (hK.ev rfl) (fun (hb_73 : (decide ((a0.length : Int) < (a1.length : Int))) = true) => ?_) (fun (hb_73 : (decide ((a0.length : Int) < (a1.length : Int))) = false) => ?_)
      · rw [ifb_t hb_73] at H
        refine wp_seq ?_
        refine wp_region_lit ?_
        refine sl hK (by decide) rfl rfl (r_assign hK rfl) fun a hK => ?_
        refine wpList_nil ?_
        obtain rfl := Option.some.inj H
        refine wp_ret ?_
        repeat (first | refine ret_then ?_ | refine ret_block ?_ | refine ret_scope ?_)
        exact ret_1 Try.results67 hK (rv_tmp hK rfl) ⟨rfl, hS.bel⟩
      · rw [ifb_f hb_73] at H
        refine wp_skip ?_
        refine wp_seq ?_
        refine wp_region_lit ?_
        refine sl hK (by decide) rfl rfl (r_assign hK rfl) fun a hK => ?_
        refine wpList_nil ?_
        obtain rfl := Option.some.inj H
        refine wp_ret ?_
        repeat (first | refine ret_then ?_ | refine ret_block ?_ | refine ret_scope ?_)
        exact ret_1 Try.results67 hK (rv_tmp hK rfl) ⟨rfl, hS.bel⟩

/-! ### cmp.Or[int]: function 64 -/
set_option maxHeartbeats 4000000 in
set_option maxRecDepth 100000 in
theorem cmp_Or_int.calls (a0 : List Int) {w0 : World} {RA : Hp} {v0_0 : Value} (hRA : RA.sub w0) (h0_0 : SlR (tyInt .i64) RA v0_0 a0) {r : Int} (H : cmp_Or_int a0 = some r) : CallsV Try.prog 64 #[v0_0] w0 (.int .i64 r) := by
  unfold cmp_Or_int at H
  refine enter (args := [v0_0]) Try.func64 rfl Try.ntmps64 rfl fun a hK => ?_
  have hS := St.init (R := fun _ => none) (w := w0) (fun _ _ h => by cases h)
  have hRL := RLe.refl (M := []) w0 (fun _ => none)
  refine wp_seq ?_
  refine wp_region_lit ?_
  refine sl hK (by decide) rfl rfl (r_assign hK rfl) fun a hK => ?_
  refine wpList_nil ?_
  refine wp_seq ?_
  refine wp_region_lit ?_
  refine sl hK (by decide) rfl rfl (r_assign hK rfl) fun a hK => ?_
  refine wpList_nil ?_
  refine wp_seq ?_
  refine wp_seq ?_
  refine wp_region_lit ?_
  refine sl hK (by decide) rfl rfl (r_move hK rfl) fun a hK => ?_
  refine sl hK (by decide) rfl rfl (r_len_R Try.underlying51 h0_0 hK rfl) fun a hK => ?_
  refine sl hK (by decide) rfl rfl (r_move hK rfl) fun a hK => ?_
  refine wpList_nil ?_
  refine wp_block ?_
  refine wp_loop_k (fun k_l0 a w => ∃ (x_13 : Int), cmp_Or_int.l0 a0 k_l0 x_13 = some r ∧ Kn 18 a [(3, .int .i64 0), (6, v0_0), (7, .int .i64 (a0.length : Int)), (8, .int .i64 x_13)] ∧ St [] w0 w (fun _ => none) []) (((a0.length : Int) - 0).toNat + 1) ?_ ?_
  · exact ⟨0, H, hK.sub (all_cons rfl (all_cons rfl (all_cons rfl (all_cons rfl (all_nil))))), hS⟩
  · rintro k_l0 a w ⟨x_13, H, hK, hS⟩
    cases k_l0 with
    | zero => cases H
    | succ k_l0 =>
    rw [cmp_Or_int.l0.eq_2] at H
    refine wp_seq ?_
    refine wp_region_lit ?_
    refine sl hK (by decide) rfl rfl (r_ibin hK rfl rfl rfl) fun a hK => ?_
    refine wpList_nil ?_
    refine wp_seq ?_
    refine wp_cond_split (hK.ev rfl) (fun (hb_26 : (decide (x_13 < (a0.length : Int))) = true) => ?_) (fun (hb_26 : (decide (x_13 < (a0.length : Int))) = false) => ?_)
    · rw [ifb_t hb_26] at H
      refine wp_skip ?_
      refine wp_seq ?_
      refine wp_block ?_
      refine wp_seq ?_
      refine wp_region_lit ?_
      obtain ⟨y_27, h_28, H⟩ := bind_some H
      obtain ⟨b_29, o_30, c_31, cs_32, hv_33, hr_34, hc_35, h_280, h_281⟩ := h0_0.ix h_28
      subst hr_34
      refine sl hK (by decide) rfl rfl (r_indexAddr_R Try.underlying51 Try.sizeOf3 hv_33 h_280 h_281 hK rfl rfl) fun a hK => ?_
      refine sl hK (by decide) rfl rfl (r_load Try.isAgg3 hK rfl ((hS.ra hRA nil_not).cell (hc_35 0 _ rfl))) fun a hK => ?_
      refine sl hK (by decide) rfl rfl (r_assign hK rfl) fun a hK => ?_
      refine wpList_nil ?_
      refine wp_seq ?_
      refine wp_region_lit ?_
      refine sl hK (by decide) rfl rfl (r_move hK rfl) fun a hK => ?_
      refine sl hK (by decide) rfl rfl (r_move hK rfl) fun a hK => ?_
      refine sl hK (by decide) rfl rfl (r_ibin hK rfl rfl rfl) fun a hK => ?_
      refine wpList_nil ?_
      refine wp_cond_split (hK.ev rfl) (fun (hb_36 : (y_27 != 0) = true) => ?_) (fun (hb_36 : (y_27 != 0) = false) => ?_)
      · rw [ifb_t hb_36] at H
        refine wp_seq ?_
        refine wp_region_lit ?_
        refine sl hK (by decide) rfl rfl (r_move hK rfl) fun a hK => ?_
        refine sl hK (by decide) rfl rfl (r_assign hK rfl) fun a hK => ?_
        refine wpList_nil ?_
        obtain rfl := Option.some.inj H
        refine wp_ret ?_
        repeat (first | refine ret_then ?_ | refine ret_block ?_ | refine ret_scope ?_)
        exact ret_1 Try.results64 hK (rv_tmp hK rfl) ⟨rfl, hS.bel⟩
      · rw [ifb_f hb_36] at H
        refine wp_skip ?_
        refine wp_region_lit ?_
        refine sl hK (by decide) rfl rfl (r_ibin hK rfl rfl rfl) fun a hK => ?_
        refine sl hK (by decide) rfl rfl (r_move hK rfl) fun a hK => ?_
        refine wpList_nil ?_
        exact ⟨_, Nat.lt_succ_self _, (IntKind.i64.wrap (x_13 + 1)), H, hK.sub (all_cons rfl (all_cons rfl (all_cons rfl (all_cons rfl (all_nil))))), hS⟩
    · rw [ifb_f hb_26] at H
      refine wp_exit ?_
      refine wp_seq ?_
      refine wp_region_lit ?_
      refine sl hK (by decide) rfl rfl (r_move hK rfl) fun a hK => ?_
      refine sl hK (by decide) rfl rfl (r_assign hK rfl) fun a hK => ?_
      refine wpList_nil ?_
      obtain rfl := Option.some.inj H
      refine wp_ret ?_
      repeat (first | refine ret_then ?_ | refine ret_block ?_ | refine ret_scope ?_)
      exact ret_1 Try.results64 hK (rv_tmp hK rfl) ⟨rfl, hS.bel⟩

/-! ### catchment/value.Compare: function 52 -/
set_option maxHeartbeats 4000000 in
set_option maxRecDepth 100000 in
theorem value_Compare.calls (a0 : api_Value) (a1 : api_Value) {r : Int} (H : value_Compare a0 a1 = some r) (w0 : World) : CallsV Try.prog 52 #[.agg #[.int .i64 a0.Kind, .int .i64 a0.N, .string a0.S, .int .i64 a0.H.a0, .int .i64 a0.H.a1, .int .i64 a0.H.a2, .int .i64 a0.H.a3, .int .i64 a0.H.a4, .int .i64 a0.H.a5, .int .i64 a0.H.a6, .int .i64 a0.H.a7], .agg #[.int .i64 a1.Kind, .int .i64 a1.N, .string a1.S, .int .i64 a1.H.a0, .int .i64 a1.H.a1, .int .i64 a1.H.a2, .int .i64 a1.H.a3, .int .i64 a1.H.a4, .int .i64 a1.H.a5, .int .i64 a1.H.a6, .int .i64 a1.H.a7]] w0 (.int .i64 r) := by
  unfold value_Compare at H
  refine enter (args := [.agg #[.int .i64 a0.Kind, .int .i64 a0.N, .string a0.S, .int .i64 a0.H.a0, .int .i64 a0.H.a1, .int .i64 a0.H.a2, .int .i64 a0.H.a3, .int .i64 a0.H.a4, .int .i64 a0.H.a5, .int .i64 a0.H.a6, .int .i64 a0.H.a7], .agg #[.int .i64 a1.Kind, .int .i64 a1.N, .string a1.S, .int .i64 a1.H.a0, .int .i64 a1.H.a1, .int .i64 a1.H.a2, .int .i64 a1.H.a3, .int .i64 a1.H.a4, .int .i64 a1.H.a5, .int .i64 a1.H.a6, .int .i64 a1.H.a7]]) Try.func52 rfl Try.ntmps52 rfl fun a hK => ?_
  have hS := St.init (R := fun _ => none) (w := w0) (fun _ _ h => by cases h)
  have hRL := RLe.refl (M := []) w0 (fun _ => none)
  refine wp_seq ?_
  refine wp_region_lit ?_
  refine sl_box hS hK (by decide) rfl rfl (c := [.int .i64 a0.Kind, .int .i64 a0.N, .string a0.S, .int .i64 a0.H.a0, .int .i64 a0.H.a1, .int .i64 a0.H.a2, .int .i64 a0.H.a3, .int .i64 a0.H.a4, .int .i64 a0.H.a5, .int .i64 a0.H.a6, .int .i64 a0.H.a7]) rfl fun a w b_1 hS hK => ?_
  refine sl_box hS hK (by decide) rfl rfl (c := [.int .i64 a1.Kind, .int .i64 a1.N, .string a1.S, .int .i64 a1.H.a0, .int .i64 a1.H.a1, .int .i64 a1.H.a2, .int .i64 a1.H.a3, .int .i64 a1.H.a4, .int .i64 a1.H.a5, .int .i64 a1.H.a6, .int .i64 a1.H.a7]) rfl fun a w b_2 hS hK => ?_
  refine sl hK (by decide) rfl rfl (r_assign hK rfl) fun a hK => ?_
  refine wpList_nil ?_
  refine wp_seq ?_
  refine parT_region (C := fun w => St [] w0 w (fun _ => none) [.cells b_2 [.int .i64 a1.Kind, .int .i64 a1.N, .string a1.S, .int .i64 a1.H.a0, .int .i64 a1.H.a1, .int .i64 a1.H.a2, .int .i64 a1.H.a3, .int .i64 a1.H.a4, .int .i64 a1.H.a5, .int .i64 a1.H.a6, .int .i64 a1.H.a7] 46, .cells b_1 [.int .i64 a0.Kind, .int .i64 a0.N, .string a0.S, .int .i64 a0.H.a0, .int .i64 a0.H.a1, .int .i64 a0.H.a2, .int .i64 a0.H.a3, .int .i64 a0.H.a4, .int .i64 a0.H.a5, .int .i64 a0.H.a6, .int .i64 a0.H.a7] 46]) 19 [(0, true), (1, true), (2, true), (3, true), (5, true), (6, true), (7, true), (8, true), (10, true), (11, true), (12, true), (13, true), (15, true), (16, true), (17, true), (18, true), (4, false), (9, false), (14, false)] mixed (by kernel_rfl) hS (fun w hS => hS) fun w hS => ?_
  refine sp (k := 0) rfl hK (by decide) rfl rfl (fun w hS => r_fieldAddr Try.underlying46 rfl Try.sizeOf3 hK rfl) fun a hK => ?_
  refine sp (k := 1) rfl hK (by decide) rfl rfl (fun w hS => r_load Try.isAgg3 hK rfl (hS.cell (.tail _ (.head _)) rfl)) fun a hK => ?_
  refine sp (k := 2) rfl hK (by decide) rfl rfl (fun w hS => r_fieldAddr Try.underlying46 rfl Try.sizeOf3 hK rfl) fun a hK => ?_
  refine sp (k := 3) rfl hK (by decide) rfl rfl (fun w hS => r_load Try.isAgg3 hK rfl (hS.cell (.head _) rfl)) fun a hK => ?_
  refine sp (k := 5) rfl hK (by decide) rfl rfl (fun w hS => r_fieldAddr Try.underlying46 rfl Try.sizeOf3 hK rfl) fun a hK => ?_
  refine sp (k := 6) rfl hK (by decide) rfl rfl (fun w hS => r_load Try.isAgg3 hK rfl (hS.cell (.tail _ (.head _)) rfl)) fun a hK => ?_
  refine sp (k := 7) rfl hK (by decide) rfl rfl (fun w hS => r_fieldAddr Try.underlying46 rfl Try.sizeOf3 hK rfl) fun a hK => ?_
  refine sp (k := 8) rfl hK (by decide) rfl rfl (fun w hS => r_load Try.isAgg3 hK rfl (hS.cell (.head _) rfl)) fun a hK => ?_
  refine sp (k := 10) rfl hK (by decide) rfl rfl (fun w hS => r_fieldAddr Try.underlying46 rfl Try.sizeOf9 hK rfl) fun a hK => ?_
  refine sp (k := 11) rfl hK (by decide) rfl rfl (fun w hS => r_load Try.isAgg9 hK rfl (hS.cell (.tail _ (.head _)) rfl)) fun a hK => ?_
  refine sp (k := 12) rfl hK (by decide) rfl rfl (fun w hS => r_fieldAddr Try.underlying46 rfl Try.sizeOf9 hK rfl) fun a hK => ?_
  refine sp (k := 13) rfl hK (by decide) rfl rfl (fun w hS => r_load Try.isAgg9 hK rfl (hS.cell (.head _) rfl)) fun a hK => ?_
  refine sp (k := 15) rfl hK (by decide) rfl rfl (fun w hS => r_fieldAddr Try.underlying46 rfl Try.sizeOf44 hK rfl) fun a hK => ?_
  refine sp (k := 16) rfl hK (by decide) rfl rfl (fun w hS => r_slice_arr0 Try.underlying44 Try.sizeOf3 hK rfl) fun a hK => ?_
  refine sp (k := 17) rfl hK (by decide) rfl rfl (fun w hS => r_fieldAddr Try.underlying46 rfl Try.sizeOf44 hK rfl) fun a hK => ?_
  refine sp (k := 18) rfl hK (by decide) rfl rfl (fun w hS => r_slice_arr0 Try.underlying44 Try.sizeOf3 hK rfl) fun a hK => ?_
  refine spw (k := 4) rfl rfl hS ?_
  obtain ⟨y_14, h_15, H⟩ := bind_some H
  refine sl_callV Try.call65 hS hK (by decide) rfl rfl rfl (cmp_Compare_int.calls a0.Kind a1.Kind h_15 _) fun a w hS hK => ?_
  refine parK_nil hS ?_
  refine spw (k := 9) rfl rfl hS ?_
  obtain ⟨y_16, h_17, H⟩ := bind_some H
  refine sl_callV Try.call65 hS hK (by decide) rfl rfl rfl (cmp_Compare_int.calls a0.N a1.N h_17 _) fun a w hS hK => ?_
  refine parK_nil hS ?_
  refine spw (k := 14) rfl rfl hS ?_
  obtain ⟨y_18, h_19, H⟩ := bind_some H
  refine sl_callV Try.call66 hS hK (by decide) rfl rfl rfl (strings_Compare.calls a0.S a1.S h_19 _) fun a w hS hK => ?_
  refine parK_nil hS ?_
  refine thenL_nil ?_
  obtain ⟨y_20, h_21, H⟩ := bind_some H
  refine sl_callV Try.call67 hS hK (by decide) rfl rfl rfl (slices_Compare_int_int.calls a0.H.list a1.H.list (lentOf_sub [] _) (hS.lend_part0 (.tail _ (.head _)) (xs := a0.H.list) rfl (Nat.le_refl _)) (hS.lend_part0 (.head _) (xs := a1.H.list) rfl (Nat.le_refl _)) h_21) fun a w hS hK => ?_
  refine sl_buildSliceF (zc := [.int .i64 0]) (ps := [(0, .int .i64 y_14), (1, .int .i64 y_16), (2, .int .i64 y_18), (3, .int .i64 y_20)]) (c := [.int .i64 y_14, .int .i64 y_16, .int .i64 y_18, .int .i64 y_20]) [[.int .i64 y_14], [.int .i64 y_16], [.int .i64 y_18], [.int .i64 y_20]] Try.underlying51 Try.sizeOf3 Try.zeroValue3 rfl (pc_cons rfl (pc_cons rfl (pc_cons rfl (pc_cons rfl pc_nil)))) rfl rfl (Nat.le_of_ble_eq_true rfl) rfl (all_cons rfl (all_cons rfl (all_cons rfl (all_cons rfl (all_nil))))) rfl hS hK (by decide) rfl fun a w b_22 hS hK => ?_
  obtain ⟨y_23, h_24, H⟩ := bind_some H
  refine sl_callV Try.call64 hS hK (by decide) rfl rfl rfl (cmp_Or_int.calls [y_14, y_16, y_18, y_20] (lentOf_sub [] _) (hS.lend_lit0 (ty := (tyInt .i64)) (xs := [y_14, y_16, y_18, y_20]) (.head _) (Reps.cons (show Ty.rep (tyInt .i64) _ [.int .i64 y_14] y_14 from rfl) (Reps.cons (show Ty.rep (tyInt .i64) _ [.int .i64 y_16] y_16 from rfl) (Reps.cons (show Ty.rep (tyInt .i64) _ [.int .i64 y_18] y_18 from rfl) (Reps.cons (show Ty.rep (tyInt .i64) _ [.int .i64 y_20] y_20 from rfl) (Reps.nil _ _))))) rfl) h_24) fun a w hS hK => ?_
  refine sl hK (by decide) rfl rfl (r_assign hK rfl) fun a hK => ?_
  refine wpList_nil (NoP_nil ?_)
  obtain rfl := Option.some.inj H
  refine wp_ret ?_
  repeat (first | refine ret_then ?_ | refine ret_block ?_ | refine ret_scope ?_)
  exact ret_1 Try.results52 hK (rv_tmp hK rfl) ⟨rfl, hS.bel⟩

/-! ### slices.CompareFunc[[]catchment/api.Value,[]catchment/api.Value,catchment/api.Value,catchment/api.Value]: function 51 -/
set_option maxHeartbeats 4000000 in
set_option maxRecDepth 100000 in
theorem slices_CompareFunc_api_Value_api_Value_api_Value_api_Value_f_value_Compare.calls (a0 : List api_Value) (a1 : List api_Value) {w0 : World} {RA : Hp} {v0_0 : Value} {v1_0 : Value} (hRA : RA.sub w0) (h0_0 : SlR ty_api_Value RA v0_0 a0) (h1_0 : SlR ty_api_Value RA v1_0 a1) {r : Int} (H : slices_CompareFunc_api_Value_api_Value_api_Value_api_Value_f_value_Compare a0 a1 = some r) : CallsV Try.prog 51 #[v0_0, v1_0, .func (.func 52) #[] #[]] w0 (.int .i64 r) := by
  unfold slices_CompareFunc_api_Value_api_Value_api_Value_api_Value_f_value_Compare at H
  refine enter (args := [v0_0, v1_0, .func (.func 52) #[] #[]]) Try.func51 rfl Try.ntmps51 rfl fun a hK => ?_
  have hS := St.init (R := fun _ => none) (w := w0) (fun _ _ h => by cases h)
  have hRL := RLe.refl (M := []) w0 (fun _ => none)
  refine wp_seq ?_
  refine wp_region_lit ?_
  refine sl hK (by decide) rfl rfl (r_assign hK rfl) fun a hK => ?_
  refine wpList_nil ?_
  refine wp_seq ?_
  refine wp_seq ?_
  refine wp_region_lit ?_
  refine sl hK (by decide) rfl rfl (r_move hK rfl) fun a hK => ?_
  refine sl hK (by decide) rfl rfl (r_len_R Try.underlying40 h0_0 hK rfl) fun a hK => ?_
  refine sl hK (by decide) rfl rfl (r_move hK rfl) fun a hK => ?_
  refine wpList_nil ?_
  refine wp_block ?_
  refine wp_loop_k (fun k_l0 a w => ∃ (x_27 : Int), slices_CompareFunc_api_Value_api_Value_api_Value_api_Value_f_value_Compare.l0 a0 a1 k_l0 x_27 = some r ∧ Kn 39 a [(0, v0_0), (1, v1_0), (2, .func (.func 52) #[] #[]), (11, v0_0), (12, .int .i64 (a0.length : Int)), (13, .int .i64 x_27)] ∧ St [] w0 w (fun _ => none) []) (((a0.length : Int) - 0).toNat + 1) ?_ ?_
  · exact ⟨0, H, hK.sub (all_cons rfl (all_cons rfl (all_cons rfl (all_cons rfl (all_cons rfl (all_cons rfl (all_nil))))))), hS⟩
  · rintro k_l0 a w ⟨x_27, H, hK, hS⟩
    cases k_l0 with
    | zero => cases H
    | succ k_l0 =>
    rw [slices_CompareFunc_api_Value_api_Value_api_Value_api_Value_f_value_Compare.l0.eq_2] at H
    refine wp_seq ?_
    refine wp_region_lit ?_
    refine sl hK (by decide) rfl rfl (r_ibin hK rfl rfl rfl) fun a hK => ?_
    refine wpList_nil ?_
    refine wp_seq ?_
    refine wp_cond_split (hK.ev rfl) (fun (hb_54 : (decide (x_27 < (a0.length : Int))) = true) => ?_) (fun (hb_54 : (decide (x_27 < (a0.length : Int))) = false) => ?_)
    · rw [ifb_t hb_54] at H
      refine wp_skip ?_
      refine wp_seq ?_
      refine wp_block ?_
      refine wp_seq ?_
      refine wp_region_lit ?_
      refine sl hK (by decide) rfl rfl (r_move hK rfl) fun a hK => ?_
      obtain ⟨y_55, h_56, H⟩ := bind_some H
      obtain ⟨b_57, o_58, c_59, cs_60, hv_61, hr_62, hc_63, h_560, h_561⟩ := h0_0.ix h_56
      subst hr_62
      refine sl hK (by decide) rfl rfl (r_indexAddr_R Try.underlying40 Try.sizeOf46 hv_61 h_560 h_561 hK rfl rfl) fun a hK => ?_
      refine sl hK (by decide) rfl rfl (r_loadA (cs := [.int .i64 y_55.Kind, .int .i64 y_55.N, .string y_55.S, .int .i64 y_55.H.a0, .int .i64 y_55.H.a1, .int .i64 y_55.H.a2, .int .i64 y_55.H.a3, .int .i64 y_55.H.a4, .int .i64 y_55.H.a5, .int .i64 y_55.H.a6, .int .i64 y_55.H.a7]) Try.isAgg46 Try.sizeOf46 rfl hK rfl (fun j v hv => (hS.ra hRA nil_not).cell (hc_63 j v hv))) fun a hK => ?_
      refine sl_alloc Try.zeroValue46 hS hK (by decide) rfl rfl fun a w b_64 hS hK => ?_
      refine sl hK (by decide) rfl rfl (r_assign hK rfl) fun a hK => ?_
      refine sl_storeA (vs := [.int .i64 y_55.Kind, .int .i64 y_55.N, .string y_55.S, .int .i64 y_55.H.a0, .int .i64 y_55.H.a1, .int .i64 y_55.H.a2, .int .i64 y_55.H.a3, .int .i64 y_55.H.a4, .int .i64 y_55.H.a5, .int .i64 y_55.H.a6, .int .i64 y_55.H.a7]) (c' := [.int .i64 y_55.Kind, .int .i64 y_55.N, .string y_55.S, .int .i64 y_55.H.a0, .int .i64 y_55.H.a1, .int .i64 y_55.H.a2, .int .i64 y_55.H.a3, .int .i64 y_55.H.a4, .int .i64 y_55.H.a5, .int .i64 y_55.H.a6, .int .i64 y_55.H.a7]) Try.sizeOf46 hS hK rfl rfl rfl rfl (all_cons rfl (all_cons rfl (all_cons rfl (all_cons rfl (all_cons rfl (all_cons rfl (all_cons rfl (all_cons rfl (all_cons rfl (all_cons rfl (all_cons rfl (all_nil)))))))))))) (Nat.le_of_ble_eq_true rfl) rfl fun a w hS hK => ?_
      refine wpList_nil ?_
      refine wp_seq ?_
      refine wp_seq ?_
      refine wp_region_lit ?_
      refine sl hK (by decide) rfl rfl (r_move hK rfl) fun a hK => ?_
      refine sl hK (by decide) rfl rfl (r_move hK rfl) fun a hK => ?_
      refine sl hK (by decide) rfl rfl (r_len_R Try.underlying40 h1_0 hK rfl) fun a hK => ?_
      refine sl hK (by decide) rfl rfl (r_ibin hK rfl rfl rfl) fun a hK => ?_
      refine wpList_nil ?_
      refine wp_cond_split (hK.ev rfl) (fun (hb_65 : (decide (x_27 ≥ (a1.length : Int))) = true) => ?_) (fun (hb_65 : (decide (x_27 ≥ (a1.length : Int))) = false) => ?_)
      · rw [ifb_t hb_65] at H
        refine wp_seq ?_
        refine wp_region_lit ?_
        refine sl hK (by decide) rfl rfl (r_assign hK rfl) fun a hK => ?_
        refine wpList_nil ?_
        obtain rfl := Option.some.inj H
        refine wp_ret ?_
        repeat (first | refine ret_then ?_ | refine ret_block ?_ | refine ret_scope ?_)
        exact ret_1 Try.results51 hK (rv_tmp hK rfl) ⟨rfl, hS.bel⟩
      · rw [ifb_f hb_65] at H
        refine wp_skip ?_
        refine wp_seq ?_
        refine wp_region_lit ?_
        refine sl hK (by decide) rfl rfl (r_move hK rfl) fun a hK => ?_
        refine sl hK (by decide) rfl rfl (r_move hK rfl) fun a hK => ?_
        obtain ⟨y_66, h_67, H⟩ := bind_some H
        obtain ⟨b_68, o_69, c_70, cs_71, hv_72, hr_73, hc_74, h_670, h_671⟩ := h1_0.ix h_67
        subst hr_73
        refine sl hK (by decide) rfl rfl (r_indexAddr_R Try.underlying40 Try.sizeOf46 hv_72 h_670 h_671 hK rfl rfl) fun a hK => ?_
        refine sl hK (by decide) rfl rfl (r_loadA (cs := [.int .i64 y_66.Kind, .int .i64 y_66.N, .string y_66.S, .int .i64 y_66.H.a0, .int .i64 y_66.H.a1, .int .i64 y_66.H.a2, .int .i64 y_66.H.a3, .int .i64 y_66.H.a4, .int .i64 y_66.H.a5, .int .i64 y_66.H.a6, .int .i64 y_66.H.a7]) Try.isAgg46 Try.sizeOf46 rfl hK rfl (fun j v hv => (hS.ra hRA nil_not).cell (hc_74 j v hv))) fun a hK => ?_
        refine sl_alloc Try.zeroValue46 hS hK (by decide) rfl rfl fun a w b_75 hS hK => ?_
        refine sl_storeA (vs := [.int .i64 y_66.Kind, .int .i64 y_66.N, .string y_66.S, .int .i64 y_66.H.a0, .int .i64 y_66.H.a1, .int .i64 y_66.H.a2, .int .i64 y_66.H.a3, .int .i64 y_66.H.a4, .int .i64 y_66.H.a5, .int .i64 y_66.H.a6, .int .i64 y_66.H.a7]) (c' := [.int .i64 y_66.Kind, .int .i64 y_66.N, .string y_66.S, .int .i64 y_66.H.a0, .int .i64 y_66.H.a1, .int .i64 y_66.H.a2, .int .i64 y_66.H.a3, .int .i64 y_66.H.a4, .int .i64 y_66.H.a5, .int .i64 y_66.H.a6, .int .i64 y_66.H.a7]) Try.sizeOf46 hS hK rfl rfl rfl rfl (all_cons rfl (all_cons rfl (all_cons rfl (all_cons rfl (all_cons rfl (all_cons rfl (all_cons rfl (all_cons rfl (all_cons rfl (all_cons rfl (all_cons rfl (all_nil)))))))))))) (Nat.le_of_ble_eq_true rfl) rfl fun a w hS hK => ?_
        refine wpList_nil ?_
        refine wp_seq ?_
        refine wp_region_lit ?_
        refine sl hK (by decide) rfl rfl (r_move hK rfl) fun a hK => ?_
        refine sl hK (by decide) rfl rfl (r_loadA (cs := [.int .i64 y_55.Kind, .int .i64 y_55.N, .string y_55.S, .int .i64 y_55.H.a0, .int .i64 y_55.H.a1, .int .i64 y_55.H.a2, .int .i64 y_55.H.a3, .int .i64 y_55.H.a4, .int .i64 y_55.H.a5, .int .i64 y_55.H.a6, .int .i64 y_55.H.a7]) Try.isAgg46 Try.sizeOf46 rfl hK rfl (hS.cells_of (m := 11) (.tail _ (.head _)) rfl)) fun a hK => ?_
        refine sl hK (by decide) rfl rfl (r_loadA (cs := [.int .i64 y_66.Kind, .int .i64 y_66.N, .string y_66.S, .int .i64 y_66.H.a0, .int .i64 y_66.H.a1, .int .i64 y_66.H.a2, .int .i64 y_66.H.a3, .int .i64 y_66.H.a4, .int .i64 y_66.H.a5, .int .i64 y_66.H.a6, .int .i64 y_66.H.a7]) Try.isAgg46 Try.sizeOf46 rfl hK rfl (hS.cells_of (m := 11) (.head _) rfl)) fun a hK => ?_
        obtain ⟨y_76, h_77, H⟩ := bind_some H
        refine sl_callV Try.call52 hS hK (by decide) rfl rfl rfl (value_Compare.calls y_55 y_66 h_77 _) fun a w hS hK => ?_
        refine sl hK (by decide) rfl rfl (r_assign hK rfl) fun a hK => ?_
        refine wpList_nil ?_
        refine wp_seq ?_
        refine wp_region_lit ?_
        refine sl hK (by decide) rfl rfl (r_move hK rfl) fun a hK => ?_
        refine sl hK (by decide) rfl rfl (r_ibin hK rfl rfl rfl) fun a hK => ?_
        refine wpList_nil ?_
        refine wp_cond_split (hK.ev rfl) (fun (hb_78 : (y_76 != 0) = true) => ?_) (fun (hb_78 : (y_76 != 0) = false) => ?_)
        · rw [ifb_t hb_78] at H
          refine wp_seq ?_
          refine wp_region_lit ?_
          refine sl hK (by decide) rfl rfl (r_move hK rfl) fun a hK => ?_
          refine sl hK (by decide) rfl rfl (r_assign hK rfl) fun a hK => ?_
          refine wpList_nil ?_
          obtain rfl := Option.some.inj H
          refine wp_ret ?_
          repeat (first | refine ret_then ?_ | refine ret_block ?_ | refine ret_scope ?_)
          exact ret_1 Try.results51 hK (rv_tmp hK rfl) ⟨rfl, hS.bel⟩
        · rw [ifb_f hb_78] at H
          refine wp_skip ?_
          refine wp_region_lit ?_
          refine sl hK (by decide) rfl rfl (r_ibin hK rfl rfl rfl) fun a hK => ?_
          refine sl hK (by decide) rfl rfl (r_move hK rfl) fun a hK => ?_
          refine wpList_nil ?_
          exact ⟨_, Nat.lt_succ_self _, (IntKind.i64.wrap (x_27 + 1)), H, hK.sub (all_cons rfl (all_cons rfl (all_cons rfl (all_cons rfl (all_cons rfl (all_cons rfl (all_nil))))))), hS.trunc 0⟩
    · rw [ifb_f hb_54] at H
      refine wp_exit ?_
      refine wp_seq ?_
      refine wp_seq ?_
      refine wp_region_lit ?_
      refine sl hK (by decide) rfl rfl (r_move hK rfl) fun a hK => ?_
      refine sl hK (by decide) rfl rfl (r_len_R Try.underlying40 h0_0 hK rfl) fun a hK => ?_
      refine sl hK (by decide) rfl rfl (r_move hK rfl) fun a hK => ?_
      refine sl hK (by decide) rfl rfl (r_len_R Try.underlying40 h1_0 hK rfl) fun a hK => ?_
      refine sl hK (by decide) rfl rfl (r_ibin hK rfl rfl rfl) fun a hK => ?_
      refine wpList_nil ?_
      refine wp_cond_split (hK.ev rfl) (fun (hb_79 : (decide ((a0.length : Int) < (a1.length : Int))) = true) => ?_) (fun (hb_79 : (decide ((a0.length : Int) < (a1.length : Int))) = false) => ?_)
      · rw [ifb_t hb_79] at H
        refine wp_seq ?_
        refine wp_region_lit ?_
        refine sl hK (by decide) rfl rfl (r_assign hK rfl) fun a hK => ?_
        refine wpList_nil ?_
        obtain rfl := Option.some.inj H
        refine wp_ret ?_
        repeat (first | refine ret_then ?_ | refine ret_block ?_ | refine ret_scope ?_)
        exact ret_1 Try.results51 hK (rv_tmp hK rfl) ⟨rfl, hS.bel⟩
      · rw [ifb_f hb_79] at H
        refine wp_skip ?_
        refine wp_seq ?_
        refine wp_region_lit ?_
        refine sl hK (by decide) rfl rfl (r_assign hK rfl) fun a hK => ?_
        refine wpList_nil ?_
        obtain rfl := Option.some.inj H
        refine wp_ret ?_
        repeat (first | refine ret_then ?_ | refine ret_block ?_ | refine ret_scope ?_)
        exact ret_1 Try.results51 hK (rv_tmp hK rfl) ⟨rfl, hS.bel⟩

/-! ### catchment/table.order: function 42 -/
set_option maxHeartbeats 4000000 in
set_option maxRecDepth 100000 in
theorem table_order.calls (a0 : List api_Value) (a1 : List api_Value) {w0 : World} {RA : Hp} {v0_0 : Value} {v1_0 : Value} (hRA : RA.sub w0) (h0_0 : SlR ty_api_Value RA v0_0 a0) (h1_0 : SlR ty_api_Value RA v1_0 a1) {r : Int} (H : table_order a0 a1 = some r) : CallsV Try.prog 42 #[v0_0, v1_0] w0 (.int .i64 r) := by
  unfold table_order at H
  refine enter (args := [v0_0, v1_0]) Try.func42 rfl Try.ntmps42 rfl fun a hK => ?_
  have hS := St.init (R := fun _ => none) (w := w0) (fun _ _ h => by cases h)
  have hRL := RLe.refl (M := []) w0 (fun _ => none)
  refine wp_seq ?_
  refine wp_region_lit ?_
  refine sl hK (by decide) rfl rfl (r_assign hK rfl) fun a hK => ?_
  refine wpList_nil ?_
  refine wp_seq ?_
  refine wp_region_lit ?_
  refine sl hK (by decide) rfl rfl (r_move hK rfl) fun a hK => ?_
  refine sl hK (by decide) rfl rfl (r_move hK rfl) fun a hK => ?_
  obtain ⟨y_1, h_2, H⟩ := bind_some H
  refine sl_callV Try.call51 hS hK (by decide) rfl rfl rfl (slices_CompareFunc_api_Value_api_Value_api_Value_api_Value_f_value_Compare.calls a0 a1 (lentOf_sub [] _) (h0_0.mono (hS.raLe0 hRA nil_not)) (h1_0.mono (hS.raLe0 hRA nil_not)) h_2) fun a w hS hK => ?_
  refine sl hK (by decide) rfl rfl (r_assign hK rfl) fun a hK => ?_
  refine wpList_nil ?_
  obtain rfl := Option.some.inj H
  refine wp_ret ?_
  repeat (first | refine ret_then ?_ | refine ret_block ?_ | refine ret_scope ?_)
  exact ret_1 Try.results42 hK (rv_tmp hK rfl) ⟨rfl, hS.bel⟩

/-! ### slices.SortFunc[[][]catchment/api.Value,[]catchment/api.Value]: function 41 -/
set_option maxHeartbeats 4000000 in
set_option maxRecDepth 100000 in
theorem slices_SortFunc_api_Value_api_Value_f_table_order.calls (a0 : List (List api_Value)) {w0 : World} {R : Hp} {M : List Own} {v0 : Value} {cs0 : List Value} (hS0 : St M w0 w0 R [.row 40 1 v0 a0.length cs0]) (h0 : Reps (tySl ty_api_Value) R cs0 a0) {r : List (List api_Value)} (H : slices_SortFunc_api_Value_api_Value_f_table_order a0 = some r) :
    Calls Try.prog 41 #[v0, .func (.func 42) #[] #[]] w0 (Rets fun v w' => ∃ (R' : Hp) (cu0 : List Value), v = .tuple #[] ∧ St M w0 w' R' [.row 40 1 v0 r.length cu0] ∧ RLe M w0 R R' ∧ Reps (tySl ty_api_Value) R' cu0 r ∧ cu0.Perm cs0) := by
  unfold slices_SortFunc_api_Value_api_Value_f_table_order at H
  exact sort_calls sortL41 (ty := (tySl ty_api_Value)) rfl Try.call42 hS0 h0 (fun w hsub u1 u2 x y i hx hy hi => by
    obtain ⟨v1, e1, s1⟩ := hx
    obtain ⟨v2, e2, s2⟩ := hy
    cases e1; cases e2
    exact table_order.calls x y hsub s1 s2 hi) H

/-! ### catchment/table.Canon: function 27 -/
set_option maxHeartbeats 4000000 in
set_option maxRecDepth 100000 in
theorem table_Canon.calls (a0 : api_Table) {w0 : World} {R : Hp} {RA : Hp} {v0_0 : Value} {v0_1 : Value} (hRA : RA.sub w0) (hR : R.sub w0) (h0_0 : SlR ty_api_Col RA v0_0 a0.Cols) (h0_1 : SlR (tySl ty_api_Value) RA v0_1 a0.Rows) {r : api_Table} (H : table_Canon a0 = some r) : Calls Try.prog 27 #[.agg #[v0_0, v0_1]] w0 (Rets fun v w' => ∃ (R' : Hp) (u0 : Value) (cu0 : List Value) (u1 : Value) (cu1 : List Value), v = .agg #[u0, u1] ∧ St [] w0 w' R' [.row 34 2 u0 r.Cols.length cu0, .row 40 1 u1 r.Rows.length cu1] ∧ RLe [] w0 R R' ∧ Reps ty_api_Col R' cu0 r.Cols ∧ Reps (tySl ty_api_Value) R' cu1 r.Rows ∧ Apart R R' cu1) := by
  unfold table_Canon at H
  refine enter (args := [.agg #[v0_0, v0_1]]) Try.func27 rfl Try.ntmps27 rfl fun a hK => ?_
  have hS := St.init hR
  have hRL := RLe.refl (M := []) w0 R
  refine wp_seq ?_
  refine wp_region_lit ?_
  refine sl_box hS hK (by decide) rfl rfl (c := [v0_0, v0_1]) rfl fun a w b_1 hS hK => ?_
  refine sl_alloc Try.zeroValue25 hS hK (by decide) rfl rfl fun a w b_2 hS hK => ?_
  refine wpList_nil ?_
  refine wp_seq ?_
  refine wp_region_lit ?_
  refine sl hK (by decide) rfl rfl (r_fieldAddr Try.underlying25 rfl Try.sizeOf22 hK rfl) fun a hK => ?_
  refine sl hK (by decide) rfl rfl (r_load Try.isAgg22 hK rfl (hS.cell (.tail _ (.head _)) rfl)) fun a hK => ?_
  obtain ⟨y_3, h_4, H⟩ := bind_some H
  refine sl_call Try.call34 hK (by decide) rfl rfl rfl (slices_Clone_api_Col_api_Col.calls a0.Cols (lentOf_sub [] _) hS.sub (h0_0.mono (hS.raLe0 hRA nil_not)) h_4) fun a v_ w hv_ hK => ?_
  obtain ⟨R_5, v_8, cs_9, hv_, hr_, hl_6, hq_10⟩ := hv_
  have hv_ := hv_.symm
  subst hv_
  obtain ⟨hS, hl_6⟩ := hS.sp0.back hr_ hl_6
  have hS := hS.un1
  have hRL := hRL.trans hl_6
  have ho_11 := hS.row_one (.head _)
  refine sl hK (by decide) rfl rfl (r_buildC (ps := [(0, v_8)]) (c := [v_8, .slice none 0 0]) Try.underlying25 Try.zeroValue25 places25 hK rfl (pc_cons (cells1 ho_11) pc_nil) rfl rfl) fun a hK => ?_
  refine sl_alloc Try.zeroValue25 hS hK (by decide) rfl rfl fun a w b_12 hS hK => ?_
  refine sl_storeA (vs := [v_8, .slice none 0 0]) (c' := [v_8, .slice none 0 0]) Try.sizeOf25 hS hK rfl rfl rfl rfl (all_cons (hS.row_one (.tail _ (.head _))) (all_cons rfl (all_nil))) (Nat.le_of_ble_eq_true rfl) rfl fun a w hS hK => ?_
  refine wpList_nil ?_
  refine wp_seq ?_
  refine wp_seq ?_
  refine wp_region_lit ?_
  refine sl hK (by decide) rfl rfl (r_fieldAddr Try.underlying25 rfl Try.sizeOf23 hK rfl) fun a hK => ?_
  refine sl hK (by decide) rfl rfl (r_load Try.isAgg23 hK rfl (hS.cell (.tail _ (.tail _ (.tail _ (.head _)))) rfl)) fun a hK => ?_
  refine sl hK (by decide) rfl rfl (r_len_R Try.underlying23 h0_1 hK rfl) fun a hK => ?_
  refine sl hK (by decide) rfl rfl (r_move hK rfl) fun a hK => ?_
  refine wpList_nil ?_
  refine wp_block ?_
  refine wp_loop_k (fun k_l0 a w => ∃ (x_79 : List (List api_Value)) (x_84 : Int) (R_85 : Hp) (v_80 : Value) (cs_81 : List Value), table_Canon.l0 a0 y_3 k_l0 x_79 x_84 = some r ∧ RLe [] w0 R_5 R_85 ∧ Reps (tySl ty_api_Value) R_85 cs_81 x_79 ∧ Apart R R_85 cs_81 ∧ Kn 29 a [(2, .pointer (some ⟨b_2, 0, none⟩)), (3, .pointer (some ⟨b_12, 0, none⟩)), (11, v0_1), (12, .int .i64 (a0.Rows.length : Int)), (13, .int .i64 x_84)] ∧ St [] w0 w R_85 [.cells b_2 [.slice none 0 0, .slice none 0 0] 25, .row 34 2 v_8 y_3.length cs_9, .row 40 1 v_80 x_79.length cs_81, .cells b_12 [v_8, v_80] 25]) (((a0.Rows.length : Int) - 0).toNat + 1) ?_ ?_
  · have hS := hS.row_nil 40 1
    have hq_144 : Reps (tySl ty_api_Value) R_5 [] ([] : List (List api_Value)) := Reps.nil _ _
    have hS := hS.pk1
    have hS := hS.pk1
    have hS := hS.pk2
    have hS := hS.pk3
    exact ⟨[], 0, _, _, _, H, (RLe.refl _ _), hq_144, (Apart.nil _ _), hK.sub (all_cons rfl (all_cons rfl (all_cons rfl (all_cons rfl (all_cons rfl (all_nil)))))), hS.trunc 4⟩
  · rintro k_l0 a w ⟨x_79, x_84, R_85, v_80, cs_81, H, hl_86, hq_82, hap_83, hK, hS⟩
    cases k_l0 with
    | zero => cases H
    | succ k_l0 =>
    rw [table_Canon.l0.eq_2] at H
    have hRL := hRL.trans hl_86
    refine wp_seq ?_
    refine wp_region_lit ?_
    refine sl hK (by decide) rfl rfl (r_ibin hK rfl rfl rfl) fun a hK => ?_
    refine wpList_nil ?_
    refine wp_seq ?_
    refine wp_cond_split (hK.ev rfl) (fun (hb_145 : (decide (x_84 < (a0.Rows.length : Int))) = true) => ?_) (fun (hb_145 : (decide (x_84 < (a0.Rows.length : Int))) = false) => ?_)
    · rw [ifb_t hb_145] at H
      refine wp_skip ?_
      refine wp_seq ?_
      refine wp_block ?_
      refine wp_seq ?_
      refine wp_region_lit ?_
      obtain ⟨y_146, h_147, H⟩ := bind_some H
      obtain ⟨b_148, o_149, c_150, cs_151, hv_152, hr_153, hc_154, h_1470, h_1471⟩ := h0_1.ix h_147
      obtain ⟨v_155, rfl, hs_156⟩ := hr_153
      refine sl hK (by decide) rfl rfl (r_indexAddr_R Try.underlying23 Try.sizeOf40 hv_152 h_1470 h_1471 hK rfl rfl) fun a hK => ?_
      refine sl hK (by decide) rfl rfl (r_load Try.isAgg40 hK rfl ((hS.ra hRA nil_not).cell (hc_154 0 _ rfl))) fun a hK => ?_
      refine sl hK (by decide) rfl rfl (r_assign hK rfl) fun a hK => ?_
      refine wpList_nil ?_
      refine parT_region (C := fun w => St [] w0 w R_85 [.cells b_2 [.slice none 0 0, .slice none 0 0] 25, .row 34 2 v_8 y_3.length cs_9, .row 40 1 v_80 x_79.length cs_81, .cells b_12 [v_8, v_80] 25]) 5 [(0, true), (1, true), (2, true), (3, false), (4, false)] mixed (by kernel_rfl) hS (fun w hS => hS) fun w hS => ?_
      refine sp (k := 0) rfl hK (by decide) rfl rfl (fun w hS => r_fieldAddr Try.underlying25 rfl Try.sizeOf23 hK rfl) fun a hK => ?_
      refine sp (k := 1) rfl hK (by decide) rfl rfl (fun w hS => r_load Try.isAgg23 hK rfl (hS.cell (.tail _ (.tail _ (.tail _ (.head _)))) rfl)) fun a hK => ?_
      refine sp (k := 2) rfl hK (by decide) rfl rfl (fun w hS => r_move hK rfl) fun a hK => ?_
      refine spw (k := 3) rfl rfl hS ?_
      obtain ⟨y_179, h_180, H⟩ := bind_some H
      refine sl_call Try.call40 hK (by decide) rfl rfl rfl (slices_Clone_api_Value_api_Value.calls y_146 (lentOf_sub [] _) hS.sub (hs_156.mono (hS.raLe0 hRA nil_not)) h_180) fun a v_ w hv_ hK => ?_
      obtain ⟨R_181, v_184, cs_185, hv_, hr_, hl_182, hq_186⟩ := hv_
      have hv_ := hv_.symm
      subst hv_
      obtain ⟨hS, hl_182⟩ := hS.sp0.back hr_ hl_182
      have hS := hS.un1
      have hRL := hRL.trans hl_182
      refine parK_nil ((hS.pk4.pk4.pk4.pk4.trunc 4).lower hl_182.le) ?_
      refine spw (k := 4) rfl rfl ((hS.pk4.pk4.pk4.pk4.trunc 4).lower hl_182.le) ?_
      have ho_187 := hS.row_one (.head _)
      refine sl_buildSliceF (zc := [.slice none 0 0]) (ps := [(0, v_184)]) (c := [v_184]) [[v_184]] Try.underlying23 Try.sizeOf40 Try.zeroValue40 rfl (pc_cons (cells1 ho_187) pc_nil) rfl rfl (Nat.le_of_ble_eq_true rfl) rfl (all_cons rfl (all_nil)) rfl hS hK (by decide) rfl fun a w b_188 hS hK => ?_
      refine parK_nil ((hS.pk5.pk5.pk5.pk5.trunc 4).lower hl_182.le) ?_
      refine thenL_nil ?_
      have hS := hS.pk4
      have hS := hS.pk2
      obtain ⟨R_189, hS, hl_191, hs_190, hn_192⟩ := hS.fz_rowN hq_186 rfl rfl
      have hRL := hRL.trans hl_191
      obtain ⟨y_193, h_194, H⟩ := bind_some H
      refine sl_append_LA (ty := (tySl ty_api_Value)) (ys := [y_179]) elT23 (by decide) rfl (hq_82.mono (hl_182.le.trans hl_191.le)) rfl (Reps.cons (show Ty.rep (tySl ty_api_Value) _ [v_184] y_179 from ⟨_, rfl, hs_190⟩) (Reps.nil _ _)) rfl h_194 hS hK (by decide) rfl rfl rfl fun a w v_195 cs_196 hcq_199 hq_197 hS hK => ?_
      have hap_200 : Apart R R_189 cs_196 := by rw [hcq_199]; exact (Apart.app (hap_83.mono hl_182.le) (hl_6.le.trans (hl_86.le.trans hl_182.le)) hl_191.le hn_192)
      refine sl hK (by decide) rfl rfl (r_fieldAddr Try.underlying25 rfl Try.sizeOf23 hK rfl) fun a hK => ?_
      have hS := hS.pk3
      refine sl_store1 (c' := [v_8, v_195]) Try.sizeOf23 hS hK rfl rfl rfl (hS.row_one (.tail _ (.head _))) (Nat.le_of_ble_eq_true rfl) rfl fun a w hS hK => ?_
      refine wpList_nil (NoP_nil ?_)
      refine wp_region_lit ?_
      refine sl hK (by decide) rfl rfl (r_ibin hK rfl rfl rfl) fun a hK => ?_
      refine sl hK (by decide) rfl rfl (r_move hK rfl) fun a hK => ?_
      refine wpList_nil ?_
      have hS := hS.pk1
      have hS := hS.pk3
      have hS := hS.pk3
      exact ⟨_, Nat.lt_succ_self _, y_193, (IntKind.i64.wrap (x_84 + 1)), _, _, _, H, (hl_86.trans (hl_182.trans hl_191)), hq_197, hap_200, hK.sub (all_cons rfl (all_cons rfl (all_cons rfl (all_cons rfl (all_cons rfl (all_nil)))))), hS⟩
    · rw [ifb_f hb_145] at H
      refine wp_exit ?_
      refine wp_seq ?_
      refine wp_region_lit ?_
      refine sl hK (by decide) rfl rfl (r_fieldAddr Try.underlying25 rfl Try.sizeOf23 hK rfl) fun a hK => ?_
      refine sl hK (by decide) rfl rfl (r_load Try.isAgg23 hK rfl (hS.cell (.tail _ (.tail _ (.tail _ (.head _)))) rfl)) fun a hK => ?_
      obtain ⟨y_201, h_202, H⟩ := bind_some H
      have hS := hS.pk2
      have hS1 := hS.sp1
      refine sl_call Try.call41 hK (by decide) rfl rfl rfl (slices_SortFunc_api_Value_api_Value_f_table_order.calls x_79 hS1.lend hq_82 h_202) fun a v_ w hv_ hK => ?_
      obtain ⟨R_203, cs_206, hv_, hr_, hl_204, hq_207, hp_208⟩ := hv_
      have hv_ := hv_.symm
      subst hv_
      obtain ⟨hS, hl_204⟩ := hS1.back hr_ hl_204
      have hS := hS.un1
      have hRL := hRL.trans hl_204
      refine wpList_nil ?_
      refine wp_seq ?_
      refine wp_region_lit ?_
      refine sl hK (by decide) rfl rfl (r_loadA (cs := [v_8, v_80]) Try.isAgg25 Try.sizeOf25 rfl hK rfl (hS.cells_of (m := 2) (.tail _ (.tail _ (.tail _ (.head _)))) rfl)) fun a hK => ?_
      have hS := hS.pk1
      refine sl_storeA (vs := [v_8, v_80]) (c' := [v_8, v_80]) Try.sizeOf25 hS hK rfl rfl rfl rfl (all_cons (hS.row_one (.tail _ (.tail _ (.head _)))) (all_cons (hS.row_one (.tail _ (.head _))) (all_nil))) (Nat.le_of_ble_eq_true rfl) rfl fun a w hS hK => ?_
      refine wpList_nil ?_
      obtain rfl := Option.some.inj H
      refine wp_ret ?_
      repeat (first | refine ret_then ?_ | refine ret_block ?_ | refine ret_scope ?_)
      exact ret_1 Try.results27 hK (rv_cell (c := [v_8, v_80]) Try.isAgg25 Try.sizeOf25 hS (.head _) rfl hK rfl) ⟨_, rfl, _, _, _, _, _, rfl, (hS.pk1.pk2.trunc 2), hRL, (hq_10.mono (hl_86.le.trans hl_204.le)), hq_207, ((Apart.perm hap_83 hp_208).mono hl_204.le)⟩

end Go.Proofs.Ytabdokppkcgdlaa.M
