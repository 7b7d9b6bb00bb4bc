/- Each Go function of the laws answers as its plain Lean function tells, wherever that tells something. Printed by wip/eng/gen.py. -/
import Derived.Test.YtojfckndloelpaaWalk2
namespace Go.Proofs.Ytojfckndloelpaa.M
open Go Go.Eng Go.Proofs Go.RowKit
set_option linter.unusedVariables false
set_option linter.unusedSimpArgs false

/-! ### catchment/catchmentlaw02.TableThree: function 10 -/
set_option maxHeartbeats 4000000 in
set_option maxRecDepth 100000 in
theorem law02_TableThree.calls (a0 : api_Table) (a1 : Arr2) {w0 : World} {R : Hp} {v0_0 : Value} {v0_1 : Value} (hR : R.sub w0) (h0_0 : SlR ty_api_Col R v0_0 a0.Cols) (h0_1 : SlR (tySl ty_api_Value) R v0_1 a0.Rows) (H : law02_TableThree a0 a1 = some true) : CallsV Try.prog 10 #[.agg #[v0_0, v0_1], .agg #[.int .i64 a1.a0, .int .i64 a1.a1]] w0 (.bool true) := by
  unfold law02_TableThree at H
  refine enter (args := [.agg #[v0_0, v0_1], .agg #[.int .i64 a1.a0, .int .i64 a1.a1]]) Try.func10 rfl Try.ntmps10 rfl fun a hK => ?_
  have hS := St.init hR
  have hRL := RLe.refl (M := []) w0 R
  refine wp_seq ?_
  refine wp_region_lit ?_
  refine sl_box hS hK (by decide) rfl rfl (c := [v0_0, v0_1]) rfl fun a w b_1 hS hK => ?_
  refine sl_box hS hK (by decide) rfl rfl (c := [.int .i64 a1.a0, .int .i64 a1.a1]) rfl fun a w b_2 hS hK => ?_
  refine sl hK (by decide) rfl rfl (r_assign hK rfl) fun a hK => ?_
  refine wpList_nil ?_
  refine wp_seq ?_
  refine wp_region_lit ?_
  obtain ⟨y_3, h_4, H⟩ := bind_some H
  refine sl_callV Try.call11 hS hK (by decide) rfl rfl rfl (law02_shown.calls h_4 _) fun a w hS hK => ?_
  refine sl hK (by decide) rfl rfl (r_assign hK rfl) fun a hK => ?_
  refine wpList_nil ?_
  refine wp_seq ?_
  refine wp_region_lit ?_
  refine sl hK (by decide) rfl rfl (r_loadA (cs := [v0_0, v0_1]) Try.isAgg25 Try.sizeOf25 rfl hK rfl (hS.cells_of (m := 2) (.tail _ (.head _)) rfl)) fun a hK => ?_
  obtain ⟨y_5, h_6, H⟩ := bind_some H
  refine sl_call Try.call12 hK (by decide) rfl rfl rfl (law02_cut.calls a0 hS.sub h0_0 h0_1 h_6) fun a v_ w hv_ hK => ?_
  obtain ⟨R_7, v_9, v_11, hv_, hr_, hl_8, hs_10, hs_12⟩ := hv_
  have hv_ := hv_.symm
  subst hv_
  obtain ⟨hS, hl_8⟩ := hS.sp0.back hr_ hl_8
  have hS := hS.un0
  have hRL := hRL.trans hl_8
  have hS := hS.pk1
  refine sl_storeA (vs := [v_9, v_11]) (c' := [v_9, v_11]) Try.sizeOf25 hS hK rfl rfl rfl rfl (all_cons hs_10.one (all_cons hs_12.one (all_nil))) (Nat.le_of_ble_eq_true rfl) rfl fun a w hS hK => ?_
  refine wpList_nil ?_
  refine wp_seq ?_
  refine wp_seq ?_
  refine wp_region_lit ?_
  refine sl hK (by decide) rfl rfl (r_loadA (cs := [v_9, v_11]) Try.isAgg25 Try.sizeOf25 rfl hK rfl (hS.cells_of (m := 2) (.head _) rfl)) fun a hK => ?_
  obtain ⟨y_13, h_14, H⟩ := bind_some H
  refine sl_callV Try.call14 hS hK (by decide) rfl rfl rfl (ref02_Check.calls y_5 (lentOf_sub [] _) (hs_10.mono hS.rLe0) (hs_12.mono hS.rLe0) h_14) fun a w hS hK => ?_
  refine sl hK (by decide) rfl rfl (r_ibin hK rfl rfl rfl) fun a hK => ?_
  refine wpList_nil ?_
  refine wp_cond_split (hK.ev rfl) (fun (hb_15 : (y_13 != 0) = true) => ?_) (fun (hb_15 : (y_13 != 0) = false) => ?_)
  · rw [ifb_t hb_15] at H
    refine wp_seq ?_
    refine wp_region_lit ?_
    refine sl hK (by decide) rfl rfl (r_move hK rfl) fun a hK => ?_
    refine sl hK (by decide) rfl rfl (r_assign hK rfl) fun a hK => ?_
    refine wpList_nil ?_
    have hr_ := Option.some.inj H
    refine wp_ret ?_
    repeat (first | refine ret_then ?_ | refine ret_block ?_ | refine ret_scope ?_)
    exact ret_1 Try.results10 hK (rv_tmp hK rfl) ⟨congrArg (fun b => Ending.returned (Value.bool b)) hr_, hS.bel⟩
  · rw [ifb_f hb_15] at H
    refine wp_skip ?_
    refine wp_seq ?_
    refine wp_region_lit ?_
    refine sl hK (by decide) rfl rfl (r_fieldAddr Try.underlying25 rfl Try.sizeOf23 hK rfl) fun a hK => ?_
    refine sl hK (by decide) rfl rfl (r_load Try.isAgg23 hK rfl (hS.cell (.head _) rfl)) fun a hK => ?_
    refine sl hK (by decide) rfl rfl (r_len_R Try.underlying23 hs_12 hK rfl) fun a hK => ?_
    refine sl_buildSliceF (zc := [.int .i64 0]) (ps := [(0, .int .i64 0), (1, .int .i64 0), (2, .int .i64 0), (3, .int .i64 (y_5.Rows.length : Int))]) (c := [.int .i64 0, .int .i64 0, .int .i64 0, .int .i64 (y_5.Rows.length : Int)]) [[.int .i64 0], [.int .i64 0], [.int .i64 0], [.int .i64 (y_5.Rows.length : Int)]] Try.underlying45 Try.sizeOf3 Try.zeroValue3 rfl (pc_cons rfl (pc_cons rfl (pc_cons rfl (pc_cons rfl pc_nil)))) rfl rfl (Nat.le_of_ble_eq_true rfl) rfl (all_cons rfl (all_cons rfl (all_cons rfl (all_cons rfl (all_nil))))) rfl hS hK (by decide) rfl fun a w b_16 hS hK => ?_
    refine sl hK (by decide) rfl rfl (r_assign hK rfl) fun a hK => ?_
    refine wpList_nil ?_
    refine wp_seq ?_
    refine wp_seq ?_
    refine wp_region_lit ?_
    refine sl hK (by decide) rfl rfl (r_assign hK rfl) fun a hK => ?_
    refine wpList_nil ?_
    refine wp_block ?_
    refine wp_loop_k (fun k_l0 a w => ∃ (x_40 : List Int) (x_44 : Int) (v_41 : Value) (cs_42 : List Value), law02_TableThree.l0 a1 y_3 y_5 k_l0 x_40 x_44 = some true ∧ Reps (tyInt .i64) R_7 cs_42 x_40 ∧ Kn 154 a [(2, .pointer (some ⟨b_1, 0, none⟩)), (3, .pointer (some ⟨b_2, 0, none⟩)), (5, .bool y_3), (6, v_41), (7, .int .i64 x_44)] ∧ St [] w0 w R_7 [.cells b_1 [v_9, v_11] 25, .cells b_2 [.int .i64 a1.a0, .int .i64 a1.a1] 44, .row 3 1 v_41 x_40.length cs_42]) (((2 : Int) - 0).toNat + 1) ?_ ?_
    · have hS := hS.row_lit (size := 1) (m := 4) rfl (by decide)
      have hq_66 : Reps (tyInt .i64) R_7 [.int .i64 0, .int .i64 0, .int .i64 0, .int .i64 (y_5.Rows.length : Int)] [0, 0, 0, (y_5.Rows.length : Int)] := (Reps.cons (show Ty.rep (tyInt .i64) _ [.int .i64 0] 0 from rfl) (Reps.cons (show Ty.rep (tyInt .i64) _ [.int .i64 0] 0 from rfl) (Reps.cons (show Ty.rep (tyInt .i64) _ [.int .i64 0] 0 from rfl) (Reps.cons (show Ty.rep (tyInt .i64) _ [.int .i64 (y_5.Rows.length : Int)] (y_5.Rows.length : Int) from rfl) (Reps.nil _ _)))))
      have hS := hS.pk2
      have hS := hS.pk2
      exact ⟨[0, 0, 0, (y_5.Rows.length : Int)], 0, _, _, H, hq_66, hK.sub (all_cons rfl (all_cons rfl (all_cons rfl (all_cons rfl (all_cons rfl (all_nil)))))), hS⟩
    · rintro k_l0 a w ⟨x_40, x_44, v_41, cs_42, H, hq_43, hK, hS⟩
      cases k_l0 with
      | zero => cases H
      | succ k_l0 =>
      rw [law02_TableThree.l0.eq_2] at H
      refine wp_seq ?_
      refine wp_seq ?_
      refine wp_region_lit ?_
      refine sl hK (by decide) rfl rfl (r_move hK rfl) fun a hK => ?_
      refine sl hK (by decide) rfl rfl (r_ibin hK rfl rfl rfl) fun a hK => ?_
      refine wpList_nil ?_
      refine wp_cond_split (hK.ev rfl) (fun (hb_67 : (decide (x_44 < 2)) = true) => ?_) (fun (hb_67 : (decide (x_44 < 2)) = false) => ?_)
      · rw [ifb_t hb_67] at H
        refine wp_skip ?_
        refine wp_seq ?_
        refine wp_block ?_
        refine wp_seq ?_
        refine wp_region_lit ?_
        refine sl hK (by decide) rfl rfl (r_move hK rfl) fun a hK => ?_
        obtain ⟨y_68, h_69, H⟩ := bind_some H
        refine sl hK (by decide) rfl rfl (r_indexAddr_arr Try.underlying44 Try.sizeOf3 hK rfl rfl (Arr2.ix_lt h_69).1 (Arr2.ix_lt h_69).2) fun a hK => ?_
        refine sl hK (by decide) rfl rfl (r_load Try.isAgg3 hK rfl (hS.cell (.tail _ (.head _)) (Arr2.ix_cells h_69 [] [] rfl))) fun a hK => ?_
        refine sl hK (by decide) rfl rfl (r_assign hK rfl) fun a hK => ?_
        refine wpList_nil ?_
        refine wp_seq ?_
        refine wp_seq ?_
        refine wp_region_lit ?_
        refine sl hK (by decide) rfl rfl (r_move hK rfl) fun a hK => ?_
        refine sl hK (by decide) rfl rfl (r_ibin hK rfl rfl rfl) fun a hK => ?_
        refine wpList_nil ?_
        refine wp_mid (fun a w => ∃ (x_71 : Int), law02_TableThree.j1 (law02_TableThree.l0 a1 y_3 y_5 k_l0) y_5 x_40 x_44 x_71 = some true ∧ Kn 154 a [(2, .pointer (some ⟨b_1, 0, none⟩)), (3, .pointer (some ⟨b_2, 0, none⟩)), (5, .bool y_3), (6, v_41), (7, .int .i64 x_44), (8, .int .i64 x_71)] ∧ St [] w0 w R_7 [.cells b_1 [v_9, v_11] 25, .cells b_2 [.int .i64 a1.a0, .int .i64 a1.a1] 44, .row 3 1 v_41 x_40.length cs_42]) ?_ ?_
        · refine wp_cond_split (hK.ev rfl) (fun (hb_73 : (decide (y_68 < 0)) = true) => ?_) (fun (hb_73 : (decide (y_68 < 0)) = false) => ?_)
          · rw [ifb_t hb_73] at H
            refine wp_region_lit ?_
            refine sl hK (by decide) rfl rfl (r_move hK rfl) fun a hK => ?_
            refine sl hK (by decide) rfl rfl (r_ibin hK rfl rfl rfl) fun a hK => ?_
            refine sl hK (by decide) rfl rfl (r_un hK rfl (u_neg _ _)) fun a hK => ?_
            refine sl hK (by decide) rfl rfl (r_assign hK rfl) fun a hK => ?_
            refine wpList_nil ?_
            have hS := hS.pk2
            have hS := hS.pk2
            have hS := hS.pk2
            exact ⟨(IntKind.i64.wrap (0 - (IntKind.i64.wrap (y_68 + 1)))), H, hK.sub (all_cons rfl (all_cons rfl (all_cons rfl (all_cons rfl (all_cons rfl (all_cons rfl (all_nil))))))), hS⟩
          · rw [ifb_f hb_73] at H
            refine wp_skip ?_
            have hS := hS.pk2
            have hS := hS.pk2
            have hS := hS.pk2
            exact ⟨y_68, H, hK.sub (all_cons rfl (all_cons rfl (all_cons rfl (all_cons rfl (all_cons rfl (all_cons rfl (all_nil))))))), hS⟩
        · rintro a w ⟨x_71, H, hK, hS⟩
          unfold law02_TableThree.j1 at H
          refine wp_region_lit ?_
          refine sl hK (by decide) rfl rfl (r_move hK rfl) fun a hK => ?_
          refine sl hK (by decide) rfl rfl (r_move hK rfl) fun a hK => ?_
          refine sl hK (by decide) rfl rfl (r_ibin hK rfl rfl rfl) fun a hK => ?_
          refine sl hK (by decide) rfl rfl (r_move hK rfl) fun a hK => ?_
          refine sl hK (by decide) rfl rfl (r_fieldAddr Try.underlying25 rfl Try.sizeOf23 hK rfl) fun a hK => ?_
          refine sl hK (by decide) rfl rfl (r_load Try.isAgg23 hK rfl (hS.cell (.head _) rfl)) fun a hK => ?_
          refine sl hK (by decide) rfl rfl (r_len_R Try.underlying23 hs_12 hK rfl) fun a hK => ?_
          refine sl hK (by decide) rfl rfl (r_ibin hK rfl rfl rfl) fun a hK => ?_
          rcases or_b ((IntKind.i64.wrap ((y_5.Rows.length : Int) + 1)) != 0) with hn_74 | hn_74
          · rw [ifb_t hn_74] at H
            refine sl hK (by decide) rfl rfl (r_rem hK rfl rfl (ne_of_bne hn_74)) fun a hK => ?_
            obtain ⟨y_75, h_76, H⟩ := bind_some H
            obtain ⟨b_78, c_79, cs_80, hv_77, hr_81, hc_82, h_760, h_761⟩ := hS.row_ix (.tail _ (.tail _ (.head _))) hq_43 rfl rfl h_76
            subst hr_81
            refine sl hK (by decide) rfl rfl (r_indexAddr_R Try.underlying45 Try.sizeOf3 hv_77 h_760 h_761 hK rfl rfl) fun a hK => ?_
            have hS := hS.pk2
            refine sl_store_row Try.sizeOf3 hv_77 h_76 rfl (show Ty.rep (tyInt .i64) _ [.int .i64 (x_71.tmod (IntKind.i64.wrap ((y_5.Rows.length : Int) + 1)))] (x_71.tmod (IntKind.i64.wrap ((y_5.Rows.length : Int) + 1))) from rfl) hq_43 rfl hS hK rfl rfl rfl rfl fun a w cs_83 hq_84 hS hK => ?_
            refine wpList_nil ?_
            refine wp_region_lit ?_
            refine sl hK (by decide) rfl rfl (r_move hK rfl) fun a hK => ?_
            refine sl hK (by decide) rfl rfl (r_ibin hK rfl rfl rfl) fun a hK => ?_
            refine sl hK (by decide) rfl rfl (r_assign hK rfl) fun a hK => ?_
            refine wpList_nil ?_
            have hS := hS.pk2
            have hS := hS.pk2
            exact ⟨_, Nat.lt_succ_self _, (upd x_40 (IntKind.i64.wrap (x_44 + 1)) (x_71.tmod (IntKind.i64.wrap ((y_5.Rows.length : Int) + 1)))), (IntKind.i64.wrap (x_44 + 1)), _, _, H, hq_84, hK.sub (all_cons rfl (all_cons rfl (all_cons rfl (all_cons rfl (all_cons rfl (all_nil)))))), hS⟩
          · rw [ifb_f hn_74] at H
            cases H
      · rw [ifb_f hb_67] at H
        refine wp_exit ?_
        refine wp_seq ?_
        refine wp_seq ?_
        refine par_region (C := fun w => St [] w0 w R_7 [.cells b_1 [v_9, v_11] 25, .cells b_2 [.int .i64 a1.a0, .int .i64 a1.a1] 44, .row 3 1 v_41 x_40.length cs_42]) [(0, true), (1, true), (2, true), (3, true), (4, true), (5, true), (6, true)] mixed (by kernel_rfl) hS (fun w hS => hS) fun w hS => ?_
        refine sp (k := 0) rfl hK (by decide) rfl rfl (fun w hS => r_move hK rfl) fun a hK => ?_
        obtain ⟨y_102, h_103, H⟩ := bind_some H
        obtain ⟨b_105, c_106, cs_107, hv_104, hr_108, hc_109, h_1030, h_1031⟩ := hS.row_ix (.tail _ (.tail _ (.head _))) hq_43 rfl rfl h_103
        subst hr_108
        refine sp (k := 1) rfl hK (by decide) rfl rfl (fun w hS => r_indexAddr_R Try.underlying45 Try.sizeOf3 hv_104 h_1030 h_1031 hK rfl rfl) fun a hK => ?_
        refine sp (k := 2) rfl hK (by decide) rfl rfl (fun w hS => r_load Try.isAgg3 hK rfl (hS.row_cell (.tail _ (.tail _ (.head _))) hv_104 (hc_109 0 _ rfl))) fun a hK => ?_
        refine sp (k := 3) rfl hK (by decide) rfl rfl (fun w hS => r_move hK rfl) fun a hK => ?_
        obtain ⟨y_110, h_111, H⟩ := bind_some H
        obtain ⟨b_113, c_114, cs_115, hv_112, hr_116, hc_117, h_1110, h_1111⟩ := hS.row_ix (.tail _ (.tail _ (.head _))) hq_43 rfl rfl h_111
        subst hr_116
        refine sp (k := 4) rfl hK (by decide) rfl rfl (fun w hS => r_indexAddr_R Try.underlying45 Try.sizeOf3 hv_112 h_1110 h_1111 hK rfl rfl) fun a hK => ?_
        refine sp (k := 5) rfl hK (by decide) rfl rfl (fun w hS => r_load Try.isAgg3 hK rfl (hS.row_cell (.tail _ (.tail _ (.head _))) hv_112 (hc_117 0 _ rfl))) fun a hK => ?_
        refine sp (k := 6) rfl hK (by decide) rfl rfl (fun w hS => r_ibin hK rfl rfl rfl) fun a hK => ?_
        refine wpPar_nil (NoP_nil ?_)
        refine wp_mid (fun a w => ∃ (x_244 : List Int) (v_245 : Value) (cs_246 : List Value), law02_TableThree.j2 y_3 y_5 x_244 = some true ∧ Reps (tyInt .i64) R_7 cs_246 x_244 ∧ Kn 154 a [(2, .pointer (some ⟨b_1, 0, none⟩)), (5, .bool y_3), (6, v_245)] ∧ St [] w0 w R_7 [.cells b_1 [v_9, v_11] 25, .row 3 1 v_245 x_244.length cs_246]) ?_ ?_
        · refine wp_cond_split (hK.ev rfl) (fun (hb_249 : (decide (y_102 > y_110)) = true) => ?_) (fun (hb_249 : (decide (y_102 > y_110)) = false) => ?_)
          · rw [ifb_t hb_249] at H
            refine treeTS_region (C0 := (fun w => St [] w0 w R_7 [.cells b_1 [v_9, v_11] 25, .cells b_2 [.int .i64 a1.a0, .int .i64 a1.a1] 44, .row 3 1 v_41 x_40.length cs_42])) (C1 := (fun w => St [] w0 w R_7 [.cells b_1 [v_9, v_11] 25, .cells b_2 [.int .i64 a1.a0, .int .i64 a1.a1] 44])) 10 9 [(0, 2), (1, 1), (2, 2), (3, 2), (4, 2), (5, 2), (6, 2), (7, 2), (8, 2)] (.list []) mixed (by kernel_rfl) (fun w hS => (hS.trunc 2)) hS (fun w hS => hS) fun w hS => ?_
            refine spS2 (k := 0) rfl hK (by decide) rfl rfl (fun w hS => r_move hK rfl) fun a hK => ?_
            refine spS1 (k := 1) rfl hK (by decide) rfl rfl (fun w hS => r_move hK rfl) fun a hK => ?_
            refine spS2 (k := 2) rfl hK (by decide) rfl rfl (fun w hS => r_move hK rfl) fun a hK => ?_
            obtain ⟨y_312, h_313, H⟩ := bind_some H
            obtain ⟨b_315, c_316, cs_317, hv_314, hr_318, hc_319, h_3130, h_3131⟩ := hS.row_ix (.tail _ (.tail _ (.head _))) hq_43 rfl rfl h_313
            subst hr_318
            refine spS2 (k := 3) rfl hK (by decide) rfl rfl (fun w hS => r_indexAddr_R Try.underlying45 Try.sizeOf3 hv_314 h_3130 h_3131 hK rfl rfl) fun a hK => ?_
            refine spS2 (k := 4) rfl hK (by decide) rfl rfl (fun w hS => r_load Try.isAgg3 hK rfl (hS.row_cell (.tail _ (.tail _ (.head _))) hv_314 (hc_319 0 _ rfl))) fun a hK => ?_
            refine spS2 (k := 5) rfl hK (by decide) rfl rfl (fun w hS => r_move hK rfl) fun a hK => ?_
            obtain ⟨y_320, h_321, H⟩ := bind_some H
            obtain ⟨b_323, c_324, cs_325, hv_322, hr_326, hc_327, h_3210, h_3211⟩ := hS.row_ix (.tail _ (.tail _ (.head _))) hq_43 rfl rfl h_321
            subst hr_326
            refine spS2 (k := 6) rfl hK (by decide) rfl rfl (fun w hS => r_indexAddr_R Try.underlying45 Try.sizeOf3 hv_322 h_3210 h_3211 hK rfl rfl) fun a hK => ?_
            refine spS2 (k := 7) rfl hK (by decide) rfl rfl (fun w hS => r_load Try.isAgg3 hK rfl (hS.row_cell (.tail _ (.tail _ (.head _))) hv_322 (hc_327 0 _ rfl))) fun a hK => ?_
            obtain ⟨y_328, h_329, H⟩ := bind_some H
            obtain ⟨b_331, c_332, cs_333, hv_330, hr_334, hc_335, h_3290, h_3291⟩ := hS.row_ix (.tail _ (.tail _ (.head _))) hq_43 rfl rfl h_329
            subst hr_334
            refine spS2 (k := 8) rfl hK (by decide) rfl rfl (fun w hS => r_indexAddr_R Try.underlying45 Try.sizeOf3 hv_330 h_3290 h_3291 hK rfl rfl) fun a hK => ?_
            refine parS_nil (spwB (k := 9) rfl rfl (hS.trunc 2) ?_)
            have hS := hS.pk2
            refine sl_store_row Try.sizeOf3 hv_330 h_329 rfl (show Ty.rep (tyInt .i64) _ [.int .i64 y_312] y_312 from rfl) hq_43 rfl hS hK rfl rfl rfl rfl fun a w cs_336 hq_337 hS hK => ?_
            obtain ⟨z_341, h_339⟩ := ix_upd 1 y_312 h_103
            have hv_340 : v_41 = Value.slice (some ⟨b_105, 0, none⟩) (upd x_40 1 y_312).length c_106 := by rw [upd_length]; exact hv_104
            obtain ⟨z_344, h_342⟩ := ix_upd 1 y_312 h_111
            have hv_343 : v_41 = Value.slice (some ⟨b_113, 0, none⟩) (upd x_40 1 y_312).length c_114 := by rw [upd_length]; exact hv_112
            obtain ⟨z_347, h_345⟩ := ix_upd 1 y_312 h_313
            have hv_346 : v_41 = Value.slice (some ⟨b_315, 0, none⟩) (upd x_40 1 y_312).length c_316 := by rw [upd_length]; exact hv_314
            obtain ⟨z_350, h_348⟩ := ix_upd 1 y_312 h_321
            have hv_349 : v_41 = Value.slice (some ⟨b_323, 0, none⟩) (upd x_40 1 y_312).length c_324 := by rw [upd_length]; exact hv_322
            refine parKK_nil (hS.pk2.pk2.trunc 2) ?_
            refine tree_list ?_
            refine thenL_nil ?_
            obtain ⟨y_351, h_352, H⟩ := bind_some H
            obtain ⟨b_354, c_355, cs_356, hv_353, hr_357, hc_358, h_3520, h_3521⟩ := hS.row_ix (.head _) hq_337 rfl rfl h_352
            subst hr_357
            refine sl hK (by decide) rfl rfl (r_indexAddr_R Try.underlying45 Try.sizeOf3 hv_353 h_3520 h_3521 hK rfl rfl) fun a hK => ?_
            refine sl_store_row Try.sizeOf3 hv_353 h_352 rfl (show Ty.rep (tyInt .i64) _ [.int .i64 y_320] y_320 from rfl) hq_337 rfl hS hK rfl rfl rfl rfl fun a w cs_359 hq_360 hS hK => ?_
            obtain ⟨z_364, h_362⟩ := ix_upd 2 y_320 h_339
            have hv_363 : v_41 = Value.slice (some ⟨b_105, 0, none⟩) (upd (upd x_40 1 y_312) 2 y_320).length c_106 := by rw [upd_length]; exact hv_340
            obtain ⟨z_367, h_365⟩ := ix_upd 2 y_320 h_342
            have hv_366 : v_41 = Value.slice (some ⟨b_113, 0, none⟩) (upd (upd x_40 1 y_312) 2 y_320).length c_114 := by rw [upd_length]; exact hv_343
            obtain ⟨z_370, h_368⟩ := ix_upd 2 y_320 h_345
            have hv_369 : v_41 = Value.slice (some ⟨b_315, 0, none⟩) (upd (upd x_40 1 y_312) 2 y_320).length c_316 := by rw [upd_length]; exact hv_346
            obtain ⟨z_373, h_371⟩ := ix_upd 2 y_320 h_348
            have hv_372 : v_41 = Value.slice (some ⟨b_323, 0, none⟩) (upd (upd x_40 1 y_312) 2 y_320).length c_324 := by rw [upd_length]; exact hv_349
            refine wpList_nil (NoP_nil ?_)
            have hS := hS.pk1
            exact ⟨(upd (upd x_40 1 y_312) 2 y_320), _, _, H, hq_360, hK.sub (all_cons rfl (all_cons rfl (all_cons rfl (all_nil)))), hS.trunc 2⟩
          · rw [ifb_f hb_249] at H
            refine wp_skip ?_
            have hS := hS.pk2
            have hS := hS.pk1
            exact ⟨x_40, _, _, H, hq_43, hK.sub (all_cons rfl (all_cons rfl (all_cons rfl (all_nil)))), hS.trunc 2⟩
        · rintro a w ⟨x_244, v_245, cs_246, H, hq_247, hK, hS⟩
          unfold law02_TableThree.j2 at H
          refine wp_seq ?_
          refine parT_region (C := fun w => St [] w0 w R_7 [.cells b_1 [v_9, v_11] 25, .row 3 1 v_245 x_244.length cs_246]) 10 [(0, true), (1, true), (2, true), (3, true), (4, true), (5, true), (6, true), (7, true), (8, true), (9, false)] mixed (by kernel_rfl) hS (fun w hS => hS) fun w hS => ?_
          refine sp (k := 0) rfl hK (by decide) rfl rfl (fun w hS => r_fieldAddr Try.underlying25 rfl Try.sizeOf22 hK rfl) fun a hK => ?_
          refine sp (k := 1) rfl hK (by decide) rfl rfl (fun w hS => r_load Try.isAgg22 hK rfl (hS.cell (.head _) rfl)) fun a hK => ?_
          refine sp (k := 2) rfl hK (by decide) rfl rfl (fun w hS => r_fieldAddr Try.underlying25 rfl Try.sizeOf23 hK rfl) fun a hK => ?_
          refine sp (k := 3) rfl hK (by decide) rfl rfl (fun w hS => r_load Try.isAgg23 hK rfl (hS.cell (.head _) rfl)) fun a hK => ?_
          refine sp (k := 4) rfl hK (by decide) rfl rfl (fun w hS => r_move hK rfl) fun a hK => ?_
          obtain ⟨y_388, h_389, H⟩ := bind_some H
          obtain ⟨b_391, c_392, cs_393, hv_390, hr_394, hc_395, h_3890, h_3891⟩ := hS.row_ix (.tail _ (.head _)) hq_247 rfl rfl h_389
          subst hr_394
          refine sp (k := 5) rfl hK (by decide) rfl rfl (fun w hS => r_indexAddr_R Try.underlying45 Try.sizeOf3 hv_390 h_3890 h_3891 hK rfl rfl) fun a hK => ?_
          refine sp (k := 6) rfl hK (by decide) rfl rfl (fun w hS => r_load Try.isAgg3 hK rfl (hS.row_cell (.tail _ (.head _)) hv_390 (hc_395 0 _ rfl))) fun a hK => ?_
          obtain ⟨y_396, h_397, H⟩ := bind_some H
          obtain ⟨v_398, hs_399, hr_400⟩ := r_slice_R (x := .tmp 73) (lo := none) (hi := some (.tmp 76)) Try.underlying23 Try.sizeOf35 hs_12 h_397 hK rfl rfl ⟨_, rfl⟩
          refine sp (k := 7) rfl hK (by decide) rfl rfl (fun w hS => hr_400 _ _ _ _ _ _ _ hK) fun a hK => ?_
          refine sp (k := 8) rfl hK (by decide) rfl rfl (fun w hS => r_buildC (ps := [(0, v_9), (1, v_398)]) (c := [v_9, v_398]) Try.underlying25 Try.zeroValue25 places25 hK rfl (pc_cons (cells1 hs_10.one) (pc_cons (cells1 hs_399.one) pc_nil)) rfl rfl) fun a hK => ?_
          refine spw (k := 9) rfl rfl hS ?_
          refine sl_alloc Try.zeroValue25 hS hK (by decide) rfl rfl fun a w b_401 hS hK => ?_
          refine parK_nil (hS.pk2.pk2.trunc 2) ?_
          refine thenL_nil ?_
          refine sl_storeA (vs := [v_9, v_398]) (c' := [v_9, v_398]) Try.sizeOf25 hS hK rfl rfl rfl rfl (all_cons hs_10.one (all_cons hs_399.one (all_nil))) (Nat.le_of_ble_eq_true rfl) rfl fun a w hS hK => ?_
          refine wpList_nil (NoP_nil ?_)
          refine wp_seq ?_
          refine parT_region (C := fun w => St [] w0 w R_7 [.cells b_401 [v_9, v_398] 25, .cells b_1 [v_9, v_11] 25, .row 3 1 v_245 x_244.length cs_246]) 13 [(0, true), (1, true), (2, true), (3, true), (4, true), (5, true), (6, true), (7, true), (8, true), (9, true), (10, true), (11, true), (12, false)] mixed (by kernel_rfl) hS (fun w hS => hS) fun w hS => ?_
          refine sp (k := 0) rfl hK (by decide) rfl rfl (fun w hS => r_fieldAddr Try.underlying25 rfl Try.sizeOf22 hK rfl) fun a hK => ?_
          refine sp (k := 1) rfl hK (by decide) rfl rfl (fun w hS => r_load Try.isAgg22 hK rfl (hS.cell (.tail _ (.head _)) rfl)) fun a hK => ?_
          refine sp (k := 2) rfl hK (by decide) rfl rfl (fun w hS => r_fieldAddr Try.underlying25 rfl Try.sizeOf23 hK rfl) fun a hK => ?_
          refine sp (k := 3) rfl hK (by decide) rfl rfl (fun w hS => r_load Try.isAgg23 hK rfl (hS.cell (.tail _ (.head _)) rfl)) fun a hK => ?_
          refine sp (k := 4) rfl hK (by decide) rfl rfl (fun w hS => r_move hK rfl) fun a hK => ?_
          obtain ⟨y_424, h_425, H⟩ := bind_some H
          obtain ⟨b_427, c_428, cs_429, hv_426, hr_430, hc_431, h_4250, h_4251⟩ := hS.row_ix (.tail _ (.tail _ (.head _))) hq_247 rfl rfl h_425
          subst hr_430
          refine sp (k := 5) rfl hK (by decide) rfl rfl (fun w hS => r_indexAddr_R Try.underlying45 Try.sizeOf3 hv_426 h_4250 h_4251 hK rfl rfl) fun a hK => ?_
          refine sp (k := 6) rfl hK (by decide) rfl rfl (fun w hS => r_load Try.isAgg3 hK rfl (hS.row_cell (.tail _ (.tail _ (.head _))) hv_426 (hc_431 0 _ rfl))) fun a hK => ?_
          refine sp (k := 7) rfl hK (by decide) rfl rfl (fun w hS => r_move hK rfl) fun a hK => ?_
          obtain ⟨y_432, h_433, H⟩ := bind_some H
          obtain ⟨b_435, c_436, cs_437, hv_434, hr_438, hc_439, h_4330, h_4331⟩ := hS.row_ix (.tail _ (.tail _ (.head _))) hq_247 rfl rfl h_433
          subst hr_438
          refine sp (k := 8) rfl hK (by decide) rfl rfl (fun w hS => r_indexAddr_R Try.underlying45 Try.sizeOf3 hv_434 h_4330 h_4331 hK rfl rfl) fun a hK => ?_
          refine sp (k := 9) rfl hK (by decide) rfl rfl (fun w hS => r_load Try.isAgg3 hK rfl (hS.row_cell (.tail _ (.tail _ (.head _))) hv_434 (hc_439 0 _ rfl))) fun a hK => ?_
          obtain ⟨y_440, h_441, H⟩ := bind_some H
          obtain ⟨v_442, hs_443, hr_444⟩ := r_slice_R (x := .tmp 82) (lo := some (.tmp 85)) (hi := some (.tmp 88)) Try.underlying23 Try.sizeOf35 hs_12 h_441 hK rfl ⟨_, rfl⟩ ⟨_, rfl⟩
          refine sp (k := 10) rfl hK (by decide) rfl rfl (fun w hS => hr_444 _ _ _ _ _ _ _ hK) fun a hK => ?_
          refine sp (k := 11) rfl hK (by decide) rfl rfl (fun w hS => r_buildC (ps := [(0, v_9), (1, v_442)]) (c := [v_9, v_442]) Try.underlying25 Try.zeroValue25 places25 hK rfl (pc_cons (cells1 hs_10.one) (pc_cons (cells1 hs_443.one) pc_nil)) rfl rfl) fun a hK => ?_
          refine spw (k := 12) rfl rfl hS ?_
          refine sl_alloc Try.zeroValue25 hS hK (by decide) rfl rfl fun a w b_445 hS hK => ?_
          refine parK_nil (hS.pk3.pk3.pk3.trunc 3) ?_
          refine thenL_nil ?_
          refine sl_storeA (vs := [v_9, v_442]) (c' := [v_9, v_442]) Try.sizeOf25 hS hK rfl rfl rfl rfl (all_cons hs_10.one (all_cons hs_443.one (all_nil))) (Nat.le_of_ble_eq_true rfl) rfl fun a w hS hK => ?_
          refine wpList_nil (NoP_nil ?_)
          refine wp_seq ?_
          refine parT_region (C := fun w => St [] w0 w R_7 [.cells b_445 [v_9, v_442] 25, .cells b_401 [v_9, v_398] 25, .cells b_1 [v_9, v_11] 25, .row 3 1 v_245 x_244.length cs_246]) 10 [(0, true), (1, true), (2, true), (3, true), (4, true), (5, true), (6, true), (7, true), (8, true), (9, false)] mixed (by kernel_rfl) hS (fun w hS => hS) fun w hS => ?_
          refine sp (k := 0) rfl hK (by decide) rfl rfl (fun w hS => r_fieldAddr Try.underlying25 rfl Try.sizeOf22 hK rfl) fun a hK => ?_
          refine sp (k := 1) rfl hK (by decide) rfl rfl (fun w hS => r_load Try.isAgg22 hK rfl (hS.cell (.tail _ (.tail _ (.head _))) rfl)) fun a hK => ?_
          refine sp (k := 2) rfl hK (by decide) rfl rfl (fun w hS => r_fieldAddr Try.underlying25 rfl Try.sizeOf23 hK rfl) fun a hK => ?_
          refine sp (k := 3) rfl hK (by decide) rfl rfl (fun w hS => r_load Try.isAgg23 hK rfl (hS.cell (.tail _ (.tail _ (.head _))) rfl)) fun a hK => ?_
          refine sp (k := 4) rfl hK (by decide) rfl rfl (fun w hS => r_move hK rfl) fun a hK => ?_
          obtain ⟨y_460, h_461, H⟩ := bind_some H
          obtain ⟨b_463, c_464, cs_465, hv_462, hr_466, hc_467, h_4610, h_4611⟩ := hS.row_ix (.tail _ (.tail _ (.tail _ (.head _)))) hq_247 rfl rfl h_461
          subst hr_466
          refine sp (k := 5) rfl hK (by decide) rfl rfl (fun w hS => r_indexAddr_R Try.underlying45 Try.sizeOf3 hv_462 h_4610 h_4611 hK rfl rfl) fun a hK => ?_
          refine sp (k := 6) rfl hK (by decide) rfl rfl (fun w hS => r_load Try.isAgg3 hK rfl (hS.row_cell (.tail _ (.tail _ (.tail _ (.head _)))) hv_462 (hc_467 0 _ rfl))) fun a hK => ?_
          obtain ⟨y_468, h_469, H⟩ := bind_some H
          obtain ⟨v_470, hs_471, hr_472⟩ := r_slice_R (x := .tmp 94) (lo := some (.tmp 97)) (hi := none) Try.underlying23 Try.sizeOf35 hs_12 h_469 hK rfl ⟨_, rfl⟩ rfl
          refine sp (k := 7) rfl hK (by decide) rfl rfl (fun w hS => hr_472 _ _ _ _ _ _ _ hK) fun a hK => ?_
          refine sp (k := 8) rfl hK (by decide) rfl rfl (fun w hS => r_buildC (ps := [(0, v_9), (1, v_470)]) (c := [v_9, v_470]) Try.underlying25 Try.zeroValue25 places25 hK rfl (pc_cons (cells1 hs_10.one) (pc_cons (cells1 hs_471.one) pc_nil)) rfl rfl) fun a hK => ?_
          refine spw (k := 9) rfl rfl hS ?_
          refine sl_alloc Try.zeroValue25 hS hK (by decide) rfl rfl fun a w b_473 hS hK => ?_
          refine parK_nil (hS.pk4.pk4.pk4.pk4.trunc 4) ?_
          refine thenL_nil ?_
          refine sl_storeA (vs := [v_9, v_470]) (c' := [v_9, v_470]) Try.sizeOf25 hS hK rfl rfl rfl rfl (all_cons hs_10.one (all_cons hs_471.one (all_nil))) (Nat.le_of_ble_eq_true rfl) rfl fun a w hS hK => ?_
          refine wpList_nil (NoP_nil ?_)
          refine wp_seq ?_
          refine wp_region_lit ?_
          refine sl hK (by decide) rfl rfl (r_loadA (cs := [v_9, v_398]) Try.isAgg25 Try.sizeOf25 rfl hK rfl (hS.cells_of (m := 2) (.tail _ (.tail _ (.head _))) rfl)) fun a hK => ?_
          refine sl hK (by decide) rfl rfl (r_loadA (cs := [v_9, v_442]) Try.isAgg25 Try.sizeOf25 rfl hK rfl (hS.cells_of (m := 2) (.tail _ (.head _)) rfl)) fun a hK => ?_
          obtain ⟨y_474, h_475, H⟩ := bind_some H
          refine sl_call Try.call24 hK (by decide) rfl rfl rfl (table_Union.calls (⟨y_5.Cols, y_396⟩ : api_Table) (⟨y_5.Cols, y_440⟩ : api_Table) hS.sub hs_10 hs_399 hs_10 hs_443 h_475) fun a v_ w hv_ hK => ?_
          obtain ⟨R_476, v_479, cs_480, v_483, cs_484, hv_, hr_, hl_477, hq_481, hq_485⟩ := hv_
          have hv_ := hv_.symm
          subst hv_
          obtain ⟨hS, hl_477⟩ := hS.sp0.back hr_ hl_477
          have hS := hS.un2
          have hRL := hRL.trans hl_477
          refine sl hK (by decide) rfl rfl (r_move hK rfl) fun a hK => ?_
          refine sl hK (by decide) rfl rfl (r_extract hK rfl rfl) fun a hK => ?_
          refine sl hK (by decide) rfl rfl (r_extract hK rfl rfl) fun a hK => ?_
          refine sl_alloc Try.zeroValue25 hS hK (by decide) rfl rfl fun a w b_486 hS hK => ?_
          refine sl_storeA (vs := [v_479, v_483]) (c' := [v_479, v_483]) Try.sizeOf25 hS hK rfl rfl rfl rfl (all_cons (hS.row_one (.tail _ (.head _))) (all_cons (hS.row_one (.tail _ (.tail _ (.head _)))) (all_nil))) (Nat.le_of_ble_eq_true rfl) rfl fun a w hS hK => ?_
          refine sl hK (by decide) rfl rfl (r_assign hK rfl) fun a hK => ?_
          refine wpList_nil ?_
          refine wp_seq ?_
          refine wp_region_lit ?_
          refine sl hK (by decide) rfl rfl (r_loadA (cs := [v_479, v_483]) Try.isAgg25 Try.sizeOf25 rfl hK rfl (hS.cells_of (m := 2) (.head _) rfl)) fun a hK => ?_
          refine sl hK (by decide) rfl rfl (r_loadA (cs := [v_9, v_470]) Try.isAgg25 Try.sizeOf25 rfl hK rfl (hS.cells_of (m := 2) (.tail _ (.tail _ (.tail _ (.head _)))) rfl)) fun a hK => ?_
          have hS := hS.pk1
          obtain ⟨R_487, hS, hl_489, hs_488⟩ := hS.fz_row hq_481 rfl rfl
          have hRL := hRL.trans hl_489
          have hS := hS.pk1
          obtain ⟨R_490, hS, hl_492, hs_491⟩ := hS.fz_row (hq_485.mono hl_489.le) rfl rfl
          have hRL := hRL.trans hl_492
          obtain ⟨y_493, h_494, H⟩ := bind_some H
          refine sl_call Try.call24 hK (by decide) rfl rfl rfl (table_Union.calls y_474.1 (⟨y_5.Cols, y_468⟩ : api_Table) hS.sub (hs_488.mono hl_492.le) hs_491 (hs_10.mono (hl_477.le.trans (hl_489.le.trans hl_492.le))) (hs_471.mono (hl_477.le.trans (hl_489.le.trans hl_492.le))) h_494) fun a v_ w hv_ hK => ?_
          obtain ⟨R_495, v_498, cs_499, v_502, cs_503, hv_, hr_, hl_496, hq_500, hq_504⟩ := hv_
          have hv_ := hv_.symm
          subst hv_
          obtain ⟨hS, hl_496⟩ := hS.sp0.back hr_ hl_496
          have hS := hS.un2
          have hRL := hRL.trans hl_496
          refine sl hK (by decide) rfl rfl (r_move hK rfl) fun a hK => ?_
          refine sl hK (by decide) rfl rfl (r_extract hK rfl rfl) fun a hK => ?_
          refine sl hK (by decide) rfl rfl (r_extract hK rfl rfl) fun a hK => ?_
          have hS := hS.pk2
          refine sl_storeA (vs := [v_498, v_502]) (c' := [v_498, v_502]) Try.sizeOf25 hS hK rfl rfl rfl rfl (all_cons (hS.row_one (.tail _ (.head _))) (all_cons (hS.row_one (.tail _ (.tail _ (.head _)))) (all_nil))) (Nat.le_of_ble_eq_true rfl) rfl fun a w hS hK => ?_
          refine sl hK (by decide) rfl rfl (r_assign hK rfl) fun a hK => ?_
          refine wpList_nil ?_
          refine wp_seq ?_
          refine wp_region_lit ?_
          refine sl hK (by decide) rfl rfl (r_loadA (cs := [v_9, v_442]) Try.isAgg25 Try.sizeOf25 rfl hK rfl (hS.cells_of (m := 2) (.tail _ (.tail _ (.tail _ (.tail _ (.head _))))) rfl)) fun a hK => ?_
          refine sl hK (by decide) rfl rfl (r_loadA (cs := [v_9, v_470]) Try.isAgg25 Try.sizeOf25 rfl hK rfl (hS.cells_of (m := 2) (.tail _ (.tail _ (.tail _ (.head _)))) rfl)) fun a hK => ?_
          obtain ⟨y_505, h_506, H⟩ := bind_some H
          refine sl_call Try.call24 hK (by decide) rfl rfl rfl (table_Union.calls (⟨y_5.Cols, y_440⟩ : api_Table) (⟨y_5.Cols, y_468⟩ : api_Table) hS.sub (hs_10.mono (hl_477.le.trans (hl_489.le.trans (hl_492.le.trans hl_496.le)))) (hs_443.mono (hl_477.le.trans (hl_489.le.trans (hl_492.le.trans hl_496.le)))) (hs_10.mono (hl_477.le.trans (hl_489.le.trans (hl_492.le.trans hl_496.le)))) (hs_471.mono (hl_477.le.trans (hl_489.le.trans (hl_492.le.trans hl_496.le)))) h_506) fun a v_ w hv_ hK => ?_
          obtain ⟨R_507, v_510, cs_511, v_514, cs_515, hv_, hr_, hl_508, hq_512, hq_516⟩ := hv_
          have hv_ := hv_.symm
          subst hv_
          obtain ⟨hS, hl_508⟩ := hS.sp0.back hr_ hl_508
          have hS := hS.un2
          have hRL := hRL.trans hl_508
          refine sl hK (by decide) rfl rfl (r_move hK rfl) fun a hK => ?_
          refine sl hK (by decide) rfl rfl (r_extract hK rfl rfl) fun a hK => ?_
          refine sl hK (by decide) rfl rfl (r_extract hK rfl rfl) fun a hK => ?_
          refine sl_alloc Try.zeroValue25 hS hK (by decide) rfl rfl fun a w b_517 hS hK => ?_
          refine sl_storeA (vs := [v_510, v_514]) (c' := [v_510, v_514]) Try.sizeOf25 hS hK rfl rfl rfl rfl (all_cons (hS.row_one (.tail _ (.head _))) (all_cons (hS.row_one (.tail _ (.tail _ (.head _)))) (all_nil))) (Nat.le_of_ble_eq_true rfl) rfl fun a w hS hK => ?_
          refine sl hK (by decide) rfl rfl (r_assign hK rfl) fun a hK => ?_
          refine wpList_nil ?_
          refine wp_seq ?_
          refine wp_region_lit ?_
          refine sl hK (by decide) rfl rfl (r_loadA (cs := [v_9, v_398]) Try.isAgg25 Try.sizeOf25 rfl hK rfl (hS.cells_of (m := 2) (.tail _ (.tail _ (.tail _ (.tail _ (.tail _ (.tail _ (.tail _ (.tail _ (.head _))))))))) rfl)) fun a hK => ?_
          refine sl hK (by decide) rfl rfl (r_loadA (cs := [v_510, v_514]) Try.isAgg25 Try.sizeOf25 rfl hK rfl (hS.cells_of (m := 2) (.head _) rfl)) fun a hK => ?_
          have hS := hS.pk1
          obtain ⟨R_518, hS, hl_520, hs_519⟩ := hS.fz_row hq_512 rfl rfl
          have hRL := hRL.trans hl_520
          have hS := hS.pk1
          obtain ⟨R_521, hS, hl_523, hs_522⟩ := hS.fz_row (hq_516.mono hl_520.le) rfl rfl
          have hRL := hRL.trans hl_523
          obtain ⟨y_524, h_525, H⟩ := bind_some H
          refine sl_call Try.call24 hK (by decide) rfl rfl rfl (table_Union.calls (⟨y_5.Cols, y_396⟩ : api_Table) y_505.1 hS.sub (hs_10.mono (hl_477.le.trans (hl_489.le.trans (hl_492.le.trans (hl_496.le.trans (hl_508.le.trans (hl_520.le.trans hl_523.le))))))) (hs_399.mono (hl_477.le.trans (hl_489.le.trans (hl_492.le.trans (hl_496.le.trans (hl_508.le.trans (hl_520.le.trans hl_523.le))))))) (hs_519.mono hl_523.le) hs_522 h_525) fun a v_ w hv_ hK => ?_
          obtain ⟨R_526, v_529, cs_530, v_533, cs_534, hv_, hr_, hl_527, hq_531, hq_535⟩ := hv_
          have hv_ := hv_.symm
          subst hv_
          obtain ⟨hS, hl_527⟩ := hS.sp0.back hr_ hl_527
          have hS := hS.un2
          have hRL := hRL.trans hl_527
          refine sl hK (by decide) rfl rfl (r_move hK rfl) fun a hK => ?_
          refine sl hK (by decide) rfl rfl (r_extract hK rfl rfl) fun a hK => ?_
          refine sl hK (by decide) rfl rfl (r_extract hK rfl rfl) fun a hK => ?_
          have hS := hS.pk2
          refine sl_storeA (vs := [v_529, v_533]) (c' := [v_529, v_533]) Try.sizeOf25 hS hK rfl rfl rfl rfl (all_cons (hS.row_one (.tail _ (.head _))) (all_cons (hS.row_one (.tail _ (.tail _ (.head _)))) (all_nil))) (Nat.le_of_ble_eq_true rfl) rfl fun a w hS hK => ?_
          refine sl hK (by decide) rfl rfl (r_assign hK rfl) fun a hK => ?_
          refine wpList_nil ?_
          refine wp_seq ?_
          refine wp_region_lit ?_
          refine sl hK (by decide) rfl rfl (r_loadA (cs := [v_498, v_502]) Try.isAgg25 Try.sizeOf25 rfl hK rfl (hS.cells_of (m := 2) (.tail _ (.tail _ (.tail _ (.head _)))) rfl)) fun a hK => ?_
          refine sl hK (by decide) rfl rfl (r_loadA (cs := [v_529, v_533]) Try.isAgg25 Try.sizeOf25 rfl hK rfl (hS.cells_of (m := 2) (.head _) rfl)) fun a hK => ?_
          obtain ⟨y_536, h_537, H⟩ := bind_some H
          refine sl_callV Try.call22 hS hK (by decide) rfl rfl rfl (ref02_Same.calls y_493.1 y_524.1 (lentOf_sub [] _) (hS.lend_row0 (.tail _ (.tail _ (.tail _ (.tail _ (.head _))))) (hq_500.mono (hl_508.le.trans (hl_520.le.trans (hl_523.le.trans hl_527.le)))) rfl rfl) (hS.lend_row0 (.tail _ (.tail _ (.tail _ (.tail _ (.tail _ (.head _)))))) (hq_504.mono (hl_508.le.trans (hl_520.le.trans (hl_523.le.trans hl_527.le)))) rfl rfl) (hS.lend_row0 (.tail _ (.head _)) hq_531 rfl rfl) (hS.lend_row0 (.tail _ (.tail _ (.head _))) hq_535 rfl rfl) h_537) fun a w hS hK => ?_
          refine sl hK (by decide) rfl rfl (r_assign hK rfl) fun a hK => ?_
          refine wpList_nil ?_
          refine wp_seq ?_
          refine parT_region (C := fun w => St [] w0 w R_526 [.cells b_517 [v_529, v_533] 25, .row 43 2 v_529 y_524.1.Cols.length cs_530, .row 35 1 v_533 y_524.1.Rows.length cs_534, .cells b_486 [v_498, v_502] 25, .row 43 2 v_498 y_493.1.Cols.length cs_499, .row 35 1 v_502 y_493.1.Rows.length cs_503, .cells b_473 [v_9, v_470] 25, .cells b_445 [v_9, v_442] 25, .cells b_401 [v_9, v_398] 25, .cells b_1 [v_9, v_11] 25, .row 3 1 v_245 x_244.length cs_246]) 3 [(0, true), (1, true), (2, false)] mixed (by kernel_rfl) hS (fun w hS => hS) fun w hS => ?_
          refine sp (k := 0) rfl hK (by decide) rfl rfl (fun w hS => r_loadA (cs := [v_498, v_502]) Try.isAgg25 Try.sizeOf25 rfl hK rfl (hS.cells_of (m := 2) (.tail _ (.tail _ (.tail _ (.head _)))) rfl)) fun a hK => ?_
          refine sp (k := 1) rfl hK (by decide) rfl rfl (fun w hS => r_loadA (cs := [v_9, v_11]) Try.isAgg25 Try.sizeOf25 rfl hK rfl (hS.cells_of (m := 2) (.tail _ (.tail _ (.tail _ (.tail _ (.tail _ (.tail _ (.tail _ (.tail _ (.tail _ (.head _)))))))))) rfl)) fun a hK => ?_
          refine spw (k := 2) rfl rfl hS ?_
          obtain ⟨y_552, h_553, H⟩ := bind_some H
          refine sl_call Try.call21 hK (by decide) rfl rfl rfl (ref02_Canon.calls y_5 hS.sub (hs_10.mono (hl_477.le.trans (hl_489.le.trans (hl_492.le.trans (hl_496.le.trans (hl_508.le.trans (hl_520.le.trans (hl_523.le.trans hl_527.le)))))))) (hs_12.mono (hl_477.le.trans (hl_489.le.trans (hl_492.le.trans (hl_496.le.trans (hl_508.le.trans (hl_520.le.trans (hl_523.le.trans hl_527.le)))))))) h_553) fun a v_ w hv_ hK => ?_
          obtain ⟨R_554, v_557, cs_558, v_561, cs_562, hv_, hr_, hl_555, hq_559, hq_563⟩ := hv_
          have hv_ := hv_.symm
          subst hv_
          obtain ⟨hS, hl_555⟩ := hS.sp0.back hr_ hl_555
          have hS := hS.un2
          have hRL := hRL.trans hl_555
          refine parK_nil ((hS.pk12.pk12.pk12.pk12.pk12.pk12.pk12.pk12.pk12.pk12.pk12.trunc 11).lower hl_555.le) ?_
          refine thenL_nil ?_
          obtain ⟨y_564, h_565, H⟩ := bind_some H
          refine sl_callV Try.call22 hS hK (by decide) rfl rfl rfl (ref02_Same.calls y_493.1 y_552 (lentOf_sub [] _) (hS.lend_row0 (.tail _ (.tail _ (.tail _ (.tail _ (.tail _ (.tail _ (.head _))))))) (hq_500.mono (hl_508.le.trans (hl_520.le.trans (hl_523.le.trans (hl_527.le.trans hl_555.le))))) rfl rfl) (hS.lend_row0 (.tail _ (.tail _ (.tail _ (.tail _ (.tail _ (.tail _ (.tail _ (.head _)))))))) (hq_504.mono (hl_508.le.trans (hl_520.le.trans (hl_523.le.trans (hl_527.le.trans hl_555.le))))) rfl rfl) (hS.lend_row0 (.head _) hq_559 rfl rfl) (hS.lend_row0 (.tail _ (.head _)) hq_563 rfl rfl) h_565) fun a w hS hK => ?_
          refine sl hK (by decide) rfl rfl (r_assign hK rfl) fun a hK => ?_
          refine wpList_nil (NoP_nil ?_)
          refine wp_seq ?_
          refine wp_region_lit ?_
          refine sl hK (by decide) rfl rfl (r_move hK rfl) fun a hK => ?_
          refine sl hK (by decide) rfl rfl (r_move hK rfl) fun a hK => ?_
          rcases or_b y_3 with hb_566 | hb_566
          · rw [ifb_t hb_566] at H
            refine sl hK (by decide) (wtt hb_566) rfl (r_move hK rfl) fun a hK => ?_
            refine sl hK (by decide) (wtt hb_566) rfl (r_ibin hK rfl rfl rfl) fun a hK => ?_
            refine sl hK (by decide) rfl rfl (r_pick_t hb_566 hK rfl rfl) fun a hK => ?_
            refine sl hK (by decide) rfl rfl (r_move hK rfl) fun a hK => ?_
            rcases or_b (y_474.2 == 0) with hb_567 | hb_567
            · rw [ifb_t hb_567] at H
              refine sl hK (by decide) (wtt hb_567) rfl (r_move hK rfl) fun a hK => ?_
              refine sl hK (by decide) (wtt hb_567) rfl (r_ibin hK rfl rfl rfl) fun a hK => ?_
              refine sl hK (by decide) rfl rfl (r_pick_t hb_567 hK rfl rfl) fun a hK => ?_
              refine sl hK (by decide) rfl rfl (r_move hK rfl) fun a hK => ?_
              rcases or_b (y_493.2 == 0) with hb_568 | hb_568
              · rw [ifb_t hb_568] at H
                refine sl hK (by decide) (wtt hb_568) rfl (r_move hK rfl) fun a hK => ?_
                refine sl hK (by decide) (wtt hb_568) rfl (r_ibin hK rfl rfl rfl) fun a hK => ?_
                refine sl hK (by decide) rfl rfl (r_pick_t hb_568 hK rfl rfl) fun a hK => ?_
                refine sl hK (by decide) rfl rfl (r_move hK rfl) fun a hK => ?_
                rcases or_b (y_505.2 == 0) with hb_569 | hb_569
                · rw [ifb_t hb_569] at H
                  refine sl hK (by decide) (wtt hb_569) rfl (r_move hK rfl) fun a hK => ?_
                  refine sl hK (by decide) (wtt hb_569) rfl (r_ibin hK rfl rfl rfl) fun a hK => ?_
                  refine sl hK (by decide) rfl rfl (r_pick_t hb_569 hK rfl rfl) fun a hK => ?_
                  refine sl hK (by decide) rfl rfl (r_move hK rfl) fun a hK => ?_
                  rcases or_b (y_524.2 == 0) with hb_570 | hb_570
                  · rw [ifb_t hb_570] at H
                    refine sl hK (by decide) (wtt hb_570) rfl (r_move hK rfl) fun a hK => ?_
                    refine sl hK (by decide) rfl rfl (r_pick_t hb_570 hK rfl rfl) fun a hK => ?_
                    refine sl hK (by decide) rfl rfl (r_move hK rfl) fun a hK => ?_
                    rcases or_b y_536 with hb_571 | hb_571
                    · rw [ifb_t hb_571] at H
                      refine sl hK (by decide) (wtt hb_571) rfl (r_move hK rfl) fun a hK => ?_
                      refine sl hK (by decide) rfl rfl (r_pick_t hb_571 hK rfl rfl) fun a hK => ?_
                      refine sl hK (by decide) rfl rfl (r_assign hK rfl) fun a hK => ?_
                      refine wpList_nil ?_
                      have hr_ := Option.some.inj H
                      refine wp_ret ?_
                      repeat (first | refine ret_then ?_ | refine ret_block ?_ | refine ret_scope ?_)
                      exact ret_1 Try.results10 hK (rv_tmp hK rfl) ⟨congrArg (fun b => Ending.returned (Value.bool b)) hr_, hS.bel⟩
                    · rw [ifb_f hb_571] at H
                      refine sl_skip hK (by decide) (wtf hb_571) rfl fun a hK => ?_
                      refine sl hK (by decide) rfl rfl (r_pick_f hb_571 hK rfl rfl) fun a hK => ?_
                      refine sl hK (by decide) rfl rfl (r_assign hK rfl) fun a hK => ?_
                      refine wpList_nil ?_
                      exact absurd (Option.some.inj H) (by decide)
                  · rw [ifb_f hb_570] at H
                    refine sl_skip hK (by decide) (wtf hb_570) rfl fun a hK => ?_
                    refine sl hK (by decide) rfl rfl (r_pick_f hb_570 hK rfl rfl) fun a hK => ?_
                    refine sl hK (by decide) rfl rfl (r_move hK rfl) fun a hK => ?_
                    refine sl_skip hK (by decide) rfl rfl fun a hK => ?_
                    refine sl hK (by decide) rfl rfl (r_pick hK rfl rfl rfl) fun a hK => ?_
                    refine sl hK (by decide) rfl rfl (r_assign hK rfl) fun a hK => ?_
                    refine wpList_nil ?_
                    exact absurd (Option.some.inj H) (by decide)
                · rw [ifb_f hb_569] at H
                  refine sl_skip hK (by decide) (wtf hb_569) rfl fun a hK => ?_
                  refine sl_skip hK (by decide) (wtf hb_569) rfl fun a hK => ?_
                  refine sl hK (by decide) rfl rfl (r_pick_f hb_569 hK rfl rfl) fun a hK => ?_
                  refine sl hK (by decide) rfl rfl (r_move hK rfl) fun a hK => ?_
                  refine sl_skip hK (by decide) rfl rfl fun a hK => ?_
                  refine sl hK (by decide) rfl rfl (r_pick hK rfl rfl rfl) fun a hK => ?_
                  refine sl hK (by decide) rfl rfl (r_move hK rfl) fun a hK => ?_
                  refine sl_skip hK (by decide) rfl rfl fun a hK => ?_
                  refine sl hK (by decide) rfl rfl (r_pick hK rfl rfl rfl) fun a hK => ?_
                  refine sl hK (by decide) rfl rfl (r_assign hK rfl) fun a hK => ?_
                  refine wpList_nil ?_
                  exact absurd (Option.some.inj H) (by decide)
              · rw [ifb_f hb_568] at H
                refine sl_skip hK (by decide) (wtf hb_568) rfl fun a hK => ?_
                refine sl_skip hK (by decide) (wtf hb_568) rfl fun a hK => ?_
                refine sl hK (by decide) rfl rfl (r_pick_f hb_568 hK rfl rfl) fun a hK => ?_
                refine sl hK (by decide) rfl rfl (r_move hK rfl) fun a hK => ?_
                refine sl_skip hK (by decide) rfl rfl fun a hK => ?_
                refine sl_skip hK (by decide) rfl rfl fun a hK => ?_
                refine sl hK (by decide) rfl rfl (r_pick hK rfl rfl rfl) fun a hK => ?_
                refine sl hK (by decide) rfl rfl (r_move hK rfl) fun a hK => ?_
                refine sl_skip hK (by decide) rfl rfl fun a hK => ?_
                refine sl hK (by decide) rfl rfl (r_pick hK rfl rfl rfl) fun a hK => ?_
                refine sl hK (by decide) rfl rfl (r_move hK rfl) fun a hK => ?_
                refine sl_skip hK (by decide) rfl rfl fun a hK => ?_
                refine sl hK (by decide) rfl rfl (r_pick hK rfl rfl rfl) fun a hK => ?_
                refine sl hK (by decide) rfl rfl (r_assign hK rfl) fun a hK => ?_
                refine wpList_nil ?_
                exact absurd (Option.some.inj H) (by decide)
            · rw [ifb_f hb_567] at H
              refine sl_skip hK (by decide) (wtf hb_567) rfl fun a hK => ?_
              refine sl_skip hK (by decide) (wtf hb_567) rfl fun a hK => ?_
              refine sl hK (by decide) rfl rfl (r_pick_f hb_567 hK rfl rfl) fun a hK => ?_
              refine sl hK (by decide) rfl rfl (r_move hK rfl) fun a hK => ?_
              refine sl_skip hK (by decide) rfl rfl fun a hK => ?_
              refine sl_skip hK (by decide) rfl rfl fun a hK => ?_
              refine sl hK (by decide) rfl rfl (r_pick hK rfl rfl rfl) fun a hK => ?_
              refine sl hK (by decide) rfl rfl (r_move hK rfl) fun a hK => ?_
              refine sl_skip hK (by decide) rfl rfl fun a hK => ?_
              refine sl_skip hK (by decide) rfl rfl fun a hK => ?_
              refine sl hK (by decide) rfl rfl (r_pick hK rfl rfl rfl) fun a hK => ?_
              refine sl hK (by decide) rfl rfl (r_move hK rfl) fun a hK => ?_
              refine sl_skip hK (by decide) rfl rfl fun a hK => ?_
              refine sl hK (by decide) rfl rfl (r_pick hK rfl rfl rfl) fun a hK => ?_
              refine sl hK (by decide) rfl rfl (r_move hK rfl) fun a hK => ?_
              refine sl_skip hK (by decide) rfl rfl fun a hK => ?_
              refine sl hK (by decide) rfl rfl (r_pick hK rfl rfl rfl) fun a hK => ?_
              refine sl hK (by decide) rfl rfl (r_assign hK rfl) fun a hK => ?_
              refine wpList_nil ?_
              exact absurd (Option.some.inj H) (by decide)
          · rw [ifb_f hb_566] at H
            refine sl_skip hK (by decide) (wtf hb_566) rfl fun a hK => ?_
            refine sl_skip hK (by decide) (wtf hb_566) rfl fun a hK => ?_
            refine sl hK (by decide) rfl rfl (r_pick_f hb_566 hK rfl rfl) fun a hK => ?_
            refine sl hK (by decide) rfl rfl (r_move hK rfl) fun a hK => ?_
            refine sl_skip hK (by decide) rfl rfl fun a hK => ?_
            refine sl_skip hK (by decide) rfl rfl fun a hK => ?_
            refine sl hK (by decide) rfl rfl (r_pick hK rfl rfl rfl) fun a hK => ?_
            refine sl hK (by decide) rfl rfl (r_move hK rfl) fun a hK => ?_
            refine sl_skip hK (by decide) rfl rfl fun a hK => ?_
            refine sl_skip hK (by decide) rfl rfl fun a hK => ?_
            refine sl hK (by decide) rfl rfl (r_pick hK rfl rfl rfl) fun a hK => ?_
            refine sl hK (by decide) rfl rfl (r_move hK rfl) fun a hK => ?_
            refine sl_skip hK (by decide) rfl rfl fun a hK => ?_
            refine sl_skip hK (by decide) rfl rfl fun a hK => ?_
            refine sl hK (by decide) rfl rfl (r_pick hK rfl rfl rfl) fun a hK => ?_
            refine sl hK (by decide) rfl rfl (r_move hK rfl) fun a hK => ?_
            refine sl_skip hK (by decide) rfl rfl fun a hK => ?_
            refine sl hK (by decide) rfl rfl (r_pick hK rfl rfl rfl) fun a hK => ?_
            refine sl hK (by decide) rfl rfl (r_move hK rfl) fun a hK => ?_
            refine sl_skip hK (by decide) rfl rfl fun a hK => ?_
            refine sl hK (by decide) rfl rfl (r_pick hK rfl rfl rfl) fun a hK => ?_
            refine sl hK (by decide) rfl rfl (r_assign hK rfl) fun a hK => ?_
            refine wpList_nil ?_
            exact absurd (Option.some.inj H) (by decide)

end Go.Proofs.Ytojfckndloelpaa.M
