/- Each Go function of the laws answers as its plain Lean function tells, wherever that tells something. Printed by wip/eng/gen.py. -/
import Derived.Test.YtjimddbbpjpgdaaWalk3
namespace Go.Proofs.Ytjimddbbpjpgdaa.M
open Go Go.Eng Go.Proofs Go.RowKit
set_option linter.unusedVariables false
set_option linter.unusedSimpArgs false

/-! ### catchment/catchmentlaw16.RowopsWhole: function 6 -/
set_option maxHeartbeats 4000000 in
set_option maxRecDepth 100000 in
theorem law16_RowopsWhole.calls (a0 : api_Table) (a1 : Int) (a2 : Int) {w0 : World} {R : Hp} {v0_0 : Value} {v0_1 : Value} (hR : R.sub w0) (h0_0 : SlR ty_api_Col R v0_0 a0.Cols) (h0_1 : SlR (tySl ty_api_Value) R v0_1 a0.Rows) (H : law16_RowopsWhole a0 a1 a2 = some true) : CallsV Try.prog 6 #[.agg #[v0_0, v0_1], .int .i64 a1, .int .i64 a2] w0 (.bool true) := by
  unfold law16_RowopsWhole at H
  refine enter (args := [.agg #[v0_0, v0_1], .int .i64 a1, .int .i64 a2]) Try.func6 rfl Try.ntmps6 rfl fun a hK => ?_
  have hS := St.init hR
  have hRL := RLe.refl (M := []) w0 R
  refine wp_seq ?_
  refine wp_region_lit ?_
  refine sl_box hS hK (by decide) rfl rfl (c := [v0_0, v0_1]) rfl fun a w b_1 hS hK => ?_
  refine sl hK (by decide) rfl rfl (r_assign hK rfl) fun a hK => ?_
  refine wpList_nil ?_
  refine wp_seq ?_
  refine wp_region_lit ?_
  obtain ⟨y_2, h_3, H⟩ := bind_some H
  refine sl_callV Try.call9 hS hK (by decide) rfl rfl rfl (law16_shown.calls h_3 _) fun a w hS hK => ?_
  refine sl hK (by decide) rfl rfl (r_assign hK rfl) fun a hK => ?_
  refine wpList_nil ?_
  refine wp_seq ?_
  refine wp_region_lit ?_
  refine sl hK (by decide) rfl rfl (r_loadA (cs := [v0_0, v0_1]) Try.isAgg25 Try.sizeOf25 rfl hK rfl (hS.cells_of (m := 2) (.head _) rfl)) fun a hK => ?_
  obtain ⟨y_4, h_5, H⟩ := bind_some H
  refine sl_call Try.call10 hK (by decide) rfl rfl rfl (law16_cut.calls a0 hS.sub h0_0 h0_1 h_5) fun a v_ w hv_ hK => ?_
  obtain ⟨R_6, v_8, v_10, hv_, hr_, hl_7, hs_9, hs_11⟩ := hv_
  have hv_ := hv_.symm
  subst hv_
  obtain ⟨hS, hl_7⟩ := hS.sp0.back hr_ hl_7
  have hS := hS.un0
  have hRL := hRL.trans hl_7
  refine sl_storeA (vs := [v_8, v_10]) (c' := [v_8, v_10]) Try.sizeOf25 hS hK rfl rfl rfl rfl (all_cons hs_9.one (all_cons hs_11.one (all_nil))) (Nat.le_of_ble_eq_true rfl) rfl fun a w hS hK => ?_
  refine wpList_nil ?_
  refine wp_seq ?_
  refine wp_seq ?_
  refine wp_region_lit ?_
  refine sl hK (by decide) rfl rfl (r_loadA (cs := [v_8, v_10]) Try.isAgg25 Try.sizeOf25 rfl hK rfl (hS.cells_of (m := 2) (.head _) rfl)) fun a hK => ?_
  obtain ⟨y_12, h_13, H⟩ := bind_some H
  refine sl_callV Try.call17 hS hK (by decide) rfl rfl rfl (ref02_Check.calls y_4 (lentOf_sub [] _) (hs_9.mono hS.rLe0) (hs_11.mono hS.rLe0) h_13) fun a w hS hK => ?_
  refine sl hK (by decide) rfl rfl (r_ibin hK rfl rfl rfl) fun a hK => ?_
  refine wpList_nil ?_
  refine wp_cond_split (hK.ev rfl) (fun (hb_14 : (y_12 != 0) = true) => ?_) (fun (hb_14 : (y_12 != 0) = false) => ?_)
  · rw [ifb_t hb_14] at H
    refine wp_seq ?_
    refine wp_region_lit ?_
    refine sl hK (by decide) rfl rfl (r_move hK rfl) fun a hK => ?_
    refine sl hK (by decide) rfl rfl (r_assign hK rfl) fun a hK => ?_
    refine wpList_nil ?_
    have hr_ := Option.some.inj H
    refine wp_ret ?_
    repeat (first | refine ret_then ?_ | refine ret_block ?_ | refine ret_scope ?_)
    exact ret_1 Try.results6 hK (rv_tmp hK rfl) ⟨congrArg (fun b => Ending.returned (Value.bool b)) hr_, hS.bel⟩
  · rw [ifb_f hb_14] at H
    refine wp_skip ?_
    refine wp_seq ?_
    refine wp_seq ?_
    refine wp_region_lit ?_
    refine sl hK (by decide) rfl rfl (r_move hK rfl) fun a hK => ?_
    refine sl hK (by decide) rfl rfl (r_ibin hK rfl rfl rfl) fun a hK => ?_
    refine wpList_nil ?_
    refine wp_mid (fun a w => ∃ (x_16 : Int), law16_RowopsWhole.j0 a1 y_2 y_4 x_16 = some true ∧ Kn 146 a [(1, .int .i64 a1), (2, .int .i64 x_16), (3, .pointer (some ⟨b_1, 0, none⟩)), (7, .bool y_2)] ∧ St [] w0 w R_6 [.cells b_1 [v_8, v_10] 25]) ?_ ?_
    · refine wp_cond_split (hK.ev rfl) (fun (hb_18 : (decide (a2 < 0)) = true) => ?_) (fun (hb_18 : (decide (a2 < 0)) = false) => ?_)
      · rw [ifb_t hb_18] at H
        refine wp_region_lit ?_
        refine sl hK (by decide) rfl rfl (r_move hK rfl) fun a hK => ?_
        refine sl hK (by decide) rfl rfl (r_ibin hK rfl rfl rfl) fun a hK => ?_
        refine sl hK (by decide) rfl rfl (r_un hK rfl (u_neg _ _)) fun a hK => ?_
        refine sl hK (by decide) rfl rfl (r_assign hK rfl) fun a hK => ?_
        refine wpList_nil ?_
        exact ⟨(IntKind.i64.wrap (0 - (IntKind.i64.wrap (a2 + 1)))), H, hK.sub (all_cons rfl (all_cons rfl (all_cons rfl (all_cons rfl (all_nil))))), hS⟩
      · rw [ifb_f hb_18] at H
        refine wp_skip ?_
        exact ⟨a2, H, hK.sub (all_cons rfl (all_cons rfl (all_cons rfl (all_cons rfl (all_nil))))), hS⟩
    · rintro a w ⟨x_16, H, hK, hS⟩
      unfold law16_RowopsWhole.j0 at H
      refine wp_seq ?_
      refine wp_region_lit ?_
      refine sl hK (by decide) rfl rfl (r_move hK rfl) fun a hK => ?_
      refine sl hK (by decide) rfl rfl (r_fieldAddr Try.underlying25 rfl Try.sizeOf22 hK rfl) fun a hK => ?_
      refine sl hK (by decide) rfl rfl (r_load Try.isAgg22 hK rfl (hS.cell (.head _) rfl)) fun a hK => ?_
      refine sl hK (by decide) rfl rfl (r_len_R Try.underlying22 hs_9 hK rfl) fun a hK => ?_
      rcases or_b ((y_4.Cols.length : Int) != 0) with hn_19 | hn_19
      · rw [ifb_t hn_19] at H
        refine sl hK (by decide) rfl rfl (r_rem hK rfl rfl (ne_of_bne hn_19)) fun a hK => ?_
        refine sl hK (by decide) rfl rfl (r_assign hK rfl) fun a hK => ?_
        refine wpList_nil ?_
        refine wp_seq ?_
        refine wp_seq ?_
        refine wp_mid (fun a w => ∃ (x_31 : Bool), law16_RowopsWhole.j1 a1 y_2 y_4 x_16 x_31 = some true ∧ Kn 146 a [(1, .int .i64 a1), (3, .pointer (some ⟨b_1, 0, none⟩)), (7, .bool y_2), (8, .int .i64 (x_16.tmod (y_4.Cols.length : Int))), (48, .bool x_31)] ∧ St [] w0 w R_6 [.cells b_1 [v_8, v_10] 25]) ?_ ?_
        · refine wp_region_lit ?_
          refine sl hK (by decide) rfl rfl (r_fieldAddr Try.underlying25 rfl Try.sizeOf22 hK rfl) fun a hK => ?_
          refine sl hK (by decide) rfl rfl (r_load Try.isAgg22 hK rfl (hS.cell (.head _) rfl)) fun a hK => ?_
          refine sl hK (by decide) rfl rfl (r_move hK rfl) fun a hK => ?_
          obtain ⟨y_33, h_34, H⟩ := bind_some H
          obtain ⟨b_35, o_36, c_37, cs_38, hv_39, hr_40, hc_41, h_340, h_341⟩ := hs_9.ix h_34
          subst hr_40
          refine sl hK (by decide) rfl rfl (r_indexAddr_R Try.underlying22 Try.sizeOf38 hv_39 h_340 h_341 hK rfl rfl) fun a hK => ?_
          refine sl hK (by decide) rfl rfl (r_fieldAddr Try.underlying38 rfl Try.sizeOf3 hK rfl) fun a hK => ?_
          refine sl hK (by decide) rfl rfl (r_load Try.isAgg3 hK rfl (hS.sub.cell (hc_41 1 _ rfl))) fun a hK => ?_
          refine sl hK (by decide) rfl rfl (r_ibin hK rfl rfl rfl) fun a hK => ?_
          refine sl hK (by decide) rfl rfl (r_move hK rfl) fun a hK => ?_
          rcases or_b (y_33.Kind == 4) with hb_42 | hb_42
          · rw [ifb_t hb_42] at H
            refine sl_skip hK (by decide) (wft hb_42) rfl fun a hK => ?_
            refine sl_skip hK (by decide) (wft hb_42) rfl fun a hK => ?_
            refine sl hK (by decide) rfl rfl (r_pick_t hb_42 hK rfl rfl) fun a hK => ?_
            refine sl hK (by decide) rfl rfl (r_move hK rfl) fun a hK => ?_
            refine sl_skip hK (by decide) rfl rfl fun a hK => ?_
            refine sl_skip hK (by decide) rfl rfl fun a hK => ?_
            refine sl hK (by decide) rfl rfl (r_pick hK rfl rfl rfl) fun a hK => ?_
            refine wpList_nil ?_
            exact ⟨true, H, hK.sub (all_cons rfl (all_cons rfl (all_cons rfl (all_cons rfl (all_cons rfl (all_nil)))))), hS⟩
          · rw [ifb_f hb_42] at H
            refine sl hK (by decide) (wff hb_42) rfl (r_move hK rfl) fun a hK => ?_
            refine sl hK (by decide) (wff hb_42) rfl (r_ibin hK rfl rfl rfl) fun a hK => ?_
            refine sl hK (by decide) rfl rfl (r_pick_f hb_42 hK rfl rfl) fun a hK => ?_
            refine sl hK (by decide) rfl rfl (r_move hK rfl) fun a hK => ?_
            rcases or_b (decide (a1 < 1)) with hb_43 | hb_43
            · rw [ifb_t hb_43] at H
              refine sl_skip hK (by decide) (wft hb_43) rfl fun a hK => ?_
              refine sl_skip hK (by decide) (wft hb_43) rfl fun a hK => ?_
              refine sl hK (by decide) rfl rfl (r_pick_t hb_43 hK rfl rfl) fun a hK => ?_
              refine wpList_nil ?_
              exact ⟨true, H, hK.sub (all_cons rfl (all_cons rfl (all_cons rfl (all_cons rfl (all_cons rfl (all_nil)))))), hS⟩
            · rw [ifb_f hb_43] at H
              refine sl hK (by decide) (wff hb_43) rfl (r_move hK rfl) fun a hK => ?_
              refine sl hK (by decide) (wff hb_43) rfl (r_ibin hK rfl rfl rfl) fun a hK => ?_
              refine sl hK (by decide) rfl rfl (r_pick_f hb_43 hK rfl rfl) fun a hK => ?_
              refine wpList_nil ?_
              exact ⟨(decide (a1 > 1000)), H, hK.sub (all_cons rfl (all_cons rfl (all_cons rfl (all_cons rfl (all_cons rfl (all_nil)))))), hS⟩
        · rintro a w ⟨x_31, H, hK, hS⟩
          unfold law16_RowopsWhole.j1 at H
          refine wp_cond_split (hK.ev rfl) (fun (hb_44 : x_31 = true) => ?_) (fun (hb_44 : x_31 = false) => ?_)
          · rw [ifb_t hb_44] at H
            refine wp_seq ?_
            refine wp_region_lit ?_
            refine sl hK (by decide) rfl rfl (r_move hK rfl) fun a hK => ?_
            refine sl hK (by decide) rfl rfl (r_assign hK rfl) fun a hK => ?_
            refine wpList_nil ?_
            have hr_ := Option.some.inj H
            refine wp_ret ?_
            repeat (first | refine ret_then ?_ | refine ret_block ?_ | refine ret_scope ?_)
            exact ret_1 Try.results6 hK (rv_tmp hK rfl) ⟨congrArg (fun b => Ending.returned (Value.bool b)) hr_, hS.bel⟩
          · rw [ifb_f hb_44] at H
            refine wp_skip ?_
            refine wp_seq ?_
            refine wp_mid (fun a w => ∃ (x_117 : List api_Col) (x_122 : List (List api_Value)) (x_126 : Int) (R_127 : Hp) (v_118 : Value) (cs_119 : List Value) (v_123 : Value) (cs_124 : List Value) (b_115 : Nat), law16_RowopsWhole.j2 a1 y_2 y_4 x_16 x_117 x_122 x_126 = some true ∧ RLe [] w0 R_6 R_127 ∧ Reps ty_api_Col R_127 cs_119 x_117 ∧ Reps (tySl ty_api_Value) R_127 cs_124 x_122 ∧ Kn 146 a [(1, .int .i64 a1), (3, .pointer (some ⟨b_1, 0, none⟩)), (7, .bool y_2), (8, .int .i64 (x_16.tmod (y_4.Cols.length : Int))), (9, .pointer (some ⟨b_115, 0, none⟩)), (10, .int .i64 x_126)] ∧ St [] w0 w R_127 [.cells b_1 [v_8, v_10] 25, .row 38 2 v_118 x_117.length cs_119, .row 44 1 v_123 x_122.length cs_124, .cells b_115 [v_118, v_123] 25]) ?_ ?_
            · refine treeT_region (C := fun w => St [] w0 w R_6 [.cells b_1 [v_8, v_10] 25]) 14 (.br [(0, true), (1, true), (2, true), (3, true), (4, true), (5, true), (6, true), (7, true)] 8 (.list [(9, true), (10, true), (11, true), (12, false), (13, false)]) 12 (.list [(8, false), (9, true), (10, true), (11, true), (13, false)])) mixed (by kernel_rfl) hS (fun w hS => hS) fun w hS => ?_
              refine tree_fork ?_
              refine sp (k := 0) rfl hK (by decide) rfl rfl (fun w hS => r_loadA (cs := [v_8, v_10]) Try.isAgg25 Try.sizeOf25 rfl hK rfl (hS.cells_of (m := 2) (.head _) rfl)) fun a hK => ?_
              refine sp (k := 1) rfl hK (by decide) rfl rfl (fun w hS => r_move hK rfl) fun a hK => ?_
              refine sp (k := 2) rfl hK (by decide) rfl rfl (fun w hS => r_fieldAddr Try.underlying25 rfl Try.sizeOf22 hK rfl) fun a hK => ?_
              refine sp (k := 3) rfl hK (by decide) rfl rfl (fun w hS => r_load Try.isAgg22 hK rfl (hS.cell (.head _) rfl)) fun a hK => ?_
              refine sp (k := 4) rfl hK (by decide) rfl rfl (fun w hS => r_move hK rfl) fun a hK => ?_
              obtain ⟨y_164, h_165, H⟩ := bind_some H
              obtain ⟨b_166, o_167, c_168, cs_169, hv_170, hr_171, hc_172, h_1650, h_1651⟩ := hs_9.ix h_165
              subst hr_171
              refine sp (k := 5) rfl hK (by decide) rfl rfl (fun w hS => r_indexAddr_R Try.underlying22 Try.sizeOf38 hv_170 h_1650 h_1651 hK rfl rfl) fun a hK => ?_
              refine sp (k := 6) rfl hK (by decide) rfl rfl (fun w hS => r_fieldAddr Try.underlying38 rfl Try.sizeOf9 hK rfl) fun a hK => ?_
              refine sp (k := 7) rfl hK (by decide) rfl rfl (fun w hS => r_load Try.isAgg9 hK rfl (hS.sub.cell (hc_172 0 _ rfl))) fun a hK => ?_
              refine wpPar_nil (tree_br ?_ ?_)
              · refine spwB (k := 8) rfl rfl hS ?_
                obtain ⟨y_173, h_174, H⟩ := bind_some H
                refine sl_call Try.call15 hK (by decide) rfl rfl rfl (rowops_Top.calls y_4 a1 y_164.Name (lentOf_sub [] _) hS.sub (hs_9.mono hS.rLe0) (hs_11.mono hS.rLe0) h_174) fun a v_ w hv_ hK => ?_
                obtain ⟨R_175, v_178, cs_179, v_182, cs_183, hv_, hr_, hl_176, hq_180, hq_184⟩ := hv_
                have hv_ := hv_.symm
                subst hv_
                obtain ⟨hS, hl_176⟩ := hS.sp0.back hr_ hl_176
                have hS := hS.un2
                have hRL := hRL.trans hl_176
                refine parKK_nil ((hS.pk2.trunc 1).lower hl_176.le) ?_
                refine tree_list ?_
                refine sp (k := 9) rfl hK (by decide) rfl rfl (fun w hS => r_move hK rfl) fun a hK => ?_
                refine sp (k := 10) rfl hK (by decide) rfl rfl (fun w hS => r_extract hK rfl rfl) fun a hK => ?_
                refine sp (k := 11) rfl hK (by decide) rfl rfl (fun w hS => r_extract hK rfl rfl) fun a hK => ?_
                refine spw (k := 12) rfl rfl ((hS.pk2.trunc 1).lower hl_176.le) ?_
                refine sl_alloc Try.zeroValue25 hS hK (by decide) rfl rfl fun a w b_185 hS hK => ?_
                refine parK_nil ((hS.pk3.trunc 1).lower hl_176.le) ?_
                refine spw (k := 13) rfl rfl ((hS.pk3.trunc 1).lower hl_176.le) ?_
                refine sl_storeA (vs := [v_178, v_182]) (c' := [v_178, v_182]) Try.sizeOf25 hS hK rfl rfl rfl rfl (all_cons (hS.row_one (.tail _ (.head _))) (all_cons (hS.row_one (.tail _ (.tail _ (.head _)))) (all_nil))) (Nat.le_of_ble_eq_true rfl) rfl fun a w hS hK => ?_
                refine parK_nil ((hS.pk3.trunc 1).lower hl_176.le) ?_
                refine thenL_nil ?_
                refine sl hK (by decide) rfl rfl (r_assign hK rfl) fun a hK => ?_
                refine wpList_nil (NoP_nil ?_)
                have hS := hS.pk2
                have hS := hS.pk2
                have hS := hS.pk3
                exact ⟨y_173.1.Cols, y_173.1.Rows, y_173.2, _, _, _, _, _, _, H, hl_176, hq_180, hq_184, hK.sub (all_cons rfl (all_cons rfl (all_cons rfl (all_cons rfl (all_cons rfl (all_cons rfl (all_nil))))))), hS⟩
              · refine spwB (k := 12) rfl rfl hS ?_
                refine sl_alloc Try.zeroValue25 hS hK (by decide) rfl rfl fun a w b_186 hS hK => ?_
                refine parKK_nil (hS.pk1.trunc 1) ?_
                refine tree_list ?_
                refine spw (k := 8) rfl rfl (hS.pk1.trunc 1) ?_
                obtain ⟨y_187, h_188, H⟩ := bind_some H
                refine sl_call Try.call15 hK (by decide) rfl rfl rfl (rowops_Top.calls y_4 a1 y_164.Name (lentOf_sub [] _) hS.sub (hs_9.mono hS.rLe0) (hs_11.mono hS.rLe0) h_188) fun a v_ w hv_ hK => ?_
                obtain ⟨R_189, v_192, cs_193, v_196, cs_197, hv_, hr_, hl_190, hq_194, hq_198⟩ := hv_
                have hv_ := hv_.symm
                subst hv_
                obtain ⟨hS, hl_190⟩ := hS.sp0.back hr_ hl_190
                have hS := hS.un2
                have hRL := hRL.trans hl_190
                refine parK_nil ((hS.pk3.trunc 1).lower hl_190.le) ?_
                refine sp (k := 9) rfl hK (by decide) rfl rfl (fun w hS => r_move hK rfl) fun a hK => ?_
                refine sp (k := 10) rfl hK (by decide) rfl rfl (fun w hS => r_extract hK rfl rfl) fun a hK => ?_
                refine sp (k := 11) rfl hK (by decide) rfl rfl (fun w hS => r_extract hK rfl rfl) fun a hK => ?_
                refine spw (k := 13) rfl rfl ((hS.pk3.trunc 1).lower hl_190.le) ?_
                have hS := hS.pk2
                refine sl_storeA (vs := [v_192, v_196]) (c' := [v_192, v_196]) Try.sizeOf25 hS hK rfl rfl rfl rfl (all_cons (hS.row_one (.tail _ (.head _))) (all_cons (hS.row_one (.tail _ (.tail _ (.head _)))) (all_nil))) (Nat.le_of_ble_eq_true rfl) rfl fun a w hS hK => ?_
                refine parK_nil ((hS.pk3.trunc 1).lower hl_190.le) ?_
                refine thenL_nil ?_
                refine sl hK (by decide) rfl rfl (r_assign hK rfl) fun a hK => ?_
                refine wpList_nil (NoP_nil ?_)
                have hS := hS.pk2
                have hS := hS.pk2
                have hS := hS.pk3
                exact ⟨y_187.1.Cols, y_187.1.Rows, y_187.2, _, _, _, _, _, _, H, hl_190, hq_194, hq_198, hK.sub (all_cons rfl (all_cons rfl (all_cons rfl (all_cons rfl (all_cons rfl (all_cons rfl (all_nil))))))), hS⟩
            · rintro a w ⟨x_117, x_122, x_126, R_127, v_118, cs_119, v_123, cs_124, b_115, H, hl_128, hq_120, hq_125, hK, hS⟩
              unfold law16_RowopsWhole.j2 at H
              have hRL := hRL.trans hl_128
              refine wp_seq ?_
              refine wp_region_lit ?_
              refine sl hK (by decide) rfl rfl (r_loadA (cs := [v_8, v_10]) Try.isAgg25 Try.sizeOf25 rfl hK rfl (hS.cells_of (m := 2) (.head _) rfl)) fun a hK => ?_
              obtain ⟨y_199, h_200, H⟩ := bind_some H
              refine sl_call Try.call11 hK (by decide) rfl rfl rfl (ref02_Canon.calls y_4 hS.sub (hs_9.mono hl_128.le) (hs_11.mono hl_128.le) h_200) fun a v_ w hv_ hK => ?_
              obtain ⟨R_201, v_204, cs_205, v_208, cs_209, hv_, hr_, hl_202, hq_206, hq_210⟩ := hv_
              have hv_ := hv_.symm
              subst hv_
              obtain ⟨hS, hl_202⟩ := hS.sp0.back hr_ hl_202
              have hS := hS.un2
              have hRL := hRL.trans hl_202
              refine sl_alloc Try.zeroValue25 hS hK (by decide) rfl rfl fun a w b_211 hS hK => ?_
              refine sl_storeA (vs := [v_204, v_208]) (c' := [v_204, v_208]) Try.sizeOf25 hS hK rfl rfl rfl rfl (all_cons (hS.row_one (.tail _ (.head _))) (all_cons (hS.row_one (.tail _ (.tail _ (.head _)))) (all_nil))) (Nat.le_of_ble_eq_true rfl) rfl fun a w hS hK => ?_
              refine wpList_nil ?_
              refine wp_seq ?_
              refine wp_seq ?_
              refine wp_region_lit ?_
              refine sl hK (by decide) rfl rfl (r_move hK rfl) fun a hK => ?_
              refine sl hK (by decide) rfl rfl (r_fieldAddr Try.underlying25 rfl Try.sizeOf23 hK rfl) fun a hK => ?_
              refine sl hK (by decide) rfl rfl (r_load Try.isAgg23 hK rfl (hS.cell (.tail _ (.tail _ (.tail _ (.head _)))) rfl)) fun a hK => ?_
              refine sl hK (by decide) rfl rfl (r_len_R Try.underlying23 hs_11 hK rfl) fun a hK => ?_
              refine sl hK (by decide) rfl rfl (r_ibin hK rfl rfl rfl) fun a hK => ?_
              refine wpList_nil ?_
              refine wp_cond_split (hK.ev rfl) (fun (hb_212 : (decide (a1 ≥ (y_4.Rows.length : Int))) = true) => ?_) (fun (hb_212 : (decide (a1 ≥ (y_4.Rows.length : Int))) = false) => ?_)
              · rw [ifb_t hb_212] at H
                refine wp_seq ?_
                refine wp_region_lit ?_
                refine sl hK (by decide) rfl rfl (r_loadA (cs := [v_118, v_123]) Try.isAgg25 Try.sizeOf25 rfl hK rfl (hS.cells_of (m := 2) (.tail _ (.tail _ (.tail _ (.tail _ (.tail _ (.tail _ (.head _))))))) rfl)) fun a hK => ?_
                refine sl hK (by decide) rfl rfl (r_loadA (cs := [v_204, v_208]) Try.isAgg25 Try.sizeOf25 rfl hK rfl (hS.cells_of (m := 2) (.head _) rfl)) fun a hK => ?_
                obtain ⟨y_213, h_214, H⟩ := bind_some H
                refine sl_callV Try.call14 hS hK (by decide) rfl rfl rfl (ref02_Same.calls (⟨x_117, x_122⟩ : api_Table) y_199 (lentOf_sub [] _) (hS.lend_row0 (.tail _ (.tail _ (.tail _ (.tail _ (.head _))))) (hq_120.mono hl_202.le) rfl rfl) (hS.lend_row0 (.tail _ (.tail _ (.tail _ (.tail _ (.tail _ (.head _)))))) (hq_125.mono hl_202.le) rfl rfl) (hS.lend_row0 (.tail _ (.head _)) hq_206 rfl rfl) (hS.lend_row0 (.tail _ (.tail _ (.head _))) hq_210 rfl rfl) h_214) fun a w hS hK => ?_
                refine sl hK (by decide) rfl rfl (r_assign hK rfl) fun a hK => ?_
                refine wpList_nil ?_
                refine wp_seq ?_
                refine wp_mid (fun a w => ∃ (x_217 : Bool), law16_RowopsWhole.j3 x_217 = some true ∧ Kn 146 a [(6, .bool x_217)] ∧ St [] w0 w R_201 []) ?_ ?_
                · refine wp_region_lit ?_
                  refine sl hK (by decide) rfl rfl (r_move hK rfl) fun a hK => ?_
                  refine sl hK (by decide) rfl rfl (r_move hK rfl) fun a hK => ?_
                  rcases or_b y_2 with hb_219 | hb_219
                  · rw [ifb_t hb_219] at H
                    refine sl hK (by decide) (wtt hb_219) rfl (r_move hK rfl) fun a hK => ?_
                    refine sl hK (by decide) (wtt hb_219) rfl (r_ibin hK rfl rfl rfl) fun a hK => ?_
                    refine sl hK (by decide) rfl rfl (r_pick_t hb_219 hK rfl rfl) fun a hK => ?_
                    refine sl hK (by decide) rfl rfl (r_move hK rfl) fun a hK => ?_
                    rcases or_b (x_126 == 0) with hb_220 | hb_220
                    · rw [ifb_t hb_220] at H
                      refine sl hK (by decide) (wtt hb_220) rfl (r_move hK rfl) fun a hK => ?_
                      refine sl hK (by decide) rfl rfl (r_pick_t hb_220 hK rfl rfl) fun a hK => ?_
                      refine sl hK (by decide) rfl rfl (r_assign hK rfl) fun a hK => ?_
                      refine wpList_nil ?_
                      exact ⟨y_213, H, hK.sub (all_cons rfl (all_nil)), hS.trunc 0⟩
                    · rw [ifb_f hb_220] at H
                      refine sl_skip hK (by decide) (wtf hb_220) rfl fun a hK => ?_
                      refine sl hK (by decide) rfl rfl (r_pick_f hb_220 hK rfl rfl) fun a hK => ?_
                      refine sl hK (by decide) rfl rfl (r_assign hK rfl) fun a hK => ?_
                      refine wpList_nil ?_
                      exact ⟨false, H, hK.sub (all_cons rfl (all_nil)), hS.trunc 0⟩
                  · rw [ifb_f hb_219] at H
                    refine sl_skip hK (by decide) (wtf hb_219) rfl fun a hK => ?_
                    refine sl_skip hK (by decide) (wtf hb_219) rfl fun a hK => ?_
                    refine sl hK (by decide) rfl rfl (r_pick_f hb_219 hK rfl rfl) fun a hK => ?_
                    refine sl hK (by decide) rfl rfl (r_move hK rfl) fun a hK => ?_
                    refine sl_skip hK (by decide) rfl rfl fun a hK => ?_
                    refine sl hK (by decide) rfl rfl (r_pick hK rfl rfl rfl) fun a hK => ?_
                    refine sl hK (by decide) rfl rfl (r_assign hK rfl) fun a hK => ?_
                    refine wpList_nil ?_
                    exact ⟨false, H, hK.sub (all_cons rfl (all_nil)), hS.trunc 0⟩
                · rintro a w ⟨x_217, H, hK, hS⟩
                  unfold law16_RowopsWhole.j3 at H
                  have hr_ := Option.some.inj H
                  refine wp_ret ?_
                  repeat (first | refine ret_then ?_ | refine ret_block ?_ | refine ret_scope ?_)
                  exact ret_1 Try.results6 hK (rv_tmp hK rfl) ⟨congrArg (fun b => Ending.returned (Value.bool b)) hr_, hS.bel⟩
              · rw [ifb_f hb_212] at H
                refine wp_skip ?_
                refine wp_seq ?_
                refine wp_seq ?_
                refine wp_mid (fun a w => ∃ (x_222 : Bool), law16_RowopsWhole.j4 a1 y_2 y_4 x_16 x_122 y_199 x_222 = some true ∧ Kn 146 a [(1, .int .i64 a1), (7, .bool y_2), (8, .int .i64 (x_16.tmod (y_4.Cols.length : Int))), (9, .pointer (some ⟨b_115, 0, none⟩)), (11, .pointer (some ⟨b_211, 0, none⟩)), (88, .bool x_222)] ∧ St [] w0 w R_201 [.row 38 2 v_118 x_117.length cs_119, .row 44 1 v_123 x_122.length cs_124, .cells b_115 [v_118, v_123] 25, .row 38 2 v_204 y_199.Cols.length cs_205, .row 44 1 v_208 y_199.Rows.length cs_209, .cells b_211 [v_204, v_208] 25]) ?_ ?_
                · refine wp_region_lit ?_
                  refine sl hK (by decide) rfl rfl (r_move hK rfl) fun a hK => ?_
                  refine sl hK (by decide) rfl rfl (r_ibin hK rfl rfl rfl) fun a hK => ?_
                  refine sl hK (by decide) rfl rfl (r_move hK rfl) fun a hK => ?_
                  rcases or_b (x_126 != 0) with hb_224 | hb_224
                  · rw [ifb_t hb_224] at H
                    refine sl_skip hK (by decide) (wft hb_224) rfl fun a hK => ?_
                    refine sl_skip hK (by decide) (wft hb_224) rfl fun a hK => ?_
                    refine sl_skip hK (by decide) (wft hb_224) rfl fun a hK => ?_
                    refine sl_skip hK (by decide) (wft hb_224) rfl fun a hK => ?_
                    refine sl_skip hK (by decide) (wft hb_224) rfl fun a hK => ?_
                    refine sl hK (by decide) rfl rfl (r_pick_t hb_224 hK rfl rfl) fun a hK => ?_
                    refine wpList_nil ?_
                    have hS := hS.pk2
                    have hS := hS.pk2
                    have hS := hS.pk6
                    have hS := hS.pk6
                    have hS := hS.pk6
                    exact ⟨true, H, hK.sub (all_cons rfl (all_cons rfl (all_cons rfl (all_cons rfl (all_cons rfl (all_cons rfl (all_nil))))))), hS.trunc 6⟩
                  · rw [ifb_f hb_224] at H
                    refine sl hK (by decide) (wff hb_224) rfl (r_fieldAddr Try.underlying25 rfl Try.sizeOf23 hK rfl) fun a hK => ?_
                    refine sl hK (by decide) (wff hb_224) rfl (r_load Try.isAgg23 hK rfl (hS.cell (.tail _ (.tail _ (.tail _ (.tail _ (.tail _ (.tail _ (.head _))))))) rfl)) fun a hK => ?_
                    refine sl hK (by decide) (wff hb_224) rfl (r_len_O Try.underlying23 hS (.tail _ (.tail _ (.tail _ (.tail _ (.tail _ (.head _)))))) hK rfl) fun a hK => ?_
                    refine sl hK (by decide) (wff hb_224) rfl (r_move hK rfl) fun a hK => ?_
                    refine sl hK (by decide) (wff hb_224) rfl (r_ibin hK rfl rfl rfl) fun a hK => ?_
                    refine sl hK (by decide) rfl rfl (r_pick_f hb_224 hK rfl rfl) fun a hK => ?_
                    refine wpList_nil ?_
                    have hS := hS.pk2
                    have hS := hS.pk2
                    have hS := hS.pk6
                    have hS := hS.pk6
                    have hS := hS.pk6
                    exact ⟨((x_122.length : Int) != a1), H, hK.sub (all_cons rfl (all_cons rfl (all_cons rfl (all_cons rfl (all_cons rfl (all_cons rfl (all_nil))))))), hS.trunc 6⟩
                · rintro a w ⟨x_222, H, hK, hS⟩
                  unfold law16_RowopsWhole.j4 at H
                  refine wp_cond_split (hK.ev rfl) (fun (hb_225 : x_222 = true) => ?_) (fun (hb_225 : x_222 = false) => ?_)
                  · rw [ifb_t hb_225] at H
                    refine wp_seq ?_
                    refine wp_region_lit ?_
                    refine sl hK (by decide) rfl rfl (r_assign hK rfl) fun a hK => ?_
                    refine wpList_nil ?_
                    exact absurd (Option.some.inj H) (by decide)
                  · rw [ifb_f hb_225] at H
                    refine wp_skip ?_
                    refine wp_seq ?_
                    refine wp_region_lit ?_
                    refine sl hK (by decide) rfl rfl (r_fieldAddr Try.underlying25 rfl Try.sizeOf23 hK rfl) fun a hK => ?_
                    refine sl hK (by decide) rfl rfl (r_load Try.isAgg23 hK rfl (hS.cell (.tail _ (.tail _ (.head _))) rfl)) fun a hK => ?_
                    obtain ⟨y_226, h_227, H⟩ := bind_some H
                    obtain ⟨b_229, c_230, cs_231, hv_228, hr_232, hc_233, h_2270, h_2271⟩ := hS.row_ix (.tail _ (.head _)) (hq_125.mono hl_202.le) rfl rfl h_227
                    obtain ⟨v_234, rfl, hs_235⟩ := hr_232
                    refine sl hK (by decide) rfl rfl (r_indexAddr_R Try.underlying23 Try.sizeOf44 hv_228 h_2270 h_2271 hK rfl rfl) fun a hK => ?_
                    refine sl hK (by decide) rfl rfl (r_load Try.isAgg44 hK rfl (hS.row_cell (.tail _ (.head _)) hv_228 (hc_233 0 _ rfl))) fun a hK => ?_
                    refine sl hK (by decide) rfl rfl (r_move hK rfl) fun a hK => ?_
                    obtain ⟨y_236, h_237, H⟩ := bind_some H
                    obtain ⟨b_238, o_239, c_240, cs_241, hv_242, hr_243, hc_244, h_2370, h_2371⟩ := hs_235.ix h_237
                    subst hr_243
                    refine sl hK (by decide) rfl rfl (r_indexAddr_R Try.underlying44 Try.sizeOf43 hv_242 h_2370 h_2371 hK rfl rfl) fun a hK => ?_
                    refine sl hK (by decide) rfl rfl (r_loadA (cs := [.int .i64 y_236.Kind, .int .i64 y_236.N, .string y_236.S, .int .i64 y_236.H.a0, .int .i64 y_236.H.a1, .int .i64 y_236.H.a2, .int .i64 y_236.H.a3, .int .i64 y_236.H.a4, .int .i64 y_236.H.a5, .int .i64 y_236.H.a6, .int .i64 y_236.H.a7]) Try.isAgg43 Try.sizeOf43 rfl hK rfl (fun j v hv => hS.sub.cell (hc_244 j v hv))) fun a hK => ?_
                    refine sl_alloc Try.zeroValue43 hS hK (by decide) rfl rfl fun a w b_245 hS hK => ?_
                    refine sl_storeA (vs := [.int .i64 y_236.Kind, .int .i64 y_236.N, .string y_236.S, .int .i64 y_236.H.a0, .int .i64 y_236.H.a1, .int .i64 y_236.H.a2, .int .i64 y_236.H.a3, .int .i64 y_236.H.a4, .int .i64 y_236.H.a5, .int .i64 y_236.H.a6, .int .i64 y_236.H.a7]) (c' := [.int .i64 y_236.Kind, .int .i64 y_236.N, .string y_236.S, .int .i64 y_236.H.a0, .int .i64 y_236.H.a1, .int .i64 y_236.H.a2, .int .i64 y_236.H.a3, .int .i64 y_236.H.a4, .int .i64 y_236.H.a5, .int .i64 y_236.H.a6, .int .i64 y_236.H.a7]) Try.sizeOf43 hS hK rfl rfl rfl rfl (all_cons rfl (all_cons rfl (all_cons rfl (all_cons rfl (all_cons rfl (all_cons rfl (all_cons rfl (all_cons rfl (all_cons rfl (all_cons rfl (all_cons rfl (all_nil)))))))))))) (Nat.le_of_ble_eq_true rfl) rfl fun a w hS hK => ?_
                    refine wpList_nil ?_
                    refine wp_seq ?_
                    refine wp_seq ?_
                    refine wp_region_lit ?_
                    refine sl hK (by decide) rfl rfl (r_assign hK rfl) fun a hK => ?_
                    refine wpList_nil ?_
                    refine wp_block ?_
                    refine wp_loop_k (fun k_l5 a w => ∃ (x_335 : Int) (x_336 : Int) (x_337 : ByteArray) (x_338 : Arr8) (x_339 : Int), law16_RowopsWhole.l5 a1 y_2 y_4 x_16 x_122 y_199 k_l5 x_335 x_336 x_337 x_338 x_339 = some true ∧ Kn 146 a [(1, .int .i64 a1), (7, .bool y_2), (8, .int .i64 (x_16.tmod (y_4.Cols.length : Int))), (9, .pointer (some ⟨b_115, 0, none⟩)), (11, .pointer (some ⟨b_211, 0, none⟩)), (13, .pointer (some ⟨b_245, 0, none⟩)), (14, .int .i64 x_339)] ∧ St [] w0 w R_201 [.row 38 2 v_118 x_117.length cs_119, .row 44 1 v_123 x_122.length cs_124, .cells b_115 [v_118, v_123] 25, .row 38 2 v_204 y_199.Cols.length cs_205, .row 44 1 v_208 y_199.Rows.length cs_209, .cells b_211 [v_204, v_208] 25, .cells b_245 [.int .i64 x_335, .int .i64 x_336, .string x_337, .int .i64 x_338.a0, .int .i64 x_338.a1, .int .i64 x_338.a2, .int .i64 x_338.a3, .int .i64 x_338.a4, .int .i64 x_338.a5, .int .i64 x_338.a6, .int .i64 x_338.a7] 43]) ((a1 - 0).toNat + 1) ?_ ?_
                    · have hS := hS.pk6
                      have hS := hS.pk6
                      have hS := hS.pk6
                      have hS := hS.pk6
                      have hS := hS.pk6
                      have hS := hS.pk6
                      exact ⟨y_236.Kind, y_236.N, y_236.S, y_236.H, 0, H, hK.sub (all_cons rfl (all_cons rfl (all_cons rfl (all_cons rfl (all_cons rfl (all_cons rfl (all_cons rfl (all_nil)))))))), hS⟩
                    · rintro k_l5 a w ⟨x_335, x_336, x_337, x_338, x_339, H, hK, hS⟩
                      cases k_l5 with
                      | zero => cases H
                      | succ k_l5 =>
                      rw [law16_RowopsWhole.l5.eq_2] at H
                      refine wp_seq ?_
                      refine wp_seq ?_
                      refine wp_region_lit ?_
                      refine sl hK (by decide) rfl rfl (r_move hK rfl) fun a hK => ?_
                      refine sl hK (by decide) rfl rfl (r_move hK rfl) fun a hK => ?_
                      refine sl hK (by decide) rfl rfl (r_ibin hK rfl rfl rfl) fun a hK => ?_
                      refine wpList_nil ?_
                      refine wp_cond_split (hK.ev rfl) (fun (hb_429 : (decide (x_339 < a1)) = true) => ?_) (fun (hb_429 : (decide (x_339 < a1)) = false) => ?_)
                      · rw [ifb_t hb_429] at H
                        refine wp_skip ?_
                        refine wp_seq ?_
                        refine wp_block ?_
                        refine wp_seq ?_
                        refine parT_region (C := fun w => St [] w0 w R_201 [.row 38 2 v_118 x_117.length cs_119, .row 44 1 v_123 x_122.length cs_124, .cells b_115 [v_118, v_123] 25, .row 38 2 v_204 y_199.Cols.length cs_205, .row 44 1 v_208 y_199.Rows.length cs_209, .cells b_211 [v_204, v_208] 25, .cells b_245 [.int .i64 x_335, .int .i64 x_336, .string x_337, .int .i64 x_338.a0, .int .i64 x_338.a1, .int .i64 x_338.a2, .int .i64 x_338.a3, .int .i64 x_338.a4, .int .i64 x_338.a5, .int .i64 x_338.a6, .int .i64 x_338.a7] 43]) 9 [(0, true), (1, true), (2, true), (3, true), (4, true), (5, true), (6, true), (7, true), (8, true)] mixed (by kernel_rfl) hS (fun w hS => hS) fun w hS => ?_
                        refine sp (k := 0) rfl hK (by decide) rfl rfl (fun w hS => r_fieldAddr Try.underlying25 rfl Try.sizeOf23 hK rfl) fun a hK => ?_
                        refine sp (k := 1) rfl hK (by decide) rfl rfl (fun w hS => r_load Try.isAgg23 hK rfl (hS.cell (.tail _ (.tail _ (.head _))) rfl)) fun a hK => ?_
                        refine sp (k := 2) rfl hK (by decide) rfl rfl (fun w hS => r_move hK rfl) fun a hK => ?_
                        obtain ⟨y_451, h_452, H⟩ := bind_some H
                        obtain ⟨b_454, c_455, cs_456, hv_453, hr_457, hc_458, h_4520, h_4521⟩ := hS.row_ix (.tail _ (.head _)) (hq_125.mono hl_202.le) rfl rfl h_452
                        obtain ⟨v_459, rfl, hs_460⟩ := hr_457
                        refine sp (k := 3) rfl hK (by decide) rfl rfl (fun w hS => r_indexAddr_R Try.underlying23 Try.sizeOf44 hv_453 h_4520 h_4521 hK rfl rfl) fun a hK => ?_
                        refine sp (k := 4) rfl hK (by decide) rfl rfl (fun w hS => r_load Try.isAgg44 hK rfl (hS.row_cell (.tail _ (.head _)) hv_453 (hc_458 0 _ rfl))) fun a hK => ?_
                        refine sp (k := 5) rfl hK (by decide) rfl rfl (fun w hS => r_move hK rfl) fun a hK => ?_
                        obtain ⟨y_461, h_462, H⟩ := bind_some H
                        obtain ⟨b_463, o_464, c_465, cs_466, hv_467, hr_468, hc_469, h_4620, h_4621⟩ := hs_460.ix h_462
                        subst hr_468
                        refine sp (k := 6) rfl hK (by decide) rfl rfl (fun w hS => r_indexAddr_R Try.underlying44 Try.sizeOf43 hv_467 h_4620 h_4621 hK rfl rfl) fun a hK => ?_
                        refine sp (k := 7) rfl hK (by decide) rfl rfl (fun w hS => r_loadA (cs := [.int .i64 y_461.Kind, .int .i64 y_461.N, .string y_461.S, .int .i64 y_461.H.a0, .int .i64 y_461.H.a1, .int .i64 y_461.H.a2, .int .i64 y_461.H.a3, .int .i64 y_461.H.a4, .int .i64 y_461.H.a5, .int .i64 y_461.H.a6, .int .i64 y_461.H.a7]) Try.isAgg43 Try.sizeOf43 rfl hK rfl (fun j v hv => hS.sub.cell (hc_469 j v hv))) fun a hK => ?_
                        refine sp (k := 8) rfl hK (by decide) rfl rfl (fun w hS => r_loadA (cs := [.int .i64 x_335, .int .i64 x_336, .string x_337, .int .i64 x_338.a0, .int .i64 x_338.a1, .int .i64 x_338.a2, .int .i64 x_338.a3, .int .i64 x_338.a4, .int .i64 x_338.a5, .int .i64 x_338.a6, .int .i64 x_338.a7]) Try.isAgg43 Try.sizeOf43 rfl hK rfl (hS.cells_of (m := 11) (.tail _ (.tail _ (.tail _ (.tail _ (.tail _ (.tail _ (.head _))))))) rfl)) fun a hK => ?_
                        refine thenL_nil ?_
                        obtain ⟨y_470, h_471, H⟩ := bind_some H
                        refine sl_callV Try.call19 hS hK (by decide) rfl rfl rfl (ref01_Compare.calls y_461 (⟨x_335, x_336, x_337, x_338⟩ : api_Value) h_471 _) fun a w hS hK => ?_
                        refine sl hK (by decide) rfl rfl (r_ibin hK rfl rfl rfl) fun a hK => ?_
                        refine wpList_nil (NoP_nil ?_)
                        refine wp_mid (fun a w => ∃ (x_492 : Int) (x_493 : Int) (x_494 : ByteArray) (x_495 : Arr8), law16_RowopsWhole.j6 (law16_RowopsWhole.l5 a1 y_2 y_4 x_16 x_122 y_199 k_l5) a1 x_339 x_492 x_493 x_494 x_495 = some true ∧ Kn 146 a [(1, .int .i64 a1), (7, .bool y_2), (8, .int .i64 (x_16.tmod (y_4.Cols.length : Int))), (9, .pointer (some ⟨b_115, 0, none⟩)), (11, .pointer (some ⟨b_211, 0, none⟩)), (13, .pointer (some ⟨b_245, 0, none⟩)), (14, .int .i64 x_339)] ∧ St [] w0 w R_201 [.row 38 2 v_118 x_117.length cs_119, .row 44 1 v_123 x_122.length cs_124, .cells b_115 [v_118, v_123] 25, .row 38 2 v_204 y_199.Cols.length cs_205, .row 44 1 v_208 y_199.Rows.length cs_209, .cells b_211 [v_204, v_208] 25, .cells b_245 [.int .i64 x_492, .int .i64 x_493, .string x_494, .int .i64 x_495.a0, .int .i64 x_495.a1, .int .i64 x_495.a2, .int .i64 x_495.a3, .int .i64 x_495.a4, .int .i64 x_495.a5, .int .i64 x_495.a6, .int .i64 x_495.a7] 43]) ?_ ?_
                        · refine wp_cond_split (hK.ev rfl) (fun (hb_497 : (decide (y_470 < 0)) = true) => ?_) (fun (hb_497 : (decide (y_470 < 0)) = false) => ?_)
                          · rw [ifb_t hb_497] at H
                            refine wp_region_lit ?_
                            refine sl hK (by decide) rfl rfl (r_fieldAddr Try.underlying25 rfl Try.sizeOf23 hK rfl) fun a hK => ?_
                            refine sl hK (by decide) rfl rfl (r_load Try.isAgg23 hK rfl (hS.cell (.tail _ (.tail _ (.head _))) rfl)) fun a hK => ?_
                            refine sl hK (by decide) rfl rfl (r_move hK rfl) fun a hK => ?_
                            obtain ⟨y_498, h_499, H⟩ := bind_some H
                            obtain ⟨b_501, c_502, cs_503, hv_500, hr_504, hc_505, h_4990, h_4991⟩ := hS.row_ix (.tail _ (.head _)) (hq_125.mono hl_202.le) rfl rfl h_499
                            obtain ⟨v_506, rfl, hs_507⟩ := hr_504
                            refine sl hK (by decide) rfl rfl (r_indexAddr_R Try.underlying23 Try.sizeOf44 hv_500 h_4990 h_4991 hK rfl rfl) fun a hK => ?_
                            refine sl hK (by decide) rfl rfl (r_load Try.isAgg44 hK rfl (hS.row_cell (.tail _ (.head _)) hv_500 (hc_505 0 _ rfl))) fun a hK => ?_
                            refine sl hK (by decide) rfl rfl (r_move hK rfl) fun a hK => ?_
                            obtain ⟨y_508, h_509, H⟩ := bind_some H
                            obtain ⟨b_510, o_511, c_512, cs_513, hv_514, hr_515, hc_516, h_5090, h_5091⟩ := hs_507.ix h_509
                            subst hr_515
                            refine sl hK (by decide) rfl rfl (r_indexAddr_R Try.underlying44 Try.sizeOf43 hv_514 h_5090 h_5091 hK rfl rfl) fun a hK => ?_
                            refine sl hK (by decide) rfl rfl (r_loadA (cs := [.int .i64 y_508.Kind, .int .i64 y_508.N, .string y_508.S, .int .i64 y_508.H.a0, .int .i64 y_508.H.a1, .int .i64 y_508.H.a2, .int .i64 y_508.H.a3, .int .i64 y_508.H.a4, .int .i64 y_508.H.a5, .int .i64 y_508.H.a6, .int .i64 y_508.H.a7]) Try.isAgg43 Try.sizeOf43 rfl hK rfl (fun j v hv => hS.sub.cell (hc_516 j v hv))) fun a hK => ?_
                            have hS := hS.pk6
                            refine sl_storeA (vs := [.int .i64 y_508.Kind, .int .i64 y_508.N, .string y_508.S, .int .i64 y_508.H.a0, .int .i64 y_508.H.a1, .int .i64 y_508.H.a2, .int .i64 y_508.H.a3, .int .i64 y_508.H.a4, .int .i64 y_508.H.a5, .int .i64 y_508.H.a6, .int .i64 y_508.H.a7]) (c' := [.int .i64 y_508.Kind, .int .i64 y_508.N, .string y_508.S, .int .i64 y_508.H.a0, .int .i64 y_508.H.a1, .int .i64 y_508.H.a2, .int .i64 y_508.H.a3, .int .i64 y_508.H.a4, .int .i64 y_508.H.a5, .int .i64 y_508.H.a6, .int .i64 y_508.H.a7]) Try.sizeOf43 hS hK rfl rfl rfl rfl (all_cons rfl (all_cons rfl (all_cons rfl (all_cons rfl (all_cons rfl (all_cons rfl (all_cons rfl (all_cons rfl (all_cons rfl (all_cons rfl (all_cons rfl (all_nil)))))))))))) (Nat.le_of_ble_eq_true rfl) rfl fun a w hS hK => ?_
                            refine wpList_nil ?_
                            have hS := hS.pk6
                            have hS := hS.pk6
                            have hS := hS.pk6
                            have hS := hS.pk6
                            have hS := hS.pk6
                            have hS := hS.pk6
                            exact ⟨y_508.Kind, y_508.N, y_508.S, y_508.H, H, hK.sub (all_cons rfl (all_cons rfl (all_cons rfl (all_cons rfl (all_cons rfl (all_cons rfl (all_cons rfl (all_nil)))))))), hS⟩
                          · rw [ifb_f hb_497] at H
                            refine wp_skip ?_
                            have hS := hS.pk6
                            have hS := hS.pk6
                            have hS := hS.pk6
                            have hS := hS.pk6
                            have hS := hS.pk6
                            have hS := hS.pk6
                            have hS := hS.pk6
                            exact ⟨x_335, x_336, x_337, x_338, H, hK.sub (all_cons rfl (all_cons rfl (all_cons rfl (all_cons rfl (all_cons rfl (all_cons rfl (all_cons rfl (all_nil)))))))), hS⟩
                        · rintro a w ⟨x_492, x_493, x_494, x_495, H, hK, hS⟩
                          unfold law16_RowopsWhole.j6 at H
                          refine wp_region_lit ?_
                          refine sl hK (by decide) rfl rfl (r_move hK rfl) fun a hK => ?_
                          refine sl hK (by decide) rfl rfl (r_ibin hK rfl rfl rfl) fun a hK => ?_
                          refine sl hK (by decide) rfl rfl (r_assign hK rfl) fun a hK => ?_
                          refine wpList_nil ?_
                          have hS := hS.pk6
                          have hS := hS.pk6
                          have hS := hS.pk6
                          have hS := hS.pk6
                          have hS := hS.pk6
                          have hS := hS.pk6
                          have hS := hS.pk6
                          exact ⟨_, Nat.lt_succ_self _, x_492, x_493, x_494, x_495, (IntKind.i64.wrap (x_339 + 1)), H, hK.sub (all_cons rfl (all_cons rfl (all_cons rfl (all_cons rfl (all_cons rfl (all_cons rfl (all_cons rfl (all_nil)))))))), hS⟩
                      · rw [ifb_f hb_429] at H
                        refine wp_exit ?_
                        refine wp_seq ?_
                        refine wp_region_lit ?_
                        refine sl hK (by decide) rfl rfl (r_assign hK rfl) fun a hK => ?_
                        refine wpList_nil ?_
                        refine wp_seq ?_
                        refine wp_seq ?_
                        refine wp_region_lit ?_
                        refine sl hK (by decide) rfl rfl (r_assign hK rfl) fun a hK => ?_
                        refine wpList_nil ?_
                        refine wp_block ?_
                        refine wp_loop_k (fun k_l7 a w => ∃ (x_565 : Int) (x_566 : Int), law16_RowopsWhole.l7 a1 y_2 y_4 x_16 y_199 x_335 x_336 x_337 x_338 k_l7 x_565 x_566 = some true ∧ Kn 146 a [(1, .int .i64 a1), (7, .bool y_2), (8, .int .i64 (x_16.tmod (y_4.Cols.length : Int))), (11, .pointer (some ⟨b_211, 0, none⟩)), (13, .pointer (some ⟨b_245, 0, none⟩)), (15, .int .i64 x_565), (16, .int .i64 x_566)] ∧ St [] w0 w R_201 [.row 38 2 v_204 y_199.Cols.length cs_205, .row 44 1 v_208 y_199.Rows.length cs_209, .cells b_211 [v_204, v_208] 25, .cells b_245 [.int .i64 x_335, .int .i64 x_336, .string x_337, .int .i64 x_338.a0, .int .i64 x_338.a1, .int .i64 x_338.a2, .int .i64 x_338.a3, .int .i64 x_338.a4, .int .i64 x_338.a5, .int .i64 x_338.a6, .int .i64 x_338.a7] 43]) (((y_199.Rows.length : Int) - 0).toNat + 1) ?_ ?_
                        · have hS := hS.pk6
                          have hS := hS.pk6
                          have hS := hS.pk6
                          have hS := hS.pk6
                          exact ⟨0, 0, H, hK.sub (all_cons rfl (all_cons rfl (all_cons rfl (all_cons rfl (all_cons rfl (all_cons rfl (all_cons rfl (all_nil)))))))), hS.trunc 4⟩
                        · rintro k_l7 a w ⟨x_565, x_566, H, hK, hS⟩
                          cases k_l7 with
                          | zero => cases H
                          | succ k_l7 =>
                          rw [law16_RowopsWhole.l7.eq_2] at H
                          refine wp_seq ?_
                          refine wp_seq ?_
                          refine wp_region_lit ?_
                          refine sl hK (by decide) rfl rfl (r_move hK rfl) fun a hK => ?_
                          refine sl hK (by decide) rfl rfl (r_fieldAddr Try.underlying25 rfl Try.sizeOf23 hK rfl) fun a hK => ?_
                          refine sl hK (by decide) rfl rfl (r_load Try.isAgg23 hK rfl (hS.cell (.tail _ (.tail _ (.head _))) rfl)) fun a hK => ?_
                          refine sl hK (by decide) rfl rfl (r_len_O Try.underlying23 hS (.tail _ (.head _)) hK rfl) fun a hK => ?_
                          refine sl hK (by decide) rfl rfl (r_ibin hK rfl rfl rfl) fun a hK => ?_
                          refine wpList_nil ?_
                          refine wp_cond_split (hK.ev rfl) (fun (hb_615 : (decide (x_566 < (y_199.Rows.length : Int))) = true) => ?_) (fun (hb_615 : (decide (x_566 < (y_199.Rows.length : Int))) = false) => ?_)
                          · rw [ifb_t hb_615] at H
                            refine wp_skip ?_
                            refine wp_seq ?_
                            refine wp_block ?_
                            refine wp_seq ?_
                            refine parT_region (C := fun w => St [] w0 w R_201 [.row 38 2 v_204 y_199.Cols.length cs_205, .row 44 1 v_208 y_199.Rows.length cs_209, .cells b_211 [v_204, v_208] 25, .cells b_245 [.int .i64 x_335, .int .i64 x_336, .string x_337, .int .i64 x_338.a0, .int .i64 x_338.a1, .int .i64 x_338.a2, .int .i64 x_338.a3, .int .i64 x_338.a4, .int .i64 x_338.a5, .int .i64 x_338.a6, .int .i64 x_338.a7] 43]) 9 [(0, true), (1, true), (2, true), (3, true), (4, true), (5, true), (6, true), (7, true), (8, true)] mixed (by kernel_rfl) hS (fun w hS => hS) fun w hS => ?_
                            refine sp (k := 0) rfl hK (by decide) rfl rfl (fun w hS => r_fieldAddr Try.underlying25 rfl Try.sizeOf23 hK rfl) fun a hK => ?_
                            refine sp (k := 1) rfl hK (by decide) rfl rfl (fun w hS => r_load Try.isAgg23 hK rfl (hS.cell (.tail _ (.tail _ (.head _))) rfl)) fun a hK => ?_
                            refine sp (k := 2) rfl hK (by decide) rfl rfl (fun w hS => r_move hK rfl) fun a hK => ?_
                            obtain ⟨y_637, h_638, H⟩ := bind_some H
                            obtain ⟨b_640, c_641, cs_642, hv_639, hr_643, hc_644, h_6380, h_6381⟩ := hS.row_ix (.tail _ (.head _)) hq_210 rfl rfl h_638
                            obtain ⟨v_645, rfl, hs_646⟩ := hr_643
                            refine sp (k := 3) rfl hK (by decide) rfl rfl (fun w hS => r_indexAddr_R Try.underlying23 Try.sizeOf44 hv_639 h_6380 h_6381 hK rfl rfl) fun a hK => ?_
                            refine sp (k := 4) rfl hK (by decide) rfl rfl (fun w hS => r_load Try.isAgg44 hK rfl (hS.row_cell (.tail _ (.head _)) hv_639 (hc_644 0 _ rfl))) fun a hK => ?_
                            refine sp (k := 5) rfl hK (by decide) rfl rfl (fun w hS => r_move hK rfl) fun a hK => ?_
                            obtain ⟨y_647, h_648, H⟩ := bind_some H
                            obtain ⟨b_649, o_650, c_651, cs_652, hv_653, hr_654, hc_655, h_6480, h_6481⟩ := hs_646.ix h_648
                            subst hr_654
                            refine sp (k := 6) rfl hK (by decide) rfl rfl (fun w hS => r_indexAddr_R Try.underlying44 Try.sizeOf43 hv_653 h_6480 h_6481 hK rfl rfl) fun a hK => ?_
                            refine sp (k := 7) rfl hK (by decide) rfl rfl (fun w hS => r_loadA (cs := [.int .i64 y_647.Kind, .int .i64 y_647.N, .string y_647.S, .int .i64 y_647.H.a0, .int .i64 y_647.H.a1, .int .i64 y_647.H.a2, .int .i64 y_647.H.a3, .int .i64 y_647.H.a4, .int .i64 y_647.H.a5, .int .i64 y_647.H.a6, .int .i64 y_647.H.a7]) Try.isAgg43 Try.sizeOf43 rfl hK rfl (fun j v hv => hS.sub.cell (hc_655 j v hv))) fun a hK => ?_
                            refine sp (k := 8) rfl hK (by decide) rfl rfl (fun w hS => r_loadA (cs := [.int .i64 x_335, .int .i64 x_336, .string x_337, .int .i64 x_338.a0, .int .i64 x_338.a1, .int .i64 x_338.a2, .int .i64 x_338.a3, .int .i64 x_338.a4, .int .i64 x_338.a5, .int .i64 x_338.a6, .int .i64 x_338.a7]) Try.isAgg43 Try.sizeOf43 rfl hK rfl (hS.cells_of (m := 11) (.tail _ (.tail _ (.tail _ (.head _)))) rfl)) fun a hK => ?_
                            refine thenL_nil ?_
                            obtain ⟨y_656, h_657, H⟩ := bind_some H
                            refine sl_callV Try.call19 hS hK (by decide) rfl rfl rfl (ref01_Compare.calls y_647 (⟨x_335, x_336, x_337, x_338⟩ : api_Value) h_657 _) fun a w hS hK => ?_
                            refine sl hK (by decide) rfl rfl (r_ibin hK rfl rfl rfl) fun a hK => ?_
                            refine wpList_nil (NoP_nil ?_)
                            refine wp_mid (fun a w => ∃ (x_659 : Int), law16_RowopsWhole.j8 (law16_RowopsWhole.l7 a1 y_2 y_4 x_16 y_199 x_335 x_336 x_337 x_338 k_l7) y_199 x_566 x_659 = some true ∧ Kn 146 a [(1, .int .i64 a1), (7, .bool y_2), (8, .int .i64 (x_16.tmod (y_4.Cols.length : Int))), (11, .pointer (some ⟨b_211, 0, none⟩)), (13, .pointer (some ⟨b_245, 0, none⟩)), (15, .int .i64 x_659), (16, .int .i64 x_566)] ∧ St [] w0 w R_201 [.row 38 2 v_204 y_199.Cols.length cs_205, .row 44 1 v_208 y_199.Rows.length cs_209, .cells b_211 [v_204, v_208] 25, .cells b_245 [.int .i64 x_335, .int .i64 x_336, .string x_337, .int .i64 x_338.a0, .int .i64 x_338.a1, .int .i64 x_338.a2, .int .i64 x_338.a3, .int .i64 x_338.a4, .int .i64 x_338.a5, .int .i64 x_338.a6, .int .i64 x_338.a7] 43]) ?_ ?_
                            · refine wp_cond_split (hK.ev rfl) (fun (hb_661 : (decide (y_656 > 0)) = true) => ?_) (fun (hb_661 : (decide (y_656 > 0)) = false) => ?_)
                              · rw [ifb_t hb_661] at H
                                refine wp_region_lit ?_
                                refine sl hK (by decide) rfl rfl (r_move hK rfl) fun a hK => ?_
                                refine sl hK (by decide) rfl rfl (r_ibin hK rfl rfl rfl) fun a hK => ?_
                                refine sl hK (by decide) rfl rfl (r_assign hK rfl) fun a hK => ?_
                                refine wpList_nil ?_
                                have hS := hS.pk3
                                have hS := hS.pk3
                                have hS := hS.pk3
                                have hS := hS.pk3
                                exact ⟨(IntKind.i64.wrap (x_565 + 1)), H, hK.sub (all_cons rfl (all_cons rfl (all_cons rfl (all_cons rfl (all_cons rfl (all_cons rfl (all_cons rfl (all_nil)))))))), hS⟩
                              · rw [ifb_f hb_661] at H
                                refine wp_skip ?_
                                have hS := hS.pk3
                                have hS := hS.pk3
                                have hS := hS.pk3
                                have hS := hS.pk3
                                exact ⟨x_565, H, hK.sub (all_cons rfl (all_cons rfl (all_cons rfl (all_cons rfl (all_cons rfl (all_cons rfl (all_cons rfl (all_nil)))))))), hS⟩
                            · rintro a w ⟨x_659, H, hK, hS⟩
                              unfold law16_RowopsWhole.j8 at H
                              refine wp_region_lit ?_
                              refine sl hK (by decide) rfl rfl (r_move hK rfl) fun a hK => ?_
                              refine sl hK (by decide) rfl rfl (r_ibin hK rfl rfl rfl) fun a hK => ?_
                              refine sl hK (by decide) rfl rfl (r_assign hK rfl) fun a hK => ?_
                              refine wpList_nil ?_
                              have hS := hS.pk3
                              have hS := hS.pk3
                              have hS := hS.pk3
                              have hS := hS.pk3
                              exact ⟨_, Nat.lt_succ_self _, x_659, (IntKind.i64.wrap (x_566 + 1)), H, hK.sub (all_cons rfl (all_cons rfl (all_cons rfl (all_cons rfl (all_cons rfl (all_cons rfl (all_cons rfl (all_nil)))))))), hS⟩
                          · rw [ifb_f hb_615] at H
                            refine wp_exit ?_
                            refine wp_seq ?_
                            refine wp_region_lit ?_
                            refine sl hK (by decide) rfl rfl (r_move hK rfl) fun a hK => ?_
                            refine sl hK (by decide) rfl rfl (r_move hK rfl) fun a hK => ?_
                            rcases or_b y_2 with hb_662 | hb_662
                            · rw [ifb_t hb_662] at H
                              refine sl hK (by decide) (wtt hb_662) rfl (r_move hK rfl) fun a hK => ?_
                              refine sl hK (by decide) (wtt hb_662) rfl (r_move hK rfl) fun a hK => ?_
                              refine sl hK (by decide) (wtt hb_662) rfl (r_ibin hK rfl rfl rfl) fun a hK => ?_
                              refine sl hK (by decide) rfl rfl (r_pick_t hb_662 hK rfl rfl) fun a hK => ?_
                              refine sl hK (by decide) rfl rfl (r_assign hK rfl) fun a hK => ?_
                              refine wpList_nil ?_
                              have hr_ := Option.some.inj H
                              refine wp_ret ?_
                              repeat (first | refine ret_then ?_ | refine ret_block ?_ | refine ret_scope ?_)
                              exact ret_1 Try.results6 hK (rv_tmp hK rfl) ⟨congrArg (fun b => Ending.returned (Value.bool b)) hr_, hS.bel⟩
                            · rw [ifb_f hb_662] at H
                              refine sl_skip hK (by decide) (wtf hb_662) rfl fun a hK => ?_
                              refine sl_skip hK (by decide) (wtf hb_662) rfl fun a hK => ?_
                              refine sl_skip hK (by decide) (wtf hb_662) rfl fun a hK => ?_
                              refine sl hK (by decide) rfl rfl (r_pick_f hb_662 hK rfl rfl) fun a hK => ?_
                              refine sl hK (by decide) rfl rfl (r_assign hK rfl) fun a hK => ?_
                              refine wpList_nil ?_
                              exact absurd (Option.some.inj H) (by decide)
      · rw [ifb_f hn_19] at H
        cases H

end Go.Proofs.Ytjimddbbpjpgdaa.M
