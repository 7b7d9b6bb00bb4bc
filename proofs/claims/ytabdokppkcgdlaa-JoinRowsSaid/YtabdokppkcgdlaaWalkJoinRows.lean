/- Each Go function of the laws answers as its plain Lean function tells, wherever that tells something. Printed by wip/eng/gen.py. -/
import Derived.Test.YtabdokppkcgdlaaWalk2
namespace Go.Proofs.Ytabdokppkcgdlaa.M
open Go Go.Eng Go.Proofs Go.RowKit
set_option linter.unusedVariables false
set_option linter.unusedSimpArgs false

/-! ### catchment/catchmentlaw17.JoinRows: function 6 -/
set_option maxHeartbeats 4000000 in
set_option maxRecDepth 100000 in
theorem law17_JoinRows.calls (a0 : api_Table) (a1 : api_Table) {w0 : World} {R : Hp} {v0_0 : Value} {v0_1 : Value} {v1_0 : Value} {v1_1 : Value} (hR : R.sub w0) (h0_0 : SlR ty_api_Col R v0_0 a0.Cols) (h0_1 : SlR (tySl ty_api_Value) R v0_1 a0.Rows) (h1_0 : SlR ty_api_Col R v1_0 a1.Cols) (h1_1 : SlR (tySl ty_api_Value) R v1_1 a1.Rows) (H : law17_JoinRows a0 a1 = some true) : CallsV Try.prog 6 #[.agg #[v0_0, v0_1], .agg #[v1_0, v1_1]] w0 (.bool true) := by
  unfold law17_JoinRows at H
  refine enter (args := [.agg #[v0_0, v0_1], .agg #[v1_0, v1_1]]) Try.func6 rfl Try.ntmps6 rfl fun a hK => ?_
  have hS := St.init hR
  have hRL := RLe.refl (M := []) w0 R
  refine wp_seq ?_
  refine wp_region_lit ?_
  refine sl_box hS hK (by decide) rfl rfl (c := [v0_0, v0_1]) rfl fun a w b_1 hS hK => ?_
  refine sl_box hS hK (by decide) rfl rfl (c := [v1_0, v1_1]) rfl fun a w b_2 hS hK => ?_
  refine sl hK (by decide) rfl rfl (r_assign hK rfl) fun a hK => ?_
  refine wpList_nil ?_
  refine wp_seq ?_
  refine wp_region_lit ?_
  obtain ⟨y_3, h_4, H⟩ := bind_some H
  refine sl_callV Try.call7 hS hK (by decide) rfl rfl rfl (law17_shown.calls h_4 _) fun a w hS hK => ?_
  refine sl hK (by decide) rfl rfl (r_assign hK rfl) fun a hK => ?_
  refine wpList_nil ?_
  refine wp_seq ?_
  refine wp_region_lit ?_
  refine sl hK (by decide) rfl rfl (r_loadA (cs := [v0_0, v0_1]) Try.isAgg25 Try.sizeOf25 rfl hK rfl (hS.cells_of (m := 2) (.tail _ (.head _)) rfl)) fun a hK => ?_
  obtain ⟨y_5, h_6, H⟩ := bind_some H
  refine sl_call Try.call8 hK (by decide) rfl rfl rfl (law17_cut.calls a0 40 hS.sub h0_0 h0_1 h_6) fun a v_ w hv_ hK => ?_
  obtain ⟨R_7, v_9, v_11, hv_, hr_, hl_8, hs_10, hs_12⟩ := hv_
  have hv_ := hv_.symm
  subst hv_
  obtain ⟨hS, hl_8⟩ := hS.sp0.back hr_ hl_8
  have hS := hS.un0
  have hRL := hRL.trans hl_8
  have hS := hS.pk1
  refine sl_storeA (vs := [v_9, v_11]) (c' := [v_9, v_11]) Try.sizeOf25 hS hK rfl rfl rfl rfl (all_cons hs_10.one (all_cons hs_12.one (all_nil))) (Nat.le_of_ble_eq_true rfl) rfl fun a w hS hK => ?_
  refine wpList_nil ?_
  refine wp_seq ?_
  refine wp_region_lit ?_
  refine sl hK (by decide) rfl rfl (r_loadA (cs := [v1_0, v1_1]) Try.isAgg25 Try.sizeOf25 rfl hK rfl (hS.cells_of (m := 2) (.tail _ (.head _)) rfl)) fun a hK => ?_
  obtain ⟨y_13, h_14, H⟩ := bind_some H
  refine sl_call Try.call8 hK (by decide) rfl rfl rfl (law17_cut.calls a1 40 hS.sub (h1_0.mono hl_8.le) (h1_1.mono hl_8.le) h_14) fun a v_ w hv_ hK => ?_
  obtain ⟨R_15, v_17, v_19, hv_, hr_, hl_16, hs_18, hs_20⟩ := hv_
  have hv_ := hv_.symm
  subst hv_
  obtain ⟨hS, hl_16⟩ := hS.sp0.back hr_ hl_16
  have hS := hS.un0
  have hRL := hRL.trans hl_16
  have hS := hS.pk1
  refine sl_storeA (vs := [v_17, v_19]) (c' := [v_17, v_19]) Try.sizeOf25 hS hK rfl rfl rfl rfl (all_cons hs_18.one (all_cons hs_20.one (all_nil))) (Nat.le_of_ble_eq_true rfl) rfl fun a w hS hK => ?_
  refine wpList_nil ?_
  refine wp_seq ?_
  refine wp_region_lit ?_
  refine sl hK (by decide) rfl rfl (r_loadA (cs := [v_9, v_11]) Try.isAgg25 Try.sizeOf25 rfl hK rfl (hS.cells_of (m := 2) (.tail _ (.head _)) rfl)) fun a hK => ?_
  refine sl hK (by decide) rfl rfl (r_loadA (cs := [v_17, v_19]) Try.isAgg25 Try.sizeOf25 rfl hK rfl (hS.cells_of (m := 2) (.head _) rfl)) fun a hK => ?_
  obtain ⟨y_21, h_22, H⟩ := bind_some H
  refine sl_call Try.call9 hK (by decide) rfl rfl rfl (join_Join.calls y_5 y_13 1600 hS.sub (hs_10.mono hl_16.le) (hs_12.mono hl_16.le) hs_18 hs_20 h_22) fun a v_ w hv_ hK => ?_
  obtain ⟨R_23, v_26, cs_27, v_30, cs_31, hv_, hr_, hl_24, hq_28, hq_32⟩ := hv_
  have hv_ := hv_.symm
  subst hv_
  obtain ⟨hS, hl_24⟩ := hS.sp0.back hr_ hl_24
  have hS := hS.un2
  have hRL := hRL.trans hl_24
  refine sl hK (by decide) rfl rfl (r_move hK rfl) fun a hK => ?_
  refine sl hK (by decide) rfl rfl (r_extract hK rfl rfl) fun a hK => ?_
  refine sl hK (by decide) rfl rfl (r_extract hK rfl rfl) fun a hK => ?_
  refine sl_alloc Try.zeroValue25 hS hK (by decide) rfl rfl fun a w b_33 hS hK => ?_
  refine sl_storeA (vs := [v_26, v_30]) (c' := [v_26, v_30]) Try.sizeOf25 hS hK rfl rfl rfl rfl (all_cons (hS.row_one (.tail _ (.head _))) (all_cons (hS.row_one (.tail _ (.tail _ (.head _)))) (all_nil))) (Nat.le_of_ble_eq_true rfl) rfl fun a w hS hK => ?_
  refine sl hK (by decide) rfl rfl (r_assign hK rfl) fun a hK => ?_
  refine wpList_nil ?_
  refine wp_seq ?_
  refine wp_seq ?_
  refine wp_region_lit ?_
  refine sl hK (by decide) rfl rfl (r_move hK rfl) fun a hK => ?_
  refine sl hK (by decide) rfl rfl (r_ibin hK rfl rfl rfl) fun a hK => ?_
  refine wpList_nil ?_
  refine wp_cond_split (hK.ev rfl) (fun (hb_34 : (y_21.2 != 0) = true) => ?_) (fun (hb_34 : (y_21.2 != 0) = false) => ?_)
  · rw [ifb_t hb_34] at H
    refine wp_seq ?_
    refine wp_mid (fun a w => ∃ (x_36 : Bool), law17_JoinRows.j0 x_36 = some true ∧ Kn 109 a [(4, .bool x_36)] ∧ St [] w0 w R_23 []) ?_ ?_
    · refine wp_region_lit ?_
      refine sl hK (by decide) rfl rfl (r_move hK rfl) fun a hK => ?_
      refine sl hK (by decide) rfl rfl (r_move hK rfl) fun a hK => ?_
      rcases or_b y_3 with hb_38 | hb_38
      · rw [ifb_t hb_38] at H
        refine sl hK (by decide) (wtt hb_38) rfl (r_fieldAddr Try.underlying25 rfl Try.sizeOf23 hK rfl) fun a hK => ?_
        refine sl hK (by decide) (wtt hb_38) rfl (r_load Try.isAgg23 hK rfl (hS.cell (.head _) rfl)) fun a hK => ?_
        refine sl hK (by decide) (wtt hb_38) rfl (r_len_O Try.underlying23 hS (.tail _ (.tail _ (.head _))) hK rfl) fun a hK => ?_
        refine sl hK (by decide) (wtt hb_38) rfl (r_ibin hK rfl rfl rfl) fun a hK => ?_
        refine sl hK (by decide) rfl rfl (r_pick_t hb_38 hK rfl rfl) fun a hK => ?_
        refine sl hK (by decide) rfl rfl (r_assign hK rfl) fun a hK => ?_
        refine wpList_nil ?_
        exact ⟨((y_21.1.Rows.length : Int) == 0), H, hK.sub (all_cons rfl (all_nil)), hS.trunc 0⟩
      · rw [ifb_f hb_38] at H
        refine sl_skip hK (by decide) (wtf hb_38) rfl fun a hK => ?_
        refine sl_skip hK (by decide) (wtf hb_38) rfl fun a hK => ?_
        refine sl_skip hK (by decide) (wtf hb_38) rfl fun a hK => ?_
        refine sl_skip hK (by decide) (wtf hb_38) rfl fun a hK => ?_
        refine sl hK (by decide) rfl rfl (r_pick_f hb_38 hK rfl rfl) fun a hK => ?_
        refine sl hK (by decide) rfl rfl (r_assign hK rfl) fun a hK => ?_
        refine wpList_nil ?_
        exact ⟨false, H, hK.sub (all_cons rfl (all_nil)), hS.trunc 0⟩
    · rintro a w ⟨x_36, H, hK, hS⟩
      unfold law17_JoinRows.j0 at H
      have hr_ := Option.some.inj H
      refine wp_ret ?_
      repeat (first | refine ret_then ?_ | refine ret_block ?_ | refine ret_scope ?_)
      exact ret_1 Try.results6 hK (rv_tmp hK rfl) ⟨congrArg (fun b => Ending.returned (Value.bool b)) hr_, hS.bel⟩
  · rw [ifb_f hb_34] at H
    refine wp_skip ?_
    refine wp_seq ?_
    refine wp_region_lit ?_
    refine sl hK (by decide) rfl rfl (r_loadA (cs := [v_9, v_11]) Try.isAgg25 Try.sizeOf25 rfl hK rfl (hS.cells_of (m := 2) (.tail _ (.tail _ (.tail _ (.tail _ (.head _))))) rfl)) fun a hK => ?_
    refine sl hK (by decide) rfl rfl (r_loadA (cs := [v_17, v_19]) Try.isAgg25 Try.sizeOf25 rfl hK rfl (hS.cells_of (m := 2) (.tail _ (.tail _ (.tail _ (.head _)))) rfl)) fun a hK => ?_
    refine sl_buildSliceF (zc := [.slice none 0 0, .slice none 0 0]) (ps := [(0, .agg #[v_9, v_11]), (1, .agg #[v_17, v_19])]) (c := [v_9, v_11, v_17, v_19]) [[v_9, v_11], [v_17, v_19]] Try.underlying43 Try.sizeOf25 Try.zeroValue25 rfl (pc_cons rfl (pc_cons rfl pc_nil)) rfl rfl (Nat.le_of_ble_eq_true rfl) rfl (all_cons rfl (all_cons rfl (all_nil))) rfl hS hK (by decide) rfl fun a w b_39 hS hK => ?_
    refine sl hK (by decide) rfl rfl (r_assign hK rfl) fun a hK => ?_
    refine wpList_nil ?_
    refine wp_seq ?_
    refine wp_seq ?_
    refine wp_region_lit ?_
    refine sl hK (by decide) rfl rfl (r_assign hK rfl) fun a hK => ?_
    refine wpList_nil ?_
    refine wp_block ?_
    refine wp_loop_k (fun k_l1 a w => ∃ (x_1778 : List api_Table) (x_1782 : Int) (v_1779 : Value) (cs_1780 : List Value), law17_JoinRows.l1 y_3 y_21 k_l1 x_1778 x_1782 = some true ∧ Reps ty_api_Table R_23 cs_1780 x_1778 ∧ Kn 109 a [(5, .bool y_3), (6, .pointer (some ⟨b_33, 0, none⟩)), (8, v_1779), (9, .int .i64 x_1782)] ∧ St [] w0 w R_23 [.row 34 2 v_26 y_21.1.Cols.length cs_27, .row 40 1 v_30 y_21.1.Rows.length cs_31, .cells b_33 [v_26, v_30] 25, .row 25 2 v_1779 x_1778.length cs_1780]) (((y_21.1.Rows.length : Int) - 0).toNat + 1) ?_ ?_
    · have hS := hS.row_lit (size := 2) (m := 2) rfl (by decide)
      have hq_3516 : Reps ty_api_Table R_23 [v_9, v_11, v_17, v_19] [y_5, y_13] := (Reps.cons (show Ty.rep ty_api_Table _ [v_9, v_11] y_5 from ⟨_, _, rfl, (hs_10.mono (hl_16.le.trans hl_24.le)), (hs_12.mono (hl_16.le.trans hl_24.le))⟩) (Reps.cons (show Ty.rep ty_api_Table _ [v_17, v_19] y_13 from ⟨_, _, rfl, (hs_18.mono hl_24.le), (hs_20.mono hl_24.le)⟩) (Reps.nil _ _)))
      have hS := hS.pk1
      have hS := hS.pk3
      have hS := hS.pk3
      exact ⟨[y_5, y_13], 0, _, _, H, hq_3516, hK.sub (all_cons rfl (all_cons rfl (all_cons rfl (all_cons rfl (all_nil))))), hS.trunc 4⟩
    · rintro k_l1 a w ⟨x_1778, x_1782, v_1779, cs_1780, H, hq_1781, hK, hS⟩
      cases k_l1 with
      | zero => cases H
      | succ k_l1 =>
      rw [law17_JoinRows.l1.eq_2] at H
      refine wp_seq ?_
      refine wp_seq ?_
      refine wp_region_lit ?_
      refine sl hK (by decide) rfl rfl (r_move hK rfl) fun a hK => ?_
      refine sl hK (by decide) rfl rfl (r_fieldAddr Try.underlying25 rfl Try.sizeOf23 hK rfl) fun a hK => ?_
      refine sl hK (by decide) rfl rfl (r_load Try.isAgg23 hK rfl (hS.cell (.tail _ (.tail _ (.head _))) rfl)) fun a hK => ?_
      refine sl hK (by decide) rfl rfl (r_len_O Try.underlying23 hS (.tail _ (.head _)) hK rfl) fun a hK => ?_
      refine sl hK (by decide) rfl rfl (r_ibin hK rfl rfl rfl) fun a hK => ?_
      refine wpList_nil ?_
      refine wp_cond_split (hK.ev rfl) (fun (hb_3517 : (decide (x_1782 < (y_21.1.Rows.length : Int))) = true) => ?_) (fun (hb_3517 : (decide (x_1782 < (y_21.1.Rows.length : Int))) = false) => ?_)
      · rw [ifb_t hb_3517] at H
        refine wp_skip ?_
        refine wp_seq ?_
        refine wp_block ?_
        refine wp_seq ?_
        refine wp_region_lit ?_
        refine sl hK (by decide) rfl rfl (r_assign hK rfl) fun a hK => ?_
        refine wpList_nil ?_
        refine wp_block ?_
        refine wp_loop_k (fun k_l2 a w => ∃ (x_4094 : Int), law17_JoinRows.l2 (law17_JoinRows.l1 y_3 y_21 k_l1) y_21 x_1778 x_1782 k_l2 x_4094 = some true ∧ Kn 109 a [(5, .bool y_3), (6, .pointer (some ⟨b_33, 0, none⟩)), (8, v_1779), (9, .int .i64 x_1782), (10, .int .i64 x_4094)] ∧ St [] w0 w R_23 [.row 34 2 v_26 y_21.1.Cols.length cs_27, .row 40 1 v_30 y_21.1.Rows.length cs_31, .cells b_33 [v_26, v_30] 25, .row 25 2 v_1779 x_1778.length cs_1780]) (((2 : Int) - 0).toNat + 1) ?_ ?_
        · have hS := hS.pk3
          have hS := hS.pk3
          have hS := hS.pk3
          have hS := hS.pk3
          exact ⟨0, H, hK.sub (all_cons rfl (all_cons rfl (all_cons rfl (all_cons rfl (all_cons rfl (all_nil)))))), hS⟩
        · rintro k_l2 a w ⟨x_4094, H, hK, hS⟩
          cases k_l2 with
          | zero => cases H
          | succ k_l2 =>
          rw [law17_JoinRows.l2.eq_2] at H
          refine wp_seq ?_
          refine wp_seq ?_
          refine wp_region_lit ?_
          refine sl hK (by decide) rfl rfl (r_move hK rfl) fun a hK => ?_
          refine sl hK (by decide) rfl rfl (r_ibin hK rfl rfl rfl) fun a hK => ?_
          refine wpList_nil ?_
          refine wp_cond_split (hK.ev rfl) (fun (hb_4672 : (decide (x_4094 < 2)) = true) => ?_) (fun (hb_4672 : (decide (x_4094 < 2)) = false) => ?_)
          · rw [ifb_t hb_4672] at H
            refine wp_skip ?_
            refine wp_seq ?_
            refine wp_block ?_
            refine wp_seq ?_
            refine wp_region_lit ?_
            refine sl_buildSliceC (zc := [.int .i64 0, .int .i64 0, .string (⟨#[]⟩ : ByteArray), .int .i64 0, .int .i64 0, .int .i64 0, .int .i64 0, .int .i64 0, .int .i64 0, .int .i64 0, .int .i64 0]) (zs := []) (ps := []) (c := []) Try.underlying40 Try.sizeOf46 Try.zeroValue46 rfl pc_nil rfl rfl (by decide) (by kernel_rfl) rfl hS hK (by decide) rfl fun a w b_4673 hS hK => ?_
            refine sl hK (by decide) rfl rfl (r_assign hK rfl) fun a hK => ?_
            refine wpList_nil ?_
            refine wp_seq ?_
            refine wp_seq ?_
            refine wp_region_lit ?_
            refine sl hK (by decide) rfl rfl (r_assign hK rfl) fun a hK => ?_
            refine wpList_nil ?_
            refine wp_block ?_
            refine wp_loop_k (fun k_l3 a w => ∃ (x_4792 : List api_Value) (x_4796 : Int) (v_4793 : Value) (cs_4794 : List Value), law17_JoinRows.l3 (law17_JoinRows.l2 (law17_JoinRows.l1 y_3 y_21 k_l1) y_21 x_1778 x_1782 k_l2) y_21 x_1778 x_1782 x_4094 k_l3 x_4792 x_4796 = some true ∧ Reps ty_api_Value R_23 cs_4794 x_4792 ∧ Kn 109 a [(5, .bool y_3), (6, .pointer (some ⟨b_33, 0, none⟩)), (8, v_1779), (9, .int .i64 x_1782), (10, .int .i64 x_4094), (11, v_4793), (12, .int .i64 x_4796)] ∧ St [] w0 w R_23 [.row 34 2 v_26 y_21.1.Cols.length cs_27, .row 40 1 v_30 y_21.1.Rows.length cs_31, .cells b_33 [v_26, v_30] 25, .row 25 2 v_1779 x_1778.length cs_1780, .row 46 11 v_4793 x_4792.length cs_4794]) ((((((ix x_1778 x_4094).map fun q_ => q_.Cols).getD []).length : Int) - 0).toNat + 1) ?_ ?_
            · have hS := hS.row_lit (size := 11) (m := 0) rfl (by decide)
              have hq_4922 : Reps ty_api_Value R_23 [] ([] : List api_Value) := (Reps.nil _ _)
              have hS := hS.pk4
              have hS := hS.pk4
              have hS := hS.pk4
              have hS := hS.pk4
              exact ⟨[], 0, _, _, H, hq_4922, hK.sub (all_cons rfl (all_cons rfl (all_cons rfl (all_cons rfl (all_cons rfl (all_cons rfl (all_cons rfl (all_nil)))))))), hS⟩
            · rintro k_l3 a w ⟨x_4792, x_4796, v_4793, cs_4794, H, hq_4795, hK, hS⟩
              cases k_l3 with
              | zero => cases H
              | succ k_l3 =>
              rw [law17_JoinRows.l3.eq_2] at H
              refine wp_seq ?_
              refine wp_seq ?_
              refine wp_region_lit ?_
              refine sl hK (by decide) rfl rfl (r_move hK rfl) fun a hK => ?_
              refine sl hK (by decide) rfl rfl (r_move hK rfl) fun a hK => ?_
              refine sl hK (by decide) rfl rfl (r_move hK rfl) fun a hK => ?_
              obtain ⟨y_4923, h_4924, H⟩ := bind_some H
              obtain ⟨b_4926, c_4927, cs_4928, hv_4925, hr_4929, hc_4930, h_49240, h_49241⟩ := hS.row_ix (.tail _ (.tail _ (.tail _ (.head _)))) hq_1781 rfl rfl h_4924
              obtain ⟨v_4931, v_4933, rfl, hs_4932, hs_4934⟩ := hr_4929
              refine sl hK (by decide) rfl rfl (r_indexAddr_R Try.underlying43 Try.sizeOf25 hv_4925 h_49240 h_49241 hK rfl rfl) fun a hK => ?_
              refine sl hK (by decide) rfl rfl (r_fieldAddr Try.underlying25 rfl Try.sizeOf22 hK rfl) fun a hK => ?_
              refine sl hK (by decide) rfl rfl (r_load Try.isAgg22 hK rfl (by have h_ := hS.row_cell (.tail _ (.tail _ (.tail _ (.head _)))) hv_4925 (hc_4930 0 _ rfl); simpa [Nat.add_assoc] using h_)) fun a hK => ?_
              refine sl hK (by decide) rfl rfl (r_len_R Try.underlying22 hs_4932 hK rfl) fun a hK => ?_
              refine sl hK (by decide) rfl rfl (r_ibin hK rfl rfl rfl) fun a hK => ?_
              refine wpList_nil ?_
              refine wp_cond_split (hK.ev rfl) (fun (hb_4935 : (decide (x_4796 < (y_4923.Cols.length : Int))) = true) => ?_) (fun (hb_4935 : (decide (x_4796 < (y_4923.Cols.length : Int))) = false) => ?_)
              · rw [ifb_t hb_4935] at H
                refine wp_skip ?_
                refine wp_seq ?_
                refine wp_block ?_
                refine parT_region (C := fun w => St [] w0 w R_23 [.row 34 2 v_26 y_21.1.Cols.length cs_27, .row 40 1 v_30 y_21.1.Rows.length cs_31, .cells b_33 [v_26, v_30] 25, .row 25 2 v_1779 x_1778.length cs_1780, .row 46 11 v_4793 x_4792.length cs_4794]) 21 [(0, true), (1, true), (2, true), (3, true), (4, true), (5, true), (6, true), (7, true), (8, true), (9, true), (10, true), (11, true), (12, true), (13, true), (14, true), (15, true), (16, true), (17, false), (18, true), (19, true), (20, false)] mixed (by kernel_rfl) hS (fun w hS => hS) fun w hS => ?_
                refine sp (k := 0) rfl hK (by decide) rfl rfl (fun w hS => r_move hK rfl) fun a hK => ?_
                refine sp (k := 1) rfl hK (by decide) rfl rfl (fun w hS => r_fieldAddr Try.underlying25 rfl Try.sizeOf23 hK rfl) fun a hK => ?_
                refine sp (k := 2) rfl hK (by decide) rfl rfl (fun w hS => r_load Try.isAgg23 hK rfl (hS.cell (.tail _ (.tail _ (.head _))) rfl)) fun a hK => ?_
                refine sp (k := 3) rfl hK (by decide) rfl rfl (fun w hS => r_move hK rfl) fun a hK => ?_
                obtain ⟨y_4985, h_4986, H⟩ := bind_some H
                obtain ⟨b_4988, c_4989, cs_4990, hv_4987, hr_4991, hc_4992, h_49860, h_49861⟩ := hS.row_ix (.tail _ (.head _)) hq_32 rfl rfl h_4986
                obtain ⟨v_4993, rfl, hs_4994⟩ := hr_4991
                refine sp (k := 4) rfl hK (by decide) rfl rfl (fun w hS => r_indexAddr_R Try.underlying23 Try.sizeOf40 hv_4987 h_49860 h_49861 hK rfl rfl) fun a hK => ?_
                refine sp (k := 5) rfl hK (by decide) rfl rfl (fun w hS => r_load Try.isAgg40 hK rfl (hS.row_cell (.tail _ (.head _)) hv_4987 (hc_4992 0 _ rfl))) fun a hK => ?_
                refine sp (k := 6) rfl hK (by decide) rfl rfl (fun w hS => r_fieldAddr Try.underlying25 rfl Try.sizeOf22 hK rfl) fun a hK => ?_
                refine sp (k := 7) rfl hK (by decide) rfl rfl (fun w hS => r_load Try.isAgg22 hK rfl (hS.cell (.tail _ (.tail _ (.head _))) rfl)) fun a hK => ?_
                refine sp (k := 8) rfl hK (by decide) rfl rfl (fun w hS => r_move hK rfl) fun a hK => ?_
                refine sp (k := 9) rfl hK (by decide) rfl rfl (fun w hS => r_move hK rfl) fun a hK => ?_
                obtain ⟨y_4995, h_4996, H⟩ := bind_some H
                obtain ⟨b_4998, c_4999, cs_5000, hv_4997, hr_5001, hc_5002, h_49960, h_49961⟩ := hS.row_ix (.tail _ (.tail _ (.tail _ (.head _)))) hq_1781 rfl rfl h_4996
                obtain ⟨v_5003, v_5005, rfl, hs_5004, hs_5006⟩ := hr_5001
                refine sp (k := 10) rfl hK (by decide) rfl rfl (fun w hS => r_indexAddr_R Try.underlying43 Try.sizeOf25 hv_4997 h_49960 h_49961 hK rfl rfl) fun a hK => ?_
                refine sp (k := 11) rfl hK (by decide) rfl rfl (fun w hS => r_fieldAddr Try.underlying25 rfl Try.sizeOf22 hK rfl) fun a hK => ?_
                refine sp (k := 12) rfl hK (by decide) rfl rfl (fun w hS => r_load Try.isAgg22 hK rfl (by have h_ := hS.row_cell (.tail _ (.tail _ (.tail _ (.head _)))) hv_4997 (hc_5002 0 _ rfl); simpa [Nat.add_assoc] using h_)) fun a hK => ?_
                refine sp (k := 13) rfl hK (by decide) rfl rfl (fun w hS => r_move hK rfl) fun a hK => ?_
                obtain ⟨y_5007, h_5008, H⟩ := bind_some H
                obtain ⟨b_5009, o_5010, c_5011, cs_5012, hv_5013, hr_5014, hc_5015, h_50080, h_50081⟩ := hs_5004.ix h_5008
                subst hr_5014
                refine sp (k := 14) rfl hK (by decide) rfl rfl (fun w hS => r_indexAddr_R Try.underlying22 Try.sizeOf34 hv_5013 h_50080 h_50081 hK rfl rfl) fun a hK => ?_
                refine sp (k := 15) rfl hK (by decide) rfl rfl (fun w hS => r_fieldAddr Try.underlying34 rfl Try.sizeOf9 hK rfl) fun a hK => ?_
                refine sp (k := 16) rfl hK (by decide) rfl rfl (fun w hS => r_load Try.isAgg9 hK rfl (hS.sub.cell (hc_5015 0 _ rfl))) fun a hK => ?_
                refine spw (k := 17) rfl rfl hS ?_
                obtain ⟨y_5016, h_5017, H⟩ := bind_some H
                refine sl_callV Try.call16 hS hK (by decide) rfl rfl rfl (ref02_Find.calls y_21.1.Cols y_5007.Name (lentOf_sub [] _) (hS.lend_row0 (.head _) hq_28 rfl rfl) h_5017) fun a w hS hK => ?_
                refine parK_nil hS ?_
                obtain ⟨y_5018, h_5019, H⟩ := bind_some H
                obtain ⟨b_5020, o_5021, c_5022, cs_5023, hv_5024, hr_5025, hc_5026, h_50190, h_50191⟩ := hs_4994.ix h_5019
                subst hr_5025
                refine sp (k := 18) rfl hK (by decide) rfl rfl (fun w hS => r_indexAddr_R Try.underlying40 Try.sizeOf46 hv_5024 h_50190 h_50191 hK rfl rfl) fun a hK => ?_
                refine sp (k := 19) rfl hK (by decide) rfl rfl (fun w hS => r_loadA (cs := [.int .i64 y_5018.Kind, .int .i64 y_5018.N, .string y_5018.S, .int .i64 y_5018.H.a0, .int .i64 y_5018.H.a1, .int .i64 y_5018.H.a2, .int .i64 y_5018.H.a3, .int .i64 y_5018.H.a4, .int .i64 y_5018.H.a5, .int .i64 y_5018.H.a6, .int .i64 y_5018.H.a7]) Try.isAgg46 Try.sizeOf46 rfl hK rfl (fun j v hv => hS.sub.cell (hc_5026 j v hv))) fun a hK => ?_
                refine spw (k := 20) rfl rfl hS ?_
                refine sl_buildSliceF (zc := [.int .i64 0, .int .i64 0, .string (⟨#[]⟩ : ByteArray), .int .i64 0, .int .i64 0, .int .i64 0, .int .i64 0, .int .i64 0, .int .i64 0, .int .i64 0, .int .i64 0]) (ps := [(0, .agg #[.int .i64 y_5018.Kind, .int .i64 y_5018.N, .string y_5018.S, .int .i64 y_5018.H.a0, .int .i64 y_5018.H.a1, .int .i64 y_5018.H.a2, .int .i64 y_5018.H.a3, .int .i64 y_5018.H.a4, .int .i64 y_5018.H.a5, .int .i64 y_5018.H.a6, .int .i64 y_5018.H.a7])]) (c := [.int .i64 y_5018.Kind, .int .i64 y_5018.N, .string y_5018.S, .int .i64 y_5018.H.a0, .int .i64 y_5018.H.a1, .int .i64 y_5018.H.a2, .int .i64 y_5018.H.a3, .int .i64 y_5018.H.a4, .int .i64 y_5018.H.a5, .int .i64 y_5018.H.a6, .int .i64 y_5018.H.a7]) [[.int .i64 y_5018.Kind, .int .i64 y_5018.N, .string y_5018.S, .int .i64 y_5018.H.a0, .int .i64 y_5018.H.a1, .int .i64 y_5018.H.a2, .int .i64 y_5018.H.a3, .int .i64 y_5018.H.a4, .int .i64 y_5018.H.a5, .int .i64 y_5018.H.a6, .int .i64 y_5018.H.a7]] Try.underlying40 Try.sizeOf46 Try.zeroValue46 rfl (pc_cons rfl pc_nil) rfl rfl (Nat.le_of_ble_eq_true rfl) rfl (all_cons rfl (all_nil)) rfl hS hK (by decide) rfl fun a w b_5027 hS hK => ?_
                refine parK_nil (hS.pk5.pk5.pk5.pk5.pk5.trunc 5) ?_
                refine thenL_nil ?_
                obtain ⟨y_5028, h_5029, H⟩ := bind_some H
                have hS := hS.pk5
                refine sl_append_L (ty := ty_api_Value) (ys := [y_5018]) elT40 (by decide) rfl hq_4795 rfl (Reps.cons (show Ty.rep ty_api_Value _ [.int .i64 y_5018.Kind, .int .i64 y_5018.N, .string y_5018.S, .int .i64 y_5018.H.a0, .int .i64 y_5018.H.a1, .int .i64 y_5018.H.a2, .int .i64 y_5018.H.a3, .int .i64 y_5018.H.a4, .int .i64 y_5018.H.a5, .int .i64 y_5018.H.a6, .int .i64 y_5018.H.a7] y_5018 from rfl) (Reps.nil _ _)) rfl h_5029 hS hK (by decide) rfl rfl rfl fun a w v_5030 cs_5031 hq_5032 hS hK => ?_
                refine sl hK (by decide) rfl rfl (r_assign hK rfl) fun a hK => ?_
                refine wpList_nil (NoP_nil ?_)
                refine wp_region_lit ?_
                refine sl hK (by decide) rfl rfl (r_move hK rfl) fun a hK => ?_
                refine sl hK (by decide) rfl rfl (r_ibin hK rfl rfl rfl) fun a hK => ?_
                refine sl hK (by decide) rfl rfl (r_assign hK rfl) fun a hK => ?_
                refine wpList_nil ?_
                have hS := hS.pk4
                have hS := hS.pk4
                have hS := hS.pk4
                have hS := hS.pk4
                exact ⟨_, Nat.lt_succ_self _, y_5028, (IntKind.i64.wrap (x_4796 + 1)), _, _, H, hq_5032, hK.sub (all_cons rfl (all_cons rfl (all_cons rfl (all_cons rfl (all_cons rfl (all_cons rfl (all_cons rfl (all_nil)))))))), hS⟩
              · rw [ifb_f hb_4935] at H
                refine wp_exit ?_
                refine wp_seq ?_
                refine wp_region_lit ?_
                refine sl hK (by decide) rfl rfl (r_assign hK rfl) fun a hK => ?_
                refine wpList_nil ?_
                refine wp_seq ?_
                refine wp_seq ?_
                refine wp_region_lit ?_
                refine sl hK (by decide) rfl rfl (r_assign hK rfl) fun a hK => ?_
                refine wpList_nil ?_
                refine wp_block ?_
                refine wp_loop_k (fun k_l4 a w => ∃ (x_5098 : Bool) (x_5099 : Int), law17_JoinRows.l4 (law17_JoinRows.l2 (law17_JoinRows.l1 y_3 y_21 k_l1) y_21 x_1778 x_1782 k_l2) x_1778 x_4094 x_4792 k_l4 x_5098 x_5099 = some true ∧ Kn 109 a [(5, .bool y_3), (6, .pointer (some ⟨b_33, 0, none⟩)), (8, v_1779), (9, .int .i64 x_1782), (10, .int .i64 x_4094), (11, v_4793), (13, .bool x_5098), (14, .int .i64 x_5099)] ∧ St [] w0 w R_23 [.row 34 2 v_26 y_21.1.Cols.length cs_27, .row 40 1 v_30 y_21.1.Rows.length cs_31, .cells b_33 [v_26, v_30] 25, .row 25 2 v_1779 x_1778.length cs_1780, .row 46 11 v_4793 x_4792.length cs_4794]) ((((((ix x_1778 x_4094).map fun q_ => q_.Rows).getD []).length : Int) - 0).toNat + 1) ?_ ?_
                · have hS := hS.pk4
                  have hS := hS.pk4
                  have hS := hS.pk4
                  have hS := hS.pk4
                  have hS := hS.pk4
                  exact ⟨false, 0, H, hK.sub (all_cons rfl (all_cons rfl (all_cons rfl (all_cons rfl (all_cons rfl (all_cons rfl (all_cons rfl (all_cons rfl (all_nil))))))))), hS⟩
                · rintro k_l4 a w ⟨x_5098, x_5099, H, hK, hS⟩
                  cases k_l4 with
                  | zero => cases H
                  | succ k_l4 =>
                  rw [law17_JoinRows.l4.eq_2] at H
                  refine wp_seq ?_
                  refine wp_seq ?_
                  refine wp_region_lit ?_
                  refine sl hK (by decide) rfl rfl (r_move hK rfl) fun a hK => ?_
                  refine sl hK (by decide) rfl rfl (r_move hK rfl) fun a hK => ?_
                  refine sl hK (by decide) rfl rfl (r_move hK rfl) fun a hK => ?_
                  obtain ⟨y_5180, h_5181, H⟩ := bind_some H
                  obtain ⟨b_5183, c_5184, cs_5185, hv_5182, hr_5186, hc_5187, h_51810, h_51811⟩ := hS.row_ix (.tail _ (.tail _ (.tail _ (.head _)))) hq_1781 rfl rfl h_5181
                  obtain ⟨v_5188, v_5190, rfl, hs_5189, hs_5191⟩ := hr_5186
                  refine sl hK (by decide) rfl rfl (r_indexAddr_R Try.underlying43 Try.sizeOf25 hv_5182 h_51810 h_51811 hK rfl rfl) fun a hK => ?_
                  refine sl hK (by decide) rfl rfl (r_fieldAddr Try.underlying25 rfl Try.sizeOf23 hK rfl) fun a hK => ?_
                  refine sl hK (by decide) rfl rfl (r_load Try.isAgg23 hK rfl (by have h_ := hS.row_cell (.tail _ (.tail _ (.tail _ (.head _)))) hv_5182 (hc_5187 1 _ rfl); simpa [Nat.add_assoc] using h_)) fun a hK => ?_
                  refine sl hK (by decide) rfl rfl (r_len_R Try.underlying23 hs_5191 hK rfl) fun a hK => ?_
                  refine sl hK (by decide) rfl rfl (r_ibin hK rfl rfl rfl) fun a hK => ?_
                  refine wpList_nil ?_
                  refine wp_cond_split (hK.ev rfl) (fun (hb_5192 : (decide (x_5099 < (y_5180.Rows.length : Int))) = true) => ?_) (fun (hb_5192 : (decide (x_5099 < (y_5180.Rows.length : Int))) = false) => ?_)
                  · rw [ifb_t hb_5192] at H
                    refine wp_skip ?_
                    refine wp_seq ?_
                    refine wp_block ?_
                    refine wp_mid (fun a w => ∃ (x_5219 : Bool), law17_JoinRows.j5 (law17_JoinRows.l4 (law17_JoinRows.l2 (law17_JoinRows.l1 y_3 y_21 k_l1) y_21 x_1778 x_1782 k_l2) x_1778 x_4094 x_4792 k_l4) x_1778 x_4094 x_5099 x_5219 = some true ∧ Kn 109 a [(5, .bool y_3), (6, .pointer (some ⟨b_33, 0, none⟩)), (8, v_1779), (9, .int .i64 x_1782), (10, .int .i64 x_4094), (11, v_4793), (13, .bool x_5219), (14, .int .i64 x_5099)] ∧ St [] w0 w R_23 [.row 34 2 v_26 y_21.1.Cols.length cs_27, .row 40 1 v_30 y_21.1.Rows.length cs_31, .cells b_33 [v_26, v_30] 25, .row 25 2 v_1779 x_1778.length cs_1780, .row 46 11 v_4793 x_4792.length cs_4794]) ?_ ?_
                    · refine wp_region_lit ?_
                      refine sl hK (by decide) rfl rfl (r_move hK rfl) fun a hK => ?_
                      refine sl hK (by decide) rfl rfl (r_move hK rfl) fun a hK => ?_
                      rcases or_b x_5098 with hb_5221 | hb_5221
                      · rw [ifb_t hb_5221] at H
                        refine sl_skip hK (by decide) (wft hb_5221) rfl fun a hK => ?_
                        refine sl_skip hK (by decide) (wft hb_5221) rfl fun a hK => ?_
                        refine sl_skip hK (by decide) (wft hb_5221) rfl fun a hK => ?_
                        refine sl_skip hK (by decide) (wft hb_5221) rfl fun a hK => ?_
                        refine sl_skip hK (by decide) (wft hb_5221) rfl fun a hK => ?_
                        refine sl_skip hK (by decide) (wft hb_5221) rfl fun a hK => ?_
                        refine sl_skip hK (by decide) (wft hb_5221) rfl fun a hK => ?_
                        refine sl_skip hK (by decide) (wft hb_5221) rfl fun a hK => ?_
                        refine sl_skip hK (by decide) (wft hb_5221) rfl fun a hK => ?_
                        refine sl_skip hK (by decide) (wft hb_5221) rfl fun a hK => ?_
                        refine sl_skip hK (by decide) (wft hb_5221) rfl fun a hK => ?_
                        refine sl hK (by decide) rfl rfl (r_pick_t hb_5221 hK rfl rfl) fun a hK => ?_
                        refine sl hK (by decide) rfl rfl (r_assign hK rfl) fun a hK => ?_
                        refine wpList_nil ?_
                        have hS := hS.pk4
                        have hS := hS.pk4
                        have hS := hS.pk4
                        have hS := hS.pk4
                        have hS := hS.pk4
                        exact ⟨true, H, hK.sub (all_cons rfl (all_cons rfl (all_cons rfl (all_cons rfl (all_cons rfl (all_cons rfl (all_cons rfl (all_cons rfl (all_nil))))))))), hS⟩
                      · rw [ifb_f hb_5221] at H
                        refine sl hK (by decide) (wff hb_5221) rfl (r_move hK rfl) fun a hK => ?_
                        refine sl hK (by decide) (wff hb_5221) rfl (r_move hK rfl) fun a hK => ?_
                        refine sl hK (by decide) (wff hb_5221) rfl (r_move hK rfl) fun a hK => ?_
                        obtain ⟨y_5222, h_5223, H⟩ := bind_some H
                        obtain ⟨b_5225, c_5226, cs_5227, hv_5224, hr_5228, hc_5229, h_52230, h_52231⟩ := hS.row_ix (.tail _ (.tail _ (.tail _ (.head _)))) hq_1781 rfl rfl h_5223
                        obtain ⟨v_5230, v_5232, rfl, hs_5231, hs_5233⟩ := hr_5228
                        refine sl hK (by decide) (wff hb_5221) rfl (r_indexAddr_R Try.underlying43 Try.sizeOf25 hv_5224 h_52230 h_52231 hK rfl rfl) fun a hK => ?_
                        refine sl hK (by decide) (wff hb_5221) rfl (r_fieldAddr Try.underlying25 rfl Try.sizeOf23 hK rfl) fun a hK => ?_
                        refine sl hK (by decide) (wff hb_5221) rfl (r_load Try.isAgg23 hK rfl (by have h_ := hS.row_cell (.tail _ (.tail _ (.tail _ (.head _)))) hv_5224 (hc_5229 1 _ rfl); simpa [Nat.add_assoc] using h_)) fun a hK => ?_
                        refine sl hK (by decide) (wff hb_5221) rfl (r_move hK rfl) fun a hK => ?_
                        obtain ⟨y_5234, h_5235, H⟩ := bind_some H
                        obtain ⟨b_5236, o_5237, c_5238, cs_5239, hv_5240, hr_5241, hc_5242, h_52350, h_52351⟩ := hs_5233.ix h_5235
                        obtain ⟨v_5243, rfl, hs_5244⟩ := hr_5241
                        refine sl hK (by decide) (wff hb_5221) rfl (r_indexAddr_R Try.underlying23 Try.sizeOf40 hv_5240 h_52350 h_52351 hK rfl rfl) fun a hK => ?_
                        refine sl hK (by decide) (wff hb_5221) rfl (r_load Try.isAgg40 hK rfl (hS.sub.cell (hc_5242 0 _ rfl))) fun a hK => ?_
                        obtain ⟨y_5245, h_5246, H⟩ := bind_some H
                        refine sl_callV Try.call14 hS hK (by decide) (wff hb_5221) rfl rfl (ref02_Row.calls x_4792 y_5234 (lentOf_sub [] _) (hS.lend_row0 (.tail _ (.tail _ (.tail _ (.tail _ (.head _))))) hq_4795 rfl rfl) (hs_5244.mono hS.rLe0) h_5246) fun a w hS hK => ?_
                        refine sl hK (by decide) (wff hb_5221) rfl (r_ibin hK rfl rfl rfl) fun a hK => ?_
                        refine sl hK (by decide) rfl rfl (r_pick_f hb_5221 hK rfl rfl) fun a hK => ?_
                        refine sl hK (by decide) rfl rfl (r_assign hK rfl) fun a hK => ?_
                        refine wpList_nil ?_
                        have hS := hS.pk4
                        have hS := hS.pk4
                        have hS := hS.pk4
                        have hS := hS.pk4
                        have hS := hS.pk4
                        exact ⟨(y_5245 == 0), H, hK.sub (all_cons rfl (all_cons rfl (all_cons rfl (all_cons rfl (all_cons rfl (all_cons rfl (all_cons rfl (all_cons rfl (all_nil))))))))), hS⟩
                    · rintro a w ⟨x_5219, H, hK, hS⟩
                      unfold law17_JoinRows.j5 at H
                      refine wp_region_lit ?_
                      refine sl hK (by decide) rfl rfl (r_move hK rfl) fun a hK => ?_
                      refine sl hK (by decide) rfl rfl (r_ibin hK rfl rfl rfl) fun a hK => ?_
                      refine sl hK (by decide) rfl rfl (r_assign hK rfl) fun a hK => ?_
                      refine wpList_nil ?_
                      have hS := hS.pk4
                      have hS := hS.pk4
                      have hS := hS.pk4
                      have hS := hS.pk4
                      have hS := hS.pk4
                      exact ⟨_, Nat.lt_succ_self _, x_5219, (IntKind.i64.wrap (x_5099 + 1)), H, hK.sub (all_cons rfl (all_cons rfl (all_cons rfl (all_cons rfl (all_cons rfl (all_cons rfl (all_cons rfl (all_cons rfl (all_nil))))))))), hS⟩
                  · rw [ifb_f hb_5192] at H
                    refine wp_exit ?_
                    refine wp_seq ?_
                    refine wp_region_lit ?_
                    refine sl hK (by decide) rfl rfl (r_move hK rfl) fun a hK => ?_
                    refine sl hK (by decide) rfl rfl (r_un hK rfl (u_not _)) fun a hK => ?_
                    refine wpList_nil ?_
                    refine wp_cond_split (hK.ev rfl) (fun (hb_5247 : (!x_5098) = true) => ?_) (fun (hb_5247 : (!x_5098) = false) => ?_)
                    · rw [ifb_t hb_5247] at H
                      refine wp_seq ?_
                      refine wp_region_lit ?_
                      refine sl hK (by decide) rfl rfl (r_assign hK rfl) fun a hK => ?_
                      refine wpList_nil ?_
                      exact absurd (Option.some.inj H) (by decide)
                    · rw [ifb_f hb_5247] at H
                      refine wp_skip ?_
                      refine wp_region_lit ?_
                      refine sl hK (by decide) rfl rfl (r_move hK rfl) fun a hK => ?_
                      refine sl hK (by decide) rfl rfl (r_ibin hK rfl rfl rfl) fun a hK => ?_
                      refine sl hK (by decide) rfl rfl (r_assign hK rfl) fun a hK => ?_
                      refine wpList_nil ?_
                      have hS := hS.pk3
                      have hS := hS.pk3
                      have hS := hS.pk3
                      have hS := hS.pk3
                      exact ⟨_, Nat.lt_succ_self _, (IntKind.i64.wrap (x_4094 + 1)), H, hK.sub (all_cons rfl (all_cons rfl (all_cons rfl (all_cons rfl (all_cons rfl (all_nil)))))), hS.trunc 4⟩
          · rw [ifb_f hb_4672] at H
            refine wp_exit ?_
            refine wp_region_lit ?_
            refine sl hK (by decide) rfl rfl (r_move hK rfl) fun a hK => ?_
            refine sl hK (by decide) rfl rfl (r_ibin hK rfl rfl rfl) fun a hK => ?_
            refine sl hK (by decide) rfl rfl (r_assign hK rfl) fun a hK => ?_
            refine wpList_nil ?_
            have hS := hS.pk3
            have hS := hS.pk3
            have hS := hS.pk3
            have hS := hS.pk3
            exact ⟨_, Nat.lt_succ_self _, x_1778, (IntKind.i64.wrap (x_1782 + 1)), _, _, H, hq_1781, hK.sub (all_cons rfl (all_cons rfl (all_cons rfl (all_cons rfl (all_nil))))), hS⟩
      · rw [ifb_f hb_3517] at H
        refine wp_exit ?_
        refine wp_seq ?_
        refine wp_region_lit ?_
        refine sl hK (by decide) rfl rfl (r_move hK rfl) fun a hK => ?_
        refine sl hK (by decide) rfl rfl (r_assign hK rfl) fun a hK => ?_
        refine wpList_nil ?_
        have hr_ := Option.some.inj H
        refine wp_ret ?_
        repeat (first | refine ret_then ?_ | refine ret_block ?_ | refine ret_scope ?_)
        exact ret_1 Try.results6 hK (rv_tmp hK rfl) ⟨congrArg (fun b => Ending.returned (Value.bool b)) hr_, hS.bel⟩

end Go.Proofs.Ytabdokppkcgdlaa.M
