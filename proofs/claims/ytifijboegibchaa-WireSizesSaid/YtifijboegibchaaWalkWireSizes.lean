/- Each Go function of the laws answers as its plain Lean function tells, wherever that tells something. Printed by wip/eng/gen.py. -/
import Derived.Test.YtifijboegibchaaWalk3
namespace Go.Proofs.Ytifijboegibchaa.M
open Go Go.Eng Go.Proofs Go.RowKit
set_option linter.unusedVariables false
set_option linter.unusedSimpArgs false

/-! ### catchment/catchmentlaw04.WireSizes: function 10 -/
set_option maxHeartbeats 4000000 in
set_option maxRecDepth 100000 in
theorem law04_WireSizes.calls (a0 : api_Table) {w0 : World} {R : Hp} {v0_0 : Value} {v0_1 : Value} (hR : R.sub w0) (h0_0 : SlR ty_api_Col R v0_0 a0.Cols) (h0_1 : SlR (tySl ty_api_Value) R v0_1 a0.Rows) (H : law04_WireSizes a0 = some true) : CallsV Try.prog 10 #[.agg #[v0_0, v0_1]] w0 (.bool true) := by
  unfold law04_WireSizes at H
  refine enter (args := [.agg #[v0_0, v0_1]]) Try.func10 rfl Try.ntmps10 rfl fun a hK => ?_
  have hS := St.init hR
  have hRL := RLe.refl (M := []) w0 R
  refine wp_seq ?_
  refine wp_region_lit ?_
  refine sl_box hS hK (by decide) rfl rfl (c := [v0_0, v0_1]) rfl fun a w b_1 hS hK => ?_
  refine sl hK (by decide) rfl rfl (r_assign hK rfl) fun a hK => ?_
  refine wpList_nil ?_
  refine wp_seq ?_
  refine wp_region_lit ?_
  obtain ⟨y_2, h_3, H⟩ := bind_some H
  refine sl_callV Try.call11 hS hK (by decide) rfl rfl rfl (law04_shown.calls h_3 _) fun a w hS hK => ?_
  refine sl hK (by decide) rfl rfl (r_assign hK rfl) fun a hK => ?_
  refine wpList_nil ?_
  refine wp_seq ?_
  refine wp_region_lit ?_
  refine sl hK (by decide) rfl rfl (r_loadA (cs := [v0_0, v0_1]) Try.isAgg37 Try.sizeOf37 rfl hK rfl (hS.cells_of (m := 2) (.head _) rfl)) fun a hK => ?_
  obtain ⟨y_4, h_5, H⟩ := bind_some H
  refine sl_call Try.call16 hK (by decide) rfl rfl rfl (law04_cut.calls a0 hS.sub h0_0 h0_1 h_5) fun a v_ w hv_ hK => ?_
  obtain ⟨R_6, v_8, v_10, hv_, hr_, hl_7, hs_9, hs_11⟩ := hv_
  have hv_ := hv_.symm
  subst hv_
  obtain ⟨hS, hl_7⟩ := hS.sp0.back hr_ hl_7
  have hS := hS.un0
  have hRL := hRL.trans hl_7
  refine sl_storeA (vs := [v_8, v_10]) (c' := [v_8, v_10]) Try.sizeOf37 hS hK rfl rfl rfl rfl (all_cons hs_9.one (all_cons hs_11.one (all_nil))) (Nat.le_of_ble_eq_true rfl) rfl fun a w hS hK => ?_
  refine wpList_nil ?_
  refine wp_seq ?_
  refine wp_region_lit ?_
  refine sl hK (by decide) rfl rfl (r_loadA (cs := [v_8, v_10]) Try.isAgg37 Try.sizeOf37 rfl hK rfl (hS.cells_of (m := 2) (.head _) rfl)) fun a hK => ?_
  obtain ⟨y_12, h_13, H⟩ := bind_some H
  refine sl_call Try.call17 hK (by decide) rfl rfl rfl (wire_Encode.calls y_4 (lentOf_sub [] _) hS.sub (hs_9.mono hS.rLe0) (hs_11.mono hS.rLe0) h_13) fun a v_ w hv_ hK => ?_
  obtain ⟨R_14, v_17, cs_18, hv_, hr_, hl_15, hq_19⟩ := hv_
  have hv_ := hv_.symm
  subst hv_
  obtain ⟨hS, hl_15⟩ := hS.sp0.back hr_ hl_15
  have hS := hS.un1
  have hRL := hRL.trans hl_15
  refine sl hK (by decide) rfl rfl (r_move hK rfl) fun a hK => ?_
  refine sl hK (by decide) rfl rfl (r_extract hK rfl rfl) fun a hK => ?_
  refine sl hK (by decide) rfl rfl (r_extract hK rfl rfl) fun a hK => ?_
  refine sl hK (by decide) rfl rfl (r_assign hK rfl) fun a hK => ?_
  refine sl hK (by decide) rfl rfl (r_assign hK rfl) fun a hK => ?_
  refine wpList_nil ?_
  refine wp_seq ?_
  refine wp_seq ?_
  refine wp_region_lit ?_
  refine sl hK (by decide) rfl rfl (r_move hK rfl) fun a hK => ?_
  refine sl hK (by decide) rfl rfl (r_ibin hK rfl rfl rfl) fun a hK => ?_
  refine wpList_nil ?_
  refine wp_cond_split (hK.ev rfl) (fun (hb_20 : (y_12.2 != 0) = true) => ?_) (fun (hb_20 : (y_12.2 != 0) = false) => ?_)
  · rw [ifb_t hb_20] at H
    refine wp_seq ?_
    refine wp_region_lit ?_
    refine sl hK (by decide) rfl rfl (r_move hK rfl) fun a hK => ?_
    refine sl hK (by decide) rfl rfl (r_assign hK rfl) fun a hK => ?_
    refine wpList_nil ?_
    have hr_ := Option.some.inj H
    refine wp_ret ?_
    repeat (first | refine ret_then ?_ | refine ret_block ?_ | refine ret_scope ?_)
    exact ret_1 Try.results10 hK (rv_tmp hK rfl) ⟨congrArg (fun b => Ending.returned (Value.bool b)) hr_, hS.bel⟩
  · rw [ifb_f hb_20] at H
    refine wp_skip ?_
    refine wp_seq ?_
    refine wp_region_lit ?_
    refine sl hK (by decide) rfl rfl (r_assign hK rfl) fun a hK => ?_
    refine wpList_nil ?_
    refine wp_seq ?_
    refine wp_seq ?_
    refine wp_region_lit ?_
    refine sl hK (by decide) rfl rfl (r_assign hK rfl) fun a hK => ?_
    refine wpList_nil ?_
    refine wp_block ?_
    refine wp_loop_k (fun k_l0 a w => ∃ (x_32 : Int) (x_33 : Int), law04_WireSizes.l0 y_2 y_4 y_12 k_l0 x_32 x_33 = some true ∧ Kn 98 a [(1, .pointer (some ⟨b_1, 0, none⟩)), (3, .bool y_2), (4, v_17), (6, .int .i64 x_32), (7, .int .i64 x_33)] ∧ St [] w0 w R_14 [.cells b_1 [v_8, v_10] 37, .row 5 1 v_17 y_12.1.length cs_18]) (((y_4.Cols.length : Int) - 0).toNat + 1) ?_ ?_
    · have hS := hS.pk1
      exact ⟨11, 0, H, hK.sub (all_cons rfl (all_cons rfl (all_cons rfl (all_cons rfl (all_cons rfl (all_nil)))))), hS⟩
    · rintro k_l0 a w ⟨x_32, x_33, H, hK, hS⟩
      cases k_l0 with
      | zero => cases H
      | succ k_l0 =>
      rw [law04_WireSizes.l0.eq_2] at H
      refine wp_seq ?_
      refine wp_seq ?_
      refine wp_region_lit ?_
      refine sl hK (by decide) rfl rfl (r_move hK rfl) fun a hK => ?_
      refine sl hK (by decide) rfl rfl (r_fieldAddr Try.underlying37 rfl Try.sizeOf34 hK rfl) fun a hK => ?_
      refine sl hK (by decide) rfl rfl (r_load Try.isAgg34 hK rfl (hS.cell (.head _) rfl)) fun a hK => ?_
      refine sl hK (by decide) rfl rfl (r_len_R Try.underlying34 hs_9 hK rfl) fun a hK => ?_
      refine sl hK (by decide) rfl rfl (r_ibin hK rfl rfl rfl) fun a hK => ?_
      refine wpList_nil ?_
      refine wp_cond_split (hK.ev rfl) (fun (hb_45 : (decide (x_33 < (y_4.Cols.length : Int))) = true) => ?_) (fun (hb_45 : (decide (x_33 < (y_4.Cols.length : Int))) = false) => ?_)
      · rw [ifb_t hb_45] at H
        refine wp_skip ?_
        refine wp_seq ?_
        refine wp_block ?_
        refine wp_region_lit ?_
        refine sl hK (by decide) rfl rfl (r_move hK rfl) fun a hK => ?_
        refine sl hK (by decide) rfl rfl (r_ibin hK rfl rfl rfl) fun a hK => ?_
        refine sl hK (by decide) rfl rfl (r_fieldAddr Try.underlying37 rfl Try.sizeOf34 hK rfl) fun a hK => ?_
        refine sl hK (by decide) rfl rfl (r_load Try.isAgg34 hK rfl (hS.cell (.head _) rfl)) fun a hK => ?_
        refine sl hK (by decide) rfl rfl (r_move hK rfl) fun a hK => ?_
        obtain ⟨y_46, h_47, H⟩ := bind_some H
        obtain ⟨b_48, o_49, c_50, cs_51, hv_52, hr_53, hc_54, h_470, h_471⟩ := hs_9.ix h_47
        subst hr_53
        refine sl hK (by decide) rfl rfl (r_indexAddr_R Try.underlying34 Try.sizeOf48 hv_52 h_470 h_471 hK rfl rfl) fun a hK => ?_
        refine sl hK (by decide) rfl rfl (r_fieldAddr Try.underlying48 rfl Try.sizeOf9 hK rfl) fun a hK => ?_
        refine sl hK (by decide) rfl rfl (r_load Try.isAgg9 hK rfl ((hS.sub.le hl_15.le).cell (hc_54 0 _ rfl))) fun a hK => ?_
        refine sl hK (by decide) rfl rfl (r_len_str Try.underlying9 hK rfl) fun a hK => ?_
        refine sl hK (by decide) rfl rfl (r_ibin hK rfl rfl rfl) fun a hK => ?_
        refine sl hK (by decide) rfl rfl (r_assign hK rfl) fun a hK => ?_
        refine wpList_nil ?_
        refine wp_region_lit ?_
        refine sl hK (by decide) rfl rfl (r_move hK rfl) fun a hK => ?_
        refine sl hK (by decide) rfl rfl (r_ibin hK rfl rfl rfl) fun a hK => ?_
        refine sl hK (by decide) rfl rfl (r_assign hK rfl) fun a hK => ?_
        refine wpList_nil ?_
        have hS := hS.pk1
        have hS := hS.pk1
        exact ⟨_, Nat.lt_succ_self _, (IntKind.i64.wrap ((IntKind.i64.wrap (x_32 + 2)) + (y_46.Name.size : Int))), (IntKind.i64.wrap (x_33 + 1)), H, hK.sub (all_cons rfl (all_cons rfl (all_cons rfl (all_cons rfl (all_cons rfl (all_nil)))))), hS⟩
      · rw [ifb_f hb_45] at H
        refine wp_exit ?_
        refine wp_seq ?_
        refine wp_seq ?_
        refine wp_region_lit ?_
        refine sl hK (by decide) rfl rfl (r_assign hK rfl) fun a hK => ?_
        refine wpList_nil ?_
        refine wp_block ?_
        refine wp_loop_k (fun k_l1 a w => ∃ (x_588 : Int) (x_589 : Int), law04_WireSizes.l1 y_2 y_4 y_12 k_l1 x_588 x_589 = some true ∧ Kn 98 a [(1, .pointer (some ⟨b_1, 0, none⟩)), (3, .bool y_2), (4, v_17), (6, .int .i64 x_588), (8, .int .i64 x_589)] ∧ St [] w0 w R_14 [.cells b_1 [v_8, v_10] 37, .row 5 1 v_17 y_12.1.length cs_18]) (((y_4.Rows.length : Int) - 0).toNat + 1) ?_ ?_
        · have hS := hS.pk1
          have hS := hS.pk1
          exact ⟨x_32, 0, H, hK.sub (all_cons rfl (all_cons rfl (all_cons rfl (all_cons rfl (all_cons rfl (all_nil)))))), hS⟩
        · rintro k_l1 a w ⟨x_588, x_589, H, hK, hS⟩
          cases k_l1 with
          | zero => cases H
          | succ k_l1 =>
          rw [law04_WireSizes.l1.eq_2] at H
          refine wp_seq ?_
          refine wp_seq ?_
          refine wp_region_lit ?_
          refine sl hK (by decide) rfl rfl (r_move hK rfl) fun a hK => ?_
          refine sl hK (by decide) rfl rfl (r_fieldAddr Try.underlying37 rfl Try.sizeOf35 hK rfl) fun a hK => ?_
          refine sl hK (by decide) rfl rfl (r_load Try.isAgg35 hK rfl (hS.cell (.head _) rfl)) fun a hK => ?_
          refine sl hK (by decide) rfl rfl (r_len_R Try.underlying35 hs_11 hK rfl) fun a hK => ?_
          refine sl hK (by decide) rfl rfl (r_ibin hK rfl rfl rfl) fun a hK => ?_
          refine wpList_nil ?_
          refine wp_cond_split (hK.ev rfl) (fun (hb_1123 : (decide (x_589 < (y_4.Rows.length : Int))) = true) => ?_) (fun (hb_1123 : (decide (x_589 < (y_4.Rows.length : Int))) = false) => ?_)
          · rw [ifb_t hb_1123] at H
            refine wp_skip ?_
            refine wp_seq ?_
            refine wp_block ?_
            refine wp_seq ?_
            refine wp_region_lit ?_
            refine sl hK (by decide) rfl rfl (r_assign hK rfl) fun a hK => ?_
            refine wpList_nil ?_
            refine wp_block ?_
            refine wp_loop_k (fun k_l2 a w => ∃ (x_1297 : Int) (x_1298 : Int), law04_WireSizes.l2 (law04_WireSizes.l1 y_2 y_4 y_12 k_l1) y_4 x_589 k_l2 x_1297 x_1298 = some true ∧ Kn 98 a [(1, .pointer (some ⟨b_1, 0, none⟩)), (3, .bool y_2), (4, v_17), (6, .int .i64 x_1297), (8, .int .i64 x_589), (9, .int .i64 x_1298)] ∧ St [] w0 w R_14 [.cells b_1 [v_8, v_10] 37, .row 5 1 v_17 y_12.1.length cs_18]) (((((ix y_4.Rows x_589).getD []).length : Int) - 0).toNat + 1) ?_ ?_
            · have hS := hS.pk1
              have hS := hS.pk1
              exact ⟨x_588, 0, H, hK.sub (all_cons rfl (all_cons rfl (all_cons rfl (all_cons rfl (all_cons rfl (all_cons rfl (all_nil))))))), hS⟩
            · rintro k_l2 a w ⟨x_1297, x_1298, H, hK, hS⟩
              cases k_l2 with
              | zero => cases H
              | succ k_l2 =>
              rw [law04_WireSizes.l2.eq_2] at H
              refine wp_seq ?_
              refine wp_seq ?_
              refine wp_region_lit ?_
              refine sl hK (by decide) rfl rfl (r_move hK rfl) fun a hK => ?_
              refine sl hK (by decide) rfl rfl (r_fieldAddr Try.underlying37 rfl Try.sizeOf35 hK rfl) fun a hK => ?_
              refine sl hK (by decide) rfl rfl (r_load Try.isAgg35 hK rfl (hS.cell (.head _) rfl)) fun a hK => ?_
              refine sl hK (by decide) rfl rfl (r_move hK rfl) fun a hK => ?_
              obtain ⟨y_1483, h_1484, H⟩ := bind_some H
              obtain ⟨b_1485, o_1486, c_1487, cs_1488, hv_1489, hr_1490, hc_1491, h_14840, h_14841⟩ := hs_11.ix h_1484
              obtain ⟨v_1492, rfl, hs_1493⟩ := hr_1490
              refine sl hK (by decide) rfl rfl (r_indexAddr_R Try.underlying35 Try.sizeOf49 hv_1489 h_14840 h_14841 hK rfl rfl) fun a hK => ?_
              refine sl hK (by decide) rfl rfl (r_load Try.isAgg49 hK rfl ((hS.sub.le hl_15.le).cell (hc_1491 0 _ rfl))) fun a hK => ?_
              refine sl hK (by decide) rfl rfl (r_len_R Try.underlying49 hs_1493 hK rfl) fun a hK => ?_
              refine sl hK (by decide) rfl rfl (r_ibin hK rfl rfl rfl) fun a hK => ?_
              refine wpList_nil ?_
              refine wp_cond_split (hK.ev rfl) (fun (hb_1494 : (decide (x_1298 < (y_1483.length : Int))) = true) => ?_) (fun (hb_1494 : (decide (x_1298 < (y_1483.length : Int))) = false) => ?_)
              · rw [ifb_t hb_1494] at H
                refine wp_skip ?_
                refine wp_seq ?_
                refine wp_block ?_
                refine wp_seq ?_
                refine wp_region_lit ?_
                refine sl hK (by decide) rfl rfl (r_fieldAddr Try.underlying37 rfl Try.sizeOf35 hK rfl) fun a hK => ?_
                refine sl hK (by decide) rfl rfl (r_load Try.isAgg35 hK rfl (hS.cell (.head _) rfl)) fun a hK => ?_
                refine sl hK (by decide) rfl rfl (r_move hK rfl) fun a hK => ?_
                obtain ⟨y_1495, h_1496, H⟩ := bind_some H
                obtain ⟨b_1497, o_1498, c_1499, cs_1500, hv_1501, hr_1502, hc_1503, h_14960, h_14961⟩ := hs_11.ix h_1496
                obtain ⟨v_1504, rfl, hs_1505⟩ := hr_1502
                refine sl hK (by decide) rfl rfl (r_indexAddr_R Try.underlying35 Try.sizeOf49 hv_1501 h_14960 h_14961 hK rfl rfl) fun a hK => ?_
                refine sl hK (by decide) rfl rfl (r_load Try.isAgg49 hK rfl ((hS.sub.le hl_15.le).cell (hc_1503 0 _ rfl))) fun a hK => ?_
                refine sl hK (by decide) rfl rfl (r_move hK rfl) fun a hK => ?_
                obtain ⟨y_1506, h_1507, H⟩ := bind_some H
                obtain ⟨b_1508, o_1509, c_1510, cs_1511, hv_1512, hr_1513, hc_1514, h_15070, h_15071⟩ := hs_1505.ix h_1507
                subst hr_1513
                refine sl hK (by decide) rfl rfl (r_indexAddr_R Try.underlying49 Try.sizeOf25 hv_1512 h_15070 h_15071 hK rfl rfl) fun a hK => ?_
                refine sl hK (by decide) rfl rfl (r_fieldAddr Try.underlying25 rfl Try.sizeOf3 hK rfl) fun a hK => ?_
                refine sl hK (by decide) rfl rfl (r_load Try.isAgg3 hK rfl ((hS.sub.le hl_15.le).cell (hc_1514 0 _ rfl))) fun a hK => ?_
                refine wpList_nil ?_
                refine wp_block ?_
                refine wp_seq ?_
                refine wp_region_lit ?_
                refine sl hK (by decide) rfl rfl (r_ibin hK rfl rfl rfl) fun a hK => ?_
                refine sl hK (by decide) rfl rfl (r_assign hK rfl) fun a hK => ?_
                refine wpList_nil ?_
                refine wp_mid (fun a w => ∃ (x_1584 : Int), law04_WireSizes.j3 (law04_WireSizes.l2 (law04_WireSizes.l1 y_2 y_4 y_12 k_l1) y_4 x_589 k_l2) y_4 x_589 x_1298 x_1584 = some true ∧ Kn 98 a [(1, .pointer (some ⟨b_1, 0, none⟩)), (3, .bool y_2), (4, v_17), (6, .int .i64 x_1584), (8, .int .i64 x_589), (9, .int .i64 x_1298)] ∧ St [] w0 w R_14 [.cells b_1 [v_8, v_10] 37, .row 5 1 v_17 y_12.1.length cs_18]) ?_ ?_
                · refine wp_cond_split (hK.ev rfl) (fun (hb_1586 : (y_1506.Kind == 1) = true) => ?_) (fun (hb_1586 : (y_1506.Kind == 1) = false) => ?_)
                  · rw [ifb_t hb_1586] at H
                    refine wp_region_lit ?_
                    refine sl hK (by decide) rfl rfl (r_move hK rfl) fun a hK => ?_
                    refine sl hK (by decide) rfl rfl (r_ibin hK rfl rfl rfl) fun a hK => ?_
                    refine sl hK (by decide) rfl rfl (r_assign hK rfl) fun a hK => ?_
                    refine wpList_nil ?_
                    have hS := hS.pk1
                    have hS := hS.pk1
                    exact ⟨(IntKind.i64.wrap (x_1297 + 8)), H, hK.sub (all_cons rfl (all_cons rfl (all_cons rfl (all_cons rfl (all_cons rfl (all_cons rfl (all_nil))))))), hS⟩
                  · rw [ifb_f hb_1586] at H
                    refine wp_seq ?_
                    refine wp_region_lit ?_
                    refine sl hK (by decide) rfl rfl (r_ibin hK rfl rfl rfl) fun a hK => ?_
                    refine sl hK (by decide) rfl rfl (r_assign hK rfl) fun a hK => ?_
                    refine wpList_nil ?_
                    refine wp_mid (fun a w => ∃ (x_1620 : Int), law04_WireSizes.j4 (law04_WireSizes.l2 (law04_WireSizes.l1 y_2 y_4 y_12 k_l1) y_4 x_589 k_l2) y_4 x_589 x_1298 x_1620 = some true ∧ Kn 98 a [(1, .pointer (some ⟨b_1, 0, none⟩)), (3, .bool y_2), (4, v_17), (6, .int .i64 x_1620), (8, .int .i64 x_589), (9, .int .i64 x_1298)] ∧ St [] w0 w R_14 [.cells b_1 [v_8, v_10] 37, .row 5 1 v_17 y_12.1.length cs_18]) ?_ ?_
                    · refine wp_cond_split (hK.ev rfl) (fun (hb_1622 : (y_1506.Kind == 2) = true) => ?_) (fun (hb_1622 : (y_1506.Kind == 2) = false) => ?_)
                      · rw [ifb_t hb_1622] at H
                        refine wp_region_lit ?_
                        refine sl hK (by decide) rfl rfl (r_move hK rfl) fun a hK => ?_
                        refine sl hK (by decide) rfl rfl (r_ibin hK rfl rfl rfl) fun a hK => ?_
                        refine sl hK (by decide) rfl rfl (r_fieldAddr Try.underlying37 rfl Try.sizeOf35 hK rfl) fun a hK => ?_
                        refine sl hK (by decide) rfl rfl (r_load Try.isAgg35 hK rfl (hS.cell (.head _) rfl)) fun a hK => ?_
                        refine sl hK (by decide) rfl rfl (r_move hK rfl) fun a hK => ?_
                        obtain ⟨y_1623, h_1624, H⟩ := bind_some H
                        obtain ⟨b_1625, o_1626, c_1627, cs_1628, hv_1629, hr_1630, hc_1631, h_16240, h_16241⟩ := hs_11.ix h_1624
                        obtain ⟨v_1632, rfl, hs_1633⟩ := hr_1630
                        refine sl hK (by decide) rfl rfl (r_indexAddr_R Try.underlying35 Try.sizeOf49 hv_1629 h_16240 h_16241 hK rfl rfl) fun a hK => ?_
                        refine sl hK (by decide) rfl rfl (r_load Try.isAgg49 hK rfl ((hS.sub.le hl_15.le).cell (hc_1631 0 _ rfl))) fun a hK => ?_
                        refine sl hK (by decide) rfl rfl (r_move hK rfl) fun a hK => ?_
                        obtain ⟨y_1634, h_1635, H⟩ := bind_some H
                        obtain ⟨b_1636, o_1637, c_1638, cs_1639, hv_1640, hr_1641, hc_1642, h_16350, h_16351⟩ := hs_1633.ix h_1635
                        subst hr_1641
                        refine sl hK (by decide) rfl rfl (r_indexAddr_R Try.underlying49 Try.sizeOf25 hv_1640 h_16350 h_16351 hK rfl rfl) fun a hK => ?_
                        refine sl hK (by decide) rfl rfl (r_fieldAddr Try.underlying25 rfl Try.sizeOf9 hK rfl) fun a hK => ?_
                        refine sl hK (by decide) rfl rfl (r_load Try.isAgg9 hK rfl ((hS.sub.le hl_15.le).cell (hc_1642 2 _ rfl))) fun a hK => ?_
                        refine sl hK (by decide) rfl rfl (r_len_str Try.underlying9 hK rfl) fun a hK => ?_
                        refine sl hK (by decide) rfl rfl (r_ibin hK rfl rfl rfl) fun a hK => ?_
                        refine sl hK (by decide) rfl rfl (r_assign hK rfl) fun a hK => ?_
                        refine wpList_nil ?_
                        have hS := hS.pk1
                        have hS := hS.pk1
                        exact ⟨(IntKind.i64.wrap ((IntKind.i64.wrap (x_1297 + 1)) + (y_1634.S.size : Int))), H, hK.sub (all_cons rfl (all_cons rfl (all_cons rfl (all_cons rfl (all_cons rfl (all_cons rfl (all_nil))))))), hS⟩
                      · rw [ifb_f hb_1622] at H
                        refine wp_seq ?_
                        refine wp_region_lit ?_
                        refine sl hK (by decide) rfl rfl (r_ibin hK rfl rfl rfl) fun a hK => ?_
                        refine sl hK (by decide) rfl rfl (r_assign hK rfl) fun a hK => ?_
                        refine wpList_nil ?_
                        refine wp_mid (fun a w => ∃ (x_1648 : Int), law04_WireSizes.j5 (law04_WireSizes.l2 (law04_WireSizes.l1 y_2 y_4 y_12 k_l1) y_4 x_589 k_l2) y_4 x_589 x_1298 x_1648 = some true ∧ Kn 98 a [(1, .pointer (some ⟨b_1, 0, none⟩)), (3, .bool y_2), (4, v_17), (6, .int .i64 x_1648), (8, .int .i64 x_589), (9, .int .i64 x_1298)] ∧ St [] w0 w R_14 [.cells b_1 [v_8, v_10] 37, .row 5 1 v_17 y_12.1.length cs_18]) ?_ ?_
                        · refine wp_cond_split (hK.ev rfl) (fun (hb_1650 : (y_1506.Kind == 3) = true) => ?_) (fun (hb_1650 : (y_1506.Kind == 3) = false) => ?_)
                          · rw [ifb_t hb_1650] at H
                            refine wp_region_lit ?_
                            refine sl hK (by decide) rfl rfl (r_move hK rfl) fun a hK => ?_
                            refine sl hK (by decide) rfl rfl (r_ibin hK rfl rfl rfl) fun a hK => ?_
                            refine sl hK (by decide) rfl rfl (r_assign hK rfl) fun a hK => ?_
                            refine wpList_nil ?_
                            have hS := hS.pk1
                            have hS := hS.pk1
                            exact ⟨(IntKind.i64.wrap (x_1297 + 1)), H, hK.sub (all_cons rfl (all_cons rfl (all_cons rfl (all_cons rfl (all_cons rfl (all_cons rfl (all_nil))))))), hS⟩
                          · rw [ifb_f hb_1650] at H
                            refine wp_seq ?_
                            refine wp_region_lit ?_
                            refine sl hK (by decide) rfl rfl (r_ibin hK rfl rfl rfl) fun a hK => ?_
                            refine sl hK (by decide) rfl rfl (r_assign hK rfl) fun a hK => ?_
                            refine wpList_nil ?_
                            refine wp_mid (fun a w => ∃ (x_1652 : Int), law04_WireSizes.j6 (law04_WireSizes.l2 (law04_WireSizes.l1 y_2 y_4 y_12 k_l1) y_4 x_589 k_l2) y_4 x_589 x_1298 x_1652 = some true ∧ Kn 98 a [(1, .pointer (some ⟨b_1, 0, none⟩)), (3, .bool y_2), (4, v_17), (6, .int .i64 x_1652), (8, .int .i64 x_589), (9, .int .i64 x_1298)] ∧ St [] w0 w R_14 [.cells b_1 [v_8, v_10] 37, .row 5 1 v_17 y_12.1.length cs_18]) ?_ ?_
                            · refine wp_cond_split (hK.ev rfl) (fun (hb_1654 : (y_1506.Kind == 4) = true) => ?_) (fun (hb_1654 : (y_1506.Kind == 4) = false) => ?_)
                              · rw [ifb_t hb_1654] at H
                                refine wp_region_lit ?_
                                refine sl hK (by decide) rfl rfl (r_move hK rfl) fun a hK => ?_
                                refine sl hK (by decide) rfl rfl (r_ibin hK rfl rfl rfl) fun a hK => ?_
                                refine sl hK (by decide) rfl rfl (r_assign hK rfl) fun a hK => ?_
                                refine wpList_nil ?_
                                have hS := hS.pk1
                                have hS := hS.pk1
                                exact ⟨(IntKind.i64.wrap (x_1297 + 64)), H, hK.sub (all_cons rfl (all_cons rfl (all_cons rfl (all_cons rfl (all_cons rfl (all_cons rfl (all_nil))))))), hS⟩
                              · rw [ifb_f hb_1654] at H
                                refine wp_skip ?_
                                have hS := hS.pk1
                                have hS := hS.pk1
                                exact ⟨x_1297, H, hK.sub (all_cons rfl (all_cons rfl (all_cons rfl (all_cons rfl (all_cons rfl (all_cons rfl (all_nil))))))), hS⟩
                            · rintro a w ⟨x_1652, H, hK, hS⟩
                              unfold law04_WireSizes.j6 at H
                              have hS := hS.pk1
                              have hS := hS.pk1
                              exact ⟨x_1652, H, hK.sub (all_cons rfl (all_cons rfl (all_cons rfl (all_cons rfl (all_cons rfl (all_cons rfl (all_nil))))))), hS⟩
                        · rintro a w ⟨x_1648, H, hK, hS⟩
                          unfold law04_WireSizes.j5 at H
                          have hS := hS.pk1
                          have hS := hS.pk1
                          exact ⟨x_1648, H, hK.sub (all_cons rfl (all_cons rfl (all_cons rfl (all_cons rfl (all_cons rfl (all_cons rfl (all_nil))))))), hS⟩
                    · rintro a w ⟨x_1620, H, hK, hS⟩
                      unfold law04_WireSizes.j4 at H
                      have hS := hS.pk1
                      have hS := hS.pk1
                      exact ⟨x_1620, H, hK.sub (all_cons rfl (all_cons rfl (all_cons rfl (all_cons rfl (all_cons rfl (all_cons rfl (all_nil))))))), hS⟩
                · rintro a w ⟨x_1584, H, hK, hS⟩
                  unfold law04_WireSizes.j3 at H
                  refine wp_region_lit ?_
                  refine sl hK (by decide) rfl rfl (r_move hK rfl) fun a hK => ?_
                  refine sl hK (by decide) rfl rfl (r_ibin hK rfl rfl rfl) fun a hK => ?_
                  refine sl hK (by decide) rfl rfl (r_assign hK rfl) fun a hK => ?_
                  refine wpList_nil ?_
                  have hS := hS.pk1
                  have hS := hS.pk1
                  exact ⟨_, Nat.lt_succ_self _, x_1584, (IntKind.i64.wrap (x_1298 + 1)), H, hK.sub (all_cons rfl (all_cons rfl (all_cons rfl (all_cons rfl (all_cons rfl (all_cons rfl (all_nil))))))), hS⟩
              · rw [ifb_f hb_1494] at H
                refine wp_exit ?_
                refine wp_region_lit ?_
                refine sl hK (by decide) rfl rfl (r_move hK rfl) fun a hK => ?_
                refine sl hK (by decide) rfl rfl (r_ibin hK rfl rfl rfl) fun a hK => ?_
                refine sl hK (by decide) rfl rfl (r_assign hK rfl) fun a hK => ?_
                refine wpList_nil ?_
                have hS := hS.pk1
                have hS := hS.pk1
                exact ⟨_, Nat.lt_succ_self _, x_1297, (IntKind.i64.wrap (x_589 + 1)), H, hK.sub (all_cons rfl (all_cons rfl (all_cons rfl (all_cons rfl (all_cons rfl (all_nil)))))), hS⟩
          · rw [ifb_f hb_1123] at H
            refine wp_exit ?_
            refine wp_seq ?_
            refine wp_region_lit ?_
            refine sl hK (by decide) rfl rfl (r_move hK rfl) fun a hK => ?_
            refine sl hK (by decide) rfl rfl (r_move hK rfl) fun a hK => ?_
            rcases or_b y_2 with hb_1655 | hb_1655
            · rw [ifb_t hb_1655] at H
              refine sl hK (by decide) (wtt hb_1655) rfl (r_move hK rfl) fun a hK => ?_
              refine sl hK (by decide) (wtt hb_1655) rfl (r_len_O Try.underlying22 hS (.tail _ (.head _)) hK rfl) fun a hK => ?_
              refine sl hK (by decide) (wtt hb_1655) rfl (r_move hK rfl) fun a hK => ?_
              refine sl hK (by decide) (wtt hb_1655) rfl (r_ibin hK rfl rfl rfl) fun a hK => ?_
              refine sl hK (by decide) rfl rfl (r_pick_t hb_1655 hK rfl rfl) fun a hK => ?_
              refine sl hK (by decide) rfl rfl (r_assign hK rfl) fun a hK => ?_
              refine wpList_nil ?_
              have hr_ := Option.some.inj H
              refine wp_ret ?_
              repeat (first | refine ret_then ?_ | refine ret_block ?_ | refine ret_scope ?_)
              exact ret_1 Try.results10 hK (rv_tmp hK rfl) ⟨congrArg (fun b => Ending.returned (Value.bool b)) hr_, hS.bel⟩
            · rw [ifb_f hb_1655] at H
              refine sl_skip hK (by decide) (wtf hb_1655) rfl fun a hK => ?_
              refine sl_skip hK (by decide) (wtf hb_1655) rfl fun a hK => ?_
              refine sl_skip hK (by decide) (wtf hb_1655) rfl fun a hK => ?_
              refine sl_skip hK (by decide) (wtf hb_1655) rfl fun a hK => ?_
              refine sl hK (by decide) rfl rfl (r_pick_f hb_1655 hK rfl rfl) fun a hK => ?_
              refine sl hK (by decide) rfl rfl (r_assign hK rfl) fun a hK => ?_
              refine wpList_nil ?_
              exact absurd (Option.some.inj H) (by decide)

end Go.Proofs.Ytifijboegibchaa.M
