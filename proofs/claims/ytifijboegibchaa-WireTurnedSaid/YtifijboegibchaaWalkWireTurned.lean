/- Each Go function of the laws answers as its plain Lean function tells, wherever that tells something. Printed by wip/eng/gen.py. -/
import Derived.Test.YtifijboegibchaaWalk3
namespace Go.Proofs.Ytifijboegibchaa.M
open Go Go.Eng Go.Proofs Go.RowKit
set_option linter.unusedVariables false
set_option linter.unusedSimpArgs false

/-! ### catchment/catchmentlaw04.WireTurned: function 8 -/
set_option maxHeartbeats 4000000 in
set_option maxRecDepth 100000 in
theorem law04_WireTurned.calls (a0 : api_Table) (a1 : Int) (a2 : Int) {w0 : World} {R : Hp} {v0_0 : Value} {v0_1 : Value} (hR : R.sub w0) (h0_0 : SlR ty_api_Col R v0_0 a0.Cols) (h0_1 : SlR (tySl ty_api_Value) R v0_1 a0.Rows) (H : law04_WireTurned a0 a1 a2 = some true) : CallsV Try.prog 8 #[.agg #[v0_0, v0_1], .int .i64 a1, .int .i64 a2] w0 (.bool true) := by
  unfold law04_WireTurned at H
  refine enter (args := [.agg #[v0_0, v0_1], .int .i64 a1, .int .i64 a2]) Try.func8 rfl Try.ntmps8 rfl fun a hK => ?_
  have hS := St.init hR
  have hRL := RLe.refl (M := []) w0 R
  refine wp_seq ?_
  refine wp_region_lit ?_
  refine sl_box hS hK (by decide) rfl rfl (c := [v0_0, v0_1]) rfl fun a w b_1 hS hK => ?_
  refine sl hK (by decide) rfl rfl (r_assign hK rfl) fun a hK => ?_
  refine wpList_nil ?_
  refine wp_seq ?_
  refine wp_region_lit ?_
  obtain ⟨y_2, h_3, H⟩ := bind_some H
  refine sl_callV Try.call11 hS hK (by decide) rfl rfl rfl (law04_shown.calls h_3 _) fun a w hS hK => ?_
  refine sl hK (by decide) rfl rfl (r_assign hK rfl) fun a hK => ?_
  refine wpList_nil ?_
  refine wp_seq ?_
  refine wp_region_lit ?_
  refine sl hK (by decide) rfl rfl (r_loadA (cs := [v0_0, v0_1]) Try.isAgg37 Try.sizeOf37 rfl hK rfl (hS.cells_of (m := 2) (.head _) rfl)) fun a hK => ?_
  obtain ⟨y_4, h_5, H⟩ := bind_some H
  refine sl_call Try.call16 hK (by decide) rfl rfl rfl (law04_cut.calls a0 hS.sub h0_0 h0_1 h_5) fun a v_ w hv_ hK => ?_
  obtain ⟨R_6, v_8, v_10, hv_, hr_, hl_7, hs_9, hs_11⟩ := hv_
  have hv_ := hv_.symm
  subst hv_
  obtain ⟨hS, hl_7⟩ := hS.sp0.back hr_ hl_7
  have hS := hS.un0
  have hRL := hRL.trans hl_7
  refine sl_storeA (vs := [v_8, v_10]) (c' := [v_8, v_10]) Try.sizeOf37 hS hK rfl rfl rfl rfl (all_cons hs_9.one (all_cons hs_11.one (all_nil))) (Nat.le_of_ble_eq_true rfl) rfl fun a w hS hK => ?_
  refine wpList_nil ?_
  refine wp_seq ?_
  refine wp_region_lit ?_
  refine sl hK (by decide) rfl rfl (r_loadA (cs := [v_8, v_10]) Try.isAgg37 Try.sizeOf37 rfl hK rfl (hS.cells_of (m := 2) (.head _) rfl)) fun a hK => ?_
  obtain ⟨y_12, h_13, H⟩ := bind_some H
  refine sl_call Try.call17 hK (by decide) rfl rfl rfl (wire_Encode.calls y_4 (lentOf_sub [] _) hS.sub (hs_9.mono hS.rLe0) (hs_11.mono hS.rLe0) h_13) fun a v_ w hv_ hK => ?_
  obtain ⟨R_14, v_17, cs_18, hv_, hr_, hl_15, hq_19⟩ := hv_
  have hv_ := hv_.symm
  subst hv_
  obtain ⟨hS, hl_15⟩ := hS.sp0.back hr_ hl_15
  have hS := hS.un1
  have hRL := hRL.trans hl_15
  refine sl hK (by decide) rfl rfl (r_move hK rfl) fun a hK => ?_
  refine sl hK (by decide) rfl rfl (r_extract hK rfl rfl) fun a hK => ?_
  refine sl hK (by decide) rfl rfl (r_extract hK rfl rfl) fun a hK => ?_
  refine sl hK (by decide) rfl rfl (r_assign hK rfl) fun a hK => ?_
  refine sl hK (by decide) rfl rfl (r_assign hK rfl) fun a hK => ?_
  refine wpList_nil ?_
  refine wp_seq ?_
  refine wp_seq ?_
  refine wp_region_lit ?_
  refine sl hK (by decide) rfl rfl (r_move hK rfl) fun a hK => ?_
  refine sl hK (by decide) rfl rfl (r_ibin hK rfl rfl rfl) fun a hK => ?_
  refine wpList_nil ?_
  refine wp_cond_split (hK.ev rfl) (fun (hb_20 : (y_12.2 != 0) = true) => ?_) (fun (hb_20 : (y_12.2 != 0) = false) => ?_)
  · rw [ifb_t hb_20] at H
    refine wp_seq ?_
    refine wp_region_lit ?_
    refine sl hK (by decide) rfl rfl (r_move hK rfl) fun a hK => ?_
    refine sl hK (by decide) rfl rfl (r_assign hK rfl) fun a hK => ?_
    refine wpList_nil ?_
    have hr_ := Option.some.inj H
    refine wp_ret ?_
    repeat (first | refine ret_then ?_ | refine ret_block ?_ | refine ret_scope ?_)
    exact ret_1 Try.results8 hK (rv_tmp hK rfl) ⟨congrArg (fun b => Ending.returned (Value.bool b)) hr_, hS.bel⟩
  · rw [ifb_f hb_20] at H
    refine wp_skip ?_
    refine wp_seq ?_
    refine wp_seq ?_
    refine wp_region_lit ?_
    refine sl hK (by decide) rfl rfl (r_move hK rfl) fun a hK => ?_
    refine sl hK (by decide) rfl rfl (r_len_O Try.underlying22 hS (.head _) hK rfl) fun a hK => ?_
    refine sl hK (by decide) rfl rfl (r_ibin hK rfl rfl rfl) fun a hK => ?_
    refine wpList_nil ?_
    refine wp_cond_split (hK.ev rfl) (fun (hb_21 : ((y_12.1.length : Int) == 0) = true) => ?_) (fun (hb_21 : ((y_12.1.length : Int) == 0) = false) => ?_)
    · rw [ifb_t hb_21] at H
      refine wp_seq ?_
      refine wp_region_lit ?_
      refine sl hK (by decide) rfl rfl (r_assign hK rfl) fun a hK => ?_
      refine wpList_nil ?_
      exact absurd (Option.some.inj H) (by decide)
    · rw [ifb_f hb_21] at H
      refine wp_skip ?_
      refine wp_seq ?_
      refine wp_seq ?_
      refine wp_region_lit ?_
      refine sl hK (by decide) rfl rfl (r_move hK rfl) fun a hK => ?_
      refine sl hK (by decide) rfl rfl (r_ibin hK rfl rfl rfl) fun a hK => ?_
      refine wpList_nil ?_
      refine wp_mid (fun a w => ∃ (x_23 : Int), law04_WireTurned.j0 a2 y_2 y_12 x_23 = some true ∧ Kn 100 a [(1, .int .i64 x_23), (2, .int .i64 a2), (7, .bool y_2), (8, v_17)] ∧ St [] w0 w R_14 [.row 5 1 v_17 y_12.1.length cs_18]) ?_ ?_
      · refine wp_cond_split (hK.ev rfl) (fun (hb_25 : (decide (a1 < 0)) = true) => ?_) (fun (hb_25 : (decide (a1 < 0)) = false) => ?_)
        · rw [ifb_t hb_25] at H
          refine wp_region_lit ?_
          refine sl hK (by decide) rfl rfl (r_move hK rfl) fun a hK => ?_
          refine sl hK (by decide) rfl rfl (r_ibin hK rfl rfl rfl) fun a hK => ?_
          refine sl hK (by decide) rfl rfl (r_un hK rfl (u_neg _ _)) fun a hK => ?_
          refine sl hK (by decide) rfl rfl (r_assign hK rfl) fun a hK => ?_
          refine wpList_nil ?_
          exact ⟨(IntKind.i64.wrap (0 - (IntKind.i64.wrap (a1 + 1)))), H, hK.sub (all_cons rfl (all_cons rfl (all_cons rfl (all_cons rfl (all_nil))))), hS.trunc 1⟩
        · rw [ifb_f hb_25] at H
          refine wp_skip ?_
          exact ⟨a1, H, hK.sub (all_cons rfl (all_cons rfl (all_cons rfl (all_cons rfl (all_nil))))), hS.trunc 1⟩
      · rintro a w ⟨x_23, H, hK, hS⟩
        unfold law04_WireTurned.j0 at H
        refine wp_seq ?_
        refine wp_seq ?_
        refine wp_region_lit ?_
        refine sl hK (by decide) rfl rfl (r_move hK rfl) fun a hK => ?_
        refine sl hK (by decide) rfl rfl (r_ibin hK rfl rfl rfl) fun a hK => ?_
        refine wpList_nil ?_
        refine wp_mid (fun a w => ∃ (x_27 : Int), law04_WireTurned.j1 y_2 y_12 x_23 x_27 = some true ∧ Kn 100 a [(1, .int .i64 x_23), (2, .int .i64 x_27), (7, .bool y_2), (8, v_17)] ∧ St [] w0 w R_14 [.row 5 1 v_17 y_12.1.length cs_18]) ?_ ?_
        · refine wp_cond_split (hK.ev rfl) (fun (hb_29 : (decide (a2 < 0)) = true) => ?_) (fun (hb_29 : (decide (a2 < 0)) = false) => ?_)
          · rw [ifb_t hb_29] at H
            refine wp_region_lit ?_
            refine sl hK (by decide) rfl rfl (r_move hK rfl) fun a hK => ?_
            refine sl hK (by decide) rfl rfl (r_ibin hK rfl rfl rfl) fun a hK => ?_
            refine sl hK (by decide) rfl rfl (r_un hK rfl (u_neg _ _)) fun a hK => ?_
            refine sl hK (by decide) rfl rfl (r_assign hK rfl) fun a hK => ?_
            refine wpList_nil ?_
            exact ⟨(IntKind.i64.wrap (0 - (IntKind.i64.wrap (a2 + 1)))), H, hK.sub (all_cons rfl (all_cons rfl (all_cons rfl (all_cons rfl (all_nil))))), hS⟩
          · rw [ifb_f hb_29] at H
            refine wp_skip ?_
            exact ⟨a2, H, hK.sub (all_cons rfl (all_cons rfl (all_cons rfl (all_cons rfl (all_nil))))), hS⟩
        · rintro a w ⟨x_27, H, hK, hS⟩
          unfold law04_WireTurned.j1 at H
          refine wp_seq ?_
          refine wp_region_lit ?_
          refine sl_buildSliceC (zc := [.int .u8 0]) (zs := []) (ps := []) (c := []) Try.underlying22 Try.sizeOf5 Try.zeroValue5 rfl pc_nil rfl rfl (by decide) (by kernel_rfl) rfl hS hK (by decide) rfl fun a w b_30 hS hK => ?_
          refine sl hK (by decide) rfl rfl (r_move hK rfl) fun a hK => ?_
          have hS := hS.row_lit (size := 1) (m := 0) rfl (by decide)
          have hq_32 : Reps (tyInt .u8) R_14 [] ([] : List Int) := (Reps.nil _ _)
          have hS := hS.pk1
          obtain ⟨R_33, hS, hl_35, hs_34⟩ := hS.fz_row hq_19 rfl rfl
          have hRL := hRL.trans hl_35
          obtain ⟨y_36, h_37, H⟩ := bind_some H
          refine sl_append_R elT22 (by decide) rfl (hq_32.mono hl_35.le) rfl hs_34 h_37 hS hK (by decide) rfl rfl rfl fun a w v_38 cs_39 hq_40 hS hK => ?_
          refine sl hK (by decide) rfl rfl (r_assign hK rfl) fun a hK => ?_
          refine wpList_nil ?_
          refine wp_seq ?_
          refine wp_region_lit ?_
          refine sl hK (by decide) rfl rfl (r_move hK rfl) fun a hK => ?_
          refine sl hK (by decide) rfl rfl (r_quo hK rfl rfl (by decide)) fun a hK => ?_
          refine sl hK (by decide) rfl rfl (r_move hK rfl) fun a hK => ?_
          refine sl hK (by decide) rfl rfl (r_len_O Try.underlying22 hS (.head _) hK rfl) fun a hK => ?_
          rcases or_b ((y_36.length : Int) != 0) with hn_42 | hn_42
          · rw [ifb_t hn_42] at H
            refine sl hK (by decide) rfl rfl (r_rem hK rfl rfl (ne_of_bne hn_42)) fun a hK => ?_
            refine sl hK (by decide) rfl rfl (r_assign hK rfl) fun a hK => ?_
            refine wpList_nil ?_
            refine wp_seq ?_
            refine parT_region (C := fun w => St [] w0 w R_33 [.row 5 1 v_38 y_36.length cs_39]) 10 [(0, true), (1, true), (2, true), (3, true), (4, true), (5, true), (6, true), (7, true), (8, true), (9, true)] mixed (by kernel_rfl) hS (fun w hS => hS) fun w hS => ?_
            refine sp (k := 0) rfl hK (by decide) rfl rfl (fun w hS => r_move hK rfl) fun a hK => ?_
            refine sp (k := 1) rfl hK (by decide) rfl rfl (fun w hS => r_move hK rfl) fun a hK => ?_
            refine sp (k := 2) rfl hK (by decide) rfl rfl (fun w hS => r_move hK rfl) fun a hK => ?_
            refine sp (k := 3) rfl hK (by decide) rfl rfl (fun w hS => r_move hK rfl) fun a hK => ?_
            obtain ⟨y_66, h_67, H⟩ := bind_some H
            obtain ⟨b_69, c_70, cs_71, hv_68, hr_72, hc_73, h_670, h_671⟩ := hS.row_ix (.head _) hq_40 rfl rfl h_67
            subst hr_72
            refine sp (k := 4) rfl hK (by decide) rfl rfl (fun w hS => r_indexAddr_R Try.underlying22 Try.sizeOf5 hv_68 h_670 h_671 hK rfl rfl) fun a hK => ?_
            refine sp (k := 5) rfl hK (by decide) rfl rfl (fun w hS => r_load Try.isAgg5 hK rfl (hS.row_cell (.head _) hv_68 (hc_73 0 _ rfl))) fun a hK => ?_
            refine sp (k := 6) rfl hK (by decide) rfl rfl (fun w hS => r_move hK rfl) fun a hK => ?_
            refine sp (k := 7) rfl hK (by decide) rfl rfl (fun w hS => r_rem hK rfl rfl (by decide)) fun a hK => ?_
            rcases or_b (decide (0 ≤ (x_23.tmod 8))) with hn_74 | hn_74
            · rw [ifb_t hn_74] at H
              refine sp (k := 8) rfl hK (by decide) rfl rfl (fun w hS => r_shl hK rfl rfl (of_decide_eq_true hn_74)) fun a hK => ?_
              refine sp (k := 9) rfl hK (by decide) rfl rfl (fun w hS => r_ibin hK rfl rfl rfl) fun a hK => ?_
              refine thenL_nil ?_
              obtain ⟨y_75, h_76, H⟩ := bind_some H
              obtain ⟨b_78, c_79, cs_80, hv_77, hr_81, hc_82, h_760, h_761⟩ := hS.row_ix (.head _) hq_40 rfl rfl h_76
              subst hr_81
              refine sl hK (by decide) rfl rfl (r_indexAddr_R Try.underlying22 Try.sizeOf5 hv_77 h_760 h_761 hK rfl rfl) fun a hK => ?_
              refine sl_store_row Try.sizeOf5 hv_77 h_76 rfl (show Ty.rep (tyInt .u8) _ [.int .u8 (IntKind.u8.wrap (BitVec.ofInt 8 y_66 ^^^ BitVec.ofInt 8 (IntKind.u8.wrap (1 * 2 ^ (min (x_23.tmod 8).toNat 8)))).toNat)] (IntKind.u8.wrap (BitVec.ofInt 8 y_66 ^^^ BitVec.ofInt 8 (IntKind.u8.wrap (1 * 2 ^ (min (x_23.tmod 8).toNat 8)))).toNat) from rfl) hq_40 rfl hS hK rfl rfl rfl rfl fun a w cs_83 hq_84 hS hK => ?_
              obtain ⟨z_88, h_86⟩ := ix_upd ((IntKind.i64.wrap (x_23.tdiv 8)).tmod (y_36.length : Int)) (IntKind.u8.wrap (BitVec.ofInt 8 y_66 ^^^ BitVec.ofInt 8 (IntKind.u8.wrap (1 * 2 ^ (min (x_23.tmod 8).toNat 8)))).toNat) h_67
              have hv_87 : v_38 = Value.slice (some ⟨b_69, 0, none⟩) (upd y_36 ((IntKind.i64.wrap (x_23.tdiv 8)).tmod (y_36.length : Int)) (IntKind.u8.wrap (BitVec.ofInt 8 y_66 ^^^ BitVec.ofInt 8 (IntKind.u8.wrap (1 * 2 ^ (min (x_23.tmod 8).toNat 8)))).toNat)).length c_70 := by rw [upd_length]; exact hv_68
              refine wpList_nil (NoP_nil ?_)
              refine wp_seq ?_
              refine wp_region_lit ?_
              refine sl hK (by decide) rfl rfl (r_move hK rfl) fun a hK => ?_
              obtain ⟨R_89, hS, hl_91, hs_90⟩ := hS.fz_row hq_84 rfl rfl
              have hRL := hRL.trans hl_91
              obtain ⟨y_92, h_93, H⟩ := bind_some H
              refine sl_call Try.call19 hK (by decide) rfl rfl rfl (wire_Decode.calls (upd y_36 ((IntKind.i64.wrap (x_23.tdiv 8)).tmod (y_36.length : Int)) (IntKind.u8.wrap (BitVec.ofInt 8 y_66 ^^^ BitVec.ofInt 8 (IntKind.u8.wrap (1 * 2 ^ (min (x_23.tmod 8).toNat 8)))).toNat)) hS.sub hs_90 h_93) fun a v_ w hv_ hK => ?_
              obtain ⟨R_94, v_97, cs_98, v_101, cs_102, hv_, hr_, hl_95, hq_99, hq_103⟩ := hv_
              have hv_ := hv_.symm
              subst hv_
              obtain ⟨hS, hl_95⟩ := hS.sp0.back hr_ hl_95
              have hS := hS.un2
              have hRL := hRL.trans hl_95
              refine sl hK (by decide) rfl rfl (r_move hK rfl) fun a hK => ?_
              refine sl hK (by decide) rfl rfl (r_extract hK rfl rfl) fun a hK => ?_
              refine sl hK (by decide) rfl rfl (r_extract hK rfl rfl) fun a hK => ?_
              refine sl_alloc Try.zeroValue37 hS hK (by decide) rfl rfl fun a w b_104 hS hK => ?_
              refine sl_storeA (vs := [v_97, v_101]) (c' := [v_97, v_101]) Try.sizeOf37 hS hK rfl rfl rfl rfl (all_cons (hS.row_one (.tail _ (.head _))) (all_cons (hS.row_one (.tail _ (.tail _ (.head _)))) (all_nil))) (Nat.le_of_ble_eq_true rfl) rfl fun a w hS hK => ?_
              refine sl hK (by decide) rfl rfl (r_assign hK rfl) fun a hK => ?_
              refine wpList_nil ?_
              refine wp_seq ?_
              refine wp_region_lit ?_
              refine sl hK (by decide) rfl rfl (r_move hK rfl) fun a hK => ?_
              refine sl hK (by decide) rfl rfl (r_move hK rfl) fun a hK => ?_
              refine sl hK (by decide) rfl rfl (r_move hK rfl) fun a hK => ?_
              refine sl hK (by decide) rfl rfl (r_len_R Try.underlying22 hs_34 hK rfl) fun a hK => ?_
              rcases or_b ((y_12.1.length : Int) != 0) with hn_105 | hn_105
              · rw [ifb_t hn_105] at H
                refine sl hK (by decide) rfl rfl (r_rem hK rfl rfl (ne_of_bne hn_105)) fun a hK => ?_
                obtain ⟨y_106, h_107, H⟩ := bind_some H
                obtain ⟨v_108, hs_109, hr_110⟩ := r_slice_R (x := .tmp 67) (lo := none) (hi := some (.tmp 71)) Try.underlying22 Try.sizeOf5 hs_34 h_107 hK rfl rfl ⟨_, rfl⟩
                refine sl hK (by decide) rfl rfl (hr_110 _ _ _ _ _ _ _ hK) fun a hK => ?_
                obtain ⟨y_111, h_112, H⟩ := bind_some H
                refine sl_call Try.call19 hK (by decide) rfl rfl rfl (wire_Decode.calls y_106 hS.sub (hs_109.mono (hl_91.le.trans hl_95.le)) h_112) fun a v_ w hv_ hK => ?_
                obtain ⟨R_113, v_116, cs_117, v_120, cs_121, hv_, hr_, hl_114, hq_118, hq_122⟩ := hv_
                have hv_ := hv_.symm
                subst hv_
                obtain ⟨hS, hl_114⟩ := hS.sp0.back hr_ hl_114
                have hS := hS.un2
                have hRL := hRL.trans hl_114
                refine sl hK (by decide) rfl rfl (r_move hK rfl) fun a hK => ?_
                refine sl hK (by decide) rfl rfl (r_extract hK rfl rfl) fun a hK => ?_
                refine sl hK (by decide) rfl rfl (r_extract hK rfl rfl) fun a hK => ?_
                refine sl_alloc Try.zeroValue37 hS hK (by decide) rfl rfl fun a w b_123 hS hK => ?_
                refine sl_storeA (vs := [v_116, v_120]) (c' := [v_116, v_120]) Try.sizeOf37 hS hK rfl rfl rfl rfl (all_cons (hS.row_one (.tail _ (.head _))) (all_cons (hS.row_one (.tail _ (.tail _ (.head _)))) (all_nil))) (Nat.le_of_ble_eq_true rfl) rfl fun a w hS hK => ?_
                refine sl hK (by decide) rfl rfl (r_assign hK rfl) fun a hK => ?_
                refine wpList_nil ?_
                refine wp_seq ?_
                refine wp_region_lit ?_
                refine sl_buildSliceC (zc := [.int .u8 0]) (zs := []) (ps := []) (c := []) Try.underlying22 Try.sizeOf5 Try.zeroValue5 rfl pc_nil rfl rfl (by decide) (by kernel_rfl) rfl hS hK (by decide) rfl fun a w b_124 hS hK => ?_
                refine sl hK (by decide) rfl rfl (r_move hK rfl) fun a hK => ?_
                obtain ⟨y_127, h_128, H⟩ := bind_some H
                have hS := hS.row_lit (size := 1) (m := 0) rfl (by decide)
                have hq_126 : Reps (tyInt .u8) R_113 [] ([] : List Int) := (Reps.nil _ _)
                refine sl_append_R elT22 (by decide) rfl hq_126 rfl (hs_34.mono (hl_91.le.trans (hl_95.le.trans hl_114.le))) h_128 hS hK (by decide) rfl rfl rfl fun a w v_129 cs_130 hq_131 hS hK => ?_
                refine sl hK (by decide) rfl rfl (r_move hK rfl) fun a hK => ?_
                refine sl hK (by decide) rfl rfl (r_conv Try.underlying3 Try.underlying5 hK rfl) fun a hK => ?_
                refine sl_buildSliceF (zc := [.int .u8 0]) (ps := [(0, .int .u8 (IntKind.u8.wrap x_27))]) (c := [.int .u8 (IntKind.u8.wrap x_27)]) [[.int .u8 (IntKind.u8.wrap x_27)]] Try.underlying22 Try.sizeOf5 Try.zeroValue5 rfl (pc_cons rfl pc_nil) rfl rfl (Nat.le_of_ble_eq_true rfl) rfl (all_cons rfl (all_nil)) rfl hS hK (by decide) rfl fun a w b_133 hS hK => ?_
                obtain ⟨y_134, h_135, H⟩ := bind_some H
                have hS := hS.pk1
                refine sl_append_L (ty := (tyInt .u8)) (ys := [IntKind.u8.wrap x_27]) elT22 (by decide) rfl hq_131 rfl (Reps.cons (show Ty.rep (tyInt .u8) _ [.int .u8 (IntKind.u8.wrap x_27)] (IntKind.u8.wrap x_27) from rfl) (Reps.nil _ _)) rfl h_135 hS hK (by decide) rfl rfl rfl fun a w v_136 cs_137 hq_138 hS hK => ?_
                obtain ⟨R_140, hS, hl_142, hs_141⟩ := hS.fz_row hq_138 rfl rfl
                have hRL := hRL.trans hl_142
                obtain ⟨y_143, h_144, H⟩ := bind_some H
                refine sl_call Try.call19 hK (by decide) rfl rfl rfl (wire_Decode.calls y_134 hS.sub hs_141 h_144) fun a v_ w hv_ hK => ?_
                obtain ⟨R_145, v_148, cs_149, v_152, cs_153, hv_, hr_, hl_146, hq_150, hq_154⟩ := hv_
                have hv_ := hv_.symm
                subst hv_
                obtain ⟨hS, hl_146⟩ := hS.sp0.back hr_ hl_146
                have hS := hS.un2
                have hRL := hRL.trans hl_146
                refine sl hK (by decide) rfl rfl (r_move hK rfl) fun a hK => ?_
                refine sl hK (by decide) rfl rfl (r_extract hK rfl rfl) fun a hK => ?_
                refine sl hK (by decide) rfl rfl (r_extract hK rfl rfl) fun a hK => ?_
                refine sl_alloc Try.zeroValue37 hS hK (by decide) rfl rfl fun a w b_155 hS hK => ?_
                refine sl_storeA (vs := [v_148, v_152]) (c' := [v_148, v_152]) Try.sizeOf37 hS hK rfl rfl rfl rfl (all_cons (hS.row_one (.tail _ (.head _))) (all_cons (hS.row_one (.tail _ (.tail _ (.head _)))) (all_nil))) (Nat.le_of_ble_eq_true rfl) rfl fun a w hS hK => ?_
                refine sl hK (by decide) rfl rfl (r_assign hK rfl) fun a hK => ?_
                refine wpList_nil ?_
                refine wp_seq ?_
                refine wp_region_lit ?_
                refine sl hK (by decide) rfl rfl (r_move hK rfl) fun a hK => ?_
                refine sl hK (by decide) rfl rfl (r_move hK rfl) fun a hK => ?_
                rcases or_b y_2 with hb_156 | hb_156
                · rw [ifb_t hb_156] at H
                  refine sl hK (by decide) (wtt hb_156) rfl (r_move hK rfl) fun a hK => ?_
                  refine sl hK (by decide) (wtt hb_156) rfl (r_ibin hK rfl rfl rfl) fun a hK => ?_
                  refine sl hK (by decide) rfl rfl (r_pick_t hb_156 hK rfl rfl) fun a hK => ?_
                  refine sl hK (by decide) rfl rfl (r_move hK rfl) fun a hK => ?_
                  rcases or_b (y_92.2 == 40) with hb_157 | hb_157
                  · rw [ifb_t hb_157] at H
                    refine sl hK (by decide) (wtt hb_157) rfl (r_move hK rfl) fun a hK => ?_
                    refine sl hK (by decide) (wtt hb_157) rfl (r_ibin hK rfl rfl rfl) fun a hK => ?_
                    refine sl hK (by decide) rfl rfl (r_pick_t hb_157 hK rfl rfl) fun a hK => ?_
                    refine sl hK (by decide) rfl rfl (r_move hK rfl) fun a hK => ?_
                    rcases or_b (y_111.2 == 40) with hb_158 | hb_158
                    · rw [ifb_t hb_158] at H
                      refine sl hK (by decide) (wtt hb_158) rfl (r_move hK rfl) fun a hK => ?_
                      refine sl hK (by decide) (wtt hb_158) rfl (r_ibin hK rfl rfl rfl) fun a hK => ?_
                      refine sl hK (by decide) rfl rfl (r_pick_t hb_158 hK rfl rfl) fun a hK => ?_
                      refine sl hK (by decide) rfl rfl (r_assign hK rfl) fun a hK => ?_
                      refine wpList_nil ?_
                      have hr_ := Option.some.inj H
                      refine wp_ret ?_
                      repeat (first | refine ret_then ?_ | refine ret_block ?_ | refine ret_scope ?_)
                      exact ret_1 Try.results8 hK (rv_tmp hK rfl) ⟨congrArg (fun b => Ending.returned (Value.bool b)) hr_, hS.bel⟩
                    · rw [ifb_f hb_158] at H
                      refine sl_skip hK (by decide) (wtf hb_158) rfl fun a hK => ?_
                      refine sl_skip hK (by decide) (wtf hb_158) rfl fun a hK => ?_
                      refine sl hK (by decide) rfl rfl (r_pick_f hb_158 hK rfl rfl) fun a hK => ?_
                      refine sl hK (by decide) rfl rfl (r_assign hK rfl) fun a hK => ?_
                      refine wpList_nil ?_
                      exact absurd (Option.some.inj H) (by decide)
                  · rw [ifb_f hb_157] at H
                    refine sl_skip hK (by decide) (wtf hb_157) rfl fun a hK => ?_
                    refine sl_skip hK (by decide) (wtf hb_157) rfl fun a hK => ?_
                    refine sl hK (by decide) rfl rfl (r_pick_f hb_157 hK rfl rfl) fun a hK => ?_
                    refine sl hK (by decide) rfl rfl (r_move hK rfl) fun a hK => ?_
                    refine sl_skip hK (by decide) rfl rfl fun a hK => ?_
                    refine sl_skip hK (by decide) rfl rfl fun a hK => ?_
                    refine sl hK (by decide) rfl rfl (r_pick hK rfl rfl rfl) fun a hK => ?_
                    refine sl hK (by decide) rfl rfl (r_assign hK rfl) fun a hK => ?_
                    refine wpList_nil ?_
                    exact absurd (Option.some.inj H) (by decide)
                · rw [ifb_f hb_156] at H
                  refine sl_skip hK (by decide) (wtf hb_156) rfl fun a hK => ?_
                  refine sl_skip hK (by decide) (wtf hb_156) rfl fun a hK => ?_
                  refine sl hK (by decide) rfl rfl (r_pick_f hb_156 hK rfl rfl) fun a hK => ?_
                  refine sl hK (by decide) rfl rfl (r_move hK rfl) fun a hK => ?_
                  refine sl_skip hK (by decide) rfl rfl fun a hK => ?_
                  refine sl_skip hK (by decide) rfl rfl fun a hK => ?_
                  refine sl hK (by decide) rfl rfl (r_pick hK rfl rfl rfl) fun a hK => ?_
                  refine sl hK (by decide) rfl rfl (r_move hK rfl) fun a hK => ?_
                  refine sl_skip hK (by decide) rfl rfl fun a hK => ?_
                  refine sl_skip hK (by decide) rfl rfl fun a hK => ?_
                  refine sl hK (by decide) rfl rfl (r_pick hK rfl rfl rfl) fun a hK => ?_
                  refine sl hK (by decide) rfl rfl (r_assign hK rfl) fun a hK => ?_
                  refine wpList_nil ?_
                  exact absurd (Option.some.inj H) (by decide)
              · rw [ifb_f hn_105] at H
                cases H
            · rw [ifb_f hn_74] at H
              cases H
          · rw [ifb_f hn_42] at H
            cases H

end Go.Proofs.Ytifijboegibchaa.M
