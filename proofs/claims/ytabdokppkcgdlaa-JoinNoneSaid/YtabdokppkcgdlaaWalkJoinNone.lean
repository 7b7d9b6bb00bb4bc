/- Each Go function of the laws answers as its plain Lean function tells, wherever that tells something. Printed by wip/eng/gen.py. -/
import Derived.Test.YtabdokppkcgdlaaWalk2
namespace Go.Proofs.Ytabdokppkcgdlaa.M
open Go Go.Eng Go.Proofs Go.RowKit
set_option linter.unusedVariables false
set_option linter.unusedSimpArgs false

/-! ### catchment/catchmentlaw17.JoinNone: function 5 -/
set_option maxHeartbeats 4000000 in
set_option maxRecDepth 100000 in
theorem law17_JoinNone.calls (a0 : api_Table) {w0 : World} {R : Hp} {v0_0 : Value} {v0_1 : Value} (hR : R.sub w0) (h0_0 : SlR ty_api_Col R v0_0 a0.Cols) (h0_1 : SlR (tySl ty_api_Value) R v0_1 a0.Rows) (H : law17_JoinNone a0 = some true) : CallsV Try.prog 5 #[.agg #[v0_0, v0_1]] w0 (.bool true) := by
  unfold law17_JoinNone at H
  refine enter (args := [.agg #[v0_0, v0_1]]) Try.func5 rfl Try.ntmps5 rfl fun a hK => ?_
  have hS := St.init hR
  have hRL := RLe.refl (M := []) w0 R
  refine wp_seq ?_
  refine wp_region_lit ?_
  refine sl_box hS hK (by decide) rfl rfl (c := [v0_0, v0_1]) rfl fun a w b_1 hS hK => ?_
  refine sl hK (by decide) rfl rfl (r_assign hK rfl) fun a hK => ?_
  refine wpList_nil ?_
  refine wp_seq ?_
  refine wp_region_lit ?_
  obtain ⟨y_2, h_3, H⟩ := bind_some H
  refine sl_callV Try.call7 hS hK (by decide) rfl rfl rfl (law17_shown.calls h_3 _) fun a w hS hK => ?_
  refine sl hK (by decide) rfl rfl (r_assign hK rfl) fun a hK => ?_
  refine wpList_nil ?_
  refine wp_seq ?_
  refine wp_region_lit ?_
  refine sl hK (by decide) rfl rfl (r_loadA (cs := [v0_0, v0_1]) Try.isAgg25 Try.sizeOf25 rfl hK rfl (hS.cells_of (m := 2) (.head _) rfl)) fun a hK => ?_
  obtain ⟨y_4, h_5, H⟩ := bind_some H
  refine sl_call Try.call8 hK (by decide) rfl rfl rfl (law17_cut.calls a0 40 hS.sub h0_0 h0_1 h_5) fun a v_ w hv_ hK => ?_
  obtain ⟨R_6, v_8, v_10, hv_, hr_, hl_7, hs_9, hs_11⟩ := hv_
  have hv_ := hv_.symm
  subst hv_
  obtain ⟨hS, hl_7⟩ := hS.sp0.back hr_ hl_7
  have hS := hS.un0
  have hRL := hRL.trans hl_7
  refine sl_storeA (vs := [v_8, v_10]) (c' := [v_8, v_10]) Try.sizeOf25 hS hK rfl rfl rfl rfl (all_cons hs_9.one (all_cons hs_11.one (all_nil))) (Nat.le_of_ble_eq_true rfl) rfl fun a w hS hK => ?_
  refine wpList_nil ?_
  refine wp_seq ?_
  refine wp_seq ?_
  refine wp_region_lit ?_
  refine sl hK (by decide) rfl rfl (r_loadA (cs := [v_8, v_10]) Try.isAgg25 Try.sizeOf25 rfl hK rfl (hS.cells_of (m := 2) (.head _) rfl)) fun a hK => ?_
  obtain ⟨y_12, h_13, H⟩ := bind_some H
  refine sl_callV Try.call10 hS hK (by decide) rfl rfl rfl (ref02_Check.calls y_4 (lentOf_sub [] _) (hs_9.mono hS.rLe0) (hs_11.mono hS.rLe0) h_13) fun a w hS hK => ?_
  refine sl hK (by decide) rfl rfl (r_ibin hK rfl rfl rfl) fun a hK => ?_
  refine wpList_nil ?_
  refine wp_cond_split (hK.ev rfl) (fun (hb_14 : (y_12 != 0) = true) => ?_) (fun (hb_14 : (y_12 != 0) = false) => ?_)
  · rw [ifb_t hb_14] at H
    refine wp_seq ?_
    refine wp_region_lit ?_
    refine sl hK (by decide) rfl rfl (r_move hK rfl) fun a hK => ?_
    refine sl hK (by decide) rfl rfl (r_assign hK rfl) fun a hK => ?_
    refine wpList_nil ?_
    have hr_ := Option.some.inj H
    refine wp_ret ?_
    repeat (first | refine ret_then ?_ | refine ret_block ?_ | refine ret_scope ?_)
    exact ret_1 Try.results5 hK (rv_tmp hK rfl) ⟨congrArg (fun b => Ending.returned (Value.bool b)) hr_, hS.bel⟩
  · rw [ifb_f hb_14] at H
    refine wp_skip ?_
    refine wp_seq ?_
    refine wp_region_lit ?_
    refine sl hK (by decide) rfl rfl (r_assign hK rfl) fun a hK => ?_
    refine wpList_nil ?_
    refine wp_seq ?_
    refine wp_seq ?_
    refine wp_region_lit ?_
    refine sl hK (by decide) rfl rfl (r_assign hK rfl) fun a hK => ?_
    refine wpList_nil ?_
    refine wp_block ?_
    refine wp_loop_k (fun k_l0 a w => ∃ (x_35 : Bool) (x_36 : Int), law17_JoinNone.l0 y_2 y_4 k_l0 x_35 x_36 = some true ∧ Kn 120 a [(1, .pointer (some ⟨b_1, 0, none⟩)), (3, .bool y_2), (4, .bool x_35), (5, .int .i64 x_36)] ∧ St [] w0 w R_6 [.cells b_1 [v_8, v_10] 25]) (((y_4.Cols.length : Int) - 0).toNat + 1) ?_ ?_
    · exact ⟨false, 0, H, hK.sub (all_cons rfl (all_cons rfl (all_cons rfl (all_cons rfl (all_nil))))), hS⟩
    · rintro k_l0 a w ⟨x_35, x_36, H, hK, hS⟩
      cases k_l0 with
      | zero => cases H
      | succ k_l0 =>
      rw [law17_JoinNone.l0.eq_2] at H
      refine wp_seq ?_
      refine wp_seq ?_
      refine wp_region_lit ?_
      refine sl hK (by decide) rfl rfl (r_move hK rfl) fun a hK => ?_
      refine sl hK (by decide) rfl rfl (r_fieldAddr Try.underlying25 rfl Try.sizeOf22 hK rfl) fun a hK => ?_
      refine sl hK (by decide) rfl rfl (r_load Try.isAgg22 hK rfl (hS.cell (.head _) rfl)) fun a hK => ?_
      refine sl hK (by decide) rfl rfl (r_len_R Try.underlying22 hs_9 hK rfl) fun a hK => ?_
      refine sl hK (by decide) rfl rfl (r_ibin hK rfl rfl rfl) fun a hK => ?_
      refine wpList_nil ?_
      refine wp_cond_split (hK.ev rfl) (fun (hb_61 : (decide (x_36 < (y_4.Cols.length : Int))) = true) => ?_) (fun (hb_61 : (decide (x_36 < (y_4.Cols.length : Int))) = false) => ?_)
      · rw [ifb_t hb_61] at H
        refine wp_skip ?_
        refine wp_seq ?_
        refine wp_block ?_
        refine wp_mid (fun a w => ∃ (x_72 : Bool), law17_JoinNone.j1 (law17_JoinNone.l0 y_2 y_4 k_l0) y_4 x_36 x_72 = some true ∧ Kn 120 a [(1, .pointer (some ⟨b_1, 0, none⟩)), (3, .bool y_2), (4, .bool x_72), (5, .int .i64 x_36)] ∧ St [] w0 w R_6 [.cells b_1 [v_8, v_10] 25]) ?_ ?_
        · refine wp_region_lit ?_
          refine sl hK (by decide) rfl rfl (r_move hK rfl) fun a hK => ?_
          refine sl hK (by decide) rfl rfl (r_move hK rfl) fun a hK => ?_
          rcases or_b x_35 with hb_74 | hb_74
          · rw [ifb_t hb_74] at H
            refine sl_skip hK (by decide) (wft hb_74) rfl fun a hK => ?_
            refine sl_skip hK (by decide) (wft hb_74) rfl fun a hK => ?_
            refine sl_skip hK (by decide) (wft hb_74) rfl fun a hK => ?_
            refine sl_skip hK (by decide) (wft hb_74) rfl fun a hK => ?_
            refine sl_skip hK (by decide) (wft hb_74) rfl fun a hK => ?_
            refine sl_skip hK (by decide) (wft hb_74) rfl fun a hK => ?_
            refine sl_skip hK (by decide) (wft hb_74) rfl fun a hK => ?_
            refine sl hK (by decide) rfl rfl (r_pick_t hb_74 hK rfl rfl) fun a hK => ?_
            refine sl hK (by decide) rfl rfl (r_assign hK rfl) fun a hK => ?_
            refine wpList_nil ?_
            exact ⟨true, H, hK.sub (all_cons rfl (all_cons rfl (all_cons rfl (all_cons rfl (all_nil))))), hS⟩
          · rw [ifb_f hb_74] at H
            refine sl hK (by decide) (wff hb_74) rfl (r_fieldAddr Try.underlying25 rfl Try.sizeOf22 hK rfl) fun a hK => ?_
            refine sl hK (by decide) (wff hb_74) rfl (r_load Try.isAgg22 hK rfl (hS.cell (.head _) rfl)) fun a hK => ?_
            refine sl hK (by decide) (wff hb_74) rfl (r_move hK rfl) fun a hK => ?_
            obtain ⟨y_75, h_76, H⟩ := bind_some H
            obtain ⟨b_77, o_78, c_79, cs_80, hv_81, hr_82, hc_83, h_760, h_761⟩ := hs_9.ix h_76
            subst hr_82
            refine sl hK (by decide) (wff hb_74) rfl (r_indexAddr_R Try.underlying22 Try.sizeOf34 hv_81 h_760 h_761 hK rfl rfl) fun a hK => ?_
            refine sl hK (by decide) (wff hb_74) rfl (r_fieldAddr Try.underlying34 rfl Try.sizeOf3 hK rfl) fun a hK => ?_
            refine sl hK (by decide) (wff hb_74) rfl (r_load Try.isAgg3 hK rfl (hS.sub.cell (hc_83 1 _ rfl))) fun a hK => ?_
            refine sl hK (by decide) (wff hb_74) rfl (r_ibin hK rfl rfl rfl) fun a hK => ?_
            refine sl hK (by decide) rfl rfl (r_pick_f hb_74 hK rfl rfl) fun a hK => ?_
            refine sl hK (by decide) rfl rfl (r_assign hK rfl) fun a hK => ?_
            refine wpList_nil ?_
            exact ⟨(y_75.Kind == 4), H, hK.sub (all_cons rfl (all_cons rfl (all_cons rfl (all_cons rfl (all_nil))))), hS⟩
        · rintro a w ⟨x_72, H, hK, hS⟩
          unfold law17_JoinNone.j1 at H
          refine wp_region_lit ?_
          refine sl hK (by decide) rfl rfl (r_move hK rfl) fun a hK => ?_
          refine sl hK (by decide) rfl rfl (r_ibin hK rfl rfl rfl) fun a hK => ?_
          refine sl hK (by decide) rfl rfl (r_assign hK rfl) fun a hK => ?_
          refine wpList_nil ?_
          exact ⟨_, Nat.lt_succ_self _, x_72, (IntKind.i64.wrap (x_36 + 1)), H, hK.sub (all_cons rfl (all_cons rfl (all_cons rfl (all_cons rfl (all_nil))))), hS⟩
      · rw [ifb_f hb_61] at H
        refine wp_exit ?_
        refine wp_seq ?_
        refine wp_region_lit ?_
        refine sl hK (by decide) rfl rfl (r_loadA (cs := [v_8, v_10]) Try.isAgg25 Try.sizeOf25 rfl hK rfl (hS.cells_of (m := 2) (.head _) rfl)) fun a hK => ?_
        refine sl hK (by decide) rfl rfl (r_fieldAddr Try.underlying25 rfl Try.sizeOf22 hK rfl) fun a hK => ?_
        refine sl hK (by decide) rfl rfl (r_load Try.isAgg22 hK rfl (hS.cell (.head _) rfl)) fun a hK => ?_
        refine sl hK (by decide) rfl rfl (r_buildC (ps := [(0, v_8)]) (c := [v_8, .slice none 0 0]) Try.underlying25 Try.zeroValue25 places25 hK rfl (pc_cons (cells1 hs_9.one) pc_nil) rfl rfl) fun a hK => ?_
        obtain ⟨y_84, h_85, H⟩ := bind_some H
        refine sl_call Try.call9 hK (by decide) rfl rfl rfl (join_Join.calls y_4 (⟨y_4.Cols, []⟩ : api_Table) 0 hS.sub hs_9 hs_11 hs_9 (SlR.nil (tySl ty_api_Value) _) h_85) fun a v_ w hv_ hK => ?_
        obtain ⟨R_86, v_89, cs_90, v_93, cs_94, hv_, hr_, hl_87, hq_91, hq_95⟩ := hv_
        have hv_ := hv_.symm
        subst hv_
        obtain ⟨hS, hl_87⟩ := hS.sp0.back hr_ hl_87
        have hS := hS.un2
        have hRL := hRL.trans hl_87
        refine sl hK (by decide) rfl rfl (r_move hK rfl) fun a hK => ?_
        refine sl hK (by decide) rfl rfl (r_extract hK rfl rfl) fun a hK => ?_
        refine sl hK (by decide) rfl rfl (r_extract hK rfl rfl) fun a hK => ?_
        refine sl_alloc Try.zeroValue25 hS hK (by decide) rfl rfl fun a w b_96 hS hK => ?_
        refine sl_storeA (vs := [v_89, v_93]) (c' := [v_89, v_93]) Try.sizeOf25 hS hK rfl rfl rfl rfl (all_cons (hS.row_one (.tail _ (.head _))) (all_cons (hS.row_one (.tail _ (.tail _ (.head _)))) (all_nil))) (Nat.le_of_ble_eq_true rfl) rfl fun a w hS hK => ?_
        refine sl hK (by decide) rfl rfl (r_assign hK rfl) fun a hK => ?_
        refine wpList_nil ?_
        refine wp_seq ?_
        refine wp_region_lit ?_
        refine sl hK (by decide) rfl rfl (r_loadA (cs := [v_8, v_10]) Try.isAgg25 Try.sizeOf25 rfl hK rfl (hS.cells_of (m := 2) (.tail _ (.tail _ (.tail _ (.head _)))) rfl)) fun a hK => ?_
        refine sl hK (by decide) rfl rfl (r_loadA (cs := [v_8, v_10]) Try.isAgg25 Try.sizeOf25 rfl hK rfl (hS.cells_of (m := 2) (.tail _ (.tail _ (.tail _ (.head _)))) rfl)) fun a hK => ?_
        obtain ⟨y_97, h_98, H⟩ := bind_some H
        refine sl_call Try.call9 hK (by decide) rfl rfl rfl (join_Join.calls y_4 y_4 1600 hS.sub (hs_9.mono hl_87.le) (hs_11.mono hl_87.le) (hs_9.mono hl_87.le) (hs_11.mono hl_87.le) h_98) fun a v_ w hv_ hK => ?_
        obtain ⟨R_99, v_102, cs_103, v_106, cs_107, hv_, hr_, hl_100, hq_104, hq_108⟩ := hv_
        have hv_ := hv_.symm
        subst hv_
        obtain ⟨hS, hl_100⟩ := hS.sp0.back hr_ hl_100
        have hS := hS.un2
        have hRL := hRL.trans hl_100
        refine sl hK (by decide) rfl rfl (r_move hK rfl) fun a hK => ?_
        refine sl hK (by decide) rfl rfl (r_extract hK rfl rfl) fun a hK => ?_
        refine sl hK (by decide) rfl rfl (r_extract hK rfl rfl) fun a hK => ?_
        refine sl_alloc Try.zeroValue25 hS hK (by decide) rfl rfl fun a w b_109 hS hK => ?_
        refine sl_storeA (vs := [v_102, v_106]) (c' := [v_102, v_106]) Try.sizeOf25 hS hK rfl rfl rfl rfl (all_cons (hS.row_one (.tail _ (.head _))) (all_cons (hS.row_one (.tail _ (.tail _ (.head _)))) (all_nil))) (Nat.le_of_ble_eq_true rfl) rfl fun a w hS hK => ?_
        refine sl hK (by decide) rfl rfl (r_assign hK rfl) fun a hK => ?_
        refine wpList_nil ?_
        refine wp_seq ?_
        refine wp_seq ?_
        refine wp_region_lit ?_
        refine sl hK (by decide) rfl rfl (r_move hK rfl) fun a hK => ?_
        refine wpList_nil ?_
        refine wp_cond_split (hK.ev rfl) (fun (hb_110 : x_35 = true) => ?_) (fun (hb_110 : x_35 = false) => ?_)
        · rw [ifb_t hb_110] at H
          refine wp_seq ?_
          refine wp_mid (fun a w => ∃ (x_113 : Bool), law17_JoinNone.j2 x_113 = some true ∧ Kn 120 a [(2, .bool x_113)] ∧ St [] w0 w R_99 []) ?_ ?_
          · refine wp_region_lit ?_
            refine sl hK (by decide) rfl rfl (r_move hK rfl) fun a hK => ?_
            refine sl hK (by decide) rfl rfl (r_move hK rfl) fun a hK => ?_
            rcases or_b y_2 with hb_115 | hb_115
            · rw [ifb_t hb_115] at H
              refine sl hK (by decide) (wtt hb_115) rfl (r_move hK rfl) fun a hK => ?_
              refine sl hK (by decide) (wtt hb_115) rfl (r_ibin hK rfl rfl rfl) fun a hK => ?_
              refine sl hK (by decide) rfl rfl (r_pick_t hb_115 hK rfl rfl) fun a hK => ?_
              refine sl hK (by decide) rfl rfl (r_move hK rfl) fun a hK => ?_
              rcases or_b (y_84.2 == 20) with hb_116 | hb_116
              · rw [ifb_t hb_116] at H
                refine sl hK (by decide) (wtt hb_116) rfl (r_move hK rfl) fun a hK => ?_
                refine sl hK (by decide) (wtt hb_116) rfl (r_ibin hK rfl rfl rfl) fun a hK => ?_
                refine sl hK (by decide) rfl rfl (r_pick_t hb_116 hK rfl rfl) fun a hK => ?_
                refine sl hK (by decide) rfl rfl (r_assign hK rfl) fun a hK => ?_
                refine wpList_nil ?_
                exact ⟨(y_97.2 == 20), H, hK.sub (all_cons rfl (all_nil)), hS.trunc 0⟩
              · rw [ifb_f hb_116] at H
                refine sl_skip hK (by decide) (wtf hb_116) rfl fun a hK => ?_
                refine sl_skip hK (by decide) (wtf hb_116) rfl fun a hK => ?_
                refine sl hK (by decide) rfl rfl (r_pick_f hb_116 hK rfl rfl) fun a hK => ?_
                refine sl hK (by decide) rfl rfl (r_assign hK rfl) fun a hK => ?_
                refine wpList_nil ?_
                exact ⟨false, H, hK.sub (all_cons rfl (all_nil)), hS.trunc 0⟩
            · rw [ifb_f hb_115] at H
              refine sl_skip hK (by decide) (wtf hb_115) rfl fun a hK => ?_
              refine sl_skip hK (by decide) (wtf hb_115) rfl fun a hK => ?_
              refine sl hK (by decide) rfl rfl (r_pick_f hb_115 hK rfl rfl) fun a hK => ?_
              refine sl hK (by decide) rfl rfl (r_move hK rfl) fun a hK => ?_
              refine sl_skip hK (by decide) rfl rfl fun a hK => ?_
              refine sl_skip hK (by decide) rfl rfl fun a hK => ?_
              refine sl hK (by decide) rfl rfl (r_pick hK rfl rfl rfl) fun a hK => ?_
              refine sl hK (by decide) rfl rfl (r_assign hK rfl) fun a hK => ?_
              refine wpList_nil ?_
              exact ⟨false, H, hK.sub (all_cons rfl (all_nil)), hS.trunc 0⟩
          · rintro a w ⟨x_113, H, hK, hS⟩
            unfold law17_JoinNone.j2 at H
            have hr_ := Option.some.inj H
            refine wp_ret ?_
            repeat (first | refine ret_then ?_ | refine ret_block ?_ | refine ret_scope ?_)
            exact ret_1 Try.results5 hK (rv_tmp hK rfl) ⟨congrArg (fun b => Ending.returned (Value.bool b)) hr_, hS.bel⟩
        · rw [ifb_f hb_110] at H
          refine wp_skip ?_
          refine wp_seq ?_
          refine wp_region_lit ?_
          refine sl hK (by decide) rfl rfl (r_assign hK rfl) fun a hK => ?_
          refine wpList_nil ?_
          refine wp_seq ?_
          refine wp_seq ?_
          refine wp_region_lit ?_
          refine sl hK (by decide) rfl rfl (r_assign hK rfl) fun a hK => ?_
          refine wpList_nil ?_
          refine wp_block ?_
          refine wp_loop_k (fun k_l3 a w => ∃ (x_281 : Int) (x_282 : Int), law17_JoinNone.l3 y_2 y_4 y_84 y_97 k_l3 x_281 x_282 = some true ∧ Kn 120 a [(1, .pointer (some ⟨b_1, 0, none⟩)), (3, .bool y_2), (6, .pointer (some ⟨b_96, 0, none⟩)), (7, .int .i64 y_84.2), (8, .pointer (some ⟨b_109, 0, none⟩)), (9, .int .i64 y_97.2), (10, .int .i64 x_281), (11, .int .i64 x_282)] ∧ St [] w0 w R_99 [.cells b_1 [v_8, v_10] 25, .row 34 2 v_89 y_84.1.Cols.length cs_90, .row 40 1 v_93 y_84.1.Rows.length cs_94, .cells b_96 [v_89, v_93] 25, .row 34 2 v_102 y_97.1.Cols.length cs_103, .row 40 1 v_106 y_97.1.Rows.length cs_107, .cells b_109 [v_102, v_106] 25]) (((y_4.Rows.length : Int) - 0).toNat + 1) ?_ ?_
          · have hS := hS.pk2
            have hS := hS.pk2
            have hS := hS.pk3
            have hS := hS.pk5
            have hS := hS.pk5
            have hS := hS.pk6
            exact ⟨0, 0, H, hK.sub (all_cons rfl (all_cons rfl (all_cons rfl (all_cons rfl (all_cons rfl (all_cons rfl (all_cons rfl (all_cons rfl (all_nil))))))))), hS⟩
          · rintro k_l3 a w ⟨x_281, x_282, H, hK, hS⟩
            cases k_l3 with
            | zero => cases H
            | succ k_l3 =>
            rw [law17_JoinNone.l3.eq_2] at H
            refine wp_seq ?_
            refine wp_seq ?_
            refine wp_region_lit ?_
            refine sl hK (by decide) rfl rfl (r_move hK rfl) fun a hK => ?_
            refine sl hK (by decide) rfl rfl (r_fieldAddr Try.underlying25 rfl Try.sizeOf23 hK rfl) fun a hK => ?_
            refine sl hK (by decide) rfl rfl (r_load Try.isAgg23 hK rfl (hS.cell (.head _) rfl)) fun a hK => ?_
            refine sl hK (by decide) rfl rfl (r_len_R Try.underlying23 hs_11 hK rfl) fun a hK => ?_
            refine sl hK (by decide) rfl rfl (r_ibin hK rfl rfl rfl) fun a hK => ?_
            refine wpList_nil ?_
            refine wp_cond_split (hK.ev rfl) (fun (hb_448 : (decide (x_282 < (y_4.Rows.length : Int))) = true) => ?_) (fun (hb_448 : (decide (x_282 < (y_4.Rows.length : Int))) = false) => ?_)
            · rw [ifb_t hb_448] at H
              refine wp_skip ?_
              refine wp_seq ?_
              refine wp_block ?_
              refine wp_seq ?_
              refine wp_region_lit ?_
              refine sl hK (by decide) rfl rfl (r_assign hK rfl) fun a hK => ?_
              refine wpList_nil ?_
              refine wp_block ?_
              refine wp_loop_k (fun k_l4 a w => ∃ (x_503 : Int) (x_504 : Int), law17_JoinNone.l4 (law17_JoinNone.l3 y_2 y_4 y_84 y_97 k_l3) y_4 x_282 k_l4 x_503 x_504 = some true ∧ Kn 120 a [(1, .pointer (some ⟨b_1, 0, none⟩)), (3, .bool y_2), (6, .pointer (some ⟨b_96, 0, none⟩)), (7, .int .i64 y_84.2), (8, .pointer (some ⟨b_109, 0, none⟩)), (9, .int .i64 y_97.2), (10, .int .i64 x_503), (11, .int .i64 x_282), (12, .int .i64 x_504)] ∧ St [] w0 w R_99 [.cells b_1 [v_8, v_10] 25, .row 34 2 v_89 y_84.1.Cols.length cs_90, .row 40 1 v_93 y_84.1.Rows.length cs_94, .cells b_96 [v_89, v_93] 25, .row 34 2 v_102 y_97.1.Cols.length cs_103, .row 40 1 v_106 y_97.1.Rows.length cs_107, .cells b_109 [v_102, v_106] 25]) (((y_4.Rows.length : Int) - 0).toNat + 1) ?_ ?_
              · have hS := hS.pk6
                have hS := hS.pk6
                have hS := hS.pk6
                have hS := hS.pk6
                have hS := hS.pk6
                have hS := hS.pk6
                have hS := hS.pk6
                exact ⟨x_281, 0, H, hK.sub (all_cons rfl (all_cons rfl (all_cons rfl (all_cons rfl (all_cons rfl (all_cons rfl (all_cons rfl (all_cons rfl (all_cons rfl (all_nil)))))))))), hS⟩
              · rintro k_l4 a w ⟨x_503, x_504, H, hK, hS⟩
                cases k_l4 with
                | zero => cases H
                | succ k_l4 =>
                rw [law17_JoinNone.l4.eq_2] at H
                refine wp_seq ?_
                refine wp_seq ?_
                refine wp_region_lit ?_
                refine sl hK (by decide) rfl rfl (r_move hK rfl) fun a hK => ?_
                refine sl hK (by decide) rfl rfl (r_fieldAddr Try.underlying25 rfl Try.sizeOf23 hK rfl) fun a hK => ?_
                refine sl hK (by decide) rfl rfl (r_load Try.isAgg23 hK rfl (hS.cell (.head _) rfl)) fun a hK => ?_
                refine sl hK (by decide) rfl rfl (r_len_R Try.underlying23 hs_11 hK rfl) fun a hK => ?_
                refine sl hK (by decide) rfl rfl (r_ibin hK rfl rfl rfl) fun a hK => ?_
                refine wpList_nil ?_
                refine wp_cond_split (hK.ev rfl) (fun (hb_559 : (decide (x_504 < (y_4.Rows.length : Int))) = true) => ?_) (fun (hb_559 : (decide (x_504 < (y_4.Rows.length : Int))) = false) => ?_)
                · rw [ifb_t hb_559] at H
                  refine wp_skip ?_
                  refine wp_seq ?_
                  refine wp_block ?_
                  refine wp_seq ?_
                  refine parT_region (C := fun w => St [] w0 w R_99 [.cells b_1 [v_8, v_10] 25, .row 34 2 v_89 y_84.1.Cols.length cs_90, .row 40 1 v_93 y_84.1.Rows.length cs_94, .cells b_96 [v_89, v_93] 25, .row 34 2 v_102 y_97.1.Cols.length cs_103, .row 40 1 v_106 y_97.1.Rows.length cs_107, .cells b_109 [v_102, v_106] 25]) 10 [(0, true), (1, true), (2, true), (3, true), (4, true), (5, true), (6, true), (7, true), (8, true), (9, true)] mixed (by kernel_rfl) hS (fun w hS => hS) fun w hS => ?_
                  refine sp (k := 0) rfl hK (by decide) rfl rfl (fun w hS => r_fieldAddr Try.underlying25 rfl Try.sizeOf23 hK rfl) fun a hK => ?_
                  refine sp (k := 1) rfl hK (by decide) rfl rfl (fun w hS => r_load Try.isAgg23 hK rfl (hS.cell (.head _) rfl)) fun a hK => ?_
                  refine sp (k := 2) rfl hK (by decide) rfl rfl (fun w hS => r_move hK rfl) fun a hK => ?_
                  obtain ⟨y_584, h_585, H⟩ := bind_some H
                  obtain ⟨b_586, o_587, c_588, cs_589, hv_590, hr_591, hc_592, h_5850, h_5851⟩ := hs_11.ix h_585
                  obtain ⟨v_593, rfl, hs_594⟩ := hr_591
                  refine sp (k := 3) rfl hK (by decide) rfl rfl (fun w hS => r_indexAddr_R Try.underlying23 Try.sizeOf40 hv_590 h_5850 h_5851 hK rfl rfl) fun a hK => ?_
                  refine sp (k := 4) rfl hK (by decide) rfl rfl (fun w hS => r_load Try.isAgg40 hK rfl ((hS.sub.le (hl_87.le.trans hl_100.le)).cell (hc_592 0 _ rfl))) fun a hK => ?_
                  refine sp (k := 5) rfl hK (by decide) rfl rfl (fun w hS => r_fieldAddr Try.underlying25 rfl Try.sizeOf23 hK rfl) fun a hK => ?_
                  refine sp (k := 6) rfl hK (by decide) rfl rfl (fun w hS => r_load Try.isAgg23 hK rfl (hS.cell (.head _) rfl)) fun a hK => ?_
                  refine sp (k := 7) rfl hK (by decide) rfl rfl (fun w hS => r_move hK rfl) fun a hK => ?_
                  obtain ⟨y_595, h_596, H⟩ := bind_some H
                  obtain ⟨b_597, o_598, c_599, cs_600, hv_601, hr_602, hc_603, h_5960, h_5961⟩ := hs_11.ix h_596
                  obtain ⟨v_604, rfl, hs_605⟩ := hr_602
                  refine sp (k := 8) rfl hK (by decide) rfl rfl (fun w hS => r_indexAddr_R Try.underlying23 Try.sizeOf40 hv_601 h_5960 h_5961 hK rfl rfl) fun a hK => ?_
                  refine sp (k := 9) rfl hK (by decide) rfl rfl (fun w hS => r_load Try.isAgg40 hK rfl ((hS.sub.le (hl_87.le.trans hl_100.le)).cell (hc_603 0 _ rfl))) fun a hK => ?_
                  refine thenL_nil ?_
                  obtain ⟨y_606, h_607, H⟩ := bind_some H
                  refine sl_callV Try.call14 hS hK (by decide) rfl rfl rfl (ref02_Row.calls y_584 y_595 (lentOf_sub [] _) (hs_594.mono ((hl_87.le.trans hl_100.le).trans hS.rLe0)) (hs_605.mono ((hl_87.le.trans hl_100.le).trans hS.rLe0)) h_607) fun a w hS hK => ?_
                  refine sl hK (by decide) rfl rfl (r_ibin hK rfl rfl rfl) fun a hK => ?_
                  refine wpList_nil (NoP_nil ?_)
                  refine wp_mid (fun a w => ∃ (x_609 : Int), law17_JoinNone.j5 (law17_JoinNone.l4 (law17_JoinNone.l3 y_2 y_4 y_84 y_97 k_l3) y_4 x_282 k_l4) y_4 x_504 x_609 = some true ∧ Kn 120 a [(1, .pointer (some ⟨b_1, 0, none⟩)), (3, .bool y_2), (6, .pointer (some ⟨b_96, 0, none⟩)), (7, .int .i64 y_84.2), (8, .pointer (some ⟨b_109, 0, none⟩)), (9, .int .i64 y_97.2), (10, .int .i64 x_609), (11, .int .i64 x_282), (12, .int .i64 x_504)] ∧ St [] w0 w R_99 [.cells b_1 [v_8, v_10] 25, .row 34 2 v_89 y_84.1.Cols.length cs_90, .row 40 1 v_93 y_84.1.Rows.length cs_94, .cells b_96 [v_89, v_93] 25, .row 34 2 v_102 y_97.1.Cols.length cs_103, .row 40 1 v_106 y_97.1.Rows.length cs_107, .cells b_109 [v_102, v_106] 25]) ?_ ?_
                  · refine wp_cond_split (hK.ev rfl) (fun (hb_611 : (y_606 == 0) = true) => ?_) (fun (hb_611 : (y_606 == 0) = false) => ?_)
                    · rw [ifb_t hb_611] at H
                      refine wp_region_lit ?_
                      refine sl hK (by decide) rfl rfl (r_move hK rfl) fun a hK => ?_
                      refine sl hK (by decide) rfl rfl (r_ibin hK rfl rfl rfl) fun a hK => ?_
                      refine sl hK (by decide) rfl rfl (r_assign hK rfl) fun a hK => ?_
                      refine wpList_nil ?_
                      have hS := hS.pk6
                      have hS := hS.pk6
                      have hS := hS.pk6
                      have hS := hS.pk6
                      have hS := hS.pk6
                      have hS := hS.pk6
                      have hS := hS.pk6
                      exact ⟨(IntKind.i64.wrap (x_503 + 1)), H, hK.sub (all_cons rfl (all_cons rfl (all_cons rfl (all_cons rfl (all_cons rfl (all_cons rfl (all_cons rfl (all_cons rfl (all_cons rfl (all_nil)))))))))), hS⟩
                    · rw [ifb_f hb_611] at H
                      refine wp_skip ?_
                      have hS := hS.pk6
                      have hS := hS.pk6
                      have hS := hS.pk6
                      have hS := hS.pk6
                      have hS := hS.pk6
                      have hS := hS.pk6
                      have hS := hS.pk6
                      exact ⟨x_503, H, hK.sub (all_cons rfl (all_cons rfl (all_cons rfl (all_cons rfl (all_cons rfl (all_cons rfl (all_cons rfl (all_cons rfl (all_cons rfl (all_nil)))))))))), hS⟩
                  · rintro a w ⟨x_609, H, hK, hS⟩
                    unfold law17_JoinNone.j5 at H
                    refine wp_region_lit ?_
                    refine sl hK (by decide) rfl rfl (r_move hK rfl) fun a hK => ?_
                    refine sl hK (by decide) rfl rfl (r_ibin hK rfl rfl rfl) fun a hK => ?_
                    refine sl hK (by decide) rfl rfl (r_assign hK rfl) fun a hK => ?_
                    refine wpList_nil ?_
                    have hS := hS.pk6
                    have hS := hS.pk6
                    have hS := hS.pk6
                    have hS := hS.pk6
                    have hS := hS.pk6
                    have hS := hS.pk6
                    have hS := hS.pk6
                    exact ⟨_, Nat.lt_succ_self _, x_609, (IntKind.i64.wrap (x_504 + 1)), H, hK.sub (all_cons rfl (all_cons rfl (all_cons rfl (all_cons rfl (all_cons rfl (all_cons rfl (all_cons rfl (all_cons rfl (all_cons rfl (all_nil)))))))))), hS⟩
                · rw [ifb_f hb_559] at H
                  refine wp_exit ?_
                  refine wp_region_lit ?_
                  refine sl hK (by decide) rfl rfl (r_move hK rfl) fun a hK => ?_
                  refine sl hK (by decide) rfl rfl (r_ibin hK rfl rfl rfl) fun a hK => ?_
                  refine sl hK (by decide) rfl rfl (r_assign hK rfl) fun a hK => ?_
                  refine wpList_nil ?_
                  have hS := hS.pk6
                  have hS := hS.pk6
                  have hS := hS.pk6
                  have hS := hS.pk6
                  have hS := hS.pk6
                  have hS := hS.pk6
                  have hS := hS.pk6
                  exact ⟨_, Nat.lt_succ_self _, x_503, (IntKind.i64.wrap (x_282 + 1)), H, hK.sub (all_cons rfl (all_cons rfl (all_cons rfl (all_cons rfl (all_cons rfl (all_cons rfl (all_cons rfl (all_cons rfl (all_nil))))))))), hS⟩
            · rw [ifb_f hb_448] at H
              refine wp_exit ?_
              refine wp_seq ?_
              refine wp_region_lit ?_
              refine sl hK (by decide) rfl rfl (r_fieldAddr Try.underlying25 rfl Try.sizeOf22 hK rfl) fun a hK => ?_
              refine sl hK (by decide) rfl rfl (r_load Try.isAgg22 hK rfl (hS.cell (.tail _ (.tail _ (.tail _ (.tail _ (.tail _ (.tail _ (.head _))))))) rfl)) fun a hK => ?_
              refine sl hK (by decide) rfl rfl (r_fieldAddr Try.underlying25 rfl Try.sizeOf22 hK rfl) fun a hK => ?_
              refine sl hK (by decide) rfl rfl (r_load Try.isAgg22 hK rfl (hS.cell (.head _) rfl)) fun a hK => ?_
              obtain ⟨y_612, h_613, H⟩ := bind_some H
              refine sl_callV Try.call15 hS hK (by decide) rfl rfl rfl (ref02_SameCols.calls y_97.1.Cols y_4.Cols (lentOf_sub [] _) (hS.lend_row0 (.tail _ (.tail _ (.tail _ (.tail _ (.head _))))) hq_104 rfl rfl) (hs_9.mono ((hl_87.le.trans hl_100.le).trans hS.rLe0)) h_613) fun a w hS hK => ?_
              refine sl hK (by decide) rfl rfl (r_assign hK rfl) fun a hK => ?_
              refine wpList_nil ?_
              refine wp_seq ?_
              refine wp_region_lit ?_
              refine sl hK (by decide) rfl rfl (r_move hK rfl) fun a hK => ?_
              refine sl hK (by decide) rfl rfl (r_move hK rfl) fun a hK => ?_
              rcases or_b y_2 with hb_614 | hb_614
              · rw [ifb_t hb_614] at H
                refine sl hK (by decide) (wtt hb_614) rfl (r_move hK rfl) fun a hK => ?_
                refine sl hK (by decide) (wtt hb_614) rfl (r_ibin hK rfl rfl rfl) fun a hK => ?_
                refine sl hK (by decide) rfl rfl (r_pick_t hb_614 hK rfl rfl) fun a hK => ?_
                refine sl hK (by decide) rfl rfl (r_move hK rfl) fun a hK => ?_
                rcases or_b (y_84.2 == 0) with hb_615 | hb_615
                · rw [ifb_t hb_615] at H
                  refine sl hK (by decide) (wtt hb_615) rfl (r_fieldAddr Try.underlying25 rfl Try.sizeOf23 hK rfl) fun a hK => ?_
                  refine sl hK (by decide) (wtt hb_615) rfl (r_load Try.isAgg23 hK rfl (hS.cell (.tail _ (.tail _ (.tail _ (.head _)))) rfl)) fun a hK => ?_
                  refine sl hK (by decide) (wtt hb_615) rfl (r_len_O Try.underlying23 hS (.tail _ (.tail _ (.head _))) hK rfl) fun a hK => ?_
                  refine sl hK (by decide) (wtt hb_615) rfl (r_ibin hK rfl rfl rfl) fun a hK => ?_
                  refine sl hK (by decide) rfl rfl (r_pick_t hb_615 hK rfl rfl) fun a hK => ?_
                  refine sl hK (by decide) rfl rfl (r_move hK rfl) fun a hK => ?_
                  rcases or_b ((y_84.1.Rows.length : Int) == 0) with hb_616 | hb_616
                  · rw [ifb_t hb_616] at H
                    refine sl hK (by decide) (wtt hb_616) rfl (r_move hK rfl) fun a hK => ?_
                    refine sl hK (by decide) (wtt hb_616) rfl (r_ibin hK rfl rfl rfl) fun a hK => ?_
                    refine sl hK (by decide) rfl rfl (r_pick_t hb_616 hK rfl rfl) fun a hK => ?_
                    refine sl hK (by decide) rfl rfl (r_move hK rfl) fun a hK => ?_
                    rcases or_b (y_97.2 == 0) with hb_617 | hb_617
                    · rw [ifb_t hb_617] at H
                      refine sl hK (by decide) (wtt hb_617) rfl (r_move hK rfl) fun a hK => ?_
                      refine sl hK (by decide) rfl rfl (r_pick_t hb_617 hK rfl rfl) fun a hK => ?_
                      refine sl hK (by decide) rfl rfl (r_move hK rfl) fun a hK => ?_
                      rcases or_b y_612 with hb_618 | hb_618
                      · rw [ifb_t hb_618] at H
                        refine sl hK (by decide) (wtt hb_618) rfl (r_fieldAddr Try.underlying25 rfl Try.sizeOf23 hK rfl) fun a hK => ?_
                        refine sl hK (by decide) (wtt hb_618) rfl (r_load Try.isAgg23 hK rfl (hS.cell (.tail _ (.tail _ (.tail _ (.tail _ (.tail _ (.tail _ (.head _))))))) rfl)) fun a hK => ?_
                        refine sl hK (by decide) (wtt hb_618) rfl (r_len_O Try.underlying23 hS (.tail _ (.tail _ (.tail _ (.tail _ (.tail _ (.head _)))))) hK rfl) fun a hK => ?_
                        refine sl hK (by decide) (wtt hb_618) rfl (r_move hK rfl) fun a hK => ?_
                        refine sl hK (by decide) (wtt hb_618) rfl (r_ibin hK rfl rfl rfl) fun a hK => ?_
                        refine sl hK (by decide) rfl rfl (r_pick_t hb_618 hK rfl rfl) fun a hK => ?_
                        refine sl hK (by decide) rfl rfl (r_assign hK rfl) fun a hK => ?_
                        refine wpList_nil ?_
                        have hr_ := Option.some.inj H
                        refine wp_ret ?_
                        repeat (first | refine ret_then ?_ | refine ret_block ?_ | refine ret_scope ?_)
                        exact ret_1 Try.results5 hK (rv_tmp hK rfl) ⟨congrArg (fun b => Ending.returned (Value.bool b)) hr_, hS.bel⟩
                      · rw [ifb_f hb_618] at H
                        refine sl_skip hK (by decide) (wtf hb_618) rfl fun a hK => ?_
                        refine sl_skip hK (by decide) (wtf hb_618) rfl fun a hK => ?_
                        refine sl_skip hK (by decide) (wtf hb_618) rfl fun a hK => ?_
                        refine sl_skip hK (by decide) (wtf hb_618) rfl fun a hK => ?_
                        refine sl_skip hK (by decide) (wtf hb_618) rfl fun a hK => ?_
                        refine sl hK (by decide) rfl rfl (r_pick_f hb_618 hK rfl rfl) fun a hK => ?_
                        refine sl hK (by decide) rfl rfl (r_assign hK rfl) fun a hK => ?_
                        refine wpList_nil ?_
                        exact absurd (Option.some.inj H) (by decide)
                    · rw [ifb_f hb_617] at H
                      refine sl_skip hK (by decide) (wtf hb_617) rfl fun a hK => ?_
                      refine sl hK (by decide) rfl rfl (r_pick_f hb_617 hK rfl rfl) fun a hK => ?_
                      refine sl hK (by decide) rfl rfl (r_move hK rfl) fun a hK => ?_
                      refine sl_skip hK (by decide) rfl rfl fun a hK => ?_
                      refine sl_skip hK (by decide) rfl rfl fun a hK => ?_
                      refine sl_skip hK (by decide) rfl rfl fun a hK => ?_
                      refine sl_skip hK (by decide) rfl rfl fun a hK => ?_
                      refine sl_skip hK (by decide) rfl rfl fun a hK => ?_
                      refine sl hK (by decide) rfl rfl (r_pick hK rfl rfl rfl) fun a hK => ?_
                      refine sl hK (by decide) rfl rfl (r_assign hK rfl) fun a hK => ?_
                      refine wpList_nil ?_
                      exact absurd (Option.some.inj H) (by decide)
                  · rw [ifb_f hb_616] at H
                    refine sl_skip hK (by decide) (wtf hb_616) rfl fun a hK => ?_
                    refine sl_skip hK (by decide) (wtf hb_616) rfl fun a hK => ?_
                    refine sl hK (by decide) rfl rfl (r_pick_f hb_616 hK rfl rfl) fun a hK => ?_
                    refine sl hK (by decide) rfl rfl (r_move hK rfl) fun a hK => ?_
                    refine sl_skip hK (by decide) rfl rfl fun a hK => ?_
                    refine sl hK (by decide) rfl rfl (r_pick hK rfl rfl rfl) fun a hK => ?_
                    refine sl hK (by decide) rfl rfl (r_move hK rfl) fun a hK => ?_
                    refine sl_skip hK (by decide) rfl rfl fun a hK => ?_
                    refine sl_skip hK (by decide) rfl rfl fun a hK => ?_
                    refine sl_skip hK (by decide) rfl rfl fun a hK => ?_
                    refine sl_skip hK (by decide) rfl rfl fun a hK => ?_
                    refine sl_skip hK (by decide) rfl rfl fun a hK => ?_
                    refine sl hK (by decide) rfl rfl (r_pick hK rfl rfl rfl) fun a hK => ?_
                    refine sl hK (by decide) rfl rfl (r_assign hK rfl) fun a hK => ?_
                    refine wpList_nil ?_
                    exact absurd (Option.some.inj H) (by decide)
                · rw [ifb_f hb_615] at H
                  refine sl_skip hK (by decide) (wtf hb_615) rfl fun a hK => ?_
                  refine sl_skip hK (by decide) (wtf hb_615) rfl fun a hK => ?_
                  refine sl_skip hK (by decide) (wtf hb_615) rfl fun a hK => ?_
                  refine sl_skip hK (by decide) (wtf hb_615) rfl fun a hK => ?_
                  refine sl hK (by decide) rfl rfl (r_pick_f hb_615 hK rfl rfl) fun a hK => ?_
                  refine sl hK (by decide) rfl rfl (r_move hK rfl) fun a hK => ?_
                  refine sl_skip hK (by decide) rfl rfl fun a hK => ?_
                  refine sl_skip hK (by decide) rfl rfl fun a hK => ?_
                  refine sl hK (by decide) rfl rfl (r_pick hK rfl rfl rfl) fun a hK => ?_
                  refine sl hK (by decide) rfl rfl (r_move hK rfl) fun a hK => ?_
                  refine sl_skip hK (by decide) rfl rfl fun a hK => ?_
                  refine sl hK (by decide) rfl rfl (r_pick hK rfl rfl rfl) fun a hK => ?_
                  refine sl hK (by decide) rfl rfl (r_move hK rfl) fun a hK => ?_
                  refine sl_skip hK (by decide) rfl rfl fun a hK => ?_
                  refine sl_skip hK (by decide) rfl rfl fun a hK => ?_
                  refine sl_skip hK (by decide) rfl rfl fun a hK => ?_
                  refine sl_skip hK (by decide) rfl rfl fun a hK => ?_
                  refine sl_skip hK (by decide) rfl rfl fun a hK => ?_
                  refine sl hK (by decide) rfl rfl (r_pick hK rfl rfl rfl) fun a hK => ?_
                  refine sl hK (by decide) rfl rfl (r_assign hK rfl) fun a hK => ?_
                  refine wpList_nil ?_
                  exact absurd (Option.some.inj H) (by decide)
              · rw [ifb_f hb_614] at H
                refine sl_skip hK (by decide) (wtf hb_614) rfl fun a hK => ?_
                refine sl_skip hK (by decide) (wtf hb_614) rfl fun a hK => ?_
                refine sl hK (by decide) rfl rfl (r_pick_f hb_614 hK rfl rfl) fun a hK => ?_
                refine sl hK (by decide) rfl rfl (r_move hK rfl) fun a hK => ?_
                refine sl_skip hK (by decide) rfl rfl fun a hK => ?_
                refine sl_skip hK (by decide) rfl rfl fun a hK => ?_
                refine sl_skip hK (by decide) rfl rfl fun a hK => ?_
                refine sl_skip hK (by decide) rfl rfl fun a hK => ?_
                refine sl hK (by decide) rfl rfl (r_pick hK rfl rfl rfl) fun a hK => ?_
                refine sl hK (by decide) rfl rfl (r_move hK rfl) fun a hK => ?_
                refine sl_skip hK (by decide) rfl rfl fun a hK => ?_
                refine sl_skip hK (by decide) rfl rfl fun a hK => ?_
                refine sl hK (by decide) rfl rfl (r_pick hK rfl rfl rfl) fun a hK => ?_
                refine sl hK (by decide) rfl rfl (r_move hK rfl) fun a hK => ?_
                refine sl_skip hK (by decide) rfl rfl fun a hK => ?_
                refine sl hK (by decide) rfl rfl (r_pick hK rfl rfl rfl) fun a hK => ?_
                refine sl hK (by decide) rfl rfl (r_move hK rfl) fun a hK => ?_
                refine sl_skip hK (by decide) rfl rfl fun a hK => ?_
                refine sl_skip hK (by decide) rfl rfl fun a hK => ?_
                refine sl_skip hK (by decide) rfl rfl fun a hK => ?_
                refine sl_skip hK (by decide) rfl rfl fun a hK => ?_
                refine sl_skip hK (by decide) rfl rfl fun a hK => ?_
                refine sl hK (by decide) rfl rfl (r_pick hK rfl rfl rfl) fun a hK => ?_
                refine sl hK (by decide) rfl rfl (r_assign hK rfl) fun a hK => ?_
                refine wpList_nil ?_
                exact absurd (Option.some.inj H) (by decide)

end Go.Proofs.Ytabdokppkcgdlaa.M
