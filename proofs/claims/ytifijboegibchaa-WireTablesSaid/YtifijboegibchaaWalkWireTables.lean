/- Each Go function of the laws answers as its plain Lean function tells, wherever that tells something. Printed by wip/eng/gen.py. -/
import Derived.Test.YtifijboegibchaaWalk3
namespace Go.Proofs.Ytifijboegibchaa.M
open Go Go.Eng Go.Proofs Go.RowKit
set_option linter.unusedVariables false
set_option linter.unusedSimpArgs false

/-! ### catchment/catchmentlaw04.WireTables: function 7 -/
set_option maxHeartbeats 4000000 in
set_option maxRecDepth 100000 in
theorem law04_WireTables.calls (a0 : api_Table) (a1 : List Int) {w0 : World} {R : Hp} {v0_0 : Value} {v0_1 : Value} {v1_0 : Value} (hR : R.sub w0) (h0_0 : SlR ty_api_Col R v0_0 a0.Cols) (h0_1 : SlR (tySl ty_api_Value) R v0_1 a0.Rows) (h1_0 : SlR (tyInt .u8) R v1_0 a1) (H : law04_WireTables a0 a1 = some true) : CallsV Try.prog 7 #[.agg #[v0_0, v0_1], v1_0] w0 (.bool true) := by
  unfold law04_WireTables at H
  refine enter (args := [.agg #[v0_0, v0_1], v1_0]) Try.func7 rfl Try.ntmps7 rfl fun a hK => ?_
  have hS := St.init hR
  have hRL := RLe.refl (M := []) w0 R
  refine wp_seq ?_
  refine wp_region_lit ?_
  refine sl_box hS hK (by decide) rfl rfl (c := [v0_0, v0_1]) rfl fun a w b_1 hS hK => ?_
  refine sl hK (by decide) rfl rfl (r_assign hK rfl) fun a hK => ?_
  refine wpList_nil ?_
  refine wp_seq ?_
  refine wp_region_lit ?_
  obtain ⟨y_2, h_3, H⟩ := bind_some H
  refine sl_callV Try.call11 hS hK (by decide) rfl rfl rfl (law04_shown.calls h_3 _) fun a w hS hK => ?_
  refine sl hK (by decide) rfl rfl (r_assign hK rfl) fun a hK => ?_
  refine wpList_nil ?_
  refine wp_seq ?_
  refine wp_region_lit ?_
  refine sl hK (by decide) rfl rfl (r_loadA (cs := [v0_0, v0_1]) Try.isAgg37 Try.sizeOf37 rfl hK rfl (hS.cells_of (m := 2) (.head _) rfl)) fun a hK => ?_
  obtain ⟨y_4, h_5, H⟩ := bind_some H
  refine sl_call Try.call16 hK (by decide) rfl rfl rfl (law04_cut.calls a0 hS.sub h0_0 h0_1 h_5) fun a v_ w hv_ hK => ?_
  obtain ⟨R_6, v_8, v_10, hv_, hr_, hl_7, hs_9, hs_11⟩ := hv_
  have hv_ := hv_.symm
  subst hv_
  obtain ⟨hS, hl_7⟩ := hS.sp0.back hr_ hl_7
  have hS := hS.un0
  have hRL := hRL.trans hl_7
  refine sl_storeA (vs := [v_8, v_10]) (c' := [v_8, v_10]) Try.sizeOf37 hS hK rfl rfl rfl rfl (all_cons hs_9.one (all_cons hs_11.one (all_nil))) (Nat.le_of_ble_eq_true rfl) rfl fun a w hS hK => ?_
  refine wpList_nil ?_
  refine wp_seq ?_
  refine wp_region_lit ?_
  refine sl hK (by decide) rfl rfl (r_loadA (cs := [v_8, v_10]) Try.isAgg37 Try.sizeOf37 rfl hK rfl (hS.cells_of (m := 2) (.head _) rfl)) fun a hK => ?_
  obtain ⟨y_12, h_13, H⟩ := bind_some H
  refine sl_call Try.call17 hK (by decide) rfl rfl rfl (wire_Encode.calls y_4 (lentOf_sub [] _) hS.sub (hs_9.mono hS.rLe0) (hs_11.mono hS.rLe0) h_13) fun a v_ w hv_ hK => ?_
  obtain ⟨R_14, v_17, cs_18, hv_, hr_, hl_15, hq_19⟩ := hv_
  have hv_ := hv_.symm
  subst hv_
  obtain ⟨hS, hl_15⟩ := hS.sp0.back hr_ hl_15
  have hS := hS.un1
  have hRL := hRL.trans hl_15
  refine sl hK (by decide) rfl rfl (r_move hK rfl) fun a hK => ?_
  refine sl hK (by decide) rfl rfl (r_extract hK rfl rfl) fun a hK => ?_
  refine sl hK (by decide) rfl rfl (r_extract hK rfl rfl) fun a hK => ?_
  refine sl hK (by decide) rfl rfl (r_assign hK rfl) fun a hK => ?_
  refine sl hK (by decide) rfl rfl (r_assign hK rfl) fun a hK => ?_
  refine wpList_nil ?_
  refine wp_seq ?_
  refine wp_seq ?_
  refine wp_region_lit ?_
  refine sl hK (by decide) rfl rfl (r_move hK rfl) fun a hK => ?_
  refine sl hK (by decide) rfl rfl (r_ibin hK rfl rfl rfl) fun a hK => ?_
  refine wpList_nil ?_
  refine wp_mid (fun a w => ∃ (R_44 : Hp), law04_WireTables.j0 a1 y_2 = some true ∧ RLe [] w0 R_14 R_44 ∧ Kn 64 a [(1, v1_0), (5, .bool y_2)] ∧ St [] w0 w R_44 []) ?_ ?_
  · refine wp_cond_split (hK.ev rfl) (fun (hb_46 : (y_12.2 == 0) = true) => ?_) (fun (hb_46 : (y_12.2 == 0) = false) => ?_)
    · rw [ifb_t hb_46] at H
      refine wp_seq ?_
      refine wp_region_lit ?_
      refine sl hK (by decide) rfl rfl (r_move hK rfl) fun a hK => ?_
      obtain ⟨R_47, hS, hl_49, hs_48⟩ := hS.fz_row hq_19 rfl rfl
      have hRL := hRL.trans hl_49
      obtain ⟨y_50, h_51, H⟩ := bind_some H
      refine sl_call Try.call19 hK (by decide) rfl rfl rfl (wire_Decode.calls y_12.1 hS.sub hs_48 h_51) fun a v_ w hv_ hK => ?_
      obtain ⟨R_52, v_55, cs_56, v_59, cs_60, hv_, hr_, hl_53, hq_57, hq_61⟩ := hv_
      have hv_ := hv_.symm
      subst hv_
      obtain ⟨hS, hl_53⟩ := hS.sp0.back hr_ hl_53
      have hS := hS.un2
      have hRL := hRL.trans hl_53
      refine sl hK (by decide) rfl rfl (r_move hK rfl) fun a hK => ?_
      refine sl hK (by decide) rfl rfl (r_extract hK rfl rfl) fun a hK => ?_
      refine sl hK (by decide) rfl rfl (r_extract hK rfl rfl) fun a hK => ?_
      refine sl_alloc Try.zeroValue37 hS hK (by decide) rfl rfl fun a w b_62 hS hK => ?_
      refine sl_storeA (vs := [v_55, v_59]) (c' := [v_55, v_59]) Try.sizeOf37 hS hK rfl rfl rfl rfl (all_cons (hS.row_one (.tail _ (.head _))) (all_cons (hS.row_one (.tail _ (.tail _ (.head _)))) (all_nil))) (Nat.le_of_ble_eq_true rfl) rfl fun a w hS hK => ?_
      refine sl hK (by decide) rfl rfl (r_assign hK rfl) fun a hK => ?_
      refine wpList_nil ?_
      refine wp_seq ?_
      refine wp_region_lit ?_
      refine sl hK (by decide) rfl rfl (r_loadA (cs := [v_8, v_10]) Try.isAgg37 Try.sizeOf37 rfl hK rfl (hS.cells_of (m := 2) (.tail _ (.tail _ (.tail _ (.head _)))) rfl)) fun a hK => ?_
      refine sl hK (by decide) rfl rfl (r_loadA (cs := [v_55, v_59]) Try.isAgg37 Try.sizeOf37 rfl hK rfl (hS.cells_of (m := 2) (.head _) rfl)) fun a hK => ?_
      obtain ⟨y_63, h_64, H⟩ := bind_some H
      refine sl_callV Try.call21 hS hK (by decide) rfl rfl rfl (ref02_Same.calls y_4 y_50.1 (lentOf_sub [] _) (hs_9.mono ((hl_15.le.trans (hl_49.le.trans hl_53.le)).trans hS.rLe0)) (hs_11.mono ((hl_15.le.trans (hl_49.le.trans hl_53.le)).trans hS.rLe0)) (hS.lend_row0 (.tail _ (.head _)) hq_57 rfl rfl) (hS.lend_row0 (.tail _ (.tail _ (.head _))) hq_61 rfl rfl) h_64) fun a w hS hK => ?_
      refine sl hK (by decide) rfl rfl (r_assign hK rfl) fun a hK => ?_
      refine wpList_nil ?_
      refine wp_seq ?_
      refine wp_mid (fun a w => ∃ (x_66 : Bool), law04_WireTables.j1 a1 y_2 x_66 = some true ∧ Kn 64 a [(1, v1_0), (5, .bool y_2), (38, .bool x_66)] ∧ St [] w0 w R_52 []) ?_ ?_
      · refine wp_region_lit ?_
        refine sl hK (by decide) rfl rfl (r_move hK rfl) fun a hK => ?_
        refine sl hK (by decide) rfl rfl (r_ibin hK rfl rfl rfl) fun a hK => ?_
        refine sl hK (by decide) rfl rfl (r_move hK rfl) fun a hK => ?_
        rcases or_b (y_50.2 != 0) with hb_68 | hb_68
        · rw [ifb_t hb_68] at H
          refine sl_skip hK (by decide) (wft hb_68) rfl fun a hK => ?_
          refine sl_skip hK (by decide) (wft hb_68) rfl fun a hK => ?_
          refine sl hK (by decide) rfl rfl (r_pick_t hb_68 hK rfl rfl) fun a hK => ?_
          refine wpList_nil ?_
          exact ⟨true, H, hK.sub (all_cons rfl (all_cons rfl (all_cons rfl (all_nil)))), hS.trunc 0⟩
        · rw [ifb_f hb_68] at H
          refine sl hK (by decide) (wff hb_68) rfl (r_move hK rfl) fun a hK => ?_
          refine sl hK (by decide) (wff hb_68) rfl (r_un hK rfl (u_not _)) fun a hK => ?_
          refine sl hK (by decide) rfl rfl (r_pick_f hb_68 hK rfl rfl) fun a hK => ?_
          refine wpList_nil ?_
          exact ⟨(!y_63), H, hK.sub (all_cons rfl (all_cons rfl (all_cons rfl (all_nil)))), hS.trunc 0⟩
      · rintro a w ⟨x_66, H, hK, hS⟩
        unfold law04_WireTables.j1 at H
        refine wp_cond_split (hK.ev rfl) (fun (hb_69 : x_66 = true) => ?_) (fun (hb_69 : x_66 = false) => ?_)
        · rw [ifb_t hb_69] at H
          refine wp_seq ?_
          refine wp_region_lit ?_
          refine sl hK (by decide) rfl rfl (r_assign hK rfl) fun a hK => ?_
          refine wpList_nil ?_
          exact absurd (Option.some.inj H) (by decide)
        · rw [ifb_f hb_69] at H
          refine wp_skip ?_
          exact ⟨_, H, (hl_49.trans hl_53), hK.sub (all_cons rfl (all_cons rfl (all_nil))), hS⟩
    · rw [ifb_f hb_46] at H
      refine wp_skip ?_
      exact ⟨_, H, (RLe.refl _ _), hK.sub (all_cons rfl (all_cons rfl (all_nil))), hS.trunc 0⟩
  · rintro a w ⟨R_44, H, hl_45, hK, hS⟩
    unfold law04_WireTables.j0 at H
    have hRL := hRL.trans hl_45
    refine wp_seq ?_
    refine wp_region_lit ?_
    refine sl hK (by decide) rfl rfl (r_move hK rfl) fun a hK => ?_
    obtain ⟨y_70, h_71, H⟩ := bind_some H
    refine sl_call Try.call19 hK (by decide) rfl rfl rfl (wire_Decode.calls a1 hS.sub (h1_0.mono (hl_7.le.trans (hl_15.le.trans hl_45.le))) h_71) fun a v_ w hv_ hK => ?_
    obtain ⟨R_72, v_75, cs_76, v_79, cs_80, hv_, hr_, hl_73, hq_77, hq_81⟩ := hv_
    have hv_ := hv_.symm
    subst hv_
    obtain ⟨hS, hl_73⟩ := hS.sp0.back hr_ hl_73
    have hS := hS.un2
    have hRL := hRL.trans hl_73
    refine sl hK (by decide) rfl rfl (r_move hK rfl) fun a hK => ?_
    refine sl hK (by decide) rfl rfl (r_extract hK rfl rfl) fun a hK => ?_
    refine sl hK (by decide) rfl rfl (r_extract hK rfl rfl) fun a hK => ?_
    refine sl_alloc Try.zeroValue37 hS hK (by decide) rfl rfl fun a w b_82 hS hK => ?_
    refine sl_storeA (vs := [v_75, v_79]) (c' := [v_75, v_79]) Try.sizeOf37 hS hK rfl rfl rfl rfl (all_cons (hS.row_one (.tail _ (.head _))) (all_cons (hS.row_one (.tail _ (.tail _ (.head _)))) (all_nil))) (Nat.le_of_ble_eq_true rfl) rfl fun a w hS hK => ?_
    refine sl hK (by decide) rfl rfl (r_assign hK rfl) fun a hK => ?_
    refine wpList_nil ?_
    refine wp_seq ?_
    refine wp_seq ?_
    refine wp_region_lit ?_
    refine sl hK (by decide) rfl rfl (r_move hK rfl) fun a hK => ?_
    refine sl hK (by decide) rfl rfl (r_ibin hK rfl rfl rfl) fun a hK => ?_
    refine wpList_nil ?_
    refine wp_cond_split (hK.ev rfl) (fun (hb_83 : (y_70.2 != 0) = true) => ?_) (fun (hb_83 : (y_70.2 != 0) = false) => ?_)
    · rw [ifb_t hb_83] at H
      refine wp_seq ?_
      refine wp_region_lit ?_
      refine sl hK (by decide) rfl rfl (r_move hK rfl) fun a hK => ?_
      refine sl hK (by decide) rfl rfl (r_assign hK rfl) fun a hK => ?_
      refine wpList_nil ?_
      have hr_ := Option.some.inj H
      refine wp_ret ?_
      repeat (first | refine ret_then ?_ | refine ret_block ?_ | refine ret_scope ?_)
      exact ret_1 Try.results7 hK (rv_tmp hK rfl) ⟨congrArg (fun b => Ending.returned (Value.bool b)) hr_, hS.bel⟩
    · rw [ifb_f hb_83] at H
      refine wp_skip ?_
      refine wp_seq ?_
      refine wp_region_lit ?_
      refine sl hK (by decide) rfl rfl (r_loadA (cs := [v_75, v_79]) Try.isAgg37 Try.sizeOf37 rfl hK rfl (hS.cells_of (m := 2) (.head _) rfl)) fun a hK => ?_
      obtain ⟨y_84, h_85, H⟩ := bind_some H
      refine sl_call Try.call17 hK (by decide) rfl rfl rfl (wire_Encode.calls y_70.1 (lentOf_sub [] _) hS.sub (hS.lend_row0 (.tail _ (.head _)) hq_77 rfl rfl) (hS.lend_row0 (.tail _ (.tail _ (.head _))) hq_81 rfl rfl) h_85) fun a v_ w hv_ hK => ?_
      obtain ⟨R_86, v_89, cs_90, hv_, hr_, hl_87, hq_91⟩ := hv_
      have hv_ := hv_.symm
      subst hv_
      obtain ⟨hS, hl_87⟩ := hS.sp0.back hr_ hl_87
      have hS := hS.un1
      have hRL := hRL.trans hl_87
      refine sl hK (by decide) rfl rfl (r_move hK rfl) fun a hK => ?_
      refine sl hK (by decide) rfl rfl (r_extract hK rfl rfl) fun a hK => ?_
      refine sl hK (by decide) rfl rfl (r_extract hK rfl rfl) fun a hK => ?_
      refine sl hK (by decide) rfl rfl (r_assign hK rfl) fun a hK => ?_
      refine sl hK (by decide) rfl rfl (r_assign hK rfl) fun a hK => ?_
      refine wpList_nil ?_
      refine wp_seq ?_
      refine wp_region_lit ?_
      refine sl hK (by decide) rfl rfl (r_move hK rfl) fun a hK => ?_
      refine sl hK (by decide) rfl rfl (r_move hK rfl) fun a hK => ?_
      rcases or_b y_2 with hb_92 | hb_92
      · rw [ifb_t hb_92] at H
        refine sl hK (by decide) (wtt hb_92) rfl (r_move hK rfl) fun a hK => ?_
        refine sl hK (by decide) (wtt hb_92) rfl (r_ibin hK rfl rfl rfl) fun a hK => ?_
        refine sl hK (by decide) rfl rfl (r_pick_t hb_92 hK rfl rfl) fun a hK => ?_
        refine sl hK (by decide) rfl rfl (r_move hK rfl) fun a hK => ?_
        rcases or_b (y_84.2 == 0) with hb_93 | hb_93
        · rw [ifb_t hb_93] at H
          refine sl hK (by decide) (wtt hb_93) rfl (r_move hK rfl) fun a hK => ?_
          refine sl hK (by decide) (wtt hb_93) rfl (r_conv_bo Try.underlying22 Try.underlying9 Try.underlying5 hq_91 rfl hS (.head _) hK rfl) fun a hK => ?_
          refine sl hK (by decide) (wtt hb_93) rfl (r_move hK rfl) fun a hK => ?_
          refine sl hK (by decide) (wtt hb_93) rfl (r_conv_bs Try.underlying22 Try.underlying9 Try.underlying5 h1_0 hK rfl (hS.sub.le (hl_7.le.trans (hl_15.le.trans (hl_45.le.trans (hl_73.le.trans hl_87.le)))))) fun a hK => ?_
          refine sl hK (by decide) (wtt hb_93) rfl (r_sbin hK rfl rfl rfl) fun a hK => ?_
          refine sl hK (by decide) rfl rfl (r_pick_t hb_93 hK rfl rfl) fun a hK => ?_
          refine sl hK (by decide) rfl rfl (r_assign hK rfl) fun a hK => ?_
          refine wpList_nil ?_
          have hr_ := Option.some.inj H
          refine wp_ret ?_
          repeat (first | refine ret_then ?_ | refine ret_block ?_ | refine ret_scope ?_)
          exact ret_1 Try.results7 hK (rv_tmp hK rfl) ⟨congrArg (fun b => Ending.returned (Value.bool b)) hr_, hS.bel⟩
        · rw [ifb_f hb_93] at H
          refine sl_skip hK (by decide) (wtf hb_93) rfl fun a hK => ?_
          refine sl_skip hK (by decide) (wtf hb_93) rfl fun a hK => ?_
          refine sl_skip hK (by decide) (wtf hb_93) rfl fun a hK => ?_
          refine sl_skip hK (by decide) (wtf hb_93) rfl fun a hK => ?_
          refine sl_skip hK (by decide) (wtf hb_93) rfl fun a hK => ?_
          refine sl hK (by decide) rfl rfl (r_pick_f hb_93 hK rfl rfl) fun a hK => ?_
          refine sl hK (by decide) rfl rfl (r_assign hK rfl) fun a hK => ?_
          refine wpList_nil ?_
          exact absurd (Option.some.inj H) (by decide)
      · rw [ifb_f hb_92] at H
        refine sl_skip hK (by decide) (wtf hb_92) rfl fun a hK => ?_
        refine sl_skip hK (by decide) (wtf hb_92) rfl fun a hK => ?_
        refine sl hK (by decide) rfl rfl (r_pick_f hb_92 hK rfl rfl) fun a hK => ?_
        refine sl hK (by decide) rfl rfl (r_move hK rfl) fun a hK => ?_
        refine sl_skip hK (by decide) rfl rfl fun a hK => ?_
        refine sl_skip hK (by decide) rfl rfl fun a hK => ?_
        refine sl_skip hK (by decide) rfl rfl fun a hK => ?_
        refine sl_skip hK (by decide) rfl rfl fun a hK => ?_
        refine sl_skip hK (by decide) rfl rfl fun a hK => ?_
        refine sl hK (by decide) rfl rfl (r_pick hK rfl rfl rfl) fun a hK => ?_
        refine sl hK (by decide) rfl rfl (r_assign hK rfl) fun a hK => ?_
        refine wpList_nil ?_
        exact absurd (Option.some.inj H) (by decide)

end Go.Proofs.Ytifijboegibchaa.M
