/- Each Go function of the laws answers as its plain Lean function tells, wherever that tells something. Printed by wip/eng/gen.py. -/
import Derived.Test.YtojfckndloelpaaWalk2
namespace Go.Proofs.Ytojfckndloelpaa.M
open Go Go.Eng Go.Proofs Go.RowKit
set_option linter.unusedVariables false
set_option linter.unusedSimpArgs false

/-! ### catchment/catchmentlaw02.TableSame: function 6 -/
set_option maxHeartbeats 4000000 in
set_option maxRecDepth 100000 in
theorem law02_TableSame.calls (a0 : api_Table) (a1 : api_Table) {w0 : World} {R : Hp} {v0_0 : Value} {v0_1 : Value} {v1_0 : Value} {v1_1 : Value} (hR : R.sub w0) (h0_0 : SlR ty_api_Col R v0_0 a0.Cols) (h0_1 : SlR (tySl ty_api_Value) R v0_1 a0.Rows) (h1_0 : SlR ty_api_Col R v1_0 a1.Cols) (h1_1 : SlR (tySl ty_api_Value) R v1_1 a1.Rows) (H : law02_TableSame a0 a1 = some true) : CallsV Try.prog 6 #[.agg #[v0_0, v0_1], .agg #[v1_0, v1_1]] w0 (.bool true) := by
  unfold law02_TableSame at H
  refine enter (args := [.agg #[v0_0, v0_1], .agg #[v1_0, v1_1]]) Try.func6 rfl Try.ntmps6 rfl fun a hK => ?_
  have hS := St.init hR
  have hRL := RLe.refl (M := []) w0 R
  refine wp_seq ?_
  refine wp_region_lit ?_
  refine sl_box hS hK (by decide) rfl rfl (c := [v0_0, v0_1]) rfl fun a w b_1 hS hK => ?_
  refine sl_box hS hK (by decide) rfl rfl (c := [v1_0, v1_1]) rfl fun a w b_2 hS hK => ?_
  refine sl hK (by decide) rfl rfl (r_assign hK rfl) fun a hK => ?_
  refine wpList_nil ?_
  refine wp_seq ?_
  refine wp_region_lit ?_
  obtain ⟨y_3, h_4, H⟩ := bind_some H
  refine sl_callV Try.call11 hS hK (by decide) rfl rfl rfl (law02_shown.calls h_4 _) fun a w hS hK => ?_
  refine sl hK (by decide) rfl rfl (r_assign hK rfl) fun a hK => ?_
  refine wpList_nil ?_
  refine wp_seq ?_
  refine wp_region_lit ?_
  refine sl hK (by decide) rfl rfl (r_loadA (cs := [v0_0, v0_1]) Try.isAgg25 Try.sizeOf25 rfl hK rfl (hS.cells_of (m := 2) (.tail _ (.head _)) rfl)) fun a hK => ?_
  obtain ⟨y_5, h_6, H⟩ := bind_some H
  refine sl_call Try.call12 hK (by decide) rfl rfl rfl (law02_cut.calls a0 hS.sub h0_0 h0_1 h_6) fun a v_ w hv_ hK => ?_
  obtain ⟨R_7, v_9, v_11, hv_, hr_, hl_8, hs_10, hs_12⟩ := hv_
  have hv_ := hv_.symm
  subst hv_
  obtain ⟨hS, hl_8⟩ := hS.sp0.back hr_ hl_8
  have hS := hS.un0
  have hRL := hRL.trans hl_8
  have hS := hS.pk1
  refine sl_storeA (vs := [v_9, v_11]) (c' := [v_9, v_11]) Try.sizeOf25 hS hK rfl rfl rfl rfl (all_cons hs_10.one (all_cons hs_12.one (all_nil))) (Nat.le_of_ble_eq_true rfl) rfl fun a w hS hK => ?_
  refine wpList_nil ?_
  refine wp_seq ?_
  refine wp_region_lit ?_
  refine sl hK (by decide) rfl rfl (r_loadA (cs := [v1_0, v1_1]) Try.isAgg25 Try.sizeOf25 rfl hK rfl (hS.cells_of (m := 2) (.tail _ (.head _)) rfl)) fun a hK => ?_
  obtain ⟨y_13, h_14, H⟩ := bind_some H
  refine sl_call Try.call12 hK (by decide) rfl rfl rfl (law02_cut.calls a1 hS.sub (h1_0.mono hl_8.le) (h1_1.mono hl_8.le) h_14) fun a v_ w hv_ hK => ?_
  obtain ⟨R_15, v_17, v_19, hv_, hr_, hl_16, hs_18, hs_20⟩ := hv_
  have hv_ := hv_.symm
  subst hv_
  obtain ⟨hS, hl_16⟩ := hS.sp0.back hr_ hl_16
  have hS := hS.un0
  have hRL := hRL.trans hl_16
  have hS := hS.pk1
  refine sl_storeA (vs := [v_17, v_19]) (c' := [v_17, v_19]) Try.sizeOf25 hS hK rfl rfl rfl rfl (all_cons hs_18.one (all_cons hs_20.one (all_nil))) (Nat.le_of_ble_eq_true rfl) rfl fun a w hS hK => ?_
  refine wpList_nil ?_
  refine wp_seq ?_
  refine parT_region (C := fun w => St [] w0 w R_15 [.cells b_2 [v_17, v_19] 25, .cells b_1 [v_9, v_11] 25]) 21 [(0, true), (1, true), (2, true), (3, true), (5, true), (6, true), (4, false), (7, false), (8, true), (9, true), (10, true), (11, true), (12, true), (13, false), (14, true), (15, true), (16, true), (17, true), (19, true), (20, true), (18, false)] mixed (by kernel_rfl) hS (fun w hS => hS) fun w hS => ?_
  refine sp (k := 0) rfl hK (by decide) rfl rfl (fun w hS => r_move hK rfl) fun a hK => ?_
  refine sp (k := 1) rfl hK (by decide) rfl rfl (fun w hS => r_move hK rfl) fun a hK => ?_
  rcases or_b y_3 with hb_34 | hb_34
  · rw [ifb_t hb_34] at H
    refine sp (k := 2) rfl hK (by decide) (wtt hb_34) rfl (fun w hS => r_loadA (cs := [v_9, v_11]) Try.isAgg25 Try.sizeOf25 rfl hK rfl (hS.cells_of (m := 2) (.tail _ (.head _)) rfl)) fun a hK => ?_
    refine sp (k := 3) rfl hK (by decide) (wtt hb_34) rfl (fun w hS => r_loadA (cs := [v_17, v_19]) Try.isAgg25 Try.sizeOf25 rfl hK rfl (hS.cells_of (m := 2) (.head _) rfl)) fun a hK => ?_
    refine sp (k := 5) rfl hK (by decide) (wtt hb_34) rfl (fun w hS => r_loadA (cs := [v_9, v_11]) Try.isAgg25 Try.sizeOf25 rfl hK rfl (hS.cells_of (m := 2) (.tail _ (.head _)) rfl)) fun a hK => ?_
    refine sp (k := 6) rfl hK (by decide) (wtt hb_34) rfl (fun w hS => r_loadA (cs := [v_17, v_19]) Try.isAgg25 Try.sizeOf25 rfl hK rfl (hS.cells_of (m := 2) (.head _) rfl)) fun a hK => ?_
    refine spw (k := 4) rfl rfl hS ?_
    obtain ⟨y_35, h_36, H⟩ := bind_some H
    refine sl_callV Try.call23 hS hK (by decide) (wtt hb_34) rfl rfl (table_Same.calls y_5 y_13 (lentOf_sub [] _) (hs_10.mono (hl_16.le.trans hS.rLe0)) (hs_12.mono (hl_16.le.trans hS.rLe0)) (hs_18.mono hS.rLe0) (hs_20.mono hS.rLe0) h_36) fun a w hS hK => ?_
    refine parK_nil hS ?_
    refine spw (k := 7) rfl rfl hS ?_
    obtain ⟨y_37, h_38, H⟩ := bind_some H
    refine sl_callV Try.call22 hS hK (by decide) (wtt hb_34) rfl rfl (ref02_Same.calls y_5 y_13 (lentOf_sub [] _) (hs_10.mono (hl_16.le.trans hS.rLe0)) (hs_12.mono (hl_16.le.trans hS.rLe0)) (hs_18.mono hS.rLe0) (hs_20.mono hS.rLe0) h_38) fun a w hS hK => ?_
    refine parK_nil hS ?_
    refine sp (k := 8) rfl hK (by decide) (wtt hb_34) rfl (fun w hS => r_beq Try.underlying4 hK rfl rfl) fun a hK => ?_
    refine sp (k := 9) rfl hK (by decide) rfl rfl (fun w hS => r_pick_t hb_34 hK rfl rfl) fun a hK => ?_
    refine sp (k := 10) rfl hK (by decide) rfl rfl (fun w hS => r_move hK rfl) fun a hK => ?_
    rcases or_b (y_35 == y_37) with hb_39 | hb_39
    · rw [ifb_t hb_39] at H
      refine sp (k := 11) rfl hK (by decide) (wtt hb_39) rfl (fun w hS => r_loadA (cs := [v_9, v_11]) Try.isAgg25 Try.sizeOf25 rfl hK rfl (hS.cells_of (m := 2) (.tail _ (.head _)) rfl)) fun a hK => ?_
      refine sp (k := 12) rfl hK (by decide) (wtt hb_39) rfl (fun w hS => r_loadA (cs := [v_9, v_11]) Try.isAgg25 Try.sizeOf25 rfl hK rfl (hS.cells_of (m := 2) (.tail _ (.head _)) rfl)) fun a hK => ?_
      refine spw (k := 13) rfl rfl hS ?_
      obtain ⟨y_40, h_41, H⟩ := bind_some H
      refine sl_callV Try.call23 hS hK (by decide) (wtt hb_39) rfl rfl (table_Same.calls y_5 y_5 (lentOf_sub [] _) (hs_10.mono (hl_16.le.trans hS.rLe0)) (hs_12.mono (hl_16.le.trans hS.rLe0)) (hs_10.mono (hl_16.le.trans hS.rLe0)) (hs_12.mono (hl_16.le.trans hS.rLe0)) h_41) fun a w hS hK => ?_
      refine parK_nil hS ?_
      refine sp (k := 14) rfl hK (by decide) rfl rfl (fun w hS => r_pick_t hb_39 hK rfl rfl) fun a hK => ?_
      refine sp (k := 15) rfl hK (by decide) rfl rfl (fun w hS => r_move hK rfl) fun a hK => ?_
      rcases or_b y_40 with hb_42 | hb_42
      · rw [ifb_t hb_42] at H
        refine sp (k := 16) rfl hK (by decide) (wtt hb_42) rfl (fun w hS => r_loadA (cs := [v_9, v_11]) Try.isAgg25 Try.sizeOf25 rfl hK rfl (hS.cells_of (m := 2) (.tail _ (.head _)) rfl)) fun a hK => ?_
        refine sp (k := 17) rfl hK (by decide) (wtt hb_42) rfl (fun w hS => r_loadA (cs := [v_17, v_19]) Try.isAgg25 Try.sizeOf25 rfl hK rfl (hS.cells_of (m := 2) (.head _) rfl)) fun a hK => ?_
        refine sp (k := 19) rfl hK (by decide) (wtt hb_42) rfl (fun w hS => r_loadA (cs := [v_17, v_19]) Try.isAgg25 Try.sizeOf25 rfl hK rfl (hS.cells_of (m := 2) (.head _) rfl)) fun a hK => ?_
        refine sp (k := 20) rfl hK (by decide) (wtt hb_42) rfl (fun w hS => r_loadA (cs := [v_9, v_11]) Try.isAgg25 Try.sizeOf25 rfl hK rfl (hS.cells_of (m := 2) (.tail _ (.head _)) rfl)) fun a hK => ?_
        refine spw (k := 18) rfl rfl hS ?_
        obtain ⟨y_43, h_44, H⟩ := bind_some H
        refine sl_callV Try.call23 hS hK (by decide) (wtt hb_42) rfl rfl (table_Same.calls y_5 y_13 (lentOf_sub [] _) (hs_10.mono (hl_16.le.trans hS.rLe0)) (hs_12.mono (hl_16.le.trans hS.rLe0)) (hs_18.mono hS.rLe0) (hs_20.mono hS.rLe0) h_44) fun a w hS hK => ?_
        refine parK_nil hS ?_
        refine thenL_nil ?_
        obtain ⟨y_45, h_46, H⟩ := bind_some H
        refine sl_callV Try.call23 hS hK (by decide) (wtt hb_42) rfl rfl (table_Same.calls y_13 y_5 (lentOf_sub [] _) (hs_18.mono hS.rLe0) (hs_20.mono hS.rLe0) (hs_10.mono (hl_16.le.trans hS.rLe0)) (hs_12.mono (hl_16.le.trans hS.rLe0)) h_46) fun a w hS hK => ?_
        refine sl hK (by decide) (wtt hb_42) rfl (r_beq Try.underlying4 hK rfl rfl) fun a hK => ?_
        refine sl hK (by decide) rfl rfl (r_pick_t hb_42 hK rfl rfl) fun a hK => ?_
        refine sl hK (by decide) rfl rfl (r_assign hK rfl) fun a hK => ?_
        refine wpList_nil (NoP_nil ?_)
        have hr_ := Option.some.inj H
        refine wp_ret ?_
        repeat (first | refine ret_then ?_ | refine ret_block ?_ | refine ret_scope ?_)
        exact ret_1 Try.results6 hK (rv_tmp hK rfl) ⟨congrArg (fun b => Ending.returned (Value.bool b)) hr_, hS.bel⟩
      · rw [ifb_f hb_42] at H
        refine sp_skip (k := 16) rfl hK (by decide) (wtf hb_42) rfl fun a hK => ?_
        refine sp_skip (k := 17) rfl hK (by decide) (wtf hb_42) rfl fun a hK => ?_
        refine sp_skip (k := 19) rfl hK (by decide) (wtf hb_42) rfl fun a hK => ?_
        refine sp_skip (k := 20) rfl hK (by decide) (wtf hb_42) rfl fun a hK => ?_
        refine spw (k := 18) rfl rfl hS ?_
        refine sl_skip hK (by decide) (wtf hb_42) rfl fun a hK => ?_
        refine parK_nil hS ?_
        refine thenL_nil ?_
        refine sl_skip hK (by decide) (wtf hb_42) rfl fun a hK => ?_
        refine sl_skip hK (by decide) (wtf hb_42) rfl fun a hK => ?_
        refine sl hK (by decide) rfl rfl (r_pick_f hb_42 hK rfl rfl) fun a hK => ?_
        refine sl hK (by decide) rfl rfl (r_assign hK rfl) fun a hK => ?_
        refine wpList_nil (NoP_nil ?_)
        exact absurd (Option.some.inj H) (by decide)
    · rw [ifb_f hb_39] at H
      refine sp_skip (k := 11) rfl hK (by decide) (wtf hb_39) rfl fun a hK => ?_
      refine sp_skip (k := 12) rfl hK (by decide) (wtf hb_39) rfl fun a hK => ?_
      refine spw (k := 13) rfl rfl hS ?_
      refine sl_skip hK (by decide) (wtf hb_39) rfl fun a hK => ?_
      refine parK_nil hS ?_
      refine sp (k := 14) rfl hK (by decide) rfl rfl (fun w hS => r_pick_f hb_39 hK rfl rfl) fun a hK => ?_
      refine sp (k := 15) rfl hK (by decide) rfl rfl (fun w hS => r_move hK rfl) fun a hK => ?_
      refine sp_skip (k := 16) rfl hK (by decide) rfl rfl fun a hK => ?_
      refine sp_skip (k := 17) rfl hK (by decide) rfl rfl fun a hK => ?_
      refine sp_skip (k := 19) rfl hK (by decide) rfl rfl fun a hK => ?_
      refine sp_skip (k := 20) rfl hK (by decide) rfl rfl fun a hK => ?_
      refine spw (k := 18) rfl rfl hS ?_
      refine sl_skip hK (by decide) rfl rfl fun a hK => ?_
      refine parK_nil hS ?_
      refine thenL_nil ?_
      refine sl_skip hK (by decide) rfl rfl fun a hK => ?_
      refine sl_skip hK (by decide) rfl rfl fun a hK => ?_
      refine sl hK (by decide) rfl rfl (r_pick hK rfl rfl rfl) fun a hK => ?_
      refine sl hK (by decide) rfl rfl (r_assign hK rfl) fun a hK => ?_
      refine wpList_nil (NoP_nil ?_)
      exact absurd (Option.some.inj H) (by decide)
  · rw [ifb_f hb_34] at H
    refine sp_skip (k := 2) rfl hK (by decide) (wtf hb_34) rfl fun a hK => ?_
    refine sp_skip (k := 3) rfl hK (by decide) (wtf hb_34) rfl fun a hK => ?_
    refine sp_skip (k := 5) rfl hK (by decide) (wtf hb_34) rfl fun a hK => ?_
    refine sp_skip (k := 6) rfl hK (by decide) (wtf hb_34) rfl fun a hK => ?_
    refine spw (k := 4) rfl rfl hS ?_
    refine sl_skip hK (by decide) (wtf hb_34) rfl fun a hK => ?_
    refine parK_nil hS ?_
    refine spw (k := 7) rfl rfl hS ?_
    refine sl_skip hK (by decide) (wtf hb_34) rfl fun a hK => ?_
    refine parK_nil hS ?_
    refine sp_skip (k := 8) rfl hK (by decide) (wtf hb_34) rfl fun a hK => ?_
    refine sp (k := 9) rfl hK (by decide) rfl rfl (fun w hS => r_pick_f hb_34 hK rfl rfl) fun a hK => ?_
    refine sp (k := 10) rfl hK (by decide) rfl rfl (fun w hS => r_move hK rfl) fun a hK => ?_
    refine sp_skip (k := 11) rfl hK (by decide) rfl rfl fun a hK => ?_
    refine sp_skip (k := 12) rfl hK (by decide) rfl rfl fun a hK => ?_
    refine spw (k := 13) rfl rfl hS ?_
    refine sl_skip hK (by decide) rfl rfl fun a hK => ?_
    refine parK_nil hS ?_
    refine sp (k := 14) rfl hK (by decide) rfl rfl (fun w hS => r_pick hK rfl rfl rfl) fun a hK => ?_
    refine sp (k := 15) rfl hK (by decide) rfl rfl (fun w hS => r_move hK rfl) fun a hK => ?_
    refine sp_skip (k := 16) rfl hK (by decide) rfl rfl fun a hK => ?_
    refine sp_skip (k := 17) rfl hK (by decide) rfl rfl fun a hK => ?_
    refine sp_skip (k := 19) rfl hK (by decide) rfl rfl fun a hK => ?_
    refine sp_skip (k := 20) rfl hK (by decide) rfl rfl fun a hK => ?_
    refine spw (k := 18) rfl rfl hS ?_
    refine sl_skip hK (by decide) rfl rfl fun a hK => ?_
    refine parK_nil hS ?_
    refine thenL_nil ?_
    refine sl_skip hK (by decide) rfl rfl fun a hK => ?_
    refine sl_skip hK (by decide) rfl rfl fun a hK => ?_
    refine sl hK (by decide) rfl rfl (r_pick hK rfl rfl rfl) fun a hK => ?_
    refine sl hK (by decide) rfl rfl (r_assign hK rfl) fun a hK => ?_
    refine wpList_nil (NoP_nil ?_)
    exact absurd (Option.some.inj H) (by decide)

end Go.Proofs.Ytojfckndloelpaa.M
