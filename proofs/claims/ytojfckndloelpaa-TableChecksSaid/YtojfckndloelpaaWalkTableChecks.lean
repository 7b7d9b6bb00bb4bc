/- Each Go function of the laws answers as its plain Lean function tells, wherever that tells something. Printed by wip/eng/gen.py. -/
import Derived.Test.YtojfckndloelpaaWalk2
namespace Go.Proofs.Ytojfckndloelpaa.M
open Go Go.Eng Go.Proofs Go.RowKit
set_option linter.unusedVariables false
set_option linter.unusedSimpArgs false

/-! ### catchment/catchmentlaw02.TableChecks: function 3 -/
set_option maxHeartbeats 4000000 in
set_option maxRecDepth 100000 in
theorem law02_TableChecks.calls (a0 : api_Table) (a1 : ByteArray) {w0 : World} {R : Hp} {v0_0 : Value} {v0_1 : Value} (hR : R.sub w0) (h0_0 : SlR ty_api_Col R v0_0 a0.Cols) (h0_1 : SlR (tySl ty_api_Value) R v0_1 a0.Rows) (H : law02_TableChecks a0 a1 = some true) : CallsV Try.prog 3 #[.agg #[v0_0, v0_1], .string a1] w0 (.bool true) := by
  unfold law02_TableChecks at H
  refine enter (args := [.agg #[v0_0, v0_1], .string a1]) Try.func3 rfl Try.ntmps3 rfl fun a hK => ?_
  have hS := St.init hR
  have hRL := RLe.refl (M := []) w0 R
  refine wp_seq ?_
  refine wp_region_lit ?_
  refine sl_box hS hK (by decide) rfl rfl (c := [v0_0, v0_1]) rfl fun a w b_1 hS hK => ?_
  refine sl hK (by decide) rfl rfl (r_assign hK rfl) fun a hK => ?_
  refine wpList_nil ?_
  refine wp_seq ?_
  refine wp_region_lit ?_
  obtain ⟨y_2, h_3, H⟩ := bind_some H
  refine sl_callV Try.call11 hS hK (by decide) rfl rfl rfl (law02_shown.calls h_3 _) fun a w hS hK => ?_
  refine sl hK (by decide) rfl rfl (r_assign hK rfl) fun a hK => ?_
  refine wpList_nil ?_
  refine wp_seq ?_
  refine wp_region_lit ?_
  refine sl hK (by decide) rfl rfl (r_loadA (cs := [v0_0, v0_1]) Try.isAgg25 Try.sizeOf25 rfl hK rfl (hS.cells_of (m := 2) (.head _) rfl)) fun a hK => ?_
  obtain ⟨y_4, h_5, H⟩ := bind_some H
  refine sl_call Try.call12 hK (by decide) rfl rfl rfl (law02_cut.calls a0 hS.sub h0_0 h0_1 h_5) fun a v_ w hv_ hK => ?_
  obtain ⟨R_6, v_8, v_10, hv_, hr_, hl_7, hs_9, hs_11⟩ := hv_
  have hv_ := hv_.symm
  subst hv_
  obtain ⟨hS, hl_7⟩ := hS.sp0.back hr_ hl_7
  have hS := hS.un0
  have hRL := hRL.trans hl_7
  refine sl_storeA (vs := [v_8, v_10]) (c' := [v_8, v_10]) Try.sizeOf25 hS hK rfl rfl rfl rfl (all_cons hs_9.one (all_cons hs_11.one (all_nil))) (Nat.le_of_ble_eq_true rfl) rfl fun a w hS hK => ?_
  refine wpList_nil ?_
  refine wp_seq ?_
  refine parT_region (C := fun w => St [] w0 w R_6 [.cells b_1 [v_8, v_10] 25]) 23 [(0, true), (1, true), (2, true), (4, true), (3, false), (5, false), (6, true), (7, true), (8, true), (9, true), (11, true), (10, false), (12, false), (13, true), (14, true), (15, true), (16, true), (17, true), (18, true), (20, true), (21, true), (22, true), (19, false)] mixed (by kernel_rfl) hS (fun w hS => hS) fun w hS => ?_
  refine sp (k := 0) rfl hK (by decide) rfl rfl (fun w hS => r_move hK rfl) fun a hK => ?_
  refine sp (k := 1) rfl hK (by decide) rfl rfl (fun w hS => r_move hK rfl) fun a hK => ?_
  rcases or_b y_2 with hb_27 | hb_27
  · rw [ifb_t hb_27] at H
    refine sp (k := 2) rfl hK (by decide) (wtt hb_27) rfl (fun w hS => r_loadA (cs := [v_8, v_10]) Try.isAgg25 Try.sizeOf25 rfl hK rfl (hS.cells_of (m := 2) (.head _) rfl)) fun a hK => ?_
    refine sp (k := 4) rfl hK (by decide) (wtt hb_27) rfl (fun w hS => r_loadA (cs := [v_8, v_10]) Try.isAgg25 Try.sizeOf25 rfl hK rfl (hS.cells_of (m := 2) (.head _) rfl)) fun a hK => ?_
    refine spw (k := 3) rfl rfl hS ?_
    obtain ⟨y_28, h_29, H⟩ := bind_some H
    refine sl_callV Try.call13 hS hK (by decide) (wtt hb_27) rfl rfl (table_Check.calls y_4 (lentOf_sub [] _) (hs_9.mono hS.rLe0) (hs_11.mono hS.rLe0) h_29) fun a w hS hK => ?_
    refine parK_nil hS ?_
    refine spw (k := 5) rfl rfl hS ?_
    obtain ⟨y_30, h_31, H⟩ := bind_some H
    refine sl_callV Try.call14 hS hK (by decide) (wtt hb_27) rfl rfl (ref02_Check.calls y_4 (lentOf_sub [] _) (hs_9.mono hS.rLe0) (hs_11.mono hS.rLe0) h_31) fun a w hS hK => ?_
    refine parK_nil hS ?_
    refine sp (k := 6) rfl hK (by decide) (wtt hb_27) rfl (fun w hS => r_ibin hK rfl rfl rfl) fun a hK => ?_
    refine sp (k := 7) rfl hK (by decide) rfl rfl (fun w hS => r_pick_t hb_27 hK rfl rfl) fun a hK => ?_
    refine sp (k := 8) rfl hK (by decide) rfl rfl (fun w hS => r_move hK rfl) fun a hK => ?_
    rcases or_b (y_28 == y_30) with hb_32 | hb_32
    · rw [ifb_t hb_32] at H
      refine sp (k := 9) rfl hK (by decide) (wtt hb_32) rfl (fun w hS => r_move hK rfl) fun a hK => ?_
      refine sp (k := 11) rfl hK (by decide) (wtt hb_32) rfl (fun w hS => r_move hK rfl) fun a hK => ?_
      refine spw (k := 10) rfl rfl hS ?_
      obtain ⟨y_33, h_34, H⟩ := bind_some H
      refine sl_callV Try.call15 hS hK (by decide) (wtt hb_32) rfl rfl (table_Name.calls a1 h_34 _) fun a w hS hK => ?_
      refine parK_nil hS ?_
      refine spw (k := 12) rfl rfl hS ?_
      obtain ⟨y_35, h_36, H⟩ := bind_some H
      refine sl_callV Try.call16 hS hK (by decide) (wtt hb_32) rfl rfl (ref02_Name.calls a1 h_36 _) fun a w hS hK => ?_
      refine parK_nil hS ?_
      refine sp (k := 13) rfl hK (by decide) (wtt hb_32) rfl (fun w hS => r_beq Try.underlying4 hK rfl rfl) fun a hK => ?_
      refine sp (k := 14) rfl hK (by decide) rfl rfl (fun w hS => r_pick_t hb_32 hK rfl rfl) fun a hK => ?_
      refine sp (k := 15) rfl hK (by decide) rfl rfl (fun w hS => r_move hK rfl) fun a hK => ?_
      rcases or_b (y_33 == y_35) with hb_37 | hb_37
      · rw [ifb_t hb_37] at H
        refine sp (k := 16) rfl hK (by decide) (wtt hb_37) rfl (fun w hS => r_fieldAddr Try.underlying25 rfl Try.sizeOf22 hK rfl) fun a hK => ?_
        refine sp (k := 17) rfl hK (by decide) (wtt hb_37) rfl (fun w hS => r_load Try.isAgg22 hK rfl (hS.cell (.head _) rfl)) fun a hK => ?_
        refine sp (k := 18) rfl hK (by decide) (wtt hb_37) rfl (fun w hS => r_move hK rfl) fun a hK => ?_
        refine sp (k := 20) rfl hK (by decide) (wtt hb_37) rfl (fun w hS => r_fieldAddr Try.underlying25 rfl Try.sizeOf22 hK rfl) fun a hK => ?_
        refine sp (k := 21) rfl hK (by decide) (wtt hb_37) rfl (fun w hS => r_load Try.isAgg22 hK rfl (hS.cell (.head _) rfl)) fun a hK => ?_
        refine sp (k := 22) rfl hK (by decide) (wtt hb_37) rfl (fun w hS => r_move hK rfl) fun a hK => ?_
        refine spw (k := 19) rfl rfl hS ?_
        obtain ⟨y_38, h_39, H⟩ := bind_some H
        refine sl_callV Try.call17 hS hK (by decide) (wtt hb_37) rfl rfl (table_Find.calls y_4.Cols a1 (lentOf_sub [] _) (hs_9.mono hS.rLe0) h_39) fun a w hS hK => ?_
        refine parK_nil hS ?_
        refine thenL_nil ?_
        obtain ⟨y_40, h_41, H⟩ := bind_some H
        refine sl_callV Try.call18 hS hK (by decide) (wtt hb_37) rfl rfl (ref02_Find.calls y_4.Cols a1 (lentOf_sub [] _) (hs_9.mono hS.rLe0) h_41) fun a w hS hK => ?_
        refine sl hK (by decide) (wtt hb_37) rfl (r_ibin hK rfl rfl rfl) fun a hK => ?_
        refine sl hK (by decide) rfl rfl (r_pick_t hb_37 hK rfl rfl) fun a hK => ?_
        refine sl hK (by decide) rfl rfl (r_assign hK rfl) fun a hK => ?_
        refine wpList_nil (NoP_nil ?_)
        have hr_ := Option.some.inj H
        refine wp_ret ?_
        repeat (first | refine ret_then ?_ | refine ret_block ?_ | refine ret_scope ?_)
        exact ret_1 Try.results3 hK (rv_tmp hK rfl) ⟨congrArg (fun b => Ending.returned (Value.bool b)) hr_, hS.bel⟩
      · rw [ifb_f hb_37] at H
        refine sp_skip (k := 16) rfl hK (by decide) (wtf hb_37) rfl fun a hK => ?_
        refine sp_skip (k := 17) rfl hK (by decide) (wtf hb_37) rfl fun a hK => ?_
        refine sp_skip (k := 18) rfl hK (by decide) (wtf hb_37) rfl fun a hK => ?_
        refine sp_skip (k := 20) rfl hK (by decide) (wtf hb_37) rfl fun a hK => ?_
        refine sp_skip (k := 21) rfl hK (by decide) (wtf hb_37) rfl fun a hK => ?_
        refine sp_skip (k := 22) rfl hK (by decide) (wtf hb_37) rfl fun a hK => ?_
        refine spw (k := 19) rfl rfl hS ?_
        refine sl_skip hK (by decide) (wtf hb_37) rfl fun a hK => ?_
        refine parK_nil hS ?_
        refine thenL_nil ?_
        refine sl_skip hK (by decide) (wtf hb_37) rfl fun a hK => ?_
        refine sl_skip hK (by decide) (wtf hb_37) rfl fun a hK => ?_
        refine sl hK (by decide) rfl rfl (r_pick_f hb_37 hK rfl rfl) fun a hK => ?_
        refine sl hK (by decide) rfl rfl (r_assign hK rfl) fun a hK => ?_
        refine wpList_nil (NoP_nil ?_)
        exact absurd (Option.some.inj H) (by decide)
    · rw [ifb_f hb_32] at H
      refine sp_skip (k := 9) rfl hK (by decide) (wtf hb_32) rfl fun a hK => ?_
      refine sp_skip (k := 11) rfl hK (by decide) (wtf hb_32) rfl fun a hK => ?_
      refine spw (k := 10) rfl rfl hS ?_
      refine sl_skip hK (by decide) (wtf hb_32) rfl fun a hK => ?_
      refine parK_nil hS ?_
      refine spw (k := 12) rfl rfl hS ?_
      refine sl_skip hK (by decide) (wtf hb_32) rfl fun a hK => ?_
      refine parK_nil hS ?_
      refine sp_skip (k := 13) rfl hK (by decide) (wtf hb_32) rfl fun a hK => ?_
      refine sp (k := 14) rfl hK (by decide) rfl rfl (fun w hS => r_pick_f hb_32 hK rfl rfl) fun a hK => ?_
      refine sp (k := 15) rfl hK (by decide) rfl rfl (fun w hS => r_move hK rfl) fun a hK => ?_
      refine sp_skip (k := 16) rfl hK (by decide) rfl rfl fun a hK => ?_
      refine sp_skip (k := 17) rfl hK (by decide) rfl rfl fun a hK => ?_
      refine sp_skip (k := 18) rfl hK (by decide) rfl rfl fun a hK => ?_
      refine sp_skip (k := 20) rfl hK (by decide) rfl rfl fun a hK => ?_
      refine sp_skip (k := 21) rfl hK (by decide) rfl rfl fun a hK => ?_
      refine sp_skip (k := 22) rfl hK (by decide) rfl rfl fun a hK => ?_
      refine spw (k := 19) rfl rfl hS ?_
      refine sl_skip hK (by decide) rfl rfl fun a hK => ?_
      refine parK_nil hS ?_
      refine thenL_nil ?_
      refine sl_skip hK (by decide) rfl rfl fun a hK => ?_
      refine sl_skip hK (by decide) rfl rfl fun a hK => ?_
      refine sl hK (by decide) rfl rfl (r_pick hK rfl rfl rfl) fun a hK => ?_
      refine sl hK (by decide) rfl rfl (r_assign hK rfl) fun a hK => ?_
      refine wpList_nil (NoP_nil ?_)
      exact absurd (Option.some.inj H) (by decide)
  · rw [ifb_f hb_27] at H
    refine sp_skip (k := 2) rfl hK (by decide) (wtf hb_27) rfl fun a hK => ?_
    refine sp_skip (k := 4) rfl hK (by decide) (wtf hb_27) rfl fun a hK => ?_
    refine spw (k := 3) rfl rfl hS ?_
    refine sl_skip hK (by decide) (wtf hb_27) rfl fun a hK => ?_
    refine parK_nil hS ?_
    refine spw (k := 5) rfl rfl hS ?_
    refine sl_skip hK (by decide) (wtf hb_27) rfl fun a hK => ?_
    refine parK_nil hS ?_
    refine sp_skip (k := 6) rfl hK (by decide) (wtf hb_27) rfl fun a hK => ?_
    refine sp (k := 7) rfl hK (by decide) rfl rfl (fun w hS => r_pick_f hb_27 hK rfl rfl) fun a hK => ?_
    refine sp (k := 8) rfl hK (by decide) rfl rfl (fun w hS => r_move hK rfl) fun a hK => ?_
    refine sp_skip (k := 9) rfl hK (by decide) rfl rfl fun a hK => ?_
    refine sp_skip (k := 11) rfl hK (by decide) rfl rfl fun a hK => ?_
    refine spw (k := 10) rfl rfl hS ?_
    refine sl_skip hK (by decide) rfl rfl fun a hK => ?_
    refine parK_nil hS ?_
    refine spw (k := 12) rfl rfl hS ?_
    refine sl_skip hK (by decide) rfl rfl fun a hK => ?_
    refine parK_nil hS ?_
    refine sp_skip (k := 13) rfl hK (by decide) rfl rfl fun a hK => ?_
    refine sp (k := 14) rfl hK (by decide) rfl rfl (fun w hS => r_pick hK rfl rfl rfl) fun a hK => ?_
    refine sp (k := 15) rfl hK (by decide) rfl rfl (fun w hS => r_move hK rfl) fun a hK => ?_
    refine sp_skip (k := 16) rfl hK (by decide) rfl rfl fun a hK => ?_
    refine sp_skip (k := 17) rfl hK (by decide) rfl rfl fun a hK => ?_
    refine sp_skip (k := 18) rfl hK (by decide) rfl rfl fun a hK => ?_
    refine sp_skip (k := 20) rfl hK (by decide) rfl rfl fun a hK => ?_
    refine sp_skip (k := 21) rfl hK (by decide) rfl rfl fun a hK => ?_
    refine sp_skip (k := 22) rfl hK (by decide) rfl rfl fun a hK => ?_
    refine spw (k := 19) rfl rfl hS ?_
    refine sl_skip hK (by decide) rfl rfl fun a hK => ?_
    refine parK_nil hS ?_
    refine thenL_nil ?_
    refine sl_skip hK (by decide) rfl rfl fun a hK => ?_
    refine sl_skip hK (by decide) rfl rfl fun a hK => ?_
    refine sl hK (by decide) rfl rfl (r_pick hK rfl rfl rfl) fun a hK => ?_
    refine sl hK (by decide) rfl rfl (r_assign hK rfl) fun a hK => ?_
    refine wpList_nil (NoP_nil ?_)
    exact absurd (Option.some.inj H) (by decide)

end Go.Proofs.Ytojfckndloelpaa.M
