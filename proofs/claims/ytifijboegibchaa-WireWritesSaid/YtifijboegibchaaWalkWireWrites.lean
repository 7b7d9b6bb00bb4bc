/- Each Go function of the laws answers as its plain Lean function tells, wherever that tells something. Printed by wip/eng/gen.py. -/
import Derived.Test.YtifijboegibchaaWalk3
namespace Go.Proofs.Ytifijboegibchaa.M
open Go Go.Eng Go.Proofs Go.RowKit
set_option linter.unusedVariables false
set_option linter.unusedSimpArgs false

/-! ### catchment/catchmentlaw04.WireWrites: function 5 -/
set_option maxHeartbeats 4000000 in
set_option maxRecDepth 100000 in
theorem law04_WireWrites.calls (a0 : api_Table) {w0 : World} {R : Hp} {v0_0 : Value} {v0_1 : Value} (hR : R.sub w0) (h0_0 : SlR ty_api_Col R v0_0 a0.Cols) (h0_1 : SlR (tySl ty_api_Value) R v0_1 a0.Rows) (H : law04_WireWrites a0 = some true) : CallsV Try.prog 5 #[.agg #[v0_0, v0_1]] w0 (.bool true) := by
  unfold law04_WireWrites at H
  refine enter (args := [.agg #[v0_0, v0_1]]) Try.func5 rfl Try.ntmps5 rfl fun a hK => ?_
  have hS := St.init hR
  have hRL := RLe.refl (M := []) w0 R
  refine wp_seq ?_
  refine wp_region_lit ?_
  refine sl_box hS hK (by decide) rfl rfl (c := [v0_0, v0_1]) rfl fun a w b_1 hS hK => ?_
  refine sl hK (by decide) rfl rfl (r_assign hK rfl) fun a hK => ?_
  refine wpList_nil ?_
  refine wp_seq ?_
  refine wp_region_lit ?_
  obtain ⟨y_2, h_3, H⟩ := bind_some H
  refine sl_callV Try.call11 hS hK (by decide) rfl rfl rfl (law04_shown.calls h_3 _) fun a w hS hK => ?_
  refine sl hK (by decide) rfl rfl (r_assign hK rfl) fun a hK => ?_
  refine wpList_nil ?_
  refine wp_seq ?_
  refine wp_region_lit ?_
  refine sl hK (by decide) rfl rfl (r_loadA (cs := [v0_0, v0_1]) Try.isAgg37 Try.sizeOf37 rfl hK rfl (hS.cells_of (m := 2) (.head _) rfl)) fun a hK => ?_
  obtain ⟨y_4, h_5, H⟩ := bind_some H
  refine sl_call Try.call16 hK (by decide) rfl rfl rfl (law04_cut.calls a0 hS.sub h0_0 h0_1 h_5) fun a v_ w hv_ hK => ?_
  obtain ⟨R_6, v_8, v_10, hv_, hr_, hl_7, hs_9, hs_11⟩ := hv_
  have hv_ := hv_.symm
  subst hv_
  obtain ⟨hS, hl_7⟩ := hS.sp0.back hr_ hl_7
  have hS := hS.un0
  have hRL := hRL.trans hl_7
  refine sl_storeA (vs := [v_8, v_10]) (c' := [v_8, v_10]) Try.sizeOf37 hS hK rfl rfl rfl rfl (all_cons hs_9.one (all_cons hs_11.one (all_nil))) (Nat.le_of_ble_eq_true rfl) rfl fun a w hS hK => ?_
  refine wpList_nil ?_
  refine wp_seq ?_
  refine wp_region_lit ?_
  refine sl hK (by decide) rfl rfl (r_loadA (cs := [v_8, v_10]) Try.isAgg37 Try.sizeOf37 rfl hK rfl (hS.cells_of (m := 2) (.head _) rfl)) fun a hK => ?_
  obtain ⟨y_12, h_13, H⟩ := bind_some H
  refine sl_call Try.call17 hK (by decide) rfl rfl rfl (wire_Encode.calls y_4 (lentOf_sub [] _) hS.sub (hs_9.mono hS.rLe0) (hs_11.mono hS.rLe0) h_13) fun a v_ w hv_ hK => ?_
  obtain ⟨R_14, v_17, cs_18, hv_, hr_, hl_15, hq_19⟩ := hv_
  have hv_ := hv_.symm
  subst hv_
  obtain ⟨hS, hl_15⟩ := hS.sp0.back hr_ hl_15
  have hS := hS.un1
  have hRL := hRL.trans hl_15
  refine sl hK (by decide) rfl rfl (r_move hK rfl) fun a hK => ?_
  refine sl hK (by decide) rfl rfl (r_extract hK rfl rfl) fun a hK => ?_
  refine sl hK (by decide) rfl rfl (r_extract hK rfl rfl) fun a hK => ?_
  refine sl hK (by decide) rfl rfl (r_assign hK rfl) fun a hK => ?_
  refine sl hK (by decide) rfl rfl (r_assign hK rfl) fun a hK => ?_
  refine wpList_nil ?_
  refine wp_seq ?_
  refine wp_region_lit ?_
  refine sl hK (by decide) rfl rfl (r_loadA (cs := [v_8, v_10]) Try.isAgg37 Try.sizeOf37 rfl hK rfl (hS.cells_of (m := 2) (.tail _ (.head _)) rfl)) fun a hK => ?_
  obtain ⟨y_20, h_21, H⟩ := bind_some H
  refine sl_call Try.call18 hK (by decide) rfl rfl rfl (ref04_Encode.calls y_4 (lentOf_sub [] _) hS.sub (hs_9.mono (hl_15.le.trans hS.rLe0)) (hs_11.mono (hl_15.le.trans hS.rLe0)) h_21) fun a v_ w hv_ hK => ?_
  obtain ⟨R_22, v_25, cs_26, hv_, hr_, hl_23, hq_27⟩ := hv_
  have hv_ := hv_.symm
  subst hv_
  obtain ⟨hS, hl_23⟩ := hS.sp0.back hr_ hl_23
  have hS := hS.un1
  have hRL := hRL.trans hl_23
  refine sl hK (by decide) rfl rfl (r_move hK rfl) fun a hK => ?_
  refine sl hK (by decide) rfl rfl (r_extract hK rfl rfl) fun a hK => ?_
  refine sl hK (by decide) rfl rfl (r_extract hK rfl rfl) fun a hK => ?_
  refine sl hK (by decide) rfl rfl (r_assign hK rfl) fun a hK => ?_
  refine sl hK (by decide) rfl rfl (r_assign hK rfl) fun a hK => ?_
  refine wpList_nil ?_
  refine wp_seq ?_
  refine wp_region_lit ?_
  refine sl hK (by decide) rfl rfl (r_move hK rfl) fun a hK => ?_
  refine sl hK (by decide) rfl rfl (r_move hK rfl) fun a hK => ?_
  rcases or_b y_2 with hb_28 | hb_28
  · rw [ifb_t hb_28] at H
    refine sl hK (by decide) (wtt hb_28) rfl (r_move hK rfl) fun a hK => ?_
    refine sl hK (by decide) (wtt hb_28) rfl (r_conv_bo Try.underlying22 Try.underlying9 Try.underlying5 (hq_19.mono hl_23.le) rfl hS (.tail _ (.head _)) hK rfl) fun a hK => ?_
    refine sl hK (by decide) (wtt hb_28) rfl (r_move hK rfl) fun a hK => ?_
    refine sl hK (by decide) (wtt hb_28) rfl (r_conv_bo Try.underlying22 Try.underlying9 Try.underlying5 hq_27 rfl hS (.head _) hK rfl) fun a hK => ?_
    refine sl hK (by decide) (wtt hb_28) rfl (r_sbin hK rfl rfl rfl) fun a hK => ?_
    refine sl hK (by decide) rfl rfl (r_pick_t hb_28 hK rfl rfl) fun a hK => ?_
    refine sl hK (by decide) rfl rfl (r_move hK rfl) fun a hK => ?_
    rcases or_b ((bstr y_12.1).toList == (bstr y_20.1).toList) with hb_29 | hb_29
    · rw [ifb_t hb_29] at H
      refine sl hK (by decide) (wtt hb_29) rfl (r_move hK rfl) fun a hK => ?_
      refine sl hK (by decide) (wtt hb_29) rfl (r_move hK rfl) fun a hK => ?_
      refine sl hK (by decide) (wtt hb_29) rfl (r_ibin hK rfl rfl rfl) fun a hK => ?_
      refine sl hK (by decide) rfl rfl (r_pick_t hb_29 hK rfl rfl) fun a hK => ?_
      refine sl hK (by decide) rfl rfl (r_assign hK rfl) fun a hK => ?_
      refine wpList_nil ?_
      have hr_ := Option.some.inj H
      refine wp_ret ?_
      repeat (first | refine ret_then ?_ | refine ret_block ?_ | refine ret_scope ?_)
      exact ret_1 Try.results5 hK (rv_tmp hK rfl) ⟨congrArg (fun b => Ending.returned (Value.bool b)) hr_, hS.bel⟩
    · rw [ifb_f hb_29] at H
      refine sl_skip hK (by decide) (wtf hb_29) rfl fun a hK => ?_
      refine sl_skip hK (by decide) (wtf hb_29) rfl fun a hK => ?_
      refine sl_skip hK (by decide) (wtf hb_29) rfl fun a hK => ?_
      refine sl hK (by decide) rfl rfl (r_pick_f hb_29 hK rfl rfl) fun a hK => ?_
      refine sl hK (by decide) rfl rfl (r_assign hK rfl) fun a hK => ?_
      refine wpList_nil ?_
      exact absurd (Option.some.inj H) (by decide)
  · rw [ifb_f hb_28] at H
    refine sl_skip hK (by decide) (wtf hb_28) rfl fun a hK => ?_
    refine sl_skip hK (by decide) (wtf hb_28) rfl fun a hK => ?_
    refine sl_skip hK (by decide) (wtf hb_28) rfl fun a hK => ?_
    refine sl_skip hK (by decide) (wtf hb_28) rfl fun a hK => ?_
    refine sl_skip hK (by decide) (wtf hb_28) rfl fun a hK => ?_
    refine sl hK (by decide) rfl rfl (r_pick_f hb_28 hK rfl rfl) fun a hK => ?_
    refine sl hK (by decide) rfl rfl (r_move hK rfl) fun a hK => ?_
    refine sl_skip hK (by decide) rfl rfl fun a hK => ?_
    refine sl_skip hK (by decide) rfl rfl fun a hK => ?_
    refine sl_skip hK (by decide) rfl rfl fun a hK => ?_
    refine sl hK (by decide) rfl rfl (r_pick hK rfl rfl rfl) fun a hK => ?_
    refine sl hK (by decide) rfl rfl (r_assign hK rfl) fun a hK => ?_
    refine wpList_nil ?_
    exact absurd (Option.some.inj H) (by decide)

end Go.Proofs.Ytifijboegibchaa.M
