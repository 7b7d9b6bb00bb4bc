/- Each Go function of the laws answers as its plain Lean function tells, wherever that tells something. Printed by wip/eng/gen.py. -/
import Derived.Test.YtifijboegibchaaWalk3
namespace Go.Proofs.Ytifijboegibchaa.M
open Go Go.Eng Go.Proofs Go.RowKit
set_option linter.unusedVariables false
set_option linter.unusedSimpArgs false

/-! ### catchment/catchmentlaw04.WireApart: function 9 -/
set_option maxHeartbeats 4000000 in
set_option maxRecDepth 100000 in
theorem law04_WireApart.calls (a0 : api_Table) (a1 : api_Table) {w0 : World} {R : Hp} {v0_0 : Value} {v0_1 : Value} {v1_0 : Value} {v1_1 : Value} (hR : R.sub w0) (h0_0 : SlR ty_api_Col R v0_0 a0.Cols) (h0_1 : SlR (tySl ty_api_Value) R v0_1 a0.Rows) (h1_0 : SlR ty_api_Col R v1_0 a1.Cols) (h1_1 : SlR (tySl ty_api_Value) R v1_1 a1.Rows) (H : law04_WireApart a0 a1 = some true) : CallsV Try.prog 9 #[.agg #[v0_0, v0_1], .agg #[v1_0, v1_1]] w0 (.bool true) := by
  unfold law04_WireApart at H
  refine enter (args := [.agg #[v0_0, v0_1], .agg #[v1_0, v1_1]]) Try.func9 rfl Try.ntmps9 rfl fun a hK => ?_
  have hS := St.init hR
  have hRL := RLe.refl (M := []) w0 R
  refine wp_seq ?_
  refine wp_region_lit ?_
  refine sl_box hS hK (by decide) rfl rfl (c := [v0_0, v0_1]) rfl fun a w b_1 hS hK => ?_
  refine sl_box hS hK (by decide) rfl rfl (c := [v1_0, v1_1]) rfl fun a w b_2 hS hK => ?_
  refine sl hK (by decide) rfl rfl (r_assign hK rfl) fun a hK => ?_
  refine wpList_nil ?_
  refine wp_seq ?_
  refine wp_region_lit ?_
  obtain ⟨y_3, h_4, H⟩ := bind_some H
  refine sl_callV Try.call11 hS hK (by decide) rfl rfl rfl (law04_shown.calls h_4 _) fun a w hS hK => ?_
  refine sl hK (by decide) rfl rfl (r_assign hK rfl) fun a hK => ?_
  refine wpList_nil ?_
  refine wp_seq ?_
  refine wp_region_lit ?_
  refine sl hK (by decide) rfl rfl (r_loadA (cs := [v0_0, v0_1]) Try.isAgg37 Try.sizeOf37 rfl hK rfl (hS.cells_of (m := 2) (.tail _ (.head _)) rfl)) fun a hK => ?_
  obtain ⟨y_5, h_6, H⟩ := bind_some H
  refine sl_call Try.call16 hK (by decide) rfl rfl rfl (law04_cut.calls a0 hS.sub h0_0 h0_1 h_6) fun a v_ w hv_ hK => ?_
  obtain ⟨R_7, v_9, v_11, hv_, hr_, hl_8, hs_10, hs_12⟩ := hv_
  have hv_ := hv_.symm
  subst hv_
  obtain ⟨hS, hl_8⟩ := hS.sp0.back hr_ hl_8
  have hS := hS.un0
  have hRL := hRL.trans hl_8
  have hS := hS.pk1
  refine sl_storeA (vs := [v_9, v_11]) (c' := [v_9, v_11]) Try.sizeOf37 hS hK rfl rfl rfl rfl (all_cons hs_10.one (all_cons hs_12.one (all_nil))) (Nat.le_of_ble_eq_true rfl) rfl fun a w hS hK => ?_
  refine wpList_nil ?_
  refine wp_seq ?_
  refine wp_region_lit ?_
  refine sl hK (by decide) rfl rfl (r_loadA (cs := [v1_0, v1_1]) Try.isAgg37 Try.sizeOf37 rfl hK rfl (hS.cells_of (m := 2) (.tail _ (.head _)) rfl)) fun a hK => ?_
  obtain ⟨y_13, h_14, H⟩ := bind_some H
  refine sl_call Try.call16 hK (by decide) rfl rfl rfl (law04_cut.calls a1 hS.sub (h1_0.mono hl_8.le) (h1_1.mono hl_8.le) h_14) fun a v_ w hv_ hK => ?_
  obtain ⟨R_15, v_17, v_19, hv_, hr_, hl_16, hs_18, hs_20⟩ := hv_
  have hv_ := hv_.symm
  subst hv_
  obtain ⟨hS, hl_16⟩ := hS.sp0.back hr_ hl_16
  have hS := hS.un0
  have hRL := hRL.trans hl_16
  have hS := hS.pk1
  refine sl_storeA (vs := [v_17, v_19]) (c' := [v_17, v_19]) Try.sizeOf37 hS hK rfl rfl rfl rfl (all_cons hs_18.one (all_cons hs_20.one (all_nil))) (Nat.le_of_ble_eq_true rfl) rfl fun a w hS hK => ?_
  refine wpList_nil ?_
  refine wp_seq ?_
  refine wp_region_lit ?_
  refine sl hK (by decide) rfl rfl (r_loadA (cs := [v_9, v_11]) Try.isAgg37 Try.sizeOf37 rfl hK rfl (hS.cells_of (m := 2) (.tail _ (.head _)) rfl)) fun a hK => ?_
  obtain ⟨y_21, h_22, H⟩ := bind_some H
  refine sl_call Try.call17 hK (by decide) rfl rfl rfl (wire_Encode.calls y_5 (lentOf_sub [] _) hS.sub (hs_10.mono (hl_16.le.trans hS.rLe0)) (hs_12.mono (hl_16.le.trans hS.rLe0)) h_22) fun a v_ w hv_ hK => ?_
  obtain ⟨R_23, v_26, cs_27, hv_, hr_, hl_24, hq_28⟩ := hv_
  have hv_ := hv_.symm
  subst hv_
  obtain ⟨hS, hl_24⟩ := hS.sp0.back hr_ hl_24
  have hS := hS.un1
  have hRL := hRL.trans hl_24
  refine sl hK (by decide) rfl rfl (r_move hK rfl) fun a hK => ?_
  refine sl hK (by decide) rfl rfl (r_extract hK rfl rfl) fun a hK => ?_
  refine sl hK (by decide) rfl rfl (r_extract hK rfl rfl) fun a hK => ?_
  refine sl hK (by decide) rfl rfl (r_assign hK rfl) fun a hK => ?_
  refine sl hK (by decide) rfl rfl (r_assign hK rfl) fun a hK => ?_
  refine wpList_nil ?_
  refine wp_seq ?_
  refine wp_region_lit ?_
  refine sl hK (by decide) rfl rfl (r_loadA (cs := [v_17, v_19]) Try.isAgg37 Try.sizeOf37 rfl hK rfl (hS.cells_of (m := 2) (.tail _ (.head _)) rfl)) fun a hK => ?_
  obtain ⟨y_29, h_30, H⟩ := bind_some H
  refine sl_call Try.call17 hK (by decide) rfl rfl rfl (wire_Encode.calls y_13 (lentOf_sub [] _) hS.sub (hs_18.mono (hl_24.le.trans hS.rLe0)) (hs_20.mono (hl_24.le.trans hS.rLe0)) h_30) fun a v_ w hv_ hK => ?_
  obtain ⟨R_31, v_34, cs_35, hv_, hr_, hl_32, hq_36⟩ := hv_
  have hv_ := hv_.symm
  subst hv_
  obtain ⟨hS, hl_32⟩ := hS.sp0.back hr_ hl_32
  have hS := hS.un1
  have hRL := hRL.trans hl_32
  refine sl hK (by decide) rfl rfl (r_move hK rfl) fun a hK => ?_
  refine sl hK (by decide) rfl rfl (r_extract hK rfl rfl) fun a hK => ?_
  refine sl hK (by decide) rfl rfl (r_extract hK rfl rfl) fun a hK => ?_
  refine sl hK (by decide) rfl rfl (r_assign hK rfl) fun a hK => ?_
  refine sl hK (by decide) rfl rfl (r_assign hK rfl) fun a hK => ?_
  refine wpList_nil ?_
  refine wp_seq ?_
  refine wp_seq ?_
  refine wp_mid (fun a w => ∃ (x_38 : Bool), law04_WireApart.j0 y_3 y_5 y_13 y_21 y_29 x_38 = some true ∧ Kn 46 a [(2, .pointer (some ⟨b_1, 0, none⟩)), (3, .pointer (some ⟨b_2, 0, none⟩)), (5, .bool y_3), (6, v_26), (8, v_34), (31, .bool x_38)] ∧ St [] w0 w R_31 [.cells b_1 [v_9, v_11] 37, .cells b_2 [v_17, v_19] 37, .row 5 1 v_26 y_21.1.length cs_27, .row 5 1 v_34 y_29.1.length cs_35]) ?_ ?_
  · refine wp_region_lit ?_
    refine sl hK (by decide) rfl rfl (r_move hK rfl) fun a hK => ?_
    refine sl hK (by decide) rfl rfl (r_ibin hK rfl rfl rfl) fun a hK => ?_
    refine sl hK (by decide) rfl rfl (r_move hK rfl) fun a hK => ?_
    rcases or_b (y_21.2 != 0) with hb_40 | hb_40
    · rw [ifb_t hb_40] at H
      refine sl_skip hK (by decide) (wft hb_40) rfl fun a hK => ?_
      refine sl_skip hK (by decide) (wft hb_40) rfl fun a hK => ?_
      refine sl hK (by decide) rfl rfl (r_pick_t hb_40 hK rfl rfl) fun a hK => ?_
      refine wpList_nil ?_
      have hS := hS.pk1
      have hS := hS.pk2
      have hS := hS.pk3
      exact ⟨true, H, hK.sub (all_cons rfl (all_cons rfl (all_cons rfl (all_cons rfl (all_cons rfl (all_cons rfl (all_nil))))))), hS⟩
    · rw [ifb_f hb_40] at H
      refine sl hK (by decide) (wff hb_40) rfl (r_move hK rfl) fun a hK => ?_
      refine sl hK (by decide) (wff hb_40) rfl (r_ibin hK rfl rfl rfl) fun a hK => ?_
      refine sl hK (by decide) rfl rfl (r_pick_f hb_40 hK rfl rfl) fun a hK => ?_
      refine wpList_nil ?_
      have hS := hS.pk1
      have hS := hS.pk2
      have hS := hS.pk3
      exact ⟨(y_29.2 != 0), H, hK.sub (all_cons rfl (all_cons rfl (all_cons rfl (all_cons rfl (all_cons rfl (all_cons rfl (all_nil))))))), hS⟩
  · rintro a w ⟨x_38, H, hK, hS⟩
    unfold law04_WireApart.j0 at H
    refine wp_cond_split (hK.ev rfl) (fun (hb_41 : x_38 = true) => ?_) (fun (hb_41 : x_38 = false) => ?_)
    · rw [ifb_t hb_41] at H
      refine wp_seq ?_
      refine wp_region_lit ?_
      refine sl hK (by decide) rfl rfl (r_move hK rfl) fun a hK => ?_
      refine sl hK (by decide) rfl rfl (r_assign hK rfl) fun a hK => ?_
      refine wpList_nil ?_
      have hr_ := Option.some.inj H
      refine wp_ret ?_
      repeat (first | refine ret_then ?_ | refine ret_block ?_ | refine ret_scope ?_)
      exact ret_1 Try.results9 hK (rv_tmp hK rfl) ⟨congrArg (fun b => Ending.returned (Value.bool b)) hr_, hS.bel⟩
    · rw [ifb_f hb_41] at H
      refine wp_skip ?_
      refine wp_seq ?_
      refine wp_region_lit ?_
      refine sl hK (by decide) rfl rfl (r_loadA (cs := [v_9, v_11]) Try.isAgg37 Try.sizeOf37 rfl hK rfl (hS.cells_of (m := 2) (.head _) rfl)) fun a hK => ?_
      refine sl hK (by decide) rfl rfl (r_loadA (cs := [v_17, v_19]) Try.isAgg37 Try.sizeOf37 rfl hK rfl (hS.cells_of (m := 2) (.tail _ (.head _)) rfl)) fun a hK => ?_
      obtain ⟨y_42, h_43, H⟩ := bind_some H
      refine sl_callV Try.call21 hS hK (by decide) rfl rfl rfl (ref02_Same.calls y_5 y_13 (lentOf_sub [] _) (hs_10.mono ((hl_16.le.trans (hl_24.le.trans hl_32.le)).trans hS.rLe0)) (hs_12.mono ((hl_16.le.trans (hl_24.le.trans hl_32.le)).trans hS.rLe0)) (hs_18.mono ((hl_24.le.trans hl_32.le).trans hS.rLe0)) (hs_20.mono ((hl_24.le.trans hl_32.le).trans hS.rLe0)) h_43) fun a w hS hK => ?_
      refine sl hK (by decide) rfl rfl (r_assign hK rfl) fun a hK => ?_
      refine wpList_nil ?_
      refine wp_seq ?_
      refine wp_region_lit ?_
      refine sl hK (by decide) rfl rfl (r_move hK rfl) fun a hK => ?_
      refine sl hK (by decide) rfl rfl (r_move hK rfl) fun a hK => ?_
      rcases or_b y_3 with hb_44 | hb_44
      · rw [ifb_t hb_44] at H
        refine sl hK (by decide) (wtt hb_44) rfl (r_move hK rfl) fun a hK => ?_
        refine sl hK (by decide) (wtt hb_44) rfl (r_conv_bo Try.underlying22 Try.underlying9 Try.underlying5 (hq_28.mono hl_32.le) rfl hS (.tail _ (.tail _ (.head _))) hK rfl) fun a hK => ?_
        refine sl hK (by decide) (wtt hb_44) rfl (r_move hK rfl) fun a hK => ?_
        refine sl hK (by decide) (wtt hb_44) rfl (r_conv_bo Try.underlying22 Try.underlying9 Try.underlying5 hq_36 rfl hS (.tail _ (.tail _ (.tail _ (.head _)))) hK rfl) fun a hK => ?_
        refine sl hK (by decide) (wtt hb_44) rfl (r_sbin hK rfl rfl rfl) fun a hK => ?_
        refine sl hK (by decide) (wtt hb_44) rfl (r_move hK rfl) fun a hK => ?_
        refine sl hK (by decide) (wtt hb_44) rfl (r_beq Try.underlying4 hK rfl rfl) fun a hK => ?_
        refine sl hK (by decide) rfl rfl (r_pick_t hb_44 hK rfl rfl) fun a hK => ?_
        refine sl hK (by decide) rfl rfl (r_assign hK rfl) fun a hK => ?_
        refine wpList_nil ?_
        have hr_ := Option.some.inj H
        refine wp_ret ?_
        repeat (first | refine ret_then ?_ | refine ret_block ?_ | refine ret_scope ?_)
        exact ret_1 Try.results9 hK (rv_tmp hK rfl) ⟨congrArg (fun b => Ending.returned (Value.bool b)) hr_, hS.bel⟩
      · rw [ifb_f hb_44] at H
        refine sl_skip hK (by decide) (wtf hb_44) rfl fun a hK => ?_
        refine sl_skip hK (by decide) (wtf hb_44) rfl fun a hK => ?_
        refine sl_skip hK (by decide) (wtf hb_44) rfl fun a hK => ?_
        refine sl_skip hK (by decide) (wtf hb_44) rfl fun a hK => ?_
        refine sl_skip hK (by decide) (wtf hb_44) rfl fun a hK => ?_
        refine sl_skip hK (by decide) (wtf hb_44) rfl fun a hK => ?_
        refine sl_skip hK (by decide) (wtf hb_44) rfl fun a hK => ?_
        refine sl hK (by decide) rfl rfl (r_pick_f hb_44 hK rfl rfl) fun a hK => ?_
        refine sl hK (by decide) rfl rfl (r_assign hK rfl) fun a hK => ?_
        refine wpList_nil ?_
        exact absurd (Option.some.inj H) (by decide)

end Go.Proofs.Ytifijboegibchaa.M
