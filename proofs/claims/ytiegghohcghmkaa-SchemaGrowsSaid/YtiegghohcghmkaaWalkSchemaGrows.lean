/- Each Go function of the laws answers as its plain Lean function tells, wherever that tells something. Printed by wip/eng/gen.py. -/
import Derived.Test.YtiegghohcghmkaaWalk2
namespace Go.Proofs.Ytiegghohcghmkaa.M
open Go Go.Eng Go.Proofs Go.RowKit
set_option linter.unusedVariables false
set_option linter.unusedSimpArgs false

/-! ### catchment/catchmentlaw05.SchemaGrows: function 7 -/
set_option maxHeartbeats 4000000 in
set_option maxRecDepth 100000 in
theorem law05_SchemaGrows.calls (a0 : List api_Schema) (a1 : api_Point) {w0 : World} {R : Hp} {RA : Hp} {v0_0 : Value} {v1_0 : Value} {v1_1 : Value} (hRA : RA.sub w0) (hR : R.sub w0) (h0_0 : SlR ty_api_Schema R v0_0 a0) (h1_0 : SlR ty_api_Value RA v1_0 a1.Keys) (h1_1 : SlR ty_api_Value RA v1_1 a1.Vals) {gm : Int} (hG : RA.cell 0 0 = some (.int .i64 gm)) (H : law05_SchemaGrows a0 a1 = some true) : CallsV Try.prog 7 #[v0_0, .agg #[.string a1.Schema, v1_0, .int .i64 a1.Time, v1_1]] w0 (.bool true) := by
  unfold law05_SchemaGrows at H
  refine enter (args := [v0_0, .agg #[.string a1.Schema, v1_0, .int .i64 a1.Time, v1_1]]) Try.func7 rfl Try.ntmps7 rfl fun a hK => ?_
  have hS := St.init hR
  have hRL := RLe.refl (M := []) w0 R
  refine wp_seq ?_
  refine wp_region_lit ?_
  refine sl_box hS hK (by decide) rfl rfl (c := [.string a1.Schema, v1_0, .int .i64 a1.Time, v1_1]) rfl fun a w b_1 hS hK => ?_
  refine sl hK (by decide) rfl rfl (r_assign hK rfl) fun a hK => ?_
  refine wpList_nil ?_
  refine wp_seq ?_
  refine wp_region_lit ?_
  obtain ⟨y_2, h_3, H⟩ := bind_some H
  refine sl_callV Try.call8 hS hK (by decide) rfl rfl rfl (law05_shown.calls (lentOf_sub [] _) (Hp.cell_le (hS.raLe0 hRA nil_not) hG) h_3) fun a w hS hK => ?_
  refine sl hK (by decide) rfl rfl (r_assign hK rfl) fun a hK => ?_
  refine wpList_nil ?_
  refine wp_seq ?_
  refine wp_seq ?_
  refine wp_mid (fun a w => ∃ (x_8 : Bool), law05_SchemaGrows.j0 a0 a1 y_2 x_8 = some true ∧ Kn 63 a [(0, v0_0), (3, .pointer (some ⟨b_1, 0, none⟩)), (5, .bool y_2), (21, .bool x_8)] ∧ St [] w0 w R [.cells b_1 [.string a1.Schema, v1_0, .int .i64 a1.Time, v1_1] 38]) ?_ ?_
  · refine wp_region_lit ?_
    refine sl hK (by decide) rfl rfl (r_move hK rfl) fun a hK => ?_
    refine sl hK (by decide) rfl rfl (r_len_R Try.underlying22 h0_0 hK rfl) fun a hK => ?_
    refine sl hK (by decide) rfl rfl (r_ibin hK rfl rfl rfl) fun a hK => ?_
    refine sl hK (by decide) rfl rfl (r_move hK rfl) fun a hK => ?_
    rcases or_b (decide ((a0.length : Int) > 20)) with hb_10 | hb_10
    · rw [ifb_t hb_10] at H
      refine sl_skip hK (by decide) (wft hb_10) rfl fun a hK => ?_
      refine sl_skip hK (by decide) (wft hb_10) rfl fun a hK => ?_
      refine sl_skip hK (by decide) (wft hb_10) rfl fun a hK => ?_
      refine sl hK (by decide) rfl rfl (r_pick_t hb_10 hK rfl rfl) fun a hK => ?_
      refine sl hK (by decide) rfl rfl (r_move hK rfl) fun a hK => ?_
      refine sl_skip hK (by decide) rfl rfl fun a hK => ?_
      refine sl_skip hK (by decide) rfl rfl fun a hK => ?_
      refine sl_skip hK (by decide) rfl rfl fun a hK => ?_
      refine sl hK (by decide) rfl rfl (r_pick hK rfl rfl rfl) fun a hK => ?_
      refine wpList_nil ?_
      exact ⟨true, H, hK.sub (all_cons rfl (all_cons rfl (all_cons rfl (all_cons rfl (all_nil))))), hS⟩
    · rw [ifb_f hb_10] at H
      refine sl hK (by decide) (wff hb_10) rfl (r_move hK rfl) fun a hK => ?_
      refine sl hK (by decide) (wff hb_10) rfl (r_len_R Try.underlying22 h0_0 hK rfl) fun a hK => ?_
      refine sl hK (by decide) (wff hb_10) rfl (r_ibin hK rfl rfl rfl) fun a hK => ?_
      refine sl hK (by decide) rfl rfl (r_pick_f hb_10 hK rfl rfl) fun a hK => ?_
      refine sl hK (by decide) rfl rfl (r_move hK rfl) fun a hK => ?_
      rcases or_b (decide ((a0.length : Int) < 2)) with hb_11 | hb_11
      · rw [ifb_t hb_11] at H
        refine sl_skip hK (by decide) (wft hb_11) rfl fun a hK => ?_
        refine sl_skip hK (by decide) (wft hb_11) rfl fun a hK => ?_
        refine sl_skip hK (by decide) (wft hb_11) rfl fun a hK => ?_
        refine sl hK (by decide) rfl rfl (r_pick_t hb_11 hK rfl rfl) fun a hK => ?_
        refine wpList_nil ?_
        exact ⟨true, H, hK.sub (all_cons rfl (all_cons rfl (all_cons rfl (all_cons rfl (all_nil))))), hS⟩
      · rw [ifb_f hb_11] at H
        refine sl hK (by decide) (wff hb_11) rfl (r_move hK rfl) fun a hK => ?_
        obtain ⟨y_12, h_13, H⟩ := bind_some H
        refine sl_callV Try.call17 hS hK (by decide) (wff hb_11) rfl rfl (schema_Check.calls a0 (lentOf_sub [] _) hS.sub h0_0 (Hp.cell_le (hS.raLe0 hRA nil_not) hG) h_13) fun a w hS hK => ?_
        refine sl hK (by decide) (wff hb_11) rfl (r_ibin hK rfl rfl rfl) fun a hK => ?_
        refine sl hK (by decide) rfl rfl (r_pick_f hb_11 hK rfl rfl) fun a hK => ?_
        refine wpList_nil ?_
        exact ⟨(y_12 != 0), H, hK.sub (all_cons rfl (all_cons rfl (all_cons rfl (all_cons rfl (all_nil))))), hS⟩
  · rintro a w ⟨x_8, H, hK, hS⟩
    unfold law05_SchemaGrows.j0 at H
    refine wp_cond_split (hK.ev rfl) (fun (hb_14 : x_8 = true) => ?_) (fun (hb_14 : x_8 = false) => ?_)
    · rw [ifb_t hb_14] at H
      refine wp_seq ?_
      refine wp_region_lit ?_
      refine sl hK (by decide) rfl rfl (r_move hK rfl) fun a hK => ?_
      refine sl hK (by decide) rfl rfl (r_assign hK rfl) fun a hK => ?_
      refine wpList_nil ?_
      have hr_ := Option.some.inj H
      refine wp_ret ?_
      repeat (first | refine ret_then ?_ | refine ret_block ?_ | refine ret_scope ?_)
      exact ret_1 Try.results7 hK (rv_tmp hK rfl) ⟨congrArg (fun b => Ending.returned (Value.bool b)) hr_, hS.bel⟩
    · rw [ifb_f hb_14] at H
      refine wp_skip ?_
      refine wp_seq ?_
      refine wp_region_lit ?_
      refine sl hK (by decide) rfl rfl (r_move hK rfl) fun a hK => ?_
      refine sl hK (by decide) rfl rfl (r_move hK rfl) fun a hK => ?_
      refine sl hK (by decide) rfl rfl (r_len_R Try.underlying22 h0_0 hK rfl) fun a hK => ?_
      refine sl hK (by decide) rfl rfl (r_ibin hK rfl rfl rfl) fun a hK => ?_
      obtain ⟨y_15, h_16, H⟩ := bind_some H
      obtain ⟨v_17, hs_18, hr_19⟩ := r_slice_R (x := .tmp 23) (lo := none) (hi := some (.tmp 26)) Try.underlying22 Try.sizeOf26 h0_0 h_16 hK rfl rfl ⟨_, rfl⟩
      refine sl hK (by decide) rfl rfl (hr_19 _ _ _ _ _ _ _ hK) fun a hK => ?_
      refine sl hK (by decide) rfl rfl (r_assign hK rfl) fun a hK => ?_
      refine wpList_nil ?_
      refine wp_seq ?_
      refine wp_region_lit ?_
      refine sl hK (by decide) rfl rfl (r_move hK rfl) fun a hK => ?_
      refine sl hK (by decide) rfl rfl (r_move hK rfl) fun a hK => ?_
      refine sl hK (by decide) rfl rfl (r_len_R Try.underlying22 h0_0 hK rfl) fun a hK => ?_
      refine sl hK (by decide) rfl rfl (r_ibin hK rfl rfl rfl) fun a hK => ?_
      obtain ⟨y_20, h_21, H⟩ := bind_some H
      obtain ⟨b_22, o_23, c_24, cs_25, hv_26, hr_27, hc_28, h_210, h_211⟩ := h0_0.ix h_21
      obtain ⟨v_29, v_31, rfl, hs_30, hs_32⟩ := hr_27
      refine sl hK (by decide) rfl rfl (r_indexAddr_R Try.underlying22 Try.sizeOf26 hv_26 h_210 h_211 hK rfl rfl) fun a hK => ?_
      refine sl hK (by decide) rfl rfl (r_fieldAddr Try.underlying26 rfl Try.sizeOf9 hK rfl) fun a hK => ?_
      refine sl hK (by decide) rfl rfl (r_load Try.isAgg9 hK rfl (hS.sub.cell (hc_28 0 _ rfl))) fun a hK => ?_
      refine sl hK (by decide) rfl rfl (r_assign hK rfl) fun a hK => ?_
      refine wpList_nil ?_
      refine wp_seq ?_
      refine parT_region (C := fun w => St [] w0 w R [.cells b_1 [.string a1.Schema, v1_0, .int .i64 a1.Time, v1_1] 38]) 25 [(0, true), (1, true), (2, true), (3, false), (4, true), (5, true), (6, true), (7, true), (8, true), (9, true), (10, true), (11, true), (12, true), (13, true), (15, true), (16, true), (14, false), (17, false), (18, true), (19, true), (20, true), (21, true), (22, true), (23, true), (24, true)] mixed (by kernel_rfl) hS (fun w hS => hS) fun w hS => ?_
      refine sp (k := 0) rfl hK (by decide) rfl rfl (fun w hS => r_move hK rfl) fun a hK => ?_
      refine sp (k := 1) rfl hK (by decide) rfl rfl (fun w hS => r_move hK rfl) fun a hK => ?_
      rcases or_b y_2 with hb_47 | hb_47
      · rw [ifb_t hb_47] at H
        refine sp (k := 2) rfl hK (by decide) (wtt hb_47) rfl (fun w hS => r_move hK rfl) fun a hK => ?_
        refine spw (k := 3) rfl rfl hS ?_
        obtain ⟨y_48, h_49, H⟩ := bind_some H
        refine sl_callV Try.call17 hS hK (by decide) (wtt hb_47) rfl rfl (schema_Check.calls y_15 (lentOf_sub [] _) hS.sub hs_18 (Hp.cell_le (hS.raLe0 hRA nil_not) hG) h_49) fun a w hS hK => ?_
        refine parK_nil hS ?_
        refine sp (k := 4) rfl hK (by decide) (wtt hb_47) rfl (fun w hS => r_ibin hK rfl rfl rfl) fun a hK => ?_
        refine sp (k := 5) rfl hK (by decide) rfl rfl (fun w hS => r_pick_t hb_47 hK rfl rfl) fun a hK => ?_
        refine sp (k := 6) rfl hK (by decide) rfl rfl (fun w hS => r_move hK rfl) fun a hK => ?_
        rcases or_b (y_48 == 0) with hb_50 | hb_50
        · rw [ifb_t hb_50] at H
          refine sp (k := 7) rfl hK (by decide) (wtt hb_50) rfl (fun w hS => r_fieldAddr Try.underlying38 rfl Try.sizeOf9 hK rfl) fun a hK => ?_
          refine sp (k := 8) rfl hK (by decide) (wtt hb_50) rfl (fun w hS => r_load Try.isAgg9 hK rfl (hS.cell (.head _) rfl)) fun a hK => ?_
          refine sp (k := 9) rfl hK (by decide) (wtt hb_50) rfl (fun w hS => r_move hK rfl) fun a hK => ?_
          refine sp (k := 10) rfl hK (by decide) (wtt hb_50) rfl (fun w hS => r_sbin hK rfl rfl rfl) fun a hK => ?_
          refine sp (k := 11) rfl hK (by decide) (wtt hb_50) rfl (fun w hS => r_move hK rfl) fun a hK => ?_
          rcases or_b (a1.Schema.toList == y_20.Name.toList) with hb_51 | hb_51
          · rw [ifb_t hb_51] at H
            refine sp_skip (k := 12) rfl hK (by decide) (wft hb_51) rfl fun a hK => ?_
            refine sp_skip (k := 13) rfl hK (by decide) (wft hb_51) rfl fun a hK => ?_
            refine sp_skip (k := 15) rfl hK (by decide) (wft hb_51) rfl fun a hK => ?_
            refine sp_skip (k := 16) rfl hK (by decide) (wft hb_51) rfl fun a hK => ?_
            refine spw (k := 14) rfl rfl hS ?_
            refine sl_skip hK (by decide) (wft hb_51) rfl fun a hK => ?_
            refine parK_nil hS ?_
            refine spw (k := 17) rfl rfl hS ?_
            refine sl_skip hK (by decide) (wft hb_51) rfl fun a hK => ?_
            refine parK_nil hS ?_
            refine sp_skip (k := 18) rfl hK (by decide) (wft hb_51) rfl fun a hK => ?_
            refine sp (k := 19) rfl hK (by decide) (wtt hb_50) rfl (fun w hS => r_pick_t hb_51 hK rfl rfl) fun a hK => ?_
            refine sp (k := 20) rfl hK (by decide) rfl rfl (fun w hS => r_pick_t hb_50 hK rfl rfl) fun a hK => ?_
            refine sp (k := 21) rfl hK (by decide) rfl rfl (fun w hS => r_move hK rfl) fun a hK => ?_
            refine sp (k := 22) rfl hK (by decide) rfl rfl (fun w hS => r_move hK rfl) fun a hK => ?_
            refine sp (k := 23) rfl hK (by decide) rfl rfl (fun w hS => r_move hK rfl) fun a hK => ?_
            refine sp (k := 24) rfl hK (by decide) rfl rfl (fun w hS => r_buildC (ps := [(0, .string y_20.Name)]) (c := [.string y_20.Name, .slice none 0 0, .int .i64 0, .slice none 0 0]) Try.underlying38 Try.zeroValue38 places38 hK rfl (pc_cons rfl pc_nil) rfl rfl) fun a hK => ?_
            refine thenL_nil ?_
            obtain ⟨y_52, h_53, H⟩ := bind_some H
            refine sl_callV Try.call19 hS hK (by decide) rfl rfl rfl (schema_Fits.calls y_15 (⟨y_20.Name, [], 0, []⟩ : api_Point) (lentOf_sub [] _) hS.sub hs_18 (SlR.nil ty_api_Value _) (SlR.nil ty_api_Value _) h_53) fun a w hS hK => ?_
            refine sl hK (by decide) rfl rfl (r_ibin hK rfl rfl rfl) fun a hK => ?_
            refine sl hK (by decide) rfl rfl (r_pick hK rfl rfl rfl) fun a hK => ?_
            refine sl hK (by decide) rfl rfl (r_assign hK rfl) fun a hK => ?_
            refine wpList_nil (NoP_nil ?_)
            have hr_ := Option.some.inj H
            refine wp_ret ?_
            repeat (first | refine ret_then ?_ | refine ret_block ?_ | refine ret_scope ?_)
            exact ret_1 Try.results7 hK (rv_tmp hK rfl) ⟨congrArg (fun b => Ending.returned (Value.bool b)) hr_, hS.bel⟩
          · rw [ifb_f hb_51] at H
            refine sp (k := 12) rfl hK (by decide) (wff hb_51) rfl (fun w hS => r_move hK rfl) fun a hK => ?_
            refine sp (k := 13) rfl hK (by decide) (wff hb_51) rfl (fun w hS => r_loadA (cs := [.string a1.Schema, v1_0, .int .i64 a1.Time, v1_1]) Try.isAgg38 Try.sizeOf38 rfl hK rfl (hS.cells_of (m := 4) (.head _) rfl)) fun a hK => ?_
            refine sp (k := 15) rfl hK (by decide) (wff hb_51) rfl (fun w hS => r_move hK rfl) fun a hK => ?_
            refine sp (k := 16) rfl hK (by decide) (wff hb_51) rfl (fun w hS => r_loadA (cs := [.string a1.Schema, v1_0, .int .i64 a1.Time, v1_1]) Try.isAgg38 Try.sizeOf38 rfl hK rfl (hS.cells_of (m := 4) (.head _) rfl)) fun a hK => ?_
            refine spw (k := 14) rfl rfl hS ?_
            obtain ⟨y_54, h_55, H⟩ := bind_some H
            refine sl_callV Try.call19 hS hK (by decide) (wff hb_51) rfl rfl (schema_Fits.calls a0 a1 (lentOf_sub [] _) hS.sub h0_0 (h1_0.mono (hS.raLe0 hRA nil_not)) (h1_1.mono (hS.raLe0 hRA nil_not)) h_55) fun a w hS hK => ?_
            refine parK_nil hS ?_
            refine spw (k := 17) rfl rfl hS ?_
            obtain ⟨y_56, h_57, H⟩ := bind_some H
            refine sl_callV Try.call19 hS hK (by decide) (wff hb_51) rfl rfl (schema_Fits.calls y_15 a1 (lentOf_sub [] _) hS.sub hs_18 (h1_0.mono (hS.raLe0 hRA nil_not)) (h1_1.mono (hS.raLe0 hRA nil_not)) h_57) fun a w hS hK => ?_
            refine parK_nil hS ?_
            refine sp (k := 18) rfl hK (by decide) (wff hb_51) rfl (fun w hS => r_ibin hK rfl rfl rfl) fun a hK => ?_
            refine sp (k := 19) rfl hK (by decide) (wtt hb_50) rfl (fun w hS => r_pick_f hb_51 hK rfl rfl) fun a hK => ?_
            refine sp (k := 20) rfl hK (by decide) rfl rfl (fun w hS => r_pick_t hb_50 hK rfl rfl) fun a hK => ?_
            refine sp (k := 21) rfl hK (by decide) rfl rfl (fun w hS => r_move hK rfl) fun a hK => ?_
            rcases or_b (y_54 == y_56) with hb_58 | hb_58
            · rw [ifb_t hb_58] at H
              refine sp (k := 22) rfl hK (by decide) (wtt hb_58) rfl (fun w hS => r_move hK rfl) fun a hK => ?_
              refine sp (k := 23) rfl hK (by decide) (wtt hb_58) rfl (fun w hS => r_move hK rfl) fun a hK => ?_
              refine sp (k := 24) rfl hK (by decide) (wtt hb_58) rfl (fun w hS => r_buildC (ps := [(0, .string y_20.Name)]) (c := [.string y_20.Name, .slice none 0 0, .int .i64 0, .slice none 0 0]) Try.underlying38 Try.zeroValue38 places38 hK rfl (pc_cons rfl pc_nil) rfl rfl) fun a hK => ?_
              refine thenL_nil ?_
              obtain ⟨y_59, h_60, H⟩ := bind_some H
              refine sl_callV Try.call19 hS hK (by decide) (wtt hb_58) rfl rfl (schema_Fits.calls y_15 (⟨y_20.Name, [], 0, []⟩ : api_Point) (lentOf_sub [] _) hS.sub hs_18 (SlR.nil ty_api_Value _) (SlR.nil ty_api_Value _) h_60) fun a w hS hK => ?_
              refine sl hK (by decide) (wtt hb_58) rfl (r_ibin hK rfl rfl rfl) fun a hK => ?_
              refine sl hK (by decide) rfl rfl (r_pick_t hb_58 hK rfl rfl) fun a hK => ?_
              refine sl hK (by decide) rfl rfl (r_assign hK rfl) fun a hK => ?_
              refine wpList_nil (NoP_nil ?_)
              have hr_ := Option.some.inj H
              refine wp_ret ?_
              repeat (first | refine ret_then ?_ | refine ret_block ?_ | refine ret_scope ?_)
              exact ret_1 Try.results7 hK (rv_tmp hK rfl) ⟨congrArg (fun b => Ending.returned (Value.bool b)) hr_, hS.bel⟩
            · rw [ifb_f hb_58] at H
              refine sp_skip (k := 22) rfl hK (by decide) (wtf hb_58) rfl fun a hK => ?_
              refine sp_skip (k := 23) rfl hK (by decide) (wtf hb_58) rfl fun a hK => ?_
              refine sp_skip (k := 24) rfl hK (by decide) (wtf hb_58) rfl fun a hK => ?_
              refine thenL_nil ?_
              refine sl_skip hK (by decide) (wtf hb_58) rfl fun a hK => ?_
              refine sl_skip hK (by decide) (wtf hb_58) rfl fun a hK => ?_
              refine sl hK (by decide) rfl rfl (r_pick_f hb_58 hK rfl rfl) fun a hK => ?_
              refine sl hK (by decide) rfl rfl (r_assign hK rfl) fun a hK => ?_
              refine wpList_nil (NoP_nil ?_)
              exact absurd (Option.some.inj H) (by decide)
        · rw [ifb_f hb_50] at H
          refine sp_skip (k := 7) rfl hK (by decide) (wtf hb_50) rfl fun a hK => ?_
          refine sp_skip (k := 8) rfl hK (by decide) (wtf hb_50) rfl fun a hK => ?_
          refine sp_skip (k := 9) rfl hK (by decide) (wtf hb_50) rfl fun a hK => ?_
          refine sp_skip (k := 10) rfl hK (by decide) (wtf hb_50) rfl fun a hK => ?_
          refine sp_skip (k := 11) rfl hK (by decide) (wtf hb_50) rfl fun a hK => ?_
          refine sp_skip (k := 12) rfl hK (by decide) rfl rfl fun a hK => ?_
          refine sp_skip (k := 13) rfl hK (by decide) rfl rfl fun a hK => ?_
          refine sp_skip (k := 15) rfl hK (by decide) rfl rfl fun a hK => ?_
          refine sp_skip (k := 16) rfl hK (by decide) rfl rfl fun a hK => ?_
          refine spw (k := 14) rfl rfl hS ?_
          refine sl_skip hK (by decide) rfl rfl fun a hK => ?_
          refine parK_nil hS ?_
          refine spw (k := 17) rfl rfl hS ?_
          refine sl_skip hK (by decide) rfl rfl fun a hK => ?_
          refine parK_nil hS ?_
          refine sp_skip (k := 18) rfl hK (by decide) rfl rfl fun a hK => ?_
          refine sp_skip (k := 19) rfl hK (by decide) (wtf hb_50) rfl fun a hK => ?_
          refine sp (k := 20) rfl hK (by decide) rfl rfl (fun w hS => r_pick_f hb_50 hK rfl rfl) fun a hK => ?_
          refine sp (k := 21) rfl hK (by decide) rfl rfl (fun w hS => r_move hK rfl) fun a hK => ?_
          refine sp_skip (k := 22) rfl hK (by decide) rfl rfl fun a hK => ?_
          refine sp_skip (k := 23) rfl hK (by decide) rfl rfl fun a hK => ?_
          refine sp_skip (k := 24) rfl hK (by decide) rfl rfl fun a hK => ?_
          refine thenL_nil ?_
          refine sl_skip hK (by decide) rfl rfl fun a hK => ?_
          refine sl_skip hK (by decide) rfl rfl fun a hK => ?_
          refine sl hK (by decide) rfl rfl (r_pick hK rfl rfl rfl) fun a hK => ?_
          refine sl hK (by decide) rfl rfl (r_assign hK rfl) fun a hK => ?_
          refine wpList_nil (NoP_nil ?_)
          exact absurd (Option.some.inj H) (by decide)
      · rw [ifb_f hb_47] at H
        refine sp_skip (k := 2) rfl hK (by decide) (wtf hb_47) rfl fun a hK => ?_
        refine spw (k := 3) rfl rfl hS ?_
        refine sl_skip hK (by decide) (wtf hb_47) rfl fun a hK => ?_
        refine parK_nil hS ?_
        refine sp_skip (k := 4) rfl hK (by decide) (wtf hb_47) rfl fun a hK => ?_
        refine sp (k := 5) rfl hK (by decide) rfl rfl (fun w hS => r_pick_f hb_47 hK rfl rfl) fun a hK => ?_
        refine sp (k := 6) rfl hK (by decide) rfl rfl (fun w hS => r_move hK rfl) fun a hK => ?_
        refine sp_skip (k := 7) rfl hK (by decide) rfl rfl fun a hK => ?_
        refine sp_skip (k := 8) rfl hK (by decide) rfl rfl fun a hK => ?_
        refine sp_skip (k := 9) rfl hK (by decide) rfl rfl fun a hK => ?_
        refine sp_skip (k := 10) rfl hK (by decide) rfl rfl fun a hK => ?_
        refine sp_skip (k := 11) rfl hK (by decide) rfl rfl fun a hK => ?_
        refine sp_skip (k := 12) rfl hK (by decide) rfl rfl fun a hK => ?_
        refine sp_skip (k := 13) rfl hK (by decide) rfl rfl fun a hK => ?_
        refine sp_skip (k := 15) rfl hK (by decide) rfl rfl fun a hK => ?_
        refine sp_skip (k := 16) rfl hK (by decide) rfl rfl fun a hK => ?_
        refine spw (k := 14) rfl rfl hS ?_
        refine sl_skip hK (by decide) rfl rfl fun a hK => ?_
        refine parK_nil hS ?_
        refine spw (k := 17) rfl rfl hS ?_
        refine sl_skip hK (by decide) rfl rfl fun a hK => ?_
        refine parK_nil hS ?_
        refine sp_skip (k := 18) rfl hK (by decide) rfl rfl fun a hK => ?_
        refine sp_skip (k := 19) rfl hK (by decide) rfl rfl fun a hK => ?_
        refine sp (k := 20) rfl hK (by decide) rfl rfl (fun w hS => r_pick hK rfl rfl rfl) fun a hK => ?_
        refine sp (k := 21) rfl hK (by decide) rfl rfl (fun w hS => r_move hK rfl) fun a hK => ?_
        refine sp_skip (k := 22) rfl hK (by decide) rfl rfl fun a hK => ?_
        refine sp_skip (k := 23) rfl hK (by decide) rfl rfl fun a hK => ?_
        refine sp_skip (k := 24) rfl hK (by decide) rfl rfl fun a hK => ?_
        refine thenL_nil ?_
        refine sl_skip hK (by decide) rfl rfl fun a hK => ?_
        refine sl_skip hK (by decide) rfl rfl fun a hK => ?_
        refine sl hK (by decide) rfl rfl (r_pick hK rfl rfl rfl) fun a hK => ?_
        refine sl hK (by decide) rfl rfl (r_assign hK rfl) fun a hK => ?_
        refine wpList_nil (NoP_nil ?_)
        exact absurd (Option.some.inj H) (by decide)

end Go.Proofs.Ytiegghohcghmkaa.M
