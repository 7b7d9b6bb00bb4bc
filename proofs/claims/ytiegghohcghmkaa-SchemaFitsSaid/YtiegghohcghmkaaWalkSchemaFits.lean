/- Each Go function of the laws answers as its plain Lean function tells, wherever that tells something. Printed by wip/eng/gen.py. -/
import Derived.Test.YtiegghohcghmkaaWalk2
namespace Go.Proofs.Ytiegghohcghmkaa.M
open Go Go.Eng Go.Proofs Go.RowKit
set_option linter.unusedVariables false
set_option linter.unusedSimpArgs false

/-! ### catchment/catchmentref05.fits: function 33 -/
set_option maxHeartbeats 4000000 in
set_option maxRecDepth 100000 in
theorem ref05_fits.calls (a0 : List api_Value) (a1 : List api_Col) {w0 : World} {RA : Hp} {v0_0 : Value} {v1_0 : Value} (hRA : RA.sub w0) (h0_0 : SlR ty_api_Value RA v0_0 a0) (h1_0 : SlR ty_api_Col RA v1_0 a1) {r : Bool} (H : ref05_fits a0 a1 = some r) : CallsV Try.prog 33 #[v0_0, v1_0] w0 (.bool r) := by
  unfold ref05_fits at H
  refine enter (args := [v0_0, v1_0]) Try.func33 rfl Try.ntmps33 rfl fun a hK => ?_
  have hS := St.init (R := fun _ => none) (w := w0) (fun _ _ h => by cases h)
  have hRL := RLe.refl (M := []) w0 (fun _ => none)
  refine wp_seq ?_
  refine wp_region_lit ?_
  refine sl hK (by decide) rfl rfl (r_assign hK rfl) fun a hK => ?_
  refine wpList_nil ?_
  refine wp_seq ?_
  refine wp_seq ?_
  refine wp_region_lit ?_
  refine sl hK (by decide) rfl rfl (r_move hK rfl) fun a hK => ?_
  refine sl hK (by decide) rfl rfl (r_len_R Try.underlying36 h0_0 hK rfl) fun a hK => ?_
  refine sl hK (by decide) rfl rfl (r_move hK rfl) fun a hK => ?_
  refine sl hK (by decide) rfl rfl (r_len_R Try.underlying24 h1_0 hK rfl) fun a hK => ?_
  refine sl hK (by decide) rfl rfl (r_ibin hK rfl rfl rfl) fun a hK => ?_
  refine wpList_nil ?_
  refine wp_cond_split (hK.ev rfl) (fun (hb_1 : ((a0.length : Int) != (a1.length : Int)) = true) => ?_) (fun (hb_1 : ((a0.length : Int) != (a1.length : Int)) = false) => ?_)
  · rw [ifb_t hb_1] at H
    refine wp_seq ?_
    refine wp_region_lit ?_
    refine sl hK (by decide) rfl rfl (r_assign hK rfl) fun a hK => ?_
    refine wpList_nil ?_
    obtain rfl := Option.some.inj H
    refine wp_ret ?_
    repeat (first | refine ret_then ?_ | refine ret_block ?_ | refine ret_scope ?_)
    exact ret_1 Try.results33 hK (rv_tmp hK rfl) ⟨rfl, hS.bel⟩
  · rw [ifb_f hb_1] at H
    refine wp_skip ?_
    refine wp_seq ?_
    refine wp_seq ?_
    refine wp_region_lit ?_
    refine sl hK (by decide) rfl rfl (r_assign hK rfl) fun a hK => ?_
    refine wpList_nil ?_
    refine wp_block ?_
    refine wp_loop_k (fun k_l0 a w => ∃ (x_127 : Int), ref05_fits.l0 a0 a1 k_l0 x_127 = some r ∧ Kn 36 a [(0, v0_0), (1, v1_0), (5, .int .i64 x_127)] ∧ St [] w0 w (fun _ => none) []) (((a0.length : Int) - 0).toNat + 1) ?_ ?_
    · exact ⟨0, H, hK.sub (all_cons rfl (all_cons rfl (all_cons rfl (all_nil)))), hS⟩
    · rintro k_l0 a w ⟨x_127, H, hK, hS⟩
      cases k_l0 with
      | zero => cases H
      | succ k_l0 =>
      rw [ref05_fits.l0.eq_2] at H
      refine wp_seq ?_
      refine wp_seq ?_
      refine wp_region_lit ?_
      refine sl hK (by decide) rfl rfl (r_move hK rfl) fun a hK => ?_
      refine sl hK (by decide) rfl rfl (r_move hK rfl) fun a hK => ?_
      refine sl hK (by decide) rfl rfl (r_len_R Try.underlying36 h0_0 hK rfl) fun a hK => ?_
      refine sl hK (by decide) rfl rfl (r_ibin hK rfl rfl rfl) fun a hK => ?_
      refine wpList_nil ?_
      refine wp_cond_split (hK.ev rfl) (fun (hb_253 : (decide (x_127 < (a0.length : Int))) = true) => ?_) (fun (hb_253 : (decide (x_127 < (a0.length : Int))) = false) => ?_)
      · rw [ifb_t hb_253] at H
        refine wp_skip ?_
        refine wp_seq ?_
        refine wp_block ?_
        refine wp_seq ?_
        refine wp_mid (fun a w => ∃ (x_314 : Bool), ref05_fits.j1 (ref05_fits.l0 a0 a1 k_l0) a0 x_127 x_314 = some r ∧ Kn 36 a [(0, v0_0), (1, v1_0), (5, .int .i64 x_127), (35, .bool x_314)] ∧ St [] w0 w (fun _ => none) []) ?_ ?_
        · refine parT_region (C := fun w => St [] w0 w (fun _ => none) []) 14 [(0, true), (1, true), (2, true), (3, true), (4, true), (5, true), (6, true), (7, true), (8, true), (9, true), (10, true), (11, true), (12, true), (13, true)] mixed (by kernel_rfl) hS (fun w hS => hS) fun w hS => ?_
          refine sp (k := 0) rfl hK (by decide) rfl rfl (fun w hS => r_move hK rfl) fun a hK => ?_
          refine sp (k := 1) rfl hK (by decide) rfl rfl (fun w hS => r_move hK rfl) fun a hK => ?_
          obtain ⟨y_346, h_347, H⟩ := bind_some H
          obtain ⟨b_348, o_349, c_350, cs_351, hv_352, hr_353, hc_354, h_3470, h_3471⟩ := h0_0.ix h_347
          subst hr_353
          refine sp (k := 2) rfl hK (by decide) rfl rfl (fun w hS => r_indexAddr_R Try.underlying36 Try.sizeOf43 hv_352 h_3470 h_3471 hK rfl rfl) fun a hK => ?_
          refine sp (k := 3) rfl hK (by decide) rfl rfl (fun w hS => r_fieldAddr Try.underlying43 rfl Try.sizeOf3 hK rfl) fun a hK => ?_
          refine sp (k := 4) rfl hK (by decide) rfl rfl (fun w hS => r_load Try.isAgg3 hK rfl ((hS.ra hRA nil_not).cell (hc_354 0 _ rfl))) fun a hK => ?_
          refine sp (k := 5) rfl hK (by decide) rfl rfl (fun w hS => r_move hK rfl) fun a hK => ?_
          refine sp (k := 6) rfl hK (by decide) rfl rfl (fun w hS => r_move hK rfl) fun a hK => ?_
          obtain ⟨y_355, h_356, H⟩ := bind_some H
          obtain ⟨b_357, o_358, c_359, cs_360, hv_361, hr_362, hc_363, h_3560, h_3561⟩ := h1_0.ix h_356
          subst hr_362
          refine sp (k := 7) rfl hK (by decide) rfl rfl (fun w hS => r_indexAddr_R Try.underlying24 Try.sizeOf52 hv_361 h_3560 h_3561 hK rfl rfl) fun a hK => ?_
          refine sp (k := 8) rfl hK (by decide) rfl rfl (fun w hS => r_fieldAddr Try.underlying52 rfl Try.sizeOf3 hK rfl) fun a hK => ?_
          refine sp (k := 9) rfl hK (by decide) rfl rfl (fun w hS => r_load Try.isAgg3 hK rfl ((hS.ra hRA nil_not).cell (hc_363 1 _ rfl))) fun a hK => ?_
          refine sp (k := 10) rfl hK (by decide) rfl rfl (fun w hS => r_ibin hK rfl rfl rfl) fun a hK => ?_
          refine sp (k := 11) rfl hK (by decide) rfl rfl (fun w hS => r_move hK rfl) fun a hK => ?_
          rcases or_b (y_346.Kind != y_355.Kind) with hb_364 | hb_364
          · rw [ifb_t hb_364] at H
            refine sp_skip (k := 12) rfl hK (by decide) (wft hb_364) rfl fun a hK => ?_
            refine sp_skip (k := 13) rfl hK (by decide) (wft hb_364) rfl fun a hK => ?_
            refine thenL_nil ?_
            refine sl_skip hK (by decide) (wft hb_364) rfl fun a hK => ?_
            refine sl_skip hK (by decide) (wft hb_364) rfl fun a hK => ?_
            refine sl_skip hK (by decide) (wft hb_364) rfl fun a hK => ?_
            refine sl_skip hK (by decide) (wft hb_364) rfl fun a hK => ?_
            refine sl hK (by decide) rfl rfl (r_pick_t hb_364 hK rfl rfl) fun a hK => ?_
            refine wpList_nil (NoP_nil ?_)
            exact ⟨true, H, hK.sub (all_cons rfl (all_cons rfl (all_cons rfl (all_cons rfl (all_nil))))), hS⟩
          · rw [ifb_f hb_364] at H
            refine sp (k := 12) rfl hK (by decide) (wff hb_364) rfl (fun w hS => r_move hK rfl) fun a hK => ?_
            refine sp (k := 13) rfl hK (by decide) (wff hb_364) rfl (fun w hS => r_move hK rfl) fun a hK => ?_
            refine thenL_nil ?_
            obtain ⟨y_365, h_366, H⟩ := bind_some H
            obtain ⟨b_367, o_368, c_369, cs_370, hv_371, hr_372, hc_373, h_3660, h_3661⟩ := h0_0.ix h_366
            subst hr_372
            refine sl hK (by decide) (wff hb_364) rfl (r_indexAddr_R Try.underlying36 Try.sizeOf43 hv_371 h_3660 h_3661 hK rfl rfl) fun a hK => ?_
            refine sl hK (by decide) (wff hb_364) rfl (r_loadA (cs := [.int .i64 y_365.Kind, .int .i64 y_365.N, .string y_365.S, .int .i64 y_365.H.a0, .int .i64 y_365.H.a1, .int .i64 y_365.H.a2, .int .i64 y_365.H.a3, .int .i64 y_365.H.a4, .int .i64 y_365.H.a5, .int .i64 y_365.H.a6, .int .i64 y_365.H.a7]) Try.isAgg43 Try.sizeOf43 rfl hK rfl (fun j v hv => (hS.ra hRA nil_not).cell (hc_373 j v hv))) fun a hK => ?_
            obtain ⟨y_374, h_375, H⟩ := bind_some H
            refine sl_callV Try.call35 hS hK (by decide) (wff hb_364) rfl rfl (ref01_Valid.calls y_365 h_375 _) fun a w hS hK => ?_
            refine sl hK (by decide) (wff hb_364) rfl (r_un hK rfl (u_not _)) fun a hK => ?_
            refine sl hK (by decide) rfl rfl (r_pick_f hb_364 hK rfl rfl) fun a hK => ?_
            refine wpList_nil (NoP_nil ?_)
            exact ⟨(!y_374), H, hK.sub (all_cons rfl (all_cons rfl (all_cons rfl (all_cons rfl (all_nil))))), hS⟩
        · rintro a w ⟨x_314, H, hK, hS⟩
          unfold ref05_fits.j1 at H
          refine wp_cond_split (hK.ev rfl) (fun (hb_376 : x_314 = true) => ?_) (fun (hb_376 : x_314 = false) => ?_)
          · rw [ifb_t hb_376] at H
            refine wp_seq ?_
            refine wp_region_lit ?_
            refine sl hK (by decide) rfl rfl (r_assign hK rfl) fun a hK => ?_
            refine wpList_nil ?_
            obtain rfl := Option.some.inj H
            refine wp_ret ?_
            repeat (first | refine ret_then ?_ | refine ret_block ?_ | refine ret_scope ?_)
            exact ret_1 Try.results33 hK (rv_tmp hK rfl) ⟨rfl, hS.bel⟩
          · rw [ifb_f hb_376] at H
            refine wp_skip ?_
            refine wp_region_lit ?_
            refine sl hK (by decide) rfl rfl (r_move hK rfl) fun a hK => ?_
            refine sl hK (by decide) rfl rfl (r_ibin hK rfl rfl rfl) fun a hK => ?_
            refine sl hK (by decide) rfl rfl (r_assign hK rfl) fun a hK => ?_
            refine wpList_nil ?_
            exact ⟨_, Nat.lt_succ_self _, (IntKind.i64.wrap (x_127 + 1)), H, hK.sub (all_cons rfl (all_cons rfl (all_cons rfl (all_nil)))), hS⟩
      · rw [ifb_f hb_253] at H
        refine wp_exit ?_
        refine wp_seq ?_
        refine wp_region_lit ?_
        refine sl hK (by decide) rfl rfl (r_assign hK rfl) fun a hK => ?_
        refine wpList_nil ?_
        obtain rfl := Option.some.inj H
        refine wp_ret ?_
        repeat (first | refine ret_then ?_ | refine ret_block ?_ | refine ret_scope ?_)
        exact ret_1 Try.results33 hK (rv_tmp hK rfl) ⟨rfl, hS.bel⟩

/-! ### catchment/catchmentref05.Fits: function 20 -/
set_option maxHeartbeats 4000000 in
set_option maxRecDepth 100000 in
theorem ref05_Fits.calls (a0 : List api_Schema) (a1 : api_Point) {w0 : World} {R : Hp} {RA : Hp} {v0_0 : Value} {v1_0 : Value} {v1_1 : Value} (hRA : RA.sub w0) (hR : R.sub w0) (h0_0 : SlR ty_api_Schema R v0_0 a0) (h1_0 : SlR ty_api_Value RA v1_0 a1.Keys) (h1_1 : SlR ty_api_Value RA v1_1 a1.Vals) {r : Int} (H : ref05_Fits a0 a1 = some r) : CallsV Try.prog 20 #[v0_0, .agg #[.string a1.Schema, v1_0, .int .i64 a1.Time, v1_1]] w0 (.int .i64 r) := by
  unfold ref05_Fits at H
  refine enter (args := [v0_0, .agg #[.string a1.Schema, v1_0, .int .i64 a1.Time, v1_1]]) Try.func20 rfl Try.ntmps20 rfl fun a hK => ?_
  have hS := St.init hR
  have hRL := RLe.refl (M := []) w0 R
  refine wp_seq ?_
  refine wp_region_lit ?_
  refine sl_box hS hK (by decide) rfl rfl (c := [.string a1.Schema, v1_0, .int .i64 a1.Time, v1_1]) rfl fun a w b_1 hS hK => ?_
  refine sl hK (by decide) rfl rfl (r_assign hK rfl) fun a hK => ?_
  refine wpList_nil ?_
  refine wp_seq ?_
  refine wp_region_lit ?_
  refine sl hK (by decide) rfl rfl (r_move hK rfl) fun a hK => ?_
  refine sl hK (by decide) rfl rfl (r_fieldAddr Try.underlying38 rfl Try.sizeOf9 hK rfl) fun a hK => ?_
  refine sl hK (by decide) rfl rfl (r_load Try.isAgg9 hK rfl (hS.cell (.head _) rfl)) fun a hK => ?_
  obtain ⟨y_2, h_3, H⟩ := bind_some H
  refine sl_call Try.call10 hK (by decide) rfl rfl rfl (ref05_Find.calls a0 a1.Schema hS.sub h0_0 h_3) fun a v_ w hv_ hK => ?_
  obtain ⟨R_4, v_6, v_8, hv_, hr_, hl_5, hs_7, hs_9⟩ := hv_
  have hv_ := hv_.symm
  subst hv_
  obtain ⟨hS, hl_5⟩ := hS.sp0.back hr_ hl_5
  have hS := hS.un0
  have hRL := hRL.trans hl_5
  refine sl hK (by decide) rfl rfl (r_move hK rfl) fun a hK => ?_
  refine sl hK (by decide) rfl rfl (r_extract hK rfl rfl) fun a hK => ?_
  refine sl hK (by decide) rfl rfl (r_extract hK rfl rfl) fun a hK => ?_
  refine sl_alloc Try.zeroValue26 hS hK (by decide) rfl rfl fun a w b_10 hS hK => ?_
  refine sl_storeA (vs := [.string y_2.1.Name, v_6, v_8]) (c' := [.string y_2.1.Name, v_6, v_8]) Try.sizeOf26 hS hK rfl rfl rfl rfl (all_cons rfl (all_cons hs_7.one (all_cons hs_9.one (all_nil)))) (Nat.le_of_ble_eq_true rfl) rfl fun a w hS hK => ?_
  refine sl hK (by decide) rfl rfl (r_assign hK rfl) fun a hK => ?_
  refine wpList_nil ?_
  refine wp_seq ?_
  refine wp_seq ?_
  refine wp_region_lit ?_
  refine sl hK (by decide) rfl rfl (r_move hK rfl) fun a hK => ?_
  refine sl hK (by decide) rfl rfl (r_un hK rfl (u_not _)) fun a hK => ?_
  refine wpList_nil ?_
  refine wp_cond_split (hK.ev rfl) (fun (hb_11 : (!y_2.2) = true) => ?_) (fun (hb_11 : (!y_2.2) = false) => ?_)
  · rw [ifb_t hb_11] at H
    refine wp_seq ?_
    refine wp_region_lit ?_
    refine sl hK (by decide) rfl rfl (r_assign hK rfl) fun a hK => ?_
    refine wpList_nil ?_
    obtain rfl := Option.some.inj H
    refine wp_ret ?_
    repeat (first | refine ret_then ?_ | refine ret_block ?_ | refine ret_scope ?_)
    exact ret_1 Try.results20 hK (rv_tmp hK rfl) ⟨rfl, hS.bel⟩
  · rw [ifb_f hb_11] at H
    refine wp_skip ?_
    refine wp_seq ?_
    refine wp_seq ?_
    refine wp_mid (fun a w => ∃ (x_19 : Bool), ref05_Fits.j0 x_19 = some r ∧ Kn 40 a [(39, .bool x_19)] ∧ St [] w0 w R_4 []) ?_ ?_
    · refine wp_region_lit ?_
      refine sl hK (by decide) rfl rfl (r_fieldAddr Try.underlying38 rfl Try.sizeOf36 hK rfl) fun a hK => ?_
      refine sl hK (by decide) rfl rfl (r_load Try.isAgg36 hK rfl (hS.cell (.tail _ (.head _)) rfl)) fun a hK => ?_
      refine sl hK (by decide) rfl rfl (r_fieldAddr Try.underlying26 rfl Try.sizeOf24 hK rfl) fun a hK => ?_
      refine sl hK (by decide) rfl rfl (r_load Try.isAgg24 hK rfl (hS.cell (.head _) rfl)) fun a hK => ?_
      obtain ⟨y_21, h_22, H⟩ := bind_some H
      refine sl_callV Try.call33 hS hK (by decide) rfl rfl rfl (ref05_fits.calls a1.Keys y_2.1.Keys (lentOf_sub [] _) (h1_0.mono (hS.raLe0 hRA nil_not)) (hs_7.mono hS.rLe0) h_22) fun a w hS hK => ?_
      refine sl hK (by decide) rfl rfl (r_un hK rfl (u_not _)) fun a hK => ?_
      refine sl hK (by decide) rfl rfl (r_move hK rfl) fun a hK => ?_
      rcases or_b (!y_21) with hb_23 | hb_23
      · rw [ifb_t hb_23] at H
        refine sl_skip hK (by decide) (wft hb_23) rfl fun a hK => ?_
        refine sl_skip hK (by decide) (wft hb_23) rfl fun a hK => ?_
        refine sl_skip hK (by decide) (wft hb_23) rfl fun a hK => ?_
        refine sl_skip hK (by decide) (wft hb_23) rfl fun a hK => ?_
        refine sl_skip hK (by decide) (wft hb_23) rfl fun a hK => ?_
        refine sl_skip hK (by decide) (wft hb_23) rfl fun a hK => ?_
        refine sl hK (by decide) rfl rfl (r_pick_t hb_23 hK rfl rfl) fun a hK => ?_
        refine sl hK (by decide) rfl rfl (r_move hK rfl) fun a hK => ?_
        refine sl_skip hK (by decide) rfl rfl fun a hK => ?_
        refine sl_skip hK (by decide) rfl rfl fun a hK => ?_
        refine sl_skip hK (by decide) rfl rfl fun a hK => ?_
        refine sl hK (by decide) rfl rfl (r_pick hK rfl rfl rfl) fun a hK => ?_
        refine sl hK (by decide) rfl rfl (r_move hK rfl) fun a hK => ?_
        refine sl_skip hK (by decide) rfl rfl fun a hK => ?_
        refine sl_skip hK (by decide) rfl rfl fun a hK => ?_
        refine sl_skip hK (by decide) rfl rfl fun a hK => ?_
        refine sl hK (by decide) rfl rfl (r_pick hK rfl rfl rfl) fun a hK => ?_
        refine wpList_nil ?_
        exact ⟨true, H, hK.sub (all_cons rfl (all_nil)), hS.trunc 0⟩
      · rw [ifb_f hb_23] at H
        refine sl hK (by decide) (wff hb_23) rfl (r_fieldAddr Try.underlying38 rfl Try.sizeOf36 hK rfl) fun a hK => ?_
        refine sl hK (by decide) (wff hb_23) rfl (r_load Try.isAgg36 hK rfl (hS.cell (.tail _ (.head _)) rfl)) fun a hK => ?_
        refine sl hK (by decide) (wff hb_23) rfl (r_fieldAddr Try.underlying26 rfl Try.sizeOf24 hK rfl) fun a hK => ?_
        refine sl hK (by decide) (wff hb_23) rfl (r_load Try.isAgg24 hK rfl (hS.cell (.head _) rfl)) fun a hK => ?_
        obtain ⟨y_24, h_25, H⟩ := bind_some H
        refine sl_callV Try.call33 hS hK (by decide) (wff hb_23) rfl rfl (ref05_fits.calls a1.Vals y_2.1.Vals (lentOf_sub [] _) (h1_1.mono (hS.raLe0 hRA nil_not)) (hs_9.mono hS.rLe0) h_25) fun a w hS hK => ?_
        refine sl hK (by decide) (wff hb_23) rfl (r_un hK rfl (u_not _)) fun a hK => ?_
        refine sl hK (by decide) rfl rfl (r_pick_f hb_23 hK rfl rfl) fun a hK => ?_
        refine sl hK (by decide) rfl rfl (r_move hK rfl) fun a hK => ?_
        rcases or_b (!y_24) with hb_26 | hb_26
        · rw [ifb_t hb_26] at H
          refine sl_skip hK (by decide) (wft hb_26) rfl fun a hK => ?_
          refine sl_skip hK (by decide) (wft hb_26) rfl fun a hK => ?_
          refine sl_skip hK (by decide) (wft hb_26) rfl fun a hK => ?_
          refine sl hK (by decide) rfl rfl (r_pick_t hb_26 hK rfl rfl) fun a hK => ?_
          refine sl hK (by decide) rfl rfl (r_move hK rfl) fun a hK => ?_
          refine sl_skip hK (by decide) rfl rfl fun a hK => ?_
          refine sl_skip hK (by decide) rfl rfl fun a hK => ?_
          refine sl_skip hK (by decide) rfl rfl fun a hK => ?_
          refine sl hK (by decide) rfl rfl (r_pick hK rfl rfl rfl) fun a hK => ?_
          refine wpList_nil ?_
          exact ⟨true, H, hK.sub (all_cons rfl (all_nil)), hS.trunc 0⟩
        · rw [ifb_f hb_26] at H
          refine sl hK (by decide) (wff hb_26) rfl (r_fieldAddr Try.underlying38 rfl Try.sizeOf3 hK rfl) fun a hK => ?_
          refine sl hK (by decide) (wff hb_26) rfl (r_load Try.isAgg3 hK rfl (hS.cell (.tail _ (.head _)) rfl)) fun a hK => ?_
          refine sl hK (by decide) (wff hb_26) rfl (r_ibin hK rfl rfl rfl) fun a hK => ?_
          refine sl hK (by decide) rfl rfl (r_pick_f hb_26 hK rfl rfl) fun a hK => ?_
          refine sl hK (by decide) rfl rfl (r_move hK rfl) fun a hK => ?_
          rcases or_b (decide (a1.Time < 0)) with hb_27 | hb_27
          · rw [ifb_t hb_27] at H
            refine sl_skip hK (by decide) (wft hb_27) rfl fun a hK => ?_
            refine sl_skip hK (by decide) (wft hb_27) rfl fun a hK => ?_
            refine sl_skip hK (by decide) (wft hb_27) rfl fun a hK => ?_
            refine sl hK (by decide) rfl rfl (r_pick_t hb_27 hK rfl rfl) fun a hK => ?_
            refine wpList_nil ?_
            exact ⟨true, H, hK.sub (all_cons rfl (all_nil)), hS.trunc 0⟩
          · rw [ifb_f hb_27] at H
            refine sl hK (by decide) (wff hb_27) rfl (r_fieldAddr Try.underlying38 rfl Try.sizeOf3 hK rfl) fun a hK => ?_
            refine sl hK (by decide) (wff hb_27) rfl (r_load Try.isAgg3 hK rfl (hS.cell (.tail _ (.head _)) rfl)) fun a hK => ?_
            refine sl hK (by decide) (wff hb_27) rfl (r_ibin hK rfl rfl rfl) fun a hK => ?_
            refine sl hK (by decide) rfl rfl (r_pick_f hb_27 hK rfl rfl) fun a hK => ?_
            refine wpList_nil ?_
            exact ⟨(decide (a1.Time ≥ 1099511627776)), H, hK.sub (all_cons rfl (all_nil)), hS.trunc 0⟩
    · rintro a w ⟨x_19, H, hK, hS⟩
      unfold ref05_Fits.j0 at H
      refine wp_cond_split (hK.ev rfl) (fun (hb_28 : x_19 = true) => ?_) (fun (hb_28 : x_19 = false) => ?_)
      · rw [ifb_t hb_28] at H
        refine wp_seq ?_
        refine wp_region_lit ?_
        refine sl hK (by decide) rfl rfl (r_assign hK rfl) fun a hK => ?_
        refine wpList_nil ?_
        obtain rfl := Option.some.inj H
        refine wp_ret ?_
        repeat (first | refine ret_then ?_ | refine ret_block ?_ | refine ret_scope ?_)
        exact ret_1 Try.results20 hK (rv_tmp hK rfl) ⟨rfl, hS.bel⟩
      · rw [ifb_f hb_28] at H
        refine wp_skip ?_
        refine wp_seq ?_
        refine wp_region_lit ?_
        refine sl hK (by decide) rfl rfl (r_assign hK rfl) fun a hK => ?_
        refine wpList_nil ?_
        obtain rfl := Option.some.inj H
        refine wp_ret ?_
        repeat (first | refine ret_then ?_ | refine ret_block ?_ | refine ret_scope ?_)
        exact ret_1 Try.results20 hK (rv_tmp hK rfl) ⟨rfl, hS.bel⟩

/-! ### catchment/catchmentlaw05.SchemaFits: function 4 -/
set_option maxHeartbeats 4000000 in
set_option maxRecDepth 100000 in
theorem law05_SchemaFits.calls (a0 : List api_Schema) (a1 : api_Point) {w0 : World} {R : Hp} {RA : Hp} {v0_0 : Value} {v1_0 : Value} {v1_1 : Value} (hRA : RA.sub w0) (hR : R.sub w0) (h0_0 : SlR ty_api_Schema R v0_0 a0) (h1_0 : SlR ty_api_Value RA v1_0 a1.Keys) (h1_1 : SlR ty_api_Value RA v1_1 a1.Vals) {gm : Int} (hG : RA.cell 0 0 = some (.int .i64 gm)) (H : law05_SchemaFits a0 a1 = some true) : CallsV Try.prog 4 #[v0_0, .agg #[.string a1.Schema, v1_0, .int .i64 a1.Time, v1_1]] w0 (.bool true) := by
  unfold law05_SchemaFits at H
  refine enter (args := [v0_0, .agg #[.string a1.Schema, v1_0, .int .i64 a1.Time, v1_1]]) Try.func4 rfl Try.ntmps4 rfl fun a hK => ?_
  have hS := St.init hR
  have hRL := RLe.refl (M := []) w0 R
  refine wp_seq ?_
  refine wp_region_lit ?_
  refine sl_box hS hK (by decide) rfl rfl (c := [.string a1.Schema, v1_0, .int .i64 a1.Time, v1_1]) rfl fun a w b_1 hS hK => ?_
  refine sl hK (by decide) rfl rfl (r_assign hK rfl) fun a hK => ?_
  refine wpList_nil ?_
  refine wp_seq ?_
  refine wp_region_lit ?_
  obtain ⟨y_2, h_3, H⟩ := bind_some H
  refine sl_callV Try.call8 hS hK (by decide) rfl rfl rfl (law05_shown.calls (lentOf_sub [] _) (Hp.cell_le (hS.raLe0 hRA nil_not) hG) h_3) fun a w hS hK => ?_
  refine sl hK (by decide) rfl rfl (r_assign hK rfl) fun a hK => ?_
  refine wpList_nil ?_
  refine wp_seq ?_
  refine wp_seq ?_
  refine wp_region_lit ?_
  refine sl hK (by decide) rfl rfl (r_move hK rfl) fun a hK => ?_
  refine sl hK (by decide) rfl rfl (r_len_R Try.underlying22 h0_0 hK rfl) fun a hK => ?_
  refine sl hK (by decide) rfl rfl (r_ibin hK rfl rfl rfl) fun a hK => ?_
  refine wpList_nil ?_
  refine wp_mid (fun a w => ∃ (x_12 : List api_Schema) (v_10 : Value), law05_SchemaFits.j0 a1 y_2 x_12 = some true ∧ SlR ty_api_Schema R v_10 x_12 ∧ Kn 22 a [(0, v_10), (3, .pointer (some ⟨b_1, 0, none⟩)), (5, .bool y_2)] ∧ St [] w0 w R [.cells b_1 [.string a1.Schema, v1_0, .int .i64 a1.Time, v1_1] 38]) ?_ ?_
  · refine wp_cond_split (hK.ev rfl) (fun (hb_14 : (decide ((a0.length : Int) > 20)) = true) => ?_) (fun (hb_14 : (decide ((a0.length : Int) > 20)) = false) => ?_)
    · rw [ifb_t hb_14] at H
      refine wp_region_lit ?_
      refine sl hK (by decide) rfl rfl (r_move hK rfl) fun a hK => ?_
      obtain ⟨y_15, h_16, H⟩ := bind_some H
      obtain ⟨v_17, hs_18, hr_19⟩ := r_slice_R (x := .tmp 10) (lo := none) (hi := some (.const (.int .i64 20))) Try.underlying22 Try.sizeOf26 h0_0 h_16 hK rfl rfl ⟨_, rfl⟩
      refine sl hK (by decide) rfl rfl (hr_19 _ _ _ _ _ _ _ hK) fun a hK => ?_
      refine sl hK (by decide) rfl rfl (r_assign hK rfl) fun a hK => ?_
      refine wpList_nil ?_
      exact ⟨y_15, v_17, H, hs_18, hK.sub (all_cons rfl (all_cons rfl (all_cons rfl (all_nil)))), hS⟩
    · rw [ifb_f hb_14] at H
      refine wp_skip ?_
      exact ⟨a0, v0_0, H, h0_0, hK.sub (all_cons rfl (all_cons rfl (all_cons rfl (all_nil)))), hS⟩
  · rintro a w ⟨x_12, v_10, H, hs_11, hK, hS⟩
    unfold law05_SchemaFits.j0 at H
    refine wp_seq ?_
    refine parT_region (C := fun w => St [] w0 w R [.cells b_1 [.string a1.Schema, v1_0, .int .i64 a1.Time, v1_1] 38]) 7 [(0, true), (1, true), (2, true), (3, true), (5, true), (6, true), (4, false)] mixed (by kernel_rfl) hS (fun w hS => hS) fun w hS => ?_
    refine sp (k := 0) rfl hK (by decide) rfl rfl (fun w hS => r_move hK rfl) fun a hK => ?_
    refine sp (k := 1) rfl hK (by decide) rfl rfl (fun w hS => r_move hK rfl) fun a hK => ?_
    rcases or_b y_2 with hb_25 | hb_25
    · rw [ifb_t hb_25] at H
      refine sp (k := 2) rfl hK (by decide) (wtt hb_25) rfl (fun w hS => r_move hK rfl) fun a hK => ?_
      refine sp (k := 3) rfl hK (by decide) (wtt hb_25) rfl (fun w hS => r_loadA (cs := [.string a1.Schema, v1_0, .int .i64 a1.Time, v1_1]) Try.isAgg38 Try.sizeOf38 rfl hK rfl (hS.cells_of (m := 4) (.head _) rfl)) fun a hK => ?_
      refine sp (k := 5) rfl hK (by decide) (wtt hb_25) rfl (fun w hS => r_move hK rfl) fun a hK => ?_
      refine sp (k := 6) rfl hK (by decide) (wtt hb_25) rfl (fun w hS => r_loadA (cs := [.string a1.Schema, v1_0, .int .i64 a1.Time, v1_1]) Try.isAgg38 Try.sizeOf38 rfl hK rfl (hS.cells_of (m := 4) (.head _) rfl)) fun a hK => ?_
      refine spw (k := 4) rfl rfl hS ?_
      obtain ⟨y_26, h_27, H⟩ := bind_some H
      refine sl_callV Try.call19 hS hK (by decide) (wtt hb_25) rfl rfl (schema_Fits.calls x_12 a1 (lentOf_sub [] _) hS.sub hs_11 (h1_0.mono (hS.raLe0 hRA nil_not)) (h1_1.mono (hS.raLe0 hRA nil_not)) h_27) fun a w hS hK => ?_
      refine parK_nil hS ?_
      refine thenL_nil ?_
      obtain ⟨y_28, h_29, H⟩ := bind_some H
      refine sl_callV Try.call20 hS hK (by decide) (wtt hb_25) rfl rfl (ref05_Fits.calls x_12 a1 (lentOf_sub [] _) hS.sub hs_11 (h1_0.mono (hS.raLe0 hRA nil_not)) (h1_1.mono (hS.raLe0 hRA nil_not)) h_29) fun a w hS hK => ?_
      refine sl hK (by decide) (wtt hb_25) rfl (r_ibin hK rfl rfl rfl) fun a hK => ?_
      refine sl hK (by decide) rfl rfl (r_pick_t hb_25 hK rfl rfl) fun a hK => ?_
      refine sl hK (by decide) rfl rfl (r_assign hK rfl) fun a hK => ?_
      refine wpList_nil (NoP_nil ?_)
      have hr_ := Option.some.inj H
      refine wp_ret ?_
      repeat (first | refine ret_then ?_ | refine ret_block ?_ | refine ret_scope ?_)
      exact ret_1 Try.results4 hK (rv_tmp hK rfl) ⟨congrArg (fun b => Ending.returned (Value.bool b)) hr_, hS.bel⟩
    · rw [ifb_f hb_25] at H
      refine sp_skip (k := 2) rfl hK (by decide) (wtf hb_25) rfl fun a hK => ?_
      refine sp_skip (k := 3) rfl hK (by decide) (wtf hb_25) rfl fun a hK => ?_
      refine sp_skip (k := 5) rfl hK (by decide) (wtf hb_25) rfl fun a hK => ?_
      refine sp_skip (k := 6) rfl hK (by decide) (wtf hb_25) rfl fun a hK => ?_
      refine spw (k := 4) rfl rfl hS ?_
      refine sl_skip hK (by decide) (wtf hb_25) rfl fun a hK => ?_
      refine parK_nil hS ?_
      refine thenL_nil ?_
      refine sl_skip hK (by decide) (wtf hb_25) rfl fun a hK => ?_
      refine sl_skip hK (by decide) (wtf hb_25) rfl fun a hK => ?_
      refine sl hK (by decide) rfl rfl (r_pick_f hb_25 hK rfl rfl) fun a hK => ?_
      refine sl hK (by decide) rfl rfl (r_assign hK rfl) fun a hK => ?_
      refine wpList_nil (NoP_nil ?_)
      exact absurd (Option.some.inj H) (by decide)

end Go.Proofs.Ytiegghohcghmkaa.M
