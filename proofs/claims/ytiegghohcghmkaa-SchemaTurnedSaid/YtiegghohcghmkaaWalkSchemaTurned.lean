/- Each Go function of the laws answers as its plain Lean function tells, wherever that tells something. Printed by wip/eng/gen.py. -/
import Derived.Test.YtiegghohcghmkaaWalk2
namespace Go.Proofs.Ytiegghohcghmkaa.M
open Go Go.Eng Go.Proofs Go.RowKit
set_option linter.unusedVariables false
set_option linter.unusedSimpArgs false

/-! ### catchment/catchmentlaw05.SchemaTurned: function 6 -/
set_option maxHeartbeats 4000000 in
set_option maxRecDepth 100000 in
theorem law05_SchemaTurned.calls (a0 : List api_Schema) {w0 : World} {R : Hp} {RA : Hp} {v0_0 : Value} (hRA : RA.sub w0) (hR : R.sub w0) (h0_0 : SlR ty_api_Schema R v0_0 a0) {gm : Int} (hG : RA.cell 0 0 = some (.int .i64 gm)) (H : law05_SchemaTurned a0 = some true) : CallsV Try.prog 6 #[v0_0] w0 (.bool true) := by
  unfold law05_SchemaTurned at H
  refine enter (args := [v0_0]) Try.func6 rfl Try.ntmps6 rfl fun a hK => ?_
  have hS := St.init hR
  have hRL := RLe.refl (M := []) w0 R
  refine wp_seq ?_
  refine wp_region_lit ?_
  refine sl hK (by decide) rfl rfl (r_assign hK rfl) fun a hK => ?_
  refine wpList_nil ?_
  refine wp_seq ?_
  refine wp_region_lit ?_
  obtain ⟨y_1, h_2, H⟩ := bind_some H
  refine sl_callV Try.call8 hS hK (by decide) rfl rfl rfl (law05_shown.calls (lentOf_sub [] _) (Hp.cell_le (hS.raLe0 hRA nil_not) hG) h_2) fun a w hS hK => ?_
  refine sl hK (by decide) rfl rfl (r_assign hK rfl) fun a hK => ?_
  refine wpList_nil ?_
  refine wp_seq ?_
  refine wp_seq ?_
  refine wp_region_lit ?_
  refine sl hK (by decide) rfl rfl (r_move hK rfl) fun a hK => ?_
  refine sl hK (by decide) rfl rfl (r_len_R Try.underlying22 h0_0 hK rfl) fun a hK => ?_
  refine sl hK (by decide) rfl rfl (r_ibin hK rfl rfl rfl) fun a hK => ?_
  refine wpList_nil ?_
  refine wp_mid (fun a w => ∃ (x_11 : List api_Schema) (v_9 : Value), law05_SchemaTurned.j0 y_1 x_11 = some true ∧ SlR ty_api_Schema R v_9 x_11 ∧ Kn 84 a [(0, v_9), (3, .bool y_1)] ∧ St [] w0 w R []) ?_ ?_
  · refine wp_cond_split (hK.ev rfl) (fun (hb_13 : (decide ((a0.length : Int) > 20)) = true) => ?_) (fun (hb_13 : (decide ((a0.length : Int) > 20)) = false) => ?_)
    · rw [ifb_t hb_13] at H
      refine wp_region_lit ?_
      refine sl hK (by decide) rfl rfl (r_move hK rfl) fun a hK => ?_
      obtain ⟨y_14, h_15, H⟩ := bind_some H
      obtain ⟨v_16, hs_17, hr_18⟩ := r_slice_R (x := .tmp 14) (lo := none) (hi := some (.const (.int .i64 20))) Try.underlying22 Try.sizeOf26 h0_0 h_15 hK rfl rfl ⟨_, rfl⟩
      refine sl hK (by decide) rfl rfl (hr_18 _ _ _ _ _ _ _ hK) fun a hK => ?_
      refine sl hK (by decide) rfl rfl (r_assign hK rfl) fun a hK => ?_
      refine wpList_nil ?_
      exact ⟨y_14, v_16, H, hs_17, hK.sub (all_cons rfl (all_cons rfl (all_nil))), hS⟩
    · rw [ifb_f hb_13] at H
      refine wp_skip ?_
      exact ⟨a0, v0_0, H, h0_0, hK.sub (all_cons rfl (all_cons rfl (all_nil))), hS⟩
  · rintro a w ⟨x_11, v_9, H, hs_10, hK, hS⟩
    unfold law05_SchemaTurned.j0 at H
    refine wp_seq ?_
    refine wp_region_lit ?_
    refine sl_buildSliceC (zc := [.string (⟨#[]⟩ : ByteArray), .slice none 0 0, .slice none 0 0]) (zs := []) (ps := []) (c := []) Try.underlying22 Try.sizeOf26 Try.zeroValue26 rfl pc_nil rfl rfl (by decide) (by kernel_rfl) rfl hS hK (by decide) rfl fun a w b_19 hS hK => ?_
    refine sl hK (by decide) rfl rfl (r_assign hK rfl) fun a hK => ?_
    refine wpList_nil ?_
    refine wp_seq ?_
    refine wp_seq ?_
    refine wp_region_lit ?_
    refine sl hK (by decide) rfl rfl (r_move hK rfl) fun a hK => ?_
    refine sl hK (by decide) rfl rfl (r_len_R Try.underlying22 hs_10 hK rfl) fun a hK => ?_
    refine sl hK (by decide) rfl rfl (r_ibin hK rfl rfl rfl) fun a hK => ?_
    refine sl hK (by decide) rfl rfl (r_assign hK rfl) fun a hK => ?_
    refine wpList_nil ?_
    refine wp_block ?_
    refine wp_loop_k (fun k_l1 a w => ∃ (x_48 : List api_Schema) (x_52 : Int) (v_49 : Value) (cs_50 : List Value), law05_SchemaTurned.l1 y_1 x_11 k_l1 x_48 x_52 = some true ∧ Reps ty_api_Schema R cs_50 x_48 ∧ Kn 84 a [(0, v_9), (3, .bool y_1), (4, v_49), (5, .int .i64 x_52)] ∧ St [] w0 w R [.row 26 3 v_49 x_48.length cs_50]) (((IntKind.i64.wrap ((x_11.length : Int) - 1)) - 0).toNat + 2) ?_ ?_
    · have hS := hS.row_lit (size := 3) (m := 0) rfl (by decide)
      have hq_76 : Reps ty_api_Schema R [] ([] : List api_Schema) := (Reps.nil _ _)
      exact ⟨[], (IntKind.i64.wrap ((x_11.length : Int) - 1)), _, _, H, hq_76, hK.sub (all_cons rfl (all_cons rfl (all_cons rfl (all_cons rfl (all_nil))))), hS⟩
    · rintro k_l1 a w ⟨x_48, x_52, v_49, cs_50, H, hq_51, hK, hS⟩
      cases k_l1 with
      | zero => cases H
      | succ k_l1 =>
      rw [law05_SchemaTurned.l1.eq_2] at H
      refine wp_seq ?_
      refine wp_seq ?_
      refine wp_region_lit ?_
      refine sl hK (by decide) rfl rfl (r_move hK rfl) fun a hK => ?_
      refine sl hK (by decide) rfl rfl (r_ibin hK rfl rfl rfl) fun a hK => ?_
      refine wpList_nil ?_
      refine wp_cond_split (hK.ev rfl) (fun (hb_77 : (decide (x_52 ≥ 0)) = true) => ?_) (fun (hb_77 : (decide (x_52 ≥ 0)) = false) => ?_)
      · rw [ifb_t hb_77] at H
        refine wp_skip ?_
        refine wp_seq ?_
        refine wp_block ?_
        refine wp_region_lit ?_
        refine sl hK (by decide) rfl rfl (r_move hK rfl) fun a hK => ?_
        refine sl hK (by decide) rfl rfl (r_move hK rfl) fun a hK => ?_
        refine sl hK (by decide) rfl rfl (r_move hK rfl) fun a hK => ?_
        obtain ⟨y_78, h_79, H⟩ := bind_some H
        obtain ⟨b_80, o_81, c_82, cs_83, hv_84, hr_85, hc_86, h_790, h_791⟩ := hs_10.ix h_79
        obtain ⟨v_87, v_89, rfl, hs_88, hs_90⟩ := hr_85
        refine sl hK (by decide) rfl rfl (r_indexAddr_R Try.underlying22 Try.sizeOf26 hv_84 h_790 h_791 hK rfl rfl) fun a hK => ?_
        refine sl hK (by decide) rfl rfl (r_loadA (cs := [.string y_78.Name, v_87, v_89]) Try.isAgg26 Try.sizeOf26 rfl hK rfl (fun j v hv => hS.sub.cell (hc_86 j v hv))) fun a hK => ?_
        refine sl_buildSliceF (zc := [.string (⟨#[]⟩ : ByteArray), .slice none 0 0, .slice none 0 0]) (ps := [(0, .agg #[.string y_78.Name, v_87, v_89])]) (c := [.string y_78.Name, v_87, v_89]) [[.string y_78.Name, v_87, v_89]] Try.underlying22 Try.sizeOf26 Try.zeroValue26 rfl (pc_cons rfl pc_nil) rfl rfl (Nat.le_of_ble_eq_true rfl) rfl (all_cons rfl (all_nil)) rfl hS hK (by decide) rfl fun a w b_91 hS hK => ?_
        obtain ⟨y_92, h_93, H⟩ := bind_some H
        have hS := hS.pk1
        refine sl_append_L (ty := ty_api_Schema) (ys := [y_78]) elT22 (by decide) rfl hq_51 rfl (Reps.cons (show Ty.rep ty_api_Schema _ [.string y_78.Name, v_87, v_89] y_78 from ⟨_, _, rfl, hs_88, hs_90⟩) (Reps.nil _ _)) rfl h_93 hS hK (by decide) rfl rfl rfl fun a w v_94 cs_95 hq_96 hS hK => ?_
        refine sl hK (by decide) rfl rfl (r_assign hK rfl) fun a hK => ?_
        refine wpList_nil ?_
        refine wp_region_lit ?_
        refine sl hK (by decide) rfl rfl (r_move hK rfl) fun a hK => ?_
        refine sl hK (by decide) rfl rfl (r_ibin hK rfl rfl rfl) fun a hK => ?_
        refine sl hK (by decide) rfl rfl (r_assign hK rfl) fun a hK => ?_
        refine wpList_nil ?_
        exact ⟨_, Nat.lt_succ_self _, y_92, (IntKind.i64.wrap (x_52 - 1)), _, _, H, hq_96, hK.sub (all_cons rfl (all_cons rfl (all_cons rfl (all_cons rfl (all_nil))))), hS⟩
      · rw [ifb_f hb_77] at H
        refine wp_exit ?_
        refine wp_seq ?_
        refine wp_seq ?_
        refine wp_region_lit ?_
        refine sl hK (by decide) rfl rfl (r_move hK rfl) fun a hK => ?_
        obtain ⟨y_98, h_99, H⟩ := bind_some H
        refine sl_callV Try.call17 hS hK (by decide) rfl rfl rfl (schema_Check.calls x_11 (lentOf_sub [] _) hS.sub hs_10 (Hp.cell_le (hS.raLe0 hRA nil_not) hG) h_99) fun a w hS hK => ?_
        refine sl hK (by decide) rfl rfl (r_move hK rfl) fun a hK => ?_
        obtain ⟨R_100, hS, hl_102, hs_101⟩ := hS.fz_row hq_51 rfl rfl
        have hRL := hRL.trans hl_102
        obtain ⟨y_103, h_104, H⟩ := bind_some H
        refine sl_callV Try.call17 hS hK (by decide) rfl rfl rfl (schema_Check.calls x_48 (lentOf_sub [] _) hS.sub hs_101 (Hp.cell_le (hS.raLe0 hRA nil_not) hG) h_104) fun a w hS hK => ?_
        refine sl hK (by decide) rfl rfl (r_ibin hK rfl rfl rfl) fun a hK => ?_
        refine wpList_nil ?_
        refine wp_cond_split (hK.ev rfl) (fun (hb_105 : (y_98 != y_103) = true) => ?_) (fun (hb_105 : (y_98 != y_103) = false) => ?_)
        · rw [ifb_t hb_105] at H
          refine wp_seq ?_
          refine wp_region_lit ?_
          refine sl hK (by decide) rfl rfl (r_assign hK rfl) fun a hK => ?_
          refine wpList_nil ?_
          exact absurd (Option.some.inj H) (by decide)
        · rw [ifb_f hb_105] at H
          refine wp_skip ?_
          refine wp_seq ?_
          refine wp_seq ?_
          refine wp_region_lit ?_
          refine sl hK (by decide) rfl rfl (r_assign hK rfl) fun a hK => ?_
          refine wpList_nil ?_
          refine wp_block ?_
          refine wp_loop_k (fun k_l2 a w => ∃ (x_216 : Int) (R_217 : Hp), law05_SchemaTurned.l2 y_1 x_11 x_48 k_l2 x_216 = some true ∧ RLe [] w0 R_100 R_217 ∧ Kn 84 a [(0, v_9), (3, .bool y_1), (4, v_49), (6, .int .i64 x_216)] ∧ St [] w0 w R_217 []) (((x_11.length : Int) - 0).toNat + 1) ?_ ?_
          · exact ⟨0, _, H, (RLe.refl _ _), hK.sub (all_cons rfl (all_cons rfl (all_cons rfl (all_cons rfl (all_nil))))), hS⟩
          · rintro k_l2 a w ⟨x_216, R_217, H, hl_218, hK, hS⟩
            cases k_l2 with
            | zero => cases H
            | succ k_l2 =>
            rw [law05_SchemaTurned.l2.eq_2] at H
            have hRL := hRL.trans hl_218
            refine wp_seq ?_
            refine wp_seq ?_
            refine wp_mid (fun a w => ∃ (x_334 : Bool), law05_SchemaTurned.j3 (law05_SchemaTurned.l2 y_1 x_11 x_48 k_l2) y_1 x_11 x_48 x_216 x_334 = some true ∧ Kn 84 a [(0, v_9), (3, .bool y_1), (4, v_49), (6, .int .i64 x_216), (44, .bool x_334)] ∧ St [] w0 w R_217 []) ?_ ?_
            · refine wp_region_lit ?_
              refine sl hK (by decide) rfl rfl (r_move hK rfl) fun a hK => ?_
              refine sl hK (by decide) rfl rfl (r_move hK rfl) fun a hK => ?_
              refine sl hK (by decide) rfl rfl (r_len_R Try.underlying22 hs_10 hK rfl) fun a hK => ?_
              refine sl hK (by decide) rfl rfl (r_ibin hK rfl rfl rfl) fun a hK => ?_
              refine sl hK (by decide) rfl rfl (r_move hK rfl) fun a hK => ?_
              rcases or_b (decide (x_216 < (x_11.length : Int))) with hb_336 | hb_336
              · rw [ifb_t hb_336] at H
                refine sl hK (by decide) (wtt hb_336) rfl (r_move hK rfl) fun a hK => ?_
                obtain ⟨y_337, h_338, H⟩ := bind_some H
                refine sl_callV Try.call17 hS hK (by decide) (wtt hb_336) rfl rfl (schema_Check.calls x_11 (lentOf_sub [] _) hS.sub (hs_10.mono (hl_102.le.trans hl_218.le)) (Hp.cell_le (hS.raLe0 hRA nil_not) hG) h_338) fun a w hS hK => ?_
                refine sl hK (by decide) (wtt hb_336) rfl (r_ibin hK rfl rfl rfl) fun a hK => ?_
                refine sl hK (by decide) rfl rfl (r_pick_t hb_336 hK rfl rfl) fun a hK => ?_
                refine wpList_nil ?_
                exact ⟨(y_337 == 0), H, hK.sub (all_cons rfl (all_cons rfl (all_cons rfl (all_cons rfl (all_cons rfl (all_nil)))))), hS⟩
              · rw [ifb_f hb_336] at H
                refine sl_skip hK (by decide) (wtf hb_336) rfl fun a hK => ?_
                refine sl_skip hK (by decide) (wtf hb_336) rfl fun a hK => ?_
                refine sl_skip hK (by decide) (wtf hb_336) rfl fun a hK => ?_
                refine sl hK (by decide) rfl rfl (r_pick_f hb_336 hK rfl rfl) fun a hK => ?_
                refine wpList_nil ?_
                exact ⟨false, H, hK.sub (all_cons rfl (all_cons rfl (all_cons rfl (all_cons rfl (all_cons rfl (all_nil)))))), hS⟩
            · rintro a w ⟨x_334, H, hK, hS⟩
              unfold law05_SchemaTurned.j3 at H
              refine wp_cond_split (hK.ev rfl) (fun (hb_339 : x_334 = true) => ?_) (fun (hb_339 : x_334 = false) => ?_)
              · rw [ifb_t hb_339] at H
                refine wp_skip ?_
                refine wp_seq ?_
                refine wp_block ?_
                refine wp_seq ?_
                refine wp_region_lit ?_
                refine sl hK (by decide) rfl rfl (r_move hK rfl) fun a hK => ?_
                refine sl hK (by decide) rfl rfl (r_move hK rfl) fun a hK => ?_
                refine sl hK (by decide) rfl rfl (r_move hK rfl) fun a hK => ?_
                obtain ⟨y_340, h_341, H⟩ := bind_some H
                obtain ⟨b_342, o_343, c_344, cs_345, hv_346, hr_347, hc_348, h_3410, h_3411⟩ := hs_10.ix h_341
                obtain ⟨v_349, v_351, rfl, hs_350, hs_352⟩ := hr_347
                refine sl hK (by decide) rfl rfl (r_indexAddr_R Try.underlying22 Try.sizeOf26 hv_346 h_3410 h_3411 hK rfl rfl) fun a hK => ?_
                refine sl hK (by decide) rfl rfl (r_fieldAddr Try.underlying26 rfl Try.sizeOf9 hK rfl) fun a hK => ?_
                refine sl hK (by decide) rfl rfl (r_load Try.isAgg9 hK rfl ((hS.sub.le (hl_102.le.trans hl_218.le)).cell (hc_348 0 _ rfl))) fun a hK => ?_
                obtain ⟨y_353, h_354, H⟩ := bind_some H
                refine sl_call Try.call9 hK (by decide) rfl rfl rfl (schema_Find.calls x_48 y_340.Name hS.sub (hs_101.mono hl_218.le) h_354) fun a v_ w hv_ hK => ?_
                obtain ⟨R_355, v_357, v_359, hv_, hr_, hl_356, hs_358, hs_360⟩ := hv_
                have hv_ := hv_.symm
                subst hv_
                obtain ⟨hS, hl_356⟩ := hS.sp0.back hr_ hl_356
                have hS := hS.un0
                have hRL := hRL.trans hl_356
                refine sl hK (by decide) rfl rfl (r_move hK rfl) fun a hK => ?_
                refine sl hK (by decide) rfl rfl (r_extract hK rfl rfl) fun a hK => ?_
                refine sl hK (by decide) rfl rfl (r_extract hK rfl rfl) fun a hK => ?_
                refine sl_alloc Try.zeroValue26 hS hK (by decide) rfl rfl fun a w b_361 hS hK => ?_
                refine sl_storeA (vs := [.string y_353.1.Name, v_357, v_359]) (c' := [.string y_353.1.Name, v_357, v_359]) Try.sizeOf26 hS hK rfl rfl rfl rfl (all_cons rfl (all_cons hs_358.one (all_cons hs_360.one (all_nil)))) (Nat.le_of_ble_eq_true rfl) rfl fun a w hS hK => ?_
                refine sl hK (by decide) rfl rfl (r_assign hK rfl) fun a hK => ?_
                refine wpList_nil ?_
                refine wp_seq ?_
                refine parT_region (C := fun w => St [] w0 w R_355 [.cells b_361 [.string y_353.1.Name, v_357, v_359] 26]) 5 [(0, true), (1, true), (2, true), (3, true), (4, true)] mixed (by kernel_rfl) hS (fun w hS => hS) fun w hS => ?_
                refine sp (k := 0) rfl hK (by decide) rfl rfl (fun w hS => r_loadA (cs := [.string y_353.1.Name, v_357, v_359]) Try.isAgg26 Try.sizeOf26 rfl hK rfl (hS.cells_of (m := 3) (.head _) rfl)) fun a hK => ?_
                refine sp (k := 1) rfl hK (by decide) rfl rfl (fun w hS => r_move hK rfl) fun a hK => ?_
                refine sp (k := 2) rfl hK (by decide) rfl rfl (fun w hS => r_move hK rfl) fun a hK => ?_
                obtain ⟨y_377, h_378, H⟩ := bind_some H
                obtain ⟨b_379, o_380, c_381, cs_382, hv_383, hr_384, hc_385, h_3780, h_3781⟩ := hs_10.ix h_378
                obtain ⟨v_386, v_388, rfl, hs_387, hs_389⟩ := hr_384
                refine sp (k := 3) rfl hK (by decide) rfl rfl (fun w hS => r_indexAddr_R Try.underlying22 Try.sizeOf26 hv_383 h_3780 h_3781 hK rfl rfl) fun a hK => ?_
                refine sp (k := 4) rfl hK (by decide) rfl rfl (fun w hS => r_loadA (cs := [.string y_377.Name, v_386, v_388]) Try.isAgg26 Try.sizeOf26 rfl hK rfl (fun j v hv => (hS.sub.le (hl_102.le.trans (hl_218.le.trans hl_356.le))).cell (hc_385 j v hv))) fun a hK => ?_
                refine thenL_nil ?_
                obtain ⟨y_390, h_391, H⟩ := bind_some H
                refine sl_callV Try.call11 hS hK (by decide) rfl rfl rfl (law05_same.calls y_353.1 y_377 (lentOf_sub [] _) (hs_358.mono hS.rLe0) (hs_360.mono hS.rLe0) (hs_387.mono ((hl_102.le.trans (hl_218.le.trans hl_356.le)).trans hS.rLe0)) (hs_389.mono ((hl_102.le.trans (hl_218.le.trans hl_356.le)).trans hS.rLe0)) h_391) fun a w hS hK => ?_
                refine sl hK (by decide) rfl rfl (r_assign hK rfl) fun a hK => ?_
                refine wpList_nil (NoP_nil ?_)
                refine wp_seq ?_
                refine wp_mid (fun a w => ∃ (x_414 : Bool) (R_415 : Hp), law05_SchemaTurned.j4 (law05_SchemaTurned.l2 y_1 x_11 x_48 k_l2) x_11 x_216 x_414 = some true ∧ RLe [] w0 R_355 R_415 ∧ Kn 84 a [(0, v_9), (3, .bool y_1), (4, v_49), (6, .int .i64 x_216), (82, .bool x_414)] ∧ St [] w0 w R_415 []) ?_ ?_
                · refine parT_region (C := fun w => St [] w0 w R_355 [.cells b_361 [.string y_353.1.Name, v_357, v_359] 26]) 18 [(0, true), (1, true), (2, true), (3, true), (4, true), (5, true), (6, true), (7, true), (10, true), (11, true), (12, true), (13, true), (14, true), (15, true), (16, true), (17, true), (8, false), (9, true)] mixed (by kernel_rfl) hS (fun w hS => hS) fun w hS => ?_
                  refine sp (k := 0) rfl hK (by decide) rfl rfl (fun w hS => r_move hK rfl) fun a hK => ?_
                  refine sp (k := 1) rfl hK (by decide) rfl rfl (fun w hS => r_un hK rfl (u_not _)) fun a hK => ?_
                  refine sp (k := 2) rfl hK (by decide) rfl rfl (fun w hS => r_move hK rfl) fun a hK => ?_
                  rcases or_b (!y_353.2) with hb_428 | hb_428
                  · rw [ifb_t hb_428] at H
                    refine sp_skip (k := 3) rfl hK (by decide) (wft hb_428) rfl fun a hK => ?_
                    refine sp_skip (k := 4) rfl hK (by decide) (wft hb_428) rfl fun a hK => ?_
                    refine sp (k := 5) rfl hK (by decide) rfl rfl (fun w hS => r_pick_t hb_428 hK rfl rfl) fun a hK => ?_
                    refine sp (k := 6) rfl hK (by decide) rfl rfl (fun w hS => r_move hK rfl) fun a hK => ?_
                    refine sp_skip (k := 7) rfl hK (by decide) rfl rfl fun a hK => ?_
                    refine sp_skip (k := 10) rfl hK (by decide) rfl rfl fun a hK => ?_
                    refine sp_skip (k := 11) rfl hK (by decide) rfl rfl fun a hK => ?_
                    refine sp_skip (k := 12) rfl hK (by decide) rfl rfl fun a hK => ?_
                    refine sp_skip (k := 13) rfl hK (by decide) rfl rfl fun a hK => ?_
                    refine sp_skip (k := 14) rfl hK (by decide) rfl rfl fun a hK => ?_
                    refine sp_skip (k := 15) rfl hK (by decide) rfl rfl fun a hK => ?_
                    refine sp_skip (k := 16) rfl hK (by decide) rfl rfl fun a hK => ?_
                    refine sp_skip (k := 17) rfl hK (by decide) rfl rfl fun a hK => ?_
                    refine spw (k := 8) rfl rfl hS ?_
                    refine sl_skip hK (by decide) rfl rfl fun a hK => ?_
                    refine parK_nil hS ?_
                    refine sp_skip (k := 9) rfl hK (by decide) rfl rfl fun a hK => ?_
                    refine thenL_nil ?_
                    refine sl_skip hK (by decide) rfl rfl fun a hK => ?_
                    refine sl hK (by decide) rfl rfl (r_pick hK rfl rfl rfl) fun a hK => ?_
                    refine wpList_nil (NoP_nil ?_)
                    exact ⟨true, _, H, (RLe.refl _ _), hK.sub (all_cons rfl (all_cons rfl (all_cons rfl (all_cons rfl (all_cons rfl (all_nil)))))), hS.trunc 0⟩
                  · rw [ifb_f hb_428] at H
                    refine sp (k := 3) rfl hK (by decide) (wff hb_428) rfl (fun w hS => r_move hK rfl) fun a hK => ?_
                    refine sp (k := 4) rfl hK (by decide) (wff hb_428) rfl (fun w hS => r_un hK rfl (u_not _)) fun a hK => ?_
                    refine sp (k := 5) rfl hK (by decide) rfl rfl (fun w hS => r_pick_f hb_428 hK rfl rfl) fun a hK => ?_
                    refine sp (k := 6) rfl hK (by decide) rfl rfl (fun w hS => r_move hK rfl) fun a hK => ?_
                    rcases or_b (!y_390) with hb_429 | hb_429
                    · rw [ifb_t hb_429] at H
                      refine sp_skip (k := 7) rfl hK (by decide) (wft hb_429) rfl fun a hK => ?_
                      refine sp_skip (k := 10) rfl hK (by decide) (wft hb_429) rfl fun a hK => ?_
                      refine sp_skip (k := 11) rfl hK (by decide) (wft hb_429) rfl fun a hK => ?_
                      refine sp_skip (k := 12) rfl hK (by decide) (wft hb_429) rfl fun a hK => ?_
                      refine sp_skip (k := 13) rfl hK (by decide) (wft hb_429) rfl fun a hK => ?_
                      refine sp_skip (k := 14) rfl hK (by decide) (wft hb_429) rfl fun a hK => ?_
                      refine sp_skip (k := 15) rfl hK (by decide) (wft hb_429) rfl fun a hK => ?_
                      refine sp_skip (k := 16) rfl hK (by decide) (wft hb_429) rfl fun a hK => ?_
                      refine sp_skip (k := 17) rfl hK (by decide) (wft hb_429) rfl fun a hK => ?_
                      refine spw (k := 8) rfl rfl hS ?_
                      refine sl_skip hK (by decide) (wft hb_429) rfl fun a hK => ?_
                      refine parK_nil hS ?_
                      refine sp_skip (k := 9) rfl hK (by decide) (wft hb_429) rfl fun a hK => ?_
                      refine thenL_nil ?_
                      refine sl_skip hK (by decide) (wft hb_429) rfl fun a hK => ?_
                      refine sl hK (by decide) rfl rfl (r_pick_t hb_429 hK rfl rfl) fun a hK => ?_
                      refine wpList_nil (NoP_nil ?_)
                      exact ⟨true, _, H, (RLe.refl _ _), hK.sub (all_cons rfl (all_cons rfl (all_cons rfl (all_cons rfl (all_cons rfl (all_nil)))))), hS.trunc 0⟩
                    · rw [ifb_f hb_429] at H
                      refine sp (k := 7) rfl hK (by decide) (wff hb_429) rfl (fun w hS => r_loadA (cs := [.string y_353.1.Name, v_357, v_359]) Try.isAgg26 Try.sizeOf26 rfl hK rfl (hS.cells_of (m := 3) (.head _) rfl)) fun a hK => ?_
                      refine sp (k := 10) rfl hK (by decide) (wff hb_429) rfl (fun w hS => r_fieldAddr Try.underlying26 rfl Try.sizeOf24 hK rfl) fun a hK => ?_
                      refine sp (k := 11) rfl hK (by decide) (wff hb_429) rfl (fun w hS => r_load Try.isAgg24 hK rfl (hS.cell (.head _) rfl)) fun a hK => ?_
                      refine sp (k := 12) rfl hK (by decide) (wff hb_429) rfl (fun w hS => r_len_R Try.underlying24 hs_358 hK rfl) fun a hK => ?_
                      refine sp (k := 13) rfl hK (by decide) (wff hb_429) rfl (fun w hS => r_ibin hK rfl rfl rfl) fun a hK => ?_
                      refine sp (k := 14) rfl hK (by decide) (wff hb_429) rfl (fun w hS => r_fieldAddr Try.underlying26 rfl Try.sizeOf24 hK rfl) fun a hK => ?_
                      refine sp (k := 15) rfl hK (by decide) (wff hb_429) rfl (fun w hS => r_load Try.isAgg24 hK rfl (hS.cell (.head _) rfl)) fun a hK => ?_
                      refine sp (k := 16) rfl hK (by decide) (wff hb_429) rfl (fun w hS => r_len_R Try.underlying24 hs_360 hK rfl) fun a hK => ?_
                      refine sp (k := 17) rfl hK (by decide) (wff hb_429) rfl (fun w hS => r_ibin hK rfl rfl rfl) fun a hK => ?_
                      refine spw (k := 8) rfl rfl hS ?_
                      obtain ⟨y_430, h_431, H⟩ := bind_some H
                      refine sl_call Try.call13 hK (by decide) (wff hb_429) rfl rfl (schema_Cols.calls y_353.1 hS.sub hs_358 hs_360 h_431) fun a v_ w hv_ hK => ?_
                      obtain ⟨R_432, v_435, cs_436, hv_, hr_, hl_433, hq_437⟩ := hv_
                      have hv_ := hv_.symm
                      subst hv_
                      obtain ⟨hS, hl_433⟩ := hS.sp0.back hr_ hl_433
                      have hS := hS.un1
                      have hRL := hRL.trans hl_433
                      refine parK_nil ((hS.pk1.trunc 1).lower hl_433.le) ?_
                      obtain ⟨_, _, hv_438⟩ := hS.row_hdr (.head _)
                      refine sp (k := 9) rfl hK (by decide) (wff hb_429) rfl (fun w hS => r_len_V Try.underlying24 hv_438 hK rfl) fun a hK => ?_
                      refine thenL_nil ?_
                      refine sl hK (by decide) (wff hb_429) rfl (r_ibin hK rfl rfl rfl) fun a hK => ?_
                      refine sl hK (by decide) rfl rfl (r_pick_f hb_429 hK rfl rfl) fun a hK => ?_
                      refine wpList_nil (NoP_nil ?_)
                      exact ⟨((y_430.length : Int) != (IntKind.i64.wrap ((IntKind.i64.wrap (1 + (y_353.1.Keys.length : Int))) + (y_353.1.Vals.length : Int)))), _, H, hl_433, hK.sub (all_cons rfl (all_cons rfl (all_cons rfl (all_cons rfl (all_cons rfl (all_nil)))))), hS.trunc 0⟩
                · rintro a w ⟨x_414, R_415, H, hl_416, hK, hS⟩
                  unfold law05_SchemaTurned.j4 at H
                  have hRL := hRL.trans hl_416
                  refine wp_cond_split (hK.ev rfl) (fun (hb_439 : x_414 = true) => ?_) (fun (hb_439 : x_414 = false) => ?_)
                  · rw [ifb_t hb_439] at H
                    refine wp_seq ?_
                    refine wp_region_lit ?_
                    refine sl hK (by decide) rfl rfl (r_assign hK rfl) fun a hK => ?_
                    refine wpList_nil ?_
                    exact absurd (Option.some.inj H) (by decide)
                  · rw [ifb_f hb_439] at H
                    refine wp_skip ?_
                    refine wp_region_lit ?_
                    refine sl hK (by decide) rfl rfl (r_move hK rfl) fun a hK => ?_
                    refine sl hK (by decide) rfl rfl (r_ibin hK rfl rfl rfl) fun a hK => ?_
                    refine sl hK (by decide) rfl rfl (r_assign hK rfl) fun a hK => ?_
                    refine wpList_nil ?_
                    exact ⟨_, Nat.lt_succ_self _, (IntKind.i64.wrap (x_216 + 1)), _, H, (hl_218.trans (hl_356.trans hl_416)), hK.sub (all_cons rfl (all_cons rfl (all_cons rfl (all_cons rfl (all_nil))))), hS⟩
              · rw [ifb_f hb_339] at H
                refine wp_exit ?_
                refine wp_seq ?_
                refine wp_region_lit ?_
                refine sl hK (by decide) rfl rfl (r_move hK rfl) fun a hK => ?_
                refine sl hK (by decide) rfl rfl (r_assign hK rfl) fun a hK => ?_
                refine wpList_nil ?_
                have hr_ := Option.some.inj H
                refine wp_ret ?_
                repeat (first | refine ret_then ?_ | refine ret_block ?_ | refine ret_scope ?_)
                exact ret_1 Try.results6 hK (rv_tmp hK rfl) ⟨congrArg (fun b => Ending.returned (Value.bool b)) hr_, hS.bel⟩

end Go.Proofs.Ytiegghohcghmkaa.M
