/- Each Go function of the laws answers as its plain Lean function tells, wherever that tells something. Printed by wip/eng/gen.py. -/
import Derived.Test.YtojfckndloelpaaWalk2
namespace Go.Proofs.Ytojfckndloelpaa.M
open Go Go.Eng Go.Proofs Go.RowKit
set_option linter.unusedVariables false
set_option linter.unusedSimpArgs false

/-! ### catchment/catchmentlaw02.TableOrder: function 5 -/
set_option maxHeartbeats 4000000 in
set_option maxRecDepth 100000 in
theorem law02_TableOrder.calls (a0 : api_Table) (a1 : Int) {w0 : World} {R : Hp} {v0_0 : Value} {v0_1 : Value} (hR : R.sub w0) (h0_0 : SlR ty_api_Col R v0_0 a0.Cols) (h0_1 : SlR (tySl ty_api_Value) R v0_1 a0.Rows) (H : law02_TableOrder a0 a1 = some true) : CallsV Try.prog 5 #[.agg #[v0_0, v0_1], .int .i64 a1] w0 (.bool true) := by
  unfold law02_TableOrder at H
  refine enter (args := [.agg #[v0_0, v0_1], .int .i64 a1]) Try.func5 rfl Try.ntmps5 rfl fun a hK => ?_
  have hS := St.init hR
  have hRL := RLe.refl (M := []) w0 R
  refine wp_seq ?_
  refine wp_region_lit ?_
  refine sl_box hS hK (by decide) rfl rfl (c := [v0_0, v0_1]) rfl fun a w b_1 hS hK => ?_
  refine sl hK (by decide) rfl rfl (r_assign hK rfl) fun a hK => ?_
  refine wpList_nil ?_
  refine wp_seq ?_
  refine wp_region_lit ?_
  obtain ⟨y_2, h_3, H⟩ := bind_some H
  refine sl_callV Try.call11 hS hK (by decide) rfl rfl rfl (law02_shown.calls h_3 _) fun a w hS hK => ?_
  refine sl hK (by decide) rfl rfl (r_assign hK rfl) fun a hK => ?_
  refine wpList_nil ?_
  refine wp_seq ?_
  refine wp_region_lit ?_
  refine sl hK (by decide) rfl rfl (r_loadA (cs := [v0_0, v0_1]) Try.isAgg25 Try.sizeOf25 rfl hK rfl (hS.cells_of (m := 2) (.head _) rfl)) fun a hK => ?_
  obtain ⟨y_4, h_5, H⟩ := bind_some H
  refine sl_call Try.call12 hK (by decide) rfl rfl rfl (law02_cut.calls a0 hS.sub h0_0 h0_1 h_5) fun a v_ w hv_ hK => ?_
  obtain ⟨R_6, v_8, v_10, hv_, hr_, hl_7, hs_9, hs_11⟩ := hv_
  have hv_ := hv_.symm
  subst hv_
  obtain ⟨hS, hl_7⟩ := hS.sp0.back hr_ hl_7
  have hS := hS.un0
  have hRL := hRL.trans hl_7
  refine sl_storeA (vs := [v_8, v_10]) (c' := [v_8, v_10]) Try.sizeOf25 hS hK rfl rfl rfl rfl (all_cons hs_9.one (all_cons hs_11.one (all_nil))) (Nat.le_of_ble_eq_true rfl) rfl fun a w hS hK => ?_
  refine wpList_nil ?_
  refine wp_seq ?_
  refine wp_seq ?_
  refine wp_region_lit ?_
  refine sl hK (by decide) rfl rfl (r_move hK rfl) fun a hK => ?_
  refine sl hK (by decide) rfl rfl (r_ibin hK rfl rfl rfl) fun a hK => ?_
  refine wpList_nil ?_
  refine wp_mid (fun a w => ∃ (x_13 : Int), law02_TableOrder.j0 y_2 y_4 x_13 = some true ∧ Kn 87 a [(1, .int .i64 x_13), (2, .pointer (some ⟨b_1, 0, none⟩)), (5, .bool y_2)] ∧ St [] w0 w R_6 [.cells b_1 [v_8, v_10] 25]) ?_ ?_
  · refine wp_cond_split (hK.ev rfl) (fun (hb_15 : (decide (a1 < 0)) = true) => ?_) (fun (hb_15 : (decide (a1 < 0)) = false) => ?_)
    · rw [ifb_t hb_15] at H
      refine wp_region_lit ?_
      refine sl hK (by decide) rfl rfl (r_move hK rfl) fun a hK => ?_
      refine sl hK (by decide) rfl rfl (r_ibin hK rfl rfl rfl) fun a hK => ?_
      refine sl hK (by decide) rfl rfl (r_un hK rfl (u_neg _ _)) fun a hK => ?_
      refine sl hK (by decide) rfl rfl (r_assign hK rfl) fun a hK => ?_
      refine wpList_nil ?_
      exact ⟨(IntKind.i64.wrap (0 - (IntKind.i64.wrap (a1 + 1)))), H, hK.sub (all_cons rfl (all_cons rfl (all_cons rfl (all_nil)))), hS⟩
    · rw [ifb_f hb_15] at H
      refine wp_skip ?_
      exact ⟨a1, H, hK.sub (all_cons rfl (all_cons rfl (all_cons rfl (all_nil)))), hS⟩
  · rintro a w ⟨x_13, H, hK, hS⟩
    unfold law02_TableOrder.j0 at H
    refine wp_seq ?_
    refine wp_region_lit ?_
    refine sl hK (by decide) rfl rfl (r_assign hK rfl) fun a hK => ?_
    refine wpList_nil ?_
    refine wp_seq ?_
    refine wp_seq ?_
    refine wp_region_lit ?_
    refine sl hK (by decide) rfl rfl (r_fieldAddr Try.underlying25 rfl Try.sizeOf23 hK rfl) fun a hK => ?_
    refine sl hK (by decide) rfl rfl (r_load Try.isAgg23 hK rfl (hS.cell (.head _) rfl)) fun a hK => ?_
    refine sl hK (by decide) rfl rfl (r_len_R Try.underlying23 hs_11 hK rfl) fun a hK => ?_
    refine sl hK (by decide) rfl rfl (r_ibin hK rfl rfl rfl) fun a hK => ?_
    refine wpList_nil ?_
    refine wp_mid (fun a w => ∃ (x_18 : Int), law02_TableOrder.j1 y_2 y_4 x_18 = some true ∧ Kn 87 a [(2, .pointer (some ⟨b_1, 0, none⟩)), (5, .bool y_2), (6, .int .i64 x_18)] ∧ St [] w0 w R_6 [.cells b_1 [v_8, v_10] 25]) ?_ ?_
    · refine wp_cond_split (hK.ev rfl) (fun (hb_20 : (decide ((y_4.Rows.length : Int) > 0)) = true) => ?_) (fun (hb_20 : (decide ((y_4.Rows.length : Int) > 0)) = false) => ?_)
      · rw [ifb_t hb_20] at H
        refine wp_region_lit ?_
        refine sl hK (by decide) rfl rfl (r_move hK rfl) fun a hK => ?_
        refine sl hK (by decide) rfl rfl (r_fieldAddr Try.underlying25 rfl Try.sizeOf23 hK rfl) fun a hK => ?_
        refine sl hK (by decide) rfl rfl (r_load Try.isAgg23 hK rfl (hS.cell (.head _) rfl)) fun a hK => ?_
        refine sl hK (by decide) rfl rfl (r_len_R Try.underlying23 hs_11 hK rfl) fun a hK => ?_
        rcases or_b ((y_4.Rows.length : Int) != 0) with hn_21 | hn_21
        · rw [ifb_t hn_21] at H
          refine sl hK (by decide) rfl rfl (r_rem hK rfl rfl (ne_of_bne hn_21)) fun a hK => ?_
          refine sl hK (by decide) rfl rfl (r_assign hK rfl) fun a hK => ?_
          refine wpList_nil ?_
          exact ⟨(x_13.tmod (y_4.Rows.length : Int)), H, hK.sub (all_cons rfl (all_cons rfl (all_cons rfl (all_nil)))), hS⟩
        · rw [ifb_f hn_21] at H
          cases H
      · rw [ifb_f hb_20] at H
        refine wp_skip ?_
        exact ⟨0, H, hK.sub (all_cons rfl (all_cons rfl (all_cons rfl (all_nil)))), hS⟩
    · rintro a w ⟨x_18, H, hK, hS⟩
      unfold law02_TableOrder.j1 at H
      refine wp_seq ?_
      refine wp_mid (fun a w => ∃ (x_160 : List (List api_Value)) (v_161 : Value) (cs_162 : List Value) (b_158 : Nat), law02_TableOrder.j2 y_2 y_4 x_160 = some true ∧ Reps (tySl ty_api_Value) R_6 cs_162 x_160 ∧ Kn 87 a [(2, .pointer (some ⟨b_1, 0, none⟩)), (5, .bool y_2), (7, .pointer (some ⟨b_158, 0, none⟩))] ∧ St [] w0 w R_6 [.cells b_1 [v_8, v_10] 25, .row 35 1 v_161 x_160.length cs_162, .cells b_158 [v_8, v_161] 25]) ?_ ?_
      · refine treeT_region (C := fun w => St [] w0 w R_6 [.cells b_1 [v_8, v_10] 25]) 15 (.br [(0, true), (1, true), (3, true), (4, true), (5, true), (6, true), (8, true), (9, true), (10, true), (11, true)] 2 (.br [] 7 (.br [] 12 (.list [(13, true), (14, false)]) 14 (.list [(12, false), (13, true)])) 14 (.list [(7, false), (12, false), (13, true)])) 14 (.list [(2, false), (7, false), (12, false), (13, true)])) mixed (by kernel_rfl) hS (fun w hS => hS) fun w hS => ?_
        refine tree_fork ?_
        refine sp (k := 0) rfl hK (by decide) rfl rfl (fun w hS => r_fieldAddr Try.underlying25 rfl Try.sizeOf22 hK rfl) fun a hK => ?_
        refine sp (k := 1) rfl hK (by decide) rfl rfl (fun w hS => r_load Try.isAgg22 hK rfl (hS.cell (.head _) rfl)) fun a hK => ?_
        refine sp (k := 3) rfl hK (by decide) rfl rfl (fun w hS => r_fieldAddr Try.underlying25 rfl Try.sizeOf23 hK rfl) fun a hK => ?_
        refine sp (k := 4) rfl hK (by decide) rfl rfl (fun w hS => r_load Try.isAgg23 hK rfl (hS.cell (.head _) rfl)) fun a hK => ?_
        refine sp (k := 5) rfl hK (by decide) rfl rfl (fun w hS => r_move hK rfl) fun a hK => ?_
        obtain ⟨y_233, h_234, H⟩ := bind_some H
        obtain ⟨v_235, hs_236, hr_237⟩ := r_slice_R (x := .tmp 32) (lo := some (.tmp 33)) (hi := none) Try.underlying23 Try.sizeOf35 hs_11 h_234 hK rfl ⟨_, rfl⟩ rfl
        refine sp (k := 6) rfl hK (by decide) rfl rfl (fun w hS => hr_237 _ _ _ _ _ _ _ hK) fun a hK => ?_
        refine sp (k := 8) rfl hK (by decide) rfl rfl (fun w hS => r_fieldAddr Try.underlying25 rfl Try.sizeOf23 hK rfl) fun a hK => ?_
        refine sp (k := 9) rfl hK (by decide) rfl rfl (fun w hS => r_load Try.isAgg23 hK rfl (hS.cell (.head _) rfl)) fun a hK => ?_
        refine sp (k := 10) rfl hK (by decide) rfl rfl (fun w hS => r_move hK rfl) fun a hK => ?_
        obtain ⟨y_238, h_239, H⟩ := bind_some H
        obtain ⟨v_240, hs_241, hr_242⟩ := r_slice_R (x := .tmp 37) (lo := none) (hi := some (.tmp 38)) Try.underlying23 Try.sizeOf35 hs_11 h_239 hK rfl rfl ⟨_, rfl⟩
        refine sp (k := 11) rfl hK (by decide) rfl rfl (fun w hS => hr_242 _ _ _ _ _ _ _ hK) fun a hK => ?_
        refine wpPar_nil (tree_br ?_ ?_)
        · refine spwB (k := 2) rfl rfl hS ?_
          refine sl_buildSliceC (zc := [.slice none 0 0]) (zs := []) (ps := []) (c := []) Try.underlying23 Try.sizeOf35 Try.zeroValue35 rfl pc_nil rfl rfl (by decide) (by kernel_rfl) rfl hS hK (by decide) rfl fun a w b_243 hS hK => ?_
          refine parKK_nil (hS.pk1.trunc 1) ?_
          refine tree_fork ?_
          refine wpPar_nil (tree_br ?_ ?_)
          · refine spwB (k := 7) rfl rfl (hS.pk1.trunc 1) ?_
            obtain ⟨y_246, h_247, H⟩ := bind_some H
            have hS := hS.row_lit (size := 1) (m := 0) rfl (by decide)
            have hq_245 : Reps (tySl ty_api_Value) R_6 [] ([] : List (List api_Value)) := (Reps.nil _ _)
            refine sl_append_R elT23 (by decide) rfl hq_245 rfl hs_236 h_247 hS hK (by decide) rfl rfl rfl fun a w v_248 cs_249 hq_250 hS hK => ?_
            refine parKK_nil (hS.pk1.trunc 1) ?_
            refine tree_fork ?_
            refine wpPar_nil (tree_br ?_ ?_)
            · refine spwB (k := 12) rfl rfl (hS.pk1.trunc 1) ?_
              obtain ⟨y_252, h_253, H⟩ := bind_some H
              refine sl_append_R elT23 (by decide) rfl hq_250 rfl hs_241 h_253 hS hK (by decide) rfl rfl rfl fun a w v_254 cs_255 hq_256 hS hK => ?_
              refine parKK_nil (hS.pk1.trunc 1) ?_
              refine tree_list ?_
              have ho_258 := hS.row_one (.head _)
              refine sp (k := 13) rfl hK (by decide) rfl rfl (fun w hS => r_buildC (ps := [(0, v_8), (1, v_254)]) (c := [v_8, v_254]) Try.underlying25 Try.zeroValue25 places25 hK rfl (pc_cons (cells1 hs_9.one) (pc_cons (cells1 ho_258) pc_nil)) rfl rfl) fun a hK => ?_
              refine spw (k := 14) rfl rfl (hS.pk1.trunc 1) ?_
              refine sl_alloc Try.zeroValue25 hS hK (by decide) rfl rfl fun a w b_259 hS hK => ?_
              refine parK_nil (hS.pk2.trunc 1) ?_
              refine thenL_nil ?_
              refine sl_storeA (vs := [v_8, v_254]) (c' := [v_8, v_254]) Try.sizeOf25 hS hK rfl rfl rfl rfl (all_cons hs_9.one (all_cons (hS.row_one (.tail _ (.head _))) (all_nil))) (Nat.le_of_ble_eq_true rfl) rfl fun a w hS hK => ?_
              refine wpList_nil (NoP_nil ?_)
              have hS := hS.pk1
              have hS := hS.pk2
              exact ⟨y_252, _, _, _, H, hq_256, hK.sub (all_cons rfl (all_cons rfl (all_cons rfl (all_nil)))), hS⟩
            · refine spwB (k := 14) rfl rfl (hS.pk1.trunc 1) ?_
              refine sl_alloc Try.zeroValue25 hS hK (by decide) rfl rfl fun a w b_260 hS hK => ?_
              refine parKK_nil (hS.pk2.trunc 1) ?_
              refine tree_list ?_
              refine spw (k := 12) rfl rfl (hS.pk2.trunc 1) ?_
              obtain ⟨y_261, h_262, H⟩ := bind_some H
              have hS := hS.pk1
              refine sl_append_R elT23 (by decide) rfl hq_250 rfl hs_241 h_262 hS hK (by decide) rfl rfl rfl fun a w v_263 cs_264 hq_265 hS hK => ?_
              refine parK_nil (hS.pk2.trunc 1) ?_
              have ho_267 := hS.row_one (.head _)
              refine sp (k := 13) rfl hK (by decide) rfl rfl (fun w hS => r_buildC (ps := [(0, v_8), (1, v_263)]) (c := [v_8, v_263]) Try.underlying25 Try.zeroValue25 places25 hK rfl (pc_cons (cells1 hs_9.one) (pc_cons (cells1 ho_267) pc_nil)) rfl rfl) fun a hK => ?_
              refine thenL_nil ?_
              have hS := hS.pk1
              refine sl_storeA (vs := [v_8, v_263]) (c' := [v_8, v_263]) Try.sizeOf25 hS hK rfl rfl rfl rfl (all_cons hs_9.one (all_cons (hS.row_one (.tail _ (.head _))) (all_nil))) (Nat.le_of_ble_eq_true rfl) rfl fun a w hS hK => ?_
              refine wpList_nil (NoP_nil ?_)
              have hS := hS.pk1
              have hS := hS.pk2
              exact ⟨y_261, _, _, _, H, hq_265, hK.sub (all_cons rfl (all_cons rfl (all_cons rfl (all_nil)))), hS⟩
          · refine spwB (k := 14) rfl rfl (hS.pk1.trunc 1) ?_
            refine sl_alloc Try.zeroValue25 hS hK (by decide) rfl rfl fun a w b_268 hS hK => ?_
            refine parKK_nil (hS.pk2.trunc 1) ?_
            refine tree_list ?_
            refine spw (k := 7) rfl rfl (hS.pk2.trunc 1) ?_
            obtain ⟨y_271, h_272, H⟩ := bind_some H
            have hS := hS.pk1
            have hS := hS.row_lit (size := 1) (m := 0) rfl (by decide)
            have hq_270 : Reps (tySl ty_api_Value) R_6 [] ([] : List (List api_Value)) := (Reps.nil _ _)
            refine sl_append_R elT23 (by decide) rfl hq_270 rfl hs_236 h_272 hS hK (by decide) rfl rfl rfl fun a w v_273 cs_274 hq_275 hS hK => ?_
            refine parK_nil (hS.pk2.trunc 1) ?_
            refine spw (k := 12) rfl rfl (hS.pk2.trunc 1) ?_
            obtain ⟨y_277, h_278, H⟩ := bind_some H
            refine sl_append_R elT23 (by decide) rfl hq_275 rfl hs_241 h_278 hS hK (by decide) rfl rfl rfl fun a w v_279 cs_280 hq_281 hS hK => ?_
            refine parK_nil (hS.pk2.trunc 1) ?_
            have ho_283 := hS.row_one (.head _)
            refine sp (k := 13) rfl hK (by decide) rfl rfl (fun w hS => r_buildC (ps := [(0, v_8), (1, v_279)]) (c := [v_8, v_279]) Try.underlying25 Try.zeroValue25 places25 hK rfl (pc_cons (cells1 hs_9.one) (pc_cons (cells1 ho_283) pc_nil)) rfl rfl) fun a hK => ?_
            refine thenL_nil ?_
            have hS := hS.pk1
            refine sl_storeA (vs := [v_8, v_279]) (c' := [v_8, v_279]) Try.sizeOf25 hS hK rfl rfl rfl rfl (all_cons hs_9.one (all_cons (hS.row_one (.tail _ (.head _))) (all_nil))) (Nat.le_of_ble_eq_true rfl) rfl fun a w hS hK => ?_
            refine wpList_nil (NoP_nil ?_)
            have hS := hS.pk1
            have hS := hS.pk2
            exact ⟨y_277, _, _, _, H, hq_281, hK.sub (all_cons rfl (all_cons rfl (all_cons rfl (all_nil)))), hS⟩
        · refine spwB (k := 14) rfl rfl hS ?_
          refine sl_alloc Try.zeroValue25 hS hK (by decide) rfl rfl fun a w b_284 hS hK => ?_
          refine parKK_nil (hS.pk1.trunc 1) ?_
          refine tree_list ?_
          refine spw (k := 2) rfl rfl (hS.pk1.trunc 1) ?_
          refine sl_buildSliceC (zc := [.slice none 0 0]) (zs := []) (ps := []) (c := []) Try.underlying23 Try.sizeOf35 Try.zeroValue35 rfl pc_nil rfl rfl (by decide) (by kernel_rfl) rfl hS hK (by decide) rfl fun a w b_285 hS hK => ?_
          refine parK_nil (hS.pk2.trunc 1) ?_
          refine spw (k := 7) rfl rfl (hS.pk2.trunc 1) ?_
          obtain ⟨y_288, h_289, H⟩ := bind_some H
          have hS := hS.row_lit (size := 1) (m := 0) rfl (by decide)
          have hq_287 : Reps (tySl ty_api_Value) R_6 [] ([] : List (List api_Value)) := (Reps.nil _ _)
          refine sl_append_R elT23 (by decide) rfl hq_287 rfl hs_236 h_289 hS hK (by decide) rfl rfl rfl fun a w v_290 cs_291 hq_292 hS hK => ?_
          refine parK_nil (hS.pk2.trunc 1) ?_
          refine spw (k := 12) rfl rfl (hS.pk2.trunc 1) ?_
          obtain ⟨y_294, h_295, H⟩ := bind_some H
          refine sl_append_R elT23 (by decide) rfl hq_292 rfl hs_241 h_295 hS hK (by decide) rfl rfl rfl fun a w v_296 cs_297 hq_298 hS hK => ?_
          refine parK_nil (hS.pk2.trunc 1) ?_
          have ho_300 := hS.row_one (.head _)
          refine sp (k := 13) rfl hK (by decide) rfl rfl (fun w hS => r_buildC (ps := [(0, v_8), (1, v_296)]) (c := [v_8, v_296]) Try.underlying25 Try.zeroValue25 places25 hK rfl (pc_cons (cells1 hs_9.one) (pc_cons (cells1 ho_300) pc_nil)) rfl rfl) fun a hK => ?_
          refine thenL_nil ?_
          have hS := hS.pk1
          refine sl_storeA (vs := [v_8, v_296]) (c' := [v_8, v_296]) Try.sizeOf25 hS hK rfl rfl rfl rfl (all_cons hs_9.one (all_cons (hS.row_one (.tail _ (.head _))) (all_nil))) (Nat.le_of_ble_eq_true rfl) rfl fun a w hS hK => ?_
          refine wpList_nil (NoP_nil ?_)
          have hS := hS.pk1
          have hS := hS.pk2
          exact ⟨y_294, _, _, _, H, hq_298, hK.sub (all_cons rfl (all_cons rfl (all_cons rfl (all_nil)))), hS⟩
      · rintro a w ⟨x_160, v_161, cs_162, b_158, H, hq_163, hK, hS⟩
        unfold law02_TableOrder.j2 at H
        refine wp_seq ?_
        refine wp_region_lit ?_
        refine sl hK (by decide) rfl rfl (r_fieldAddr Try.underlying25 rfl Try.sizeOf22 hK rfl) fun a hK => ?_
        refine sl hK (by decide) rfl rfl (r_load Try.isAgg22 hK rfl (hS.cell (.head _) rfl)) fun a hK => ?_
        refine sl hK (by decide) rfl rfl (r_buildC (ps := [(0, v_8)]) (c := [v_8, .slice none 0 0]) Try.underlying25 Try.zeroValue25 places25 hK rfl (pc_cons (cells1 hs_9.one) pc_nil) rfl rfl) fun a hK => ?_
        refine sl_alloc Try.zeroValue25 hS hK (by decide) rfl rfl fun a w b_301 hS hK => ?_
        refine sl_storeA (vs := [v_8, .slice none 0 0]) (c' := [v_8, .slice none 0 0]) Try.sizeOf25 hS hK rfl rfl rfl rfl (all_cons hs_9.one (all_cons rfl (all_nil))) (Nat.le_of_ble_eq_true rfl) rfl fun a w hS hK => ?_
        refine wpList_nil ?_
        refine wp_seq ?_
        refine wp_seq ?_
        refine wp_region_lit ?_
        refine sl hK (by decide) rfl rfl (r_fieldAddr Try.underlying25 rfl Try.sizeOf23 hK rfl) fun a hK => ?_
        refine sl hK (by decide) rfl rfl (r_load Try.isAgg23 hK rfl (hS.cell (.tail _ (.head _)) rfl)) fun a hK => ?_
        refine sl hK (by decide) rfl rfl (r_len_R Try.underlying23 hs_11 hK rfl) fun a hK => ?_
        refine sl hK (by decide) rfl rfl (r_ibin hK rfl rfl rfl) fun a hK => ?_
        refine sl hK (by decide) rfl rfl (r_assign hK rfl) fun a hK => ?_
        refine wpList_nil ?_
        refine wp_block ?_
        refine wp_loop_k (fun k_l3 a w => ∃ (x_345 : List (List api_Value)) (x_349 : Int) (v_346 : Value) (cs_347 : List Value), law02_TableOrder.l3 y_2 y_4 x_160 k_l3 x_345 x_349 = some true ∧ Reps (tySl ty_api_Value) R_6 cs_347 x_345 ∧ Kn 87 a [(2, .pointer (some ⟨b_1, 0, none⟩)), (5, .bool y_2), (7, .pointer (some ⟨b_158, 0, none⟩)), (8, .pointer (some ⟨b_301, 0, none⟩)), (9, .int .i64 x_349)] ∧ St [] w0 w R_6 [.cells b_1 [v_8, v_10] 25, .row 35 1 v_161 x_160.length cs_162, .cells b_158 [v_8, v_161] 25, .row 35 1 v_346 x_345.length cs_347, .cells b_301 [v_8, v_346] 25]) (((IntKind.i64.wrap ((y_4.Rows.length : Int) - 1)) - 0).toNat + 2) ?_ ?_
        · have hS := hS.row_nil 35 1
          have hq_389 : Reps (tySl ty_api_Value) R_6 [] ([] : List (List api_Value)) := Reps.nil _ _
          have hS := hS.pk1
          have hS := hS.pk1
          have hS := hS.pk4
          have hS := hS.pk4
          have hS := hS.pk4
          exact ⟨[], (IntKind.i64.wrap ((y_4.Rows.length : Int) - 1)), _, _, H, hq_389, hK.sub (all_cons rfl (all_cons rfl (all_cons rfl (all_cons rfl (all_cons rfl (all_nil)))))), hS⟩
        · rintro k_l3 a w ⟨x_345, x_349, v_346, cs_347, H, hq_348, hK, hS⟩
          cases k_l3 with
          | zero => cases H
          | succ k_l3 =>
          rw [law02_TableOrder.l3.eq_2] at H
          refine wp_seq ?_
          refine wp_seq ?_
          refine wp_region_lit ?_
          refine sl hK (by decide) rfl rfl (r_move hK rfl) fun a hK => ?_
          refine sl hK (by decide) rfl rfl (r_ibin hK rfl rfl rfl) fun a hK => ?_
          refine wpList_nil ?_
          refine wp_cond_split (hK.ev rfl) (fun (hb_390 : (decide (x_349 ≥ 0)) = true) => ?_) (fun (hb_390 : (decide (x_349 ≥ 0)) = false) => ?_)
          · rw [ifb_t hb_390] at H
            refine wp_skip ?_
            refine wp_seq ?_
            refine wp_block ?_
            refine parT_region (C := fun w => St [] w0 w R_6 [.cells b_1 [v_8, v_10] 25, .row 35 1 v_161 x_160.length cs_162, .cells b_158 [v_8, v_161] 25, .row 35 1 v_346 x_345.length cs_347, .cells b_301 [v_8, v_346] 25]) 8 [(0, true), (1, true), (2, true), (3, true), (4, true), (5, true), (6, true), (7, false)] mixed (by kernel_rfl) hS (fun w hS => hS) fun w hS => ?_
            refine sp (k := 0) rfl hK (by decide) rfl rfl (fun w hS => r_fieldAddr Try.underlying25 rfl Try.sizeOf23 hK rfl) fun a hK => ?_
            refine sp (k := 1) rfl hK (by decide) rfl rfl (fun w hS => r_load Try.isAgg23 hK rfl (hS.cell (.tail _ (.tail _ (.tail _ (.tail _ (.head _))))) rfl)) fun a hK => ?_
            refine sp (k := 2) rfl hK (by decide) rfl rfl (fun w hS => r_fieldAddr Try.underlying25 rfl Try.sizeOf23 hK rfl) fun a hK => ?_
            refine sp (k := 3) rfl hK (by decide) rfl rfl (fun w hS => r_load Try.isAgg23 hK rfl (hS.cell (.head _) rfl)) fun a hK => ?_
            refine sp (k := 4) rfl hK (by decide) rfl rfl (fun w hS => r_move hK rfl) fun a hK => ?_
            obtain ⟨y_409, h_410, H⟩ := bind_some H
            obtain ⟨b_411, o_412, c_413, cs_414, hv_415, hr_416, hc_417, h_4100, h_4101⟩ := hs_11.ix h_410
            obtain ⟨v_418, rfl, hs_419⟩ := hr_416
            refine sp (k := 5) rfl hK (by decide) rfl rfl (fun w hS => r_indexAddr_R Try.underlying23 Try.sizeOf35 hv_415 h_4100 h_4101 hK rfl rfl) fun a hK => ?_
            refine sp (k := 6) rfl hK (by decide) rfl rfl (fun w hS => r_load Try.isAgg35 hK rfl (hS.sub.cell (hc_417 0 _ rfl))) fun a hK => ?_
            refine spw (k := 7) rfl rfl hS ?_
            refine sl_buildSliceF (zc := [.slice none 0 0]) (ps := [(0, v_418)]) (c := [v_418]) [[v_418]] Try.underlying23 Try.sizeOf35 Try.zeroValue35 rfl (pc_cons (cells1 hs_419.one) pc_nil) rfl rfl (Nat.le_of_ble_eq_true rfl) rfl (all_cons rfl (all_nil)) rfl hS hK (by decide) rfl fun a w b_420 hS hK => ?_
            refine parK_nil (hS.pk5.pk5.pk5.pk5.pk5.trunc 5) ?_
            refine thenL_nil ?_
            obtain ⟨y_421, h_422, H⟩ := bind_some H
            have hS := hS.pk4
            refine sl_append_L (ty := (tySl ty_api_Value)) (ys := [y_409]) elT23 (by decide) rfl hq_348 rfl (Reps.cons (show Ty.rep (tySl ty_api_Value) _ [v_418] y_409 from ⟨_, rfl, hs_419⟩) (Reps.nil _ _)) rfl h_422 hS hK (by decide) rfl rfl rfl fun a w v_423 cs_424 hq_425 hS hK => ?_
            refine sl hK (by decide) rfl rfl (r_fieldAddr Try.underlying25 rfl Try.sizeOf23 hK rfl) fun a hK => ?_
            have hS := hS.pk4
            refine sl_store1 (c' := [v_8, v_423]) Try.sizeOf23 hS hK rfl rfl rfl (hS.row_one (.tail _ (.head _))) (Nat.le_of_ble_eq_true rfl) rfl fun a w hS hK => ?_
            refine wpList_nil (NoP_nil ?_)
            refine wp_region_lit ?_
            refine sl hK (by decide) rfl rfl (r_move hK rfl) fun a hK => ?_
            refine sl hK (by decide) rfl rfl (r_ibin hK rfl rfl rfl) fun a hK => ?_
            refine sl hK (by decide) rfl rfl (r_assign hK rfl) fun a hK => ?_
            refine wpList_nil ?_
            have hS := hS.pk1
            have hS := hS.pk4
            have hS := hS.pk4
            have hS := hS.pk4
            exact ⟨_, Nat.lt_succ_self _, y_421, (IntKind.i64.wrap (x_349 - 1)), _, _, H, hq_425, hK.sub (all_cons rfl (all_cons rfl (all_cons rfl (all_cons rfl (all_cons rfl (all_nil)))))), hS⟩
          · rw [ifb_f hb_390] at H
            refine wp_exit ?_
            refine wp_seq ?_
            refine wp_region_lit ?_
            refine sl hK (by decide) rfl rfl (r_loadA (cs := [v_8, v_10]) Try.isAgg25 Try.sizeOf25 rfl hK rfl (hS.cells_of (m := 2) (.head _) rfl)) fun a hK => ?_
            obtain ⟨y_427, h_428, H⟩ := bind_some H
            refine sl_call Try.call20 hK (by decide) rfl rfl rfl (table_Canon.calls y_4 (lentOf_sub [] _) hS.sub (hs_9.mono hS.rLe0) (hs_11.mono hS.rLe0) h_428) fun a v_ w hv_ hK => ?_
            obtain ⟨R_429, v_432, cs_433, v_436, cs_437, hv_, hr_, hl_430, hq_434, hq_438⟩ := hv_
            have hv_ := hv_.symm
            subst hv_
            obtain ⟨hS, hl_430⟩ := hS.sp0.back hr_ hl_430
            have hS := hS.un2
            have hRL := hRL.trans hl_430
            refine sl_alloc Try.zeroValue25 hS hK (by decide) rfl rfl fun a w b_439 hS hK => ?_
            refine sl_storeA (vs := [v_432, v_436]) (c' := [v_432, v_436]) Try.sizeOf25 hS hK rfl rfl rfl rfl (all_cons (hS.row_one (.tail _ (.head _))) (all_cons (hS.row_one (.tail _ (.tail _ (.head _)))) (all_nil))) (Nat.le_of_ble_eq_true rfl) rfl fun a w hS hK => ?_
            refine wpList_nil ?_
            refine wp_seq ?_
            refine parT_region (C := fun w => St [] w0 w R_429 [.cells b_439 [v_432, v_436] 25, .row 43 2 v_432 y_427.Cols.length cs_433, .row 35 1 v_436 y_427.Rows.length cs_437, .cells b_1 [v_8, v_10] 25, .row 35 1 v_161 x_160.length cs_162, .cells b_158 [v_8, v_161] 25, .row 35 1 v_346 x_345.length cs_347, .cells b_301 [v_8, v_346] 25]) 20 [(0, true), (1, true), (2, true), (3, true), (4, false), (5, false), (6, true), (7, true), (8, true), (9, true), (10, false), (11, false), (12, true), (13, true), (14, true), (15, true), (16, true), (17, true), (18, true), (19, true)] mixed (by kernel_rfl) hS (fun w hS => hS) fun w hS => ?_
            refine sp (k := 0) rfl hK (by decide) rfl rfl (fun w hS => r_move hK rfl) fun a hK => ?_
            refine sp (k := 1) rfl hK (by decide) rfl rfl (fun w hS => r_move hK rfl) fun a hK => ?_
            rcases or_b y_2 with hb_471 | hb_471
            · rw [ifb_t hb_471] at H
              refine sp (k := 2) rfl hK (by decide) (wtt hb_471) rfl (fun w hS => r_loadA (cs := [v_432, v_436]) Try.isAgg25 Try.sizeOf25 rfl hK rfl (hS.cells_of (m := 2) (.head _) rfl)) fun a hK => ?_
              refine sp (k := 3) rfl hK (by decide) (wtt hb_471) rfl (fun w hS => r_loadA (cs := [v_8, v_161]) Try.isAgg25 Try.sizeOf25 rfl hK rfl (hS.cells_of (m := 2) (.tail _ (.tail _ (.tail _ (.tail _ (.tail _ (.head _)))))) rfl)) fun a hK => ?_
              refine spw (k := 4) rfl rfl hS ?_
              obtain ⟨y_472, h_473, H⟩ := bind_some H
              refine sl_call Try.call20 hK (by decide) (wtt hb_471) rfl rfl (table_Canon.calls (⟨y_4.Cols, x_160⟩ : api_Table) (lentOf_sub [] _) hS.sub (hs_9.mono (hl_430.le.trans hS.rLe0)) (hS.lend_row0 (.tail _ (.tail _ (.tail _ (.tail _ (.head _))))) (hq_163.mono hl_430.le) rfl rfl) h_473) fun a v_ w hv_ hK => ?_
              obtain ⟨R_474, v_477, cs_478, v_481, cs_482, hv_, hr_, hl_475, hq_479, hq_483⟩ := hv_
              have hv_ := hv_.symm
              subst hv_
              obtain ⟨hS, hl_475⟩ := hS.sp0.back hr_ hl_475
              have hS := hS.un2
              have hRL := hRL.trans hl_475
              refine parK_nil ((hS.pk9.pk9.pk9.pk9.pk9.pk9.pk9.pk9.trunc 8).lower hl_475.le) ?_
              refine spw (k := 5) rfl rfl ((hS.pk9.pk9.pk9.pk9.pk9.pk9.pk9.pk9.trunc 8).lower hl_475.le) ?_
              obtain ⟨y_484, h_485, H⟩ := bind_some H
              refine sl_callV Try.call23 hS hK (by decide) (wtt hb_471) rfl rfl (table_Same.calls y_427 y_472 (lentOf_sub [] _) (hS.lend_row0 (.tail _ (.tail _ (.tail _ (.head _)))) (hq_434.mono hl_475.le) rfl rfl) (hS.lend_row0 (.tail _ (.tail _ (.tail _ (.tail _ (.head _))))) (hq_438.mono hl_475.le) rfl rfl) (hS.lend_row0 (.head _) hq_479 rfl rfl) (hS.lend_row0 (.tail _ (.head _)) hq_483 rfl rfl) h_485) fun a w hS hK => ?_
              refine parK_nil ((hS.pk9.pk9.pk9.pk9.pk9.pk9.pk9.pk9.trunc 8).lower hl_475.le) ?_
              refine sp (k := 6) rfl hK (by decide) rfl rfl (fun w hS => r_pick_t hb_471 hK rfl rfl) fun a hK => ?_
              refine sp (k := 7) rfl hK (by decide) rfl rfl (fun w hS => r_move hK rfl) fun a hK => ?_
              rcases or_b y_484 with hb_486 | hb_486
              · rw [ifb_t hb_486] at H
                refine sp (k := 8) rfl hK (by decide) (wtt hb_486) rfl (fun w hS => r_loadA (cs := [v_432, v_436]) Try.isAgg25 Try.sizeOf25 rfl hK rfl (hS.cells_of (m := 2) (.head _) rfl)) fun a hK => ?_
                refine sp (k := 9) rfl hK (by decide) (wtt hb_486) rfl (fun w hS => r_loadA (cs := [v_8, v_346]) Try.isAgg25 Try.sizeOf25 rfl hK rfl (hS.cells_of (m := 2) (.tail _ (.tail _ (.tail _ (.tail _ (.tail _ (.tail _ (.tail _ (.head _)))))))) rfl)) fun a hK => ?_
                refine spw (k := 10) rfl rfl ((hS.pk9.pk9.pk9.pk9.pk9.pk9.pk9.pk9.trunc 8).lower hl_475.le) ?_
                obtain ⟨y_487, h_488, H⟩ := bind_some H
                refine sl_call Try.call20 hK (by decide) (wtt hb_486) rfl rfl (table_Canon.calls (⟨y_4.Cols, x_345⟩ : api_Table) (lentOf_sub [] _) hS.sub (hs_9.mono ((hl_430.le.trans hl_475.le).trans hS.rLe0)) (hS.lend_row0 (.tail _ (.tail _ (.tail _ (.tail _ (.tail _ (.tail _ (.tail _ (.tail _ (.head _))))))))) (hq_348.mono (hl_430.le.trans hl_475.le)) rfl rfl) h_488) fun a v_ w hv_ hK => ?_
                obtain ⟨R_489, v_492, cs_493, v_496, cs_497, hv_, hr_, hl_490, hq_494, hq_498⟩ := hv_
                have hv_ := hv_.symm
                subst hv_
                obtain ⟨hS, hl_490⟩ := hS.sp0.back hr_ hl_490
                have hS := hS.un2
                have hRL := hRL.trans hl_490
                refine parK_nil ((hS.pk11.pk11.pk11.pk11.pk11.pk11.pk11.pk11.trunc 8).lower (hl_475.le.trans hl_490.le)) ?_
                refine spw (k := 11) rfl rfl ((hS.pk11.pk11.pk11.pk11.pk11.pk11.pk11.pk11.trunc 8).lower (hl_475.le.trans hl_490.le)) ?_
                obtain ⟨y_499, h_500, H⟩ := bind_some H
                refine sl_callV Try.call23 hS hK (by decide) (wtt hb_486) rfl rfl (table_Same.calls y_427 y_487 (lentOf_sub [] _) (hS.lend_row0 (.tail _ (.tail _ (.tail _ (.tail _ (.tail _ (.head _)))))) (hq_434.mono (hl_475.le.trans hl_490.le)) rfl rfl) (hS.lend_row0 (.tail _ (.tail _ (.tail _ (.tail _ (.tail _ (.tail _ (.head _))))))) (hq_438.mono (hl_475.le.trans hl_490.le)) rfl rfl) (hS.lend_row0 (.head _) hq_494 rfl rfl) (hS.lend_row0 (.tail _ (.head _)) hq_498 rfl rfl) h_500) fun a w hS hK => ?_
                refine parK_nil ((hS.pk11.pk11.pk11.pk11.pk11.pk11.pk11.pk11.trunc 8).lower (hl_475.le.trans hl_490.le)) ?_
                refine sp (k := 12) rfl hK (by decide) rfl rfl (fun w hS => r_pick_t hb_486 hK rfl rfl) fun a hK => ?_
                refine sp (k := 13) rfl hK (by decide) rfl rfl (fun w hS => r_move hK rfl) fun a hK => ?_
                rcases or_b y_499 with hb_501 | hb_501
                · rw [ifb_t hb_501] at H
                  refine sp (k := 14) rfl hK (by decide) (wtt hb_501) rfl (fun w hS => r_fieldAddr Try.underlying25 rfl Try.sizeOf23 hK rfl) fun a hK => ?_
                  refine sp (k := 15) rfl hK (by decide) (wtt hb_501) rfl (fun w hS => r_load Try.isAgg23 hK rfl (hS.cell (.head _) rfl)) fun a hK => ?_
                  refine sp (k := 16) rfl hK (by decide) (wtt hb_501) rfl (fun w hS => r_len_O Try.underlying23 hS (.tail _ (.tail _ (.head _))) hK rfl) fun a hK => ?_
                  refine sp (k := 17) rfl hK (by decide) (wtt hb_501) rfl (fun w hS => r_fieldAddr Try.underlying25 rfl Try.sizeOf23 hK rfl) fun a hK => ?_
                  refine sp (k := 18) rfl hK (by decide) (wtt hb_501) rfl (fun w hS => r_load Try.isAgg23 hK rfl (hS.cell (.tail _ (.tail _ (.tail _ (.head _)))) rfl)) fun a hK => ?_
                  refine sp (k := 19) rfl hK (by decide) (wtt hb_501) rfl (fun w hS => r_len_R Try.underlying23 hs_11 hK rfl) fun a hK => ?_
                  refine thenL_nil ?_
                  refine sl hK (by decide) (wtt hb_501) rfl (r_ibin hK rfl rfl rfl) fun a hK => ?_
                  refine sl hK (by decide) rfl rfl (r_pick_t hb_501 hK rfl rfl) fun a hK => ?_
                  refine sl hK (by decide) rfl rfl (r_assign hK rfl) fun a hK => ?_
                  refine wpList_nil (NoP_nil ?_)
                  have hr_ := Option.some.inj H
                  refine wp_ret ?_
                  repeat (first | refine ret_then ?_ | refine ret_block ?_ | refine ret_scope ?_)
                  exact ret_1 Try.results5 hK (rv_tmp hK rfl) ⟨congrArg (fun b => Ending.returned (Value.bool b)) hr_, hS.bel⟩
                · rw [ifb_f hb_501] at H
                  refine sp_skip (k := 14) rfl hK (by decide) (wtf hb_501) rfl fun a hK => ?_
                  refine sp_skip (k := 15) rfl hK (by decide) (wtf hb_501) rfl fun a hK => ?_
                  refine sp_skip (k := 16) rfl hK (by decide) (wtf hb_501) rfl fun a hK => ?_
                  refine sp_skip (k := 17) rfl hK (by decide) (wtf hb_501) rfl fun a hK => ?_
                  refine sp_skip (k := 18) rfl hK (by decide) (wtf hb_501) rfl fun a hK => ?_
                  refine sp_skip (k := 19) rfl hK (by decide) (wtf hb_501) rfl fun a hK => ?_
                  refine thenL_nil ?_
                  refine sl_skip hK (by decide) (wtf hb_501) rfl fun a hK => ?_
                  refine sl hK (by decide) rfl rfl (r_pick_f hb_501 hK rfl rfl) fun a hK => ?_
                  refine sl hK (by decide) rfl rfl (r_assign hK rfl) fun a hK => ?_
                  refine wpList_nil (NoP_nil ?_)
                  exact absurd (Option.some.inj H) (by decide)
              · rw [ifb_f hb_486] at H
                refine sp_skip (k := 8) rfl hK (by decide) (wtf hb_486) rfl fun a hK => ?_
                refine sp_skip (k := 9) rfl hK (by decide) (wtf hb_486) rfl fun a hK => ?_
                refine spw (k := 10) rfl rfl ((hS.pk9.pk9.pk9.pk9.pk9.pk9.pk9.pk9.trunc 8).lower hl_475.le) ?_
                refine sl_skip hK (by decide) (wtf hb_486) rfl fun a hK => ?_
                refine parK_nil ((hS.pk9.pk9.pk9.pk9.pk9.pk9.pk9.pk9.trunc 8).lower hl_475.le) ?_
                refine spw (k := 11) rfl rfl ((hS.pk9.pk9.pk9.pk9.pk9.pk9.pk9.pk9.trunc 8).lower hl_475.le) ?_
                refine sl_skip hK (by decide) (wtf hb_486) rfl fun a hK => ?_
                refine parK_nil ((hS.pk9.pk9.pk9.pk9.pk9.pk9.pk9.pk9.trunc 8).lower hl_475.le) ?_
                refine sp (k := 12) rfl hK (by decide) rfl rfl (fun w hS => r_pick_f hb_486 hK rfl rfl) fun a hK => ?_
                refine sp (k := 13) rfl hK (by decide) rfl rfl (fun w hS => r_move hK rfl) fun a hK => ?_
                refine sp_skip (k := 14) rfl hK (by decide) rfl rfl fun a hK => ?_
                refine sp_skip (k := 15) rfl hK (by decide) rfl rfl fun a hK => ?_
                refine sp_skip (k := 16) rfl hK (by decide) rfl rfl fun a hK => ?_
                refine sp_skip (k := 17) rfl hK (by decide) rfl rfl fun a hK => ?_
                refine sp_skip (k := 18) rfl hK (by decide) rfl rfl fun a hK => ?_
                refine sp_skip (k := 19) rfl hK (by decide) rfl rfl fun a hK => ?_
                refine thenL_nil ?_
                refine sl_skip hK (by decide) rfl rfl fun a hK => ?_
                refine sl hK (by decide) rfl rfl (r_pick hK rfl rfl rfl) fun a hK => ?_
                refine sl hK (by decide) rfl rfl (r_assign hK rfl) fun a hK => ?_
                refine wpList_nil (NoP_nil ?_)
                exact absurd (Option.some.inj H) (by decide)
            · rw [ifb_f hb_471] at H
              refine sp_skip (k := 2) rfl hK (by decide) (wtf hb_471) rfl fun a hK => ?_
              refine sp_skip (k := 3) rfl hK (by decide) (wtf hb_471) rfl fun a hK => ?_
              refine spw (k := 4) rfl rfl hS ?_
              refine sl_skip hK (by decide) (wtf hb_471) rfl fun a hK => ?_
              refine parK_nil hS ?_
              refine spw (k := 5) rfl rfl hS ?_
              refine sl_skip hK (by decide) (wtf hb_471) rfl fun a hK => ?_
              refine parK_nil hS ?_
              refine sp (k := 6) rfl hK (by decide) rfl rfl (fun w hS => r_pick_f hb_471 hK rfl rfl) fun a hK => ?_
              refine sp (k := 7) rfl hK (by decide) rfl rfl (fun w hS => r_move hK rfl) fun a hK => ?_
              refine sp_skip (k := 8) rfl hK (by decide) rfl rfl fun a hK => ?_
              refine sp_skip (k := 9) rfl hK (by decide) rfl rfl fun a hK => ?_
              refine spw (k := 10) rfl rfl hS ?_
              refine sl_skip hK (by decide) rfl rfl fun a hK => ?_
              refine parK_nil hS ?_
              refine spw (k := 11) rfl rfl hS ?_
              refine sl_skip hK (by decide) rfl rfl fun a hK => ?_
              refine parK_nil hS ?_
              refine sp (k := 12) rfl hK (by decide) rfl rfl (fun w hS => r_pick hK rfl rfl rfl) fun a hK => ?_
              refine sp (k := 13) rfl hK (by decide) rfl rfl (fun w hS => r_move hK rfl) fun a hK => ?_
              refine sp_skip (k := 14) rfl hK (by decide) rfl rfl fun a hK => ?_
              refine sp_skip (k := 15) rfl hK (by decide) rfl rfl fun a hK => ?_
              refine sp_skip (k := 16) rfl hK (by decide) rfl rfl fun a hK => ?_
              refine sp_skip (k := 17) rfl hK (by decide) rfl rfl fun a hK => ?_
              refine sp_skip (k := 18) rfl hK (by decide) rfl rfl fun a hK => ?_
              refine sp_skip (k := 19) rfl hK (by decide) rfl rfl fun a hK => ?_
              refine thenL_nil ?_
              refine sl_skip hK (by decide) rfl rfl fun a hK => ?_
              refine sl hK (by decide) rfl rfl (r_pick hK rfl rfl rfl) fun a hK => ?_
              refine sl hK (by decide) rfl rfl (r_assign hK rfl) fun a hK => ?_
              refine wpList_nil (NoP_nil ?_)
              exact absurd (Option.some.inj H) (by decide)

end Go.Proofs.Ytojfckndloelpaa.M
