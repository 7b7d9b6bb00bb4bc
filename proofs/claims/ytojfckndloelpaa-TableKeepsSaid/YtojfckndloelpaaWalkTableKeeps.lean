/- Each Go function of the laws answers as its plain Lean function tells, wherever that tells something. Printed by wip/eng/gen.py. -/
import Derived.Test.YtojfckndloelpaaWalk2
namespace Go.Proofs.Ytojfckndloelpaa.M
open Go Go.Eng Go.Proofs Go.RowKit
set_option linter.unusedVariables false
set_option linter.unusedSimpArgs false

/-! ### catchment/catchmentref02.Keep: function 27 -/
set_option maxHeartbeats 4000000 in
set_option maxRecDepth 100000 in
theorem ref02_Keep.calls (a0 : api_Table) (a1 : List ByteArray) {w0 : World} {R : Hp} {RA : Hp} {v0_0 : Value} {v0_1 : Value} {v1_0 : Value} (hRA : RA.sub w0) (hR : R.sub w0) (h0_0 : SlR ty_api_Col RA v0_0 a0.Cols) (h0_1 : SlR (tySl ty_api_Value) RA v0_1 a0.Rows) (h1_0 : SlR tyStr RA v1_0 a1) {r : api_Table × Int} (H : ref02_Keep a0 a1 = some r) : Calls Try.prog 27 #[.agg #[v0_0, v0_1], v1_0] w0 (Rets fun v w' => ∃ (R' : Hp) (u0 : Value) (cu0 : List Value) (u1 : Value) (cu1 : List Value), v = .tuple #[.agg #[u0, u1], .int .i64 r.2] ∧ St [] w0 w' R' [.row 43 2 u0 r.1.Cols.length cu0, .row 35 1 u1 r.1.Rows.length cu1] ∧ RLe [] w0 R R' ∧ Reps ty_api_Col R' cu0 r.1.Cols ∧ Reps (tySl ty_api_Value) R' cu1 r.1.Rows) := by
  unfold ref02_Keep at H
  refine enter (args := [.agg #[v0_0, v0_1], v1_0]) Try.func27 rfl Try.ntmps27 rfl fun a hK => ?_
  have hS := St.init hR
  have hRL := RLe.refl (M := []) w0 R
  refine wp_seq ?_
  refine wp_region_lit ?_
  refine sl_box hS hK (by decide) rfl rfl (c := [v0_0, v0_1]) rfl fun a w b_1 hS hK => ?_
  refine sl_alloc Try.zeroValue25 hS hK (by decide) rfl rfl fun a w b_2 hS hK => ?_
  refine sl hK (by decide) rfl rfl (r_assign hK rfl) fun a hK => ?_
  refine wpList_nil ?_
  refine wp_seq ?_
  refine wp_region_lit ?_
  refine sl hK (by decide) rfl rfl (r_loadA (cs := [v0_0, v0_1]) Try.isAgg25 Try.sizeOf25 rfl hK rfl (hS.cells_of (m := 2) (.tail _ (.head _)) rfl)) fun a hK => ?_
  obtain ⟨y_3, h_4, H⟩ := bind_some H
  refine sl_callV Try.call14 hS hK (by decide) rfl rfl rfl (ref02_Check.calls a0 (lentOf_sub [] _) (h0_0.mono (hS.raLe0 hRA nil_not)) (h0_1.mono (hS.raLe0 hRA nil_not)) h_4) fun a w hS hK => ?_
  refine sl hK (by decide) rfl rfl (r_assign hK rfl) fun a hK => ?_
  refine wpList_nil ?_
  refine wp_seq ?_
  refine wp_seq ?_
  refine wp_region_lit ?_
  refine sl hK (by decide) rfl rfl (r_move hK rfl) fun a hK => ?_
  refine sl hK (by decide) rfl rfl (r_ibin hK rfl rfl rfl) fun a hK => ?_
  refine wpList_nil ?_
  refine wp_cond_split (hK.ev rfl) (fun (hb_5 : (y_3 != 0) = true) => ?_) (fun (hb_5 : (y_3 != 0) = false) => ?_)
  · rw [ifb_t hb_5] at H
    refine wp_seq ?_
    refine wp_region_lit ?_
    refine sl hK (by decide) rfl rfl (r_buildC (ps := []) (c := [.slice none 0 0, .slice none 0 0]) Try.underlying25 Try.zeroValue25 places25 hK rfl pc_nil rfl rfl) fun a hK => ?_
    refine sl hK (by decide) rfl rfl (r_move hK rfl) fun a hK => ?_
    refine sl_storeA (vs := [.slice none 0 0, .slice none 0 0]) (c' := [.slice none 0 0, .slice none 0 0]) Try.sizeOf25 hS hK rfl rfl rfl rfl (all_cons rfl (all_cons rfl (all_nil))) (Nat.le_of_ble_eq_true rfl) rfl fun a w hS hK => ?_
    refine sl hK (by decide) rfl rfl (r_assign hK rfl) fun a hK => ?_
    refine wpList_nil ?_
    have hS := hS.row_nil 43 2
    have hq_7 : Reps ty_api_Col R [] ([] : List api_Col) := Reps.nil _ _
    have hS := hS.row_nil 35 1
    have hq_9 : Reps (tySl ty_api_Value) R [] ([] : List (List api_Value)) := Reps.nil _ _
    obtain rfl := Option.some.inj H
    refine wp_ret ?_
    repeat (first | refine ret_then ?_ | refine ret_block ?_ | refine ret_scope ?_)
    exact ret_2 Try.results27 hK (rv_cell (c := [(.slice none 0 0), (.slice none 0 0)]) Try.isAgg25 Try.sizeOf25 hS (.tail _ (.tail _ (.head _))) rfl hK rfl) (rv_tmp hK rfl) ⟨_, rfl, _, _, _, _, _, rfl, (hS.pk1.trunc 2), hRL, hq_7, hq_9⟩
  · rw [ifb_f hb_5] at H
    refine wp_skip ?_
    refine wp_seq ?_
    refine wp_region_lit ?_
    refine sl hK (by decide) rfl rfl (r_buildC (ps := []) (c := [.slice none 0 0, .slice none 0 0]) Try.underlying25 Try.zeroValue25 places25 hK rfl pc_nil rfl rfl) fun a hK => ?_
    refine sl_alloc Try.zeroValue25 hS hK (by decide) rfl rfl fun a w b_10 hS hK => ?_
    refine sl_storeA (vs := [.slice none 0 0, .slice none 0 0]) (c' := [.slice none 0 0, .slice none 0 0]) Try.sizeOf25 hS hK rfl rfl rfl rfl (all_cons rfl (all_cons rfl (all_nil))) (Nat.le_of_ble_eq_true rfl) rfl fun a w hS hK => ?_
    refine wpList_nil ?_
    refine wp_seq ?_
    refine wp_seq ?_
    refine wp_region_lit ?_
    refine sl hK (by decide) rfl rfl (r_assign hK rfl) fun a hK => ?_
    refine wpList_nil ?_
    refine wp_block ?_
    refine wp_loop_k (fun k_l0 a w => ∃ (x_127 : List api_Col) (x_131 : Int) (v_128 : Value) (cs_129 : List Value), ref02_Keep.l0 a0 a1 k_l0 x_127 x_131 = some r ∧ Reps ty_api_Col R cs_129 x_127 ∧ Kn 98 a [(1, v1_0), (2, .pointer (some ⟨b_1, 0, none⟩)), (4, .pointer (some ⟨b_2, 0, none⟩)), (7, .pointer (some ⟨b_10, 0, none⟩)), (8, .int .i64 x_131)] ∧ St [] w0 w R [.cells b_1 [v0_0, v0_1] 25, .cells b_2 [.slice none 0 0, .slice none 0 0] 25, .row 43 2 v_128 x_127.length cs_129, .cells b_10 [v_128, .slice none 0 0] 25]) (((a1.length : Int) - 0).toNat + 1) ?_ ?_
    · have hS := hS.row_nil 43 2
      have hq_244 : Reps ty_api_Col R [] ([] : List api_Col) := Reps.nil _ _
      have hS := hS.pk1
      have hS := hS.pk1
      have hS := hS.pk2
      have hS := hS.pk3
      exact ⟨[], 0, _, _, H, hq_244, hK.sub (all_cons rfl (all_cons rfl (all_cons rfl (all_cons rfl (all_cons rfl (all_nil)))))), hS⟩
    · rintro k_l0 a w ⟨x_127, x_131, v_128, cs_129, H, hq_130, hK, hS⟩
      cases k_l0 with
      | zero => cases H
      | succ k_l0 =>
      rw [ref02_Keep.l0.eq_2] at H
      refine wp_seq ?_
      refine wp_seq ?_
      refine wp_region_lit ?_
      refine sl hK (by decide) rfl rfl (r_move hK rfl) fun a hK => ?_
      refine sl hK (by decide) rfl rfl (r_move hK rfl) fun a hK => ?_
      refine sl hK (by decide) rfl rfl (r_len_R Try.underlying39 h1_0 hK rfl) fun a hK => ?_
      refine sl hK (by decide) rfl rfl (r_ibin hK rfl rfl rfl) fun a hK => ?_
      refine wpList_nil ?_
      refine wp_cond_split (hK.ev rfl) (fun (hb_245 : (decide (x_131 < (a1.length : Int))) = true) => ?_) (fun (hb_245 : (decide (x_131 < (a1.length : Int))) = false) => ?_)
      · rw [ifb_t hb_245] at H
        refine wp_skip ?_
        refine wp_seq ?_
        refine wp_block ?_
        refine wp_seq ?_
        refine parT_region (C := fun w => St [] w0 w R [.cells b_1 [v0_0, v0_1] 25, .cells b_2 [.slice none 0 0, .slice none 0 0] 25, .row 43 2 v_128 x_127.length cs_129, .cells b_10 [v_128, .slice none 0 0] 25]) 6 [(0, true), (1, true), (2, true), (3, true), (4, true), (5, true)] mixed (by kernel_rfl) hS (fun w hS => hS) fun w hS => ?_
        refine sp (k := 0) rfl hK (by decide) rfl rfl (fun w hS => r_fieldAddr Try.underlying25 rfl Try.sizeOf22 hK rfl) fun a hK => ?_
        refine sp (k := 1) rfl hK (by decide) rfl rfl (fun w hS => r_load Try.isAgg22 hK rfl (hS.cell (.head _) rfl)) fun a hK => ?_
        refine sp (k := 2) rfl hK (by decide) rfl rfl (fun w hS => r_move hK rfl) fun a hK => ?_
        refine sp (k := 3) rfl hK (by decide) rfl rfl (fun w hS => r_move hK rfl) fun a hK => ?_
        obtain ⟨y_257, h_258, H⟩ := bind_some H
        obtain ⟨b_259, o_260, c_261, cs_262, hv_263, hr_264, hc_265, h_2580, h_2581⟩ := h1_0.ix h_258
        subst hr_264
        refine sp (k := 4) rfl hK (by decide) rfl rfl (fun w hS => r_indexAddr_R Try.underlying39 Try.sizeOf9 hv_263 h_2580 h_2581 hK rfl rfl) fun a hK => ?_
        refine sp (k := 5) rfl hK (by decide) rfl rfl (fun w hS => r_load Try.isAgg9 hK rfl ((hS.ra hRA nil_not).cell (hc_265 0 _ rfl))) fun a hK => ?_
        refine thenL_nil ?_
        obtain ⟨y_266, h_267, H⟩ := bind_some H
        refine sl_callV Try.call18 hS hK (by decide) rfl rfl rfl (ref02_Find.calls a0.Cols y_257 (lentOf_sub [] _) (h0_0.mono (hS.raLe0 hRA nil_not)) h_267) fun a w hS hK => ?_
        refine sl hK (by decide) rfl rfl (r_assign hK rfl) fun a hK => ?_
        refine wpList_nil (NoP_nil ?_)
        refine wp_seq ?_
        refine wp_seq ?_
        refine wp_mid (fun a w => ∃ (x_292 : Bool), ref02_Keep.j1 (ref02_Keep.l0 a0 a1 k_l0) a0 a1 x_127 x_131 y_266 x_292 = some r ∧ Kn 98 a [(1, v1_0), (2, .pointer (some ⟨b_1, 0, none⟩)), (4, .pointer (some ⟨b_2, 0, none⟩)), (7, .pointer (some ⟨b_10, 0, none⟩)), (8, .int .i64 x_131), (9, .int .i64 y_266), (44, .bool x_292)] ∧ St [] w0 w R [.cells b_1 [v0_0, v0_1] 25, .cells b_2 [.slice none 0 0, .slice none 0 0] 25, .row 43 2 v_128 x_127.length cs_129, .cells b_10 [v_128, .slice none 0 0] 25]) ?_ ?_
        · refine parT_region (C := fun w => St [] w0 w R [.cells b_1 [v0_0, v0_1] 25, .cells b_2 [.slice none 0 0, .slice none 0 0] 25, .row 43 2 v_128 x_127.length cs_129, .cells b_10 [v_128, .slice none 0 0] 25]) 9 [(0, true), (1, true), (2, true), (3, true), (4, true), (5, true), (6, true), (7, true), (8, true)] mixed (by kernel_rfl) hS (fun w hS => hS) fun w hS => ?_
          refine sp (k := 0) rfl hK (by decide) rfl rfl (fun w hS => r_move hK rfl) fun a hK => ?_
          refine sp (k := 1) rfl hK (by decide) rfl rfl (fun w hS => r_ibin hK rfl rfl rfl) fun a hK => ?_
          refine sp (k := 2) rfl hK (by decide) rfl rfl (fun w hS => r_move hK rfl) fun a hK => ?_
          rcases or_b (decide (y_266 < 0)) with hb_306 | hb_306
          · rw [ifb_t hb_306] at H
            refine sp_skip (k := 3) rfl hK (by decide) (wft hb_306) rfl fun a hK => ?_
            refine sp_skip (k := 4) rfl hK (by decide) (wft hb_306) rfl fun a hK => ?_
            refine sp_skip (k := 5) rfl hK (by decide) (wft hb_306) rfl fun a hK => ?_
            refine sp_skip (k := 6) rfl hK (by decide) (wft hb_306) rfl fun a hK => ?_
            refine sp_skip (k := 7) rfl hK (by decide) (wft hb_306) rfl fun a hK => ?_
            refine sp_skip (k := 8) rfl hK (by decide) (wft hb_306) rfl fun a hK => ?_
            refine thenL_nil ?_
            refine sl_skip hK (by decide) (wft hb_306) rfl fun a hK => ?_
            refine sl_skip hK (by decide) (wft hb_306) rfl fun a hK => ?_
            refine sl hK (by decide) rfl rfl (r_pick_t hb_306 hK rfl rfl) fun a hK => ?_
            refine wpList_nil (NoP_nil ?_)
            have hS := hS.pk3
            have hS := hS.pk3
            have hS := hS.pk3
            have hS := hS.pk3
            exact ⟨true, H, hK.sub (all_cons rfl (all_cons rfl (all_cons rfl (all_cons rfl (all_cons rfl (all_cons rfl (all_cons rfl (all_nil)))))))), hS⟩
          · rw [ifb_f hb_306] at H
            refine sp (k := 3) rfl hK (by decide) (wff hb_306) rfl (fun w hS => r_fieldAddr Try.underlying25 rfl Try.sizeOf22 hK rfl) fun a hK => ?_
            refine sp (k := 4) rfl hK (by decide) (wff hb_306) rfl (fun w hS => r_load Try.isAgg22 hK rfl (hS.cell (.tail _ (.tail _ (.tail _ (.head _)))) rfl)) fun a hK => ?_
            refine sp (k := 5) rfl hK (by decide) (wff hb_306) rfl (fun w hS => r_move hK rfl) fun a hK => ?_
            refine sp (k := 6) rfl hK (by decide) (wff hb_306) rfl (fun w hS => r_move hK rfl) fun a hK => ?_
            obtain ⟨y_307, h_308, H⟩ := bind_some H
            obtain ⟨b_309, o_310, c_311, cs_312, hv_313, hr_314, hc_315, h_3080, h_3081⟩ := h1_0.ix h_308
            subst hr_314
            refine sp (k := 7) rfl hK (by decide) (wff hb_306) rfl (fun w hS => r_indexAddr_R Try.underlying39 Try.sizeOf9 hv_313 h_3080 h_3081 hK rfl rfl) fun a hK => ?_
            refine sp (k := 8) rfl hK (by decide) (wff hb_306) rfl (fun w hS => r_load Try.isAgg9 hK rfl ((hS.ra hRA nil_not).cell (hc_315 0 _ rfl))) fun a hK => ?_
            refine thenL_nil ?_
            obtain ⟨y_316, h_317, H⟩ := bind_some H
            refine sl_callV Try.call18 hS hK (by decide) (wff hb_306) rfl rfl (ref02_Find.calls x_127 y_307 (lentOf_sub [] _) (hS.lend_row0 (.tail _ (.tail _ (.head _))) hq_130 rfl rfl) h_317) fun a w hS hK => ?_
            refine sl hK (by decide) (wff hb_306) rfl (r_ibin hK rfl rfl rfl) fun a hK => ?_
            refine sl hK (by decide) rfl rfl (r_pick_f hb_306 hK rfl rfl) fun a hK => ?_
            refine wpList_nil (NoP_nil ?_)
            have hS := hS.pk3
            have hS := hS.pk3
            have hS := hS.pk3
            have hS := hS.pk3
            exact ⟨(decide (y_316 ≥ 0)), H, hK.sub (all_cons rfl (all_cons rfl (all_cons rfl (all_cons rfl (all_cons rfl (all_cons rfl (all_cons rfl (all_nil)))))))), hS⟩
        · rintro a w ⟨x_292, H, hK, hS⟩
          unfold ref02_Keep.j1 at H
          refine wp_cond_split (hK.ev rfl) (fun (hb_318 : x_292 = true) => ?_) (fun (hb_318 : x_292 = false) => ?_)
          · rw [ifb_t hb_318] at H
            refine wp_seq ?_
            refine wp_region_lit ?_
            refine sl hK (by decide) rfl rfl (r_buildC (ps := []) (c := [.slice none 0 0, .slice none 0 0]) Try.underlying25 Try.zeroValue25 places25 hK rfl pc_nil rfl rfl) fun a hK => ?_
            have hS := hS.pk1
            refine sl_storeA (vs := [.slice none 0 0, .slice none 0 0]) (c' := [.slice none 0 0, .slice none 0 0]) Try.sizeOf25 hS hK rfl rfl rfl rfl (all_cons rfl (all_cons rfl (all_nil))) (Nat.le_of_ble_eq_true rfl) rfl fun a w hS hK => ?_
            refine sl hK (by decide) rfl rfl (r_assign hK rfl) fun a hK => ?_
            refine wpList_nil ?_
            have hS := hS.row_nil 43 2
            have hq_320 : Reps ty_api_Col R [] ([] : List api_Col) := Reps.nil _ _
            have hS := hS.row_nil 35 1
            have hq_322 : Reps (tySl ty_api_Value) R [] ([] : List (List api_Value)) := Reps.nil _ _
            obtain rfl := Option.some.inj H
            refine wp_ret ?_
            repeat (first | refine ret_then ?_ | refine ret_block ?_ | refine ret_scope ?_)
            exact ret_2 Try.results27 hK (rv_cell (c := [(.slice none 0 0), (.slice none 0 0)]) Try.isAgg25 Try.sizeOf25 hS (.tail _ (.tail _ (.head _))) rfl hK rfl) (rv_tmp hK rfl) ⟨_, rfl, _, _, _, _, _, rfl, (hS.pk1.trunc 2), hRL, hq_320, hq_322⟩
          · rw [ifb_f hb_318] at H
            refine wp_skip ?_
            refine parT_region (C := fun w => St [] w0 w R [.cells b_1 [v0_0, v0_1] 25, .cells b_2 [.slice none 0 0, .slice none 0 0] 25, .row 43 2 v_128 x_127.length cs_129, .cells b_10 [v_128, .slice none 0 0] 25]) 8 [(0, true), (1, true), (2, true), (3, true), (4, true), (5, true), (6, true), (7, false)] mixed (by kernel_rfl) hS (fun w hS => hS) fun w hS => ?_
            refine sp (k := 0) rfl hK (by decide) rfl rfl (fun w hS => r_fieldAddr Try.underlying25 rfl Try.sizeOf22 hK rfl) fun a hK => ?_
            refine sp (k := 1) rfl hK (by decide) rfl rfl (fun w hS => r_load Try.isAgg22 hK rfl (hS.cell (.tail _ (.tail _ (.tail _ (.head _)))) rfl)) fun a hK => ?_
            refine sp (k := 2) rfl hK (by decide) rfl rfl (fun w hS => r_fieldAddr Try.underlying25 rfl Try.sizeOf22 hK rfl) fun a hK => ?_
            refine sp (k := 3) rfl hK (by decide) rfl rfl (fun w hS => r_load Try.isAgg22 hK rfl (hS.cell (.head _) rfl)) fun a hK => ?_
            refine sp (k := 4) rfl hK (by decide) rfl rfl (fun w hS => r_move hK rfl) fun a hK => ?_
            obtain ⟨y_339, h_340, H⟩ := bind_some H
            obtain ⟨b_341, o_342, c_343, cs_344, hv_345, hr_346, hc_347, h_3400, h_3401⟩ := h0_0.ix h_340
            subst hr_346
            refine sp (k := 5) rfl hK (by decide) rfl rfl (fun w hS => r_indexAddr_R Try.underlying22 Try.sizeOf43 hv_345 h_3400 h_3401 hK rfl rfl) fun a hK => ?_
            refine sp (k := 6) rfl hK (by decide) rfl rfl (fun w hS => r_loadA (cs := [.string y_339.Name, .int .i64 y_339.Kind]) Try.isAgg43 Try.sizeOf43 rfl hK rfl (fun j v hv => (hS.ra hRA nil_not).cell (hc_347 j v hv))) fun a hK => ?_
            refine spw (k := 7) rfl rfl hS ?_
            refine sl_buildSliceF (zc := [.string (⟨#[]⟩ : ByteArray), .int .i64 0]) (ps := [(0, .agg #[.string y_339.Name, .int .i64 y_339.Kind])]) (c := [.string y_339.Name, .int .i64 y_339.Kind]) [[.string y_339.Name, .int .i64 y_339.Kind]] Try.underlying22 Try.sizeOf43 Try.zeroValue43 rfl (pc_cons rfl pc_nil) rfl rfl (Nat.le_of_ble_eq_true rfl) rfl (all_cons rfl (all_nil)) rfl hS hK (by decide) rfl fun a w b_348 hS hK => ?_
            refine parK_nil (hS.pk4.pk4.pk4.pk4.trunc 4) ?_
            refine thenL_nil ?_
            obtain ⟨y_349, h_350, H⟩ := bind_some H
            have hS := hS.pk3
            refine sl_append_L (ty := ty_api_Col) (ys := [y_339]) elT22 (by decide) rfl hq_130 rfl (Reps.cons (show Ty.rep ty_api_Col _ [.string y_339.Name, .int .i64 y_339.Kind] y_339 from rfl) (Reps.nil _ _)) rfl h_350 hS hK (by decide) rfl rfl rfl fun a w v_351 cs_352 hq_353 hS hK => ?_
            refine sl hK (by decide) rfl rfl (r_fieldAddr Try.underlying25 rfl Try.sizeOf22 hK rfl) fun a hK => ?_
            have hS := hS.pk3
            refine sl_store1 (c' := [v_351, .slice none 0 0]) Try.sizeOf22 hS hK rfl rfl rfl (hS.row_one (.tail _ (.head _))) (Nat.le_of_ble_eq_true rfl) rfl fun a w hS hK => ?_
            refine wpList_nil (NoP_nil ?_)
            refine wp_region_lit ?_
            refine sl hK (by decide) rfl rfl (r_move hK rfl) fun a hK => ?_
            refine sl hK (by decide) rfl rfl (r_ibin hK rfl rfl rfl) fun a hK => ?_
            refine sl hK (by decide) rfl rfl (r_assign hK rfl) fun a hK => ?_
            refine wpList_nil ?_
            have hS := hS.pk1
            have hS := hS.pk3
            have hS := hS.pk3
            exact ⟨_, Nat.lt_succ_self _, y_349, (IntKind.i64.wrap (x_131 + 1)), _, _, H, hq_353, hK.sub (all_cons rfl (all_cons rfl (all_cons rfl (all_cons rfl (all_cons rfl (all_nil)))))), hS⟩
      · rw [ifb_f hb_245] at H
        refine wp_exit ?_
        refine wp_seq ?_
        refine wp_seq ?_
        refine wp_region_lit ?_
        refine sl hK (by decide) rfl rfl (r_move hK rfl) fun a hK => ?_
        refine sl hK (by decide) rfl rfl (r_len_R Try.underlying39 h1_0 hK rfl) fun a hK => ?_
        refine sl hK (by decide) rfl rfl (r_ibin hK rfl rfl rfl) fun a hK => ?_
        refine wpList_nil ?_
        refine wp_cond_split (hK.ev rfl) (fun (hb_355 : ((a1.length : Int) == 0) = true) => ?_) (fun (hb_355 : ((a1.length : Int) == 0) = false) => ?_)
        · rw [ifb_t hb_355] at H
          refine wp_seq ?_
          refine wp_region_lit ?_
          refine sl hK (by decide) rfl rfl (r_buildC (ps := []) (c := [.slice none 0 0, .slice none 0 0]) Try.underlying25 Try.zeroValue25 places25 hK rfl pc_nil rfl rfl) fun a hK => ?_
          have hS := hS.pk1
          refine sl_storeA (vs := [.slice none 0 0, .slice none 0 0]) (c' := [.slice none 0 0, .slice none 0 0]) Try.sizeOf25 hS hK rfl rfl rfl rfl (all_cons rfl (all_cons rfl (all_nil))) (Nat.le_of_ble_eq_true rfl) rfl fun a w hS hK => ?_
          refine sl hK (by decide) rfl rfl (r_assign hK rfl) fun a hK => ?_
          refine wpList_nil ?_
          have hS := hS.row_nil 43 2
          have hq_357 : Reps ty_api_Col R [] ([] : List api_Col) := Reps.nil _ _
          have hS := hS.row_nil 35 1
          have hq_359 : Reps (tySl ty_api_Value) R [] ([] : List (List api_Value)) := Reps.nil _ _
          obtain rfl := Option.some.inj H
          refine wp_ret ?_
          repeat (first | refine ret_then ?_ | refine ret_block ?_ | refine ret_scope ?_)
          exact ret_2 Try.results27 hK (rv_cell (c := [(.slice none 0 0), (.slice none 0 0)]) Try.isAgg25 Try.sizeOf25 hS (.tail _ (.tail _ (.head _))) rfl hK rfl) (rv_tmp hK rfl) ⟨_, rfl, _, _, _, _, _, rfl, (hS.pk1.trunc 2), hRL, hq_357, hq_359⟩
        · rw [ifb_f hb_355] at H
          refine wp_skip ?_
          refine wp_seq ?_
          refine wp_seq ?_
          refine wp_region_lit ?_
          refine sl hK (by decide) rfl rfl (r_assign hK rfl) fun a hK => ?_
          refine wpList_nil ?_
          refine wp_block ?_
          refine wp_loop_k (fun k_l2 a w => ∃ (x_623 : List (List api_Value)) (x_627 : Int) (R_628 : Hp) (v_624 : Value) (cs_625 : List Value), ref02_Keep.l2 a0 a1 x_127 k_l2 x_623 x_627 = some r ∧ RLe [] w0 R R_628 ∧ Reps (tySl ty_api_Value) R_628 cs_625 x_623 ∧ Kn 98 a [(1, v1_0), (2, .pointer (some ⟨b_1, 0, none⟩)), (4, .pointer (some ⟨b_2, 0, none⟩)), (7, .pointer (some ⟨b_10, 0, none⟩)), (10, .int .i64 x_627)] ∧ St [] w0 w R_628 [.cells b_1 [v0_0, v0_1] 25, .cells b_2 [.slice none 0 0, .slice none 0 0] 25, .row 43 2 v_128 x_127.length cs_129, .row 35 1 v_624 x_623.length cs_625, .cells b_10 [v_128, v_624] 25]) (((a0.Rows.length : Int) - 0).toNat + 1) ?_ ?_
          · have hS := hS.row_nil 35 1
            have hq_888 : Reps (tySl ty_api_Value) R [] ([] : List (List api_Value)) := Reps.nil _ _
            have hS := hS.pk4
            have hS := hS.pk1
            have hS := hS.pk4
            have hS := hS.pk4
            have hS := hS.pk4
            exact ⟨[], 0, _, _, _, H, (RLe.refl _ _), hq_888, hK.sub (all_cons rfl (all_cons rfl (all_cons rfl (all_cons rfl (all_cons rfl (all_nil)))))), hS⟩
          · rintro k_l2 a w ⟨x_623, x_627, R_628, v_624, cs_625, H, hl_629, hq_626, hK, hS⟩
            cases k_l2 with
            | zero => cases H
            | succ k_l2 =>
            rw [ref02_Keep.l2.eq_2] at H
            have hRL := hRL.trans hl_629
            refine wp_seq ?_
            refine wp_seq ?_
            refine wp_region_lit ?_
            refine sl hK (by decide) rfl rfl (r_move hK rfl) fun a hK => ?_
            refine sl hK (by decide) rfl rfl (r_fieldAddr Try.underlying25 rfl Try.sizeOf23 hK rfl) fun a hK => ?_
            refine sl hK (by decide) rfl rfl (r_load Try.isAgg23 hK rfl (hS.cell (.head _) rfl)) fun a hK => ?_
            refine sl hK (by decide) rfl rfl (r_len_R Try.underlying23 h0_1 hK rfl) fun a hK => ?_
            refine sl hK (by decide) rfl rfl (r_ibin hK rfl rfl rfl) fun a hK => ?_
            refine wpList_nil ?_
            refine wp_cond_split (hK.ev rfl) (fun (hb_889 : (decide (x_627 < (a0.Rows.length : Int))) = true) => ?_) (fun (hb_889 : (decide (x_627 < (a0.Rows.length : Int))) = false) => ?_)
            · rw [ifb_t hb_889] at H
              refine wp_skip ?_
              refine wp_seq ?_
              refine wp_block ?_
              refine wp_seq ?_
              refine wp_region_lit ?_
              refine sl hK (by decide) rfl rfl (r_assign hK rfl) fun a hK => ?_
              refine wpList_nil ?_
              refine wp_seq ?_
              refine wp_seq ?_
              refine wp_region_lit ?_
              refine sl hK (by decide) rfl rfl (r_assign hK rfl) fun a hK => ?_
              refine wpList_nil ?_
              refine wp_block ?_
              refine wp_loop_k (fun k_l3 a w => ∃ (x_973 : List api_Value) (x_977 : Int) (v_974 : Value) (cs_975 : List Value), ref02_Keep.l3 (ref02_Keep.l2 a0 a1 x_127 k_l2) a0 a1 x_623 x_627 k_l3 x_973 x_977 = some r ∧ Reps ty_api_Value R_628 cs_975 x_973 ∧ Kn 98 a [(1, v1_0), (2, .pointer (some ⟨b_1, 0, none⟩)), (4, .pointer (some ⟨b_2, 0, none⟩)), (7, .pointer (some ⟨b_10, 0, none⟩)), (10, .int .i64 x_627), (11, v_974), (12, .int .i64 x_977)] ∧ St [] w0 w R_628 [.cells b_1 [v0_0, v0_1] 25, .cells b_2 [.slice none 0 0, .slice none 0 0] 25, .row 43 2 v_128 x_127.length cs_129, .row 35 1 v_624 x_623.length cs_625, .cells b_10 [v_128, v_624] 25, .row 50 11 v_974 x_973.length cs_975]) (((a1.length : Int) - 0).toNat + 1) ?_ ?_
              · have hS := hS.row_nil 50 11
                have hq_1057 : Reps ty_api_Value R_628 [] ([] : List api_Value) := Reps.nil _ _
                have hS := hS.pk5
                have hS := hS.pk5
                have hS := hS.pk5
                have hS := hS.pk5
                have hS := hS.pk5
                exact ⟨[], 0, _, _, H, hq_1057, hK.sub (all_cons rfl (all_cons rfl (all_cons rfl (all_cons rfl (all_cons rfl (all_cons rfl (all_cons rfl (all_nil)))))))), hS⟩
              · rintro k_l3 a w ⟨x_973, x_977, v_974, cs_975, H, hq_976, hK, hS⟩
                cases k_l3 with
                | zero => cases H
                | succ k_l3 =>
                rw [ref02_Keep.l3.eq_2] at H
                refine wp_seq ?_
                refine wp_seq ?_
                refine wp_region_lit ?_
                refine sl hK (by decide) rfl rfl (r_move hK rfl) fun a hK => ?_
                refine sl hK (by decide) rfl rfl (r_move hK rfl) fun a hK => ?_
                refine sl hK (by decide) rfl rfl (r_len_R Try.underlying39 h1_0 hK rfl) fun a hK => ?_
                refine sl hK (by decide) rfl rfl (r_ibin hK rfl rfl rfl) fun a hK => ?_
                refine wpList_nil ?_
                refine wp_cond_split (hK.ev rfl) (fun (hb_1058 : (decide (x_977 < (a1.length : Int))) = true) => ?_) (fun (hb_1058 : (decide (x_977 < (a1.length : Int))) = false) => ?_)
                · rw [ifb_t hb_1058] at H
                  refine wp_skip ?_
                  refine wp_seq ?_
                  refine wp_block ?_
                  refine parT_region (C := fun w => St [] w0 w R_628 [.cells b_1 [v0_0, v0_1] 25, .cells b_2 [.slice none 0 0, .slice none 0 0] 25, .row 43 2 v_128 x_127.length cs_129, .row 35 1 v_624 x_623.length cs_625, .cells b_10 [v_128, v_624] 25, .row 50 11 v_974 x_973.length cs_975]) 16 [(0, true), (1, true), (2, true), (3, true), (4, true), (5, true), (6, true), (7, true), (8, true), (9, true), (10, true), (11, true), (12, false), (13, true), (14, true), (15, false)] mixed (by kernel_rfl) hS (fun w hS => hS) fun w hS => ?_
                  refine sp (k := 0) rfl hK (by decide) rfl rfl (fun w hS => r_move hK rfl) fun a hK => ?_
                  refine sp (k := 1) rfl hK (by decide) rfl rfl (fun w hS => r_fieldAddr Try.underlying25 rfl Try.sizeOf23 hK rfl) fun a hK => ?_
                  refine sp (k := 2) rfl hK (by decide) rfl rfl (fun w hS => r_load Try.isAgg23 hK rfl (hS.cell (.head _) rfl)) fun a hK => ?_
                  refine sp (k := 3) rfl hK (by decide) rfl rfl (fun w hS => r_move hK rfl) fun a hK => ?_
                  obtain ⟨y_1097, h_1098, H⟩ := bind_some H
                  obtain ⟨b_1099, o_1100, c_1101, cs_1102, hv_1103, hr_1104, hc_1105, h_10980, h_10981⟩ := h0_1.ix h_1098
                  obtain ⟨v_1106, rfl, hs_1107⟩ := hr_1104
                  refine sp (k := 4) rfl hK (by decide) rfl rfl (fun w hS => r_indexAddr_R Try.underlying23 Try.sizeOf35 hv_1103 h_10980 h_10981 hK rfl rfl) fun a hK => ?_
                  refine sp (k := 5) rfl hK (by decide) rfl rfl (fun w hS => r_load Try.isAgg35 hK rfl ((hS.ra hRA nil_not).cell (hc_1105 0 _ rfl))) fun a hK => ?_
                  refine sp (k := 6) rfl hK (by decide) rfl rfl (fun w hS => r_fieldAddr Try.underlying25 rfl Try.sizeOf22 hK rfl) fun a hK => ?_
                  refine sp (k := 7) rfl hK (by decide) rfl rfl (fun w hS => r_load Try.isAgg22 hK rfl (hS.cell (.head _) rfl)) fun a hK => ?_
                  refine sp (k := 8) rfl hK (by decide) rfl rfl (fun w hS => r_move hK rfl) fun a hK => ?_
                  refine sp (k := 9) rfl hK (by decide) rfl rfl (fun w hS => r_move hK rfl) fun a hK => ?_
                  obtain ⟨y_1108, h_1109, H⟩ := bind_some H
                  obtain ⟨b_1110, o_1111, c_1112, cs_1113, hv_1114, hr_1115, hc_1116, h_11090, h_11091⟩ := h1_0.ix h_1109
                  subst hr_1115
                  refine sp (k := 10) rfl hK (by decide) rfl rfl (fun w hS => r_indexAddr_R Try.underlying39 Try.sizeOf9 hv_1114 h_11090 h_11091 hK rfl rfl) fun a hK => ?_
                  refine sp (k := 11) rfl hK (by decide) rfl rfl (fun w hS => r_load Try.isAgg9 hK rfl ((hS.ra hRA nil_not).cell (hc_1116 0 _ rfl))) fun a hK => ?_
                  refine spw (k := 12) rfl rfl hS ?_
                  obtain ⟨y_1117, h_1118, H⟩ := bind_some H
                  refine sl_callV Try.call18 hS hK (by decide) rfl rfl rfl (ref02_Find.calls a0.Cols y_1108 (lentOf_sub [] _) (h0_0.mono (hS.raLe0 hRA nil_not)) h_1118) fun a w hS hK => ?_
                  refine parK_nil hS ?_
                  obtain ⟨y_1119, h_1120, H⟩ := bind_some H
                  obtain ⟨b_1121, o_1122, c_1123, cs_1124, hv_1125, hr_1126, hc_1127, h_11200, h_11201⟩ := hs_1107.ix h_1120
                  subst hr_1126
                  refine sp (k := 13) rfl hK (by decide) rfl rfl (fun w hS => r_indexAddr_R Try.underlying35 Try.sizeOf50 hv_1125 h_11200 h_11201 hK rfl rfl) fun a hK => ?_
                  refine sp (k := 14) rfl hK (by decide) rfl rfl (fun w hS => r_loadA (cs := [.int .i64 y_1119.Kind, .int .i64 y_1119.N, .string y_1119.S, .int .i64 y_1119.H.a0, .int .i64 y_1119.H.a1, .int .i64 y_1119.H.a2, .int .i64 y_1119.H.a3, .int .i64 y_1119.H.a4, .int .i64 y_1119.H.a5, .int .i64 y_1119.H.a6, .int .i64 y_1119.H.a7]) Try.isAgg50 Try.sizeOf50 rfl hK rfl (fun j v hv => (hS.ra hRA nil_not).cell (hc_1127 j v hv))) fun a hK => ?_
                  refine spw (k := 15) rfl rfl hS ?_
                  refine sl_buildSliceF (zc := [.int .i64 0, .int .i64 0, .string (⟨#[]⟩ : ByteArray), .int .i64 0, .int .i64 0, .int .i64 0, .int .i64 0, .int .i64 0, .int .i64 0, .int .i64 0, .int .i64 0]) (ps := [(0, .agg #[.int .i64 y_1119.Kind, .int .i64 y_1119.N, .string y_1119.S, .int .i64 y_1119.H.a0, .int .i64 y_1119.H.a1, .int .i64 y_1119.H.a2, .int .i64 y_1119.H.a3, .int .i64 y_1119.H.a4, .int .i64 y_1119.H.a5, .int .i64 y_1119.H.a6, .int .i64 y_1119.H.a7])]) (c := [.int .i64 y_1119.Kind, .int .i64 y_1119.N, .string y_1119.S, .int .i64 y_1119.H.a0, .int .i64 y_1119.H.a1, .int .i64 y_1119.H.a2, .int .i64 y_1119.H.a3, .int .i64 y_1119.H.a4, .int .i64 y_1119.H.a5, .int .i64 y_1119.H.a6, .int .i64 y_1119.H.a7]) [[.int .i64 y_1119.Kind, .int .i64 y_1119.N, .string y_1119.S, .int .i64 y_1119.H.a0, .int .i64 y_1119.H.a1, .int .i64 y_1119.H.a2, .int .i64 y_1119.H.a3, .int .i64 y_1119.H.a4, .int .i64 y_1119.H.a5, .int .i64 y_1119.H.a6, .int .i64 y_1119.H.a7]] Try.underlying35 Try.sizeOf50 Try.zeroValue50 rfl (pc_cons rfl pc_nil) rfl rfl (Nat.le_of_ble_eq_true rfl) rfl (all_cons rfl (all_nil)) rfl hS hK (by decide) rfl fun a w b_1128 hS hK => ?_
                  refine parK_nil (hS.pk6.pk6.pk6.pk6.pk6.pk6.trunc 6) ?_
                  refine thenL_nil ?_
                  obtain ⟨y_1129, h_1130, H⟩ := bind_some H
                  have hS := hS.pk6
                  refine sl_append_L (ty := ty_api_Value) (ys := [y_1119]) elT35 (by decide) rfl hq_976 rfl (Reps.cons (show Ty.rep ty_api_Value _ [.int .i64 y_1119.Kind, .int .i64 y_1119.N, .string y_1119.S, .int .i64 y_1119.H.a0, .int .i64 y_1119.H.a1, .int .i64 y_1119.H.a2, .int .i64 y_1119.H.a3, .int .i64 y_1119.H.a4, .int .i64 y_1119.H.a5, .int .i64 y_1119.H.a6, .int .i64 y_1119.H.a7] y_1119 from rfl) (Reps.nil _ _)) rfl h_1130 hS hK (by decide) rfl rfl rfl fun a w v_1131 cs_1132 hq_1133 hS hK => ?_
                  refine sl hK (by decide) rfl rfl (r_assign hK rfl) fun a hK => ?_
                  refine wpList_nil (NoP_nil ?_)
                  refine wp_region_lit ?_
                  refine sl hK (by decide) rfl rfl (r_move hK rfl) fun a hK => ?_
                  refine sl hK (by decide) rfl rfl (r_ibin hK rfl rfl rfl) fun a hK => ?_
                  refine sl hK (by decide) rfl rfl (r_assign hK rfl) fun a hK => ?_
                  refine wpList_nil ?_
                  have hS := hS.pk5
                  have hS := hS.pk5
                  have hS := hS.pk5
                  have hS := hS.pk5
                  have hS := hS.pk5
                  exact ⟨_, Nat.lt_succ_self _, y_1129, (IntKind.i64.wrap (x_977 + 1)), _, _, H, hq_1133, hK.sub (all_cons rfl (all_cons rfl (all_cons rfl (all_cons rfl (all_cons rfl (all_cons rfl (all_cons rfl (all_nil)))))))), hS⟩
                · rw [ifb_f hb_1058] at H
                  refine wp_exit ?_
                  refine wp_region_lit ?_
                  refine sl hK (by decide) rfl rfl (r_fieldAddr Try.underlying25 rfl Try.sizeOf23 hK rfl) fun a hK => ?_
                  refine sl hK (by decide) rfl rfl (r_load Try.isAgg23 hK rfl (hS.cell (.tail _ (.tail _ (.tail _ (.tail _ (.head _))))) rfl)) fun a hK => ?_
                  refine sl hK (by decide) rfl rfl (r_move hK rfl) fun a hK => ?_
                  have ho_1135 := hS.row_one (.tail _ (.tail _ (.tail _ (.tail _ (.tail _ (.head _))))))
                  refine sl_buildSliceF (zc := [.slice none 0 0]) (ps := [(0, v_974)]) (c := [v_974]) [[v_974]] Try.underlying23 Try.sizeOf35 Try.zeroValue35 rfl (pc_cons (cells1 ho_1135) pc_nil) rfl rfl (Nat.le_of_ble_eq_true rfl) rfl (all_cons rfl (all_nil)) rfl hS hK (by decide) rfl fun a w b_1136 hS hK => ?_
                  have hS := hS.pk4
                  have hS := hS.pk6
                  obtain ⟨R_1137, hS, hl_1139, hs_1138⟩ := hS.fz_row hq_976 rfl rfl
                  have hRL := hRL.trans hl_1139
                  obtain ⟨y_1140, h_1141, H⟩ := bind_some H
                  refine sl_append_L (ty := (tySl ty_api_Value)) (ys := [x_973]) elT23 (by decide) rfl (hq_626.mono hl_1139.le) rfl (Reps.cons (show Ty.rep (tySl ty_api_Value) _ [v_974] x_973 from ⟨_, rfl, hs_1138⟩) (Reps.nil _ _)) rfl h_1141 hS hK (by decide) rfl rfl rfl fun a w v_1142 cs_1143 hq_1144 hS hK => ?_
                  refine sl hK (by decide) rfl rfl (r_fieldAddr Try.underlying25 rfl Try.sizeOf23 hK rfl) fun a hK => ?_
                  have hS := hS.pk4
                  refine sl_store1 (c' := [v_128, v_1142]) Try.sizeOf23 hS hK rfl rfl rfl (hS.row_one (.tail _ (.head _))) (Nat.le_of_ble_eq_true rfl) rfl fun a w hS hK => ?_
                  refine wpList_nil ?_
                  refine wp_region_lit ?_
                  refine sl hK (by decide) rfl rfl (r_move hK rfl) fun a hK => ?_
                  refine sl hK (by decide) rfl rfl (r_ibin hK rfl rfl rfl) fun a hK => ?_
                  refine sl hK (by decide) rfl rfl (r_assign hK rfl) fun a hK => ?_
                  refine wpList_nil ?_
                  have hS := hS.pk1
                  have hS := hS.pk4
                  have hS := hS.pk4
                  have hS := hS.pk4
                  exact ⟨_, Nat.lt_succ_self _, y_1140, (IntKind.i64.wrap (x_627 + 1)), _, _, _, H, (hl_629.trans hl_1139), hq_1144, hK.sub (all_cons rfl (all_cons rfl (all_cons rfl (all_cons rfl (all_cons rfl (all_nil)))))), hS⟩
            · rw [ifb_f hb_889] at H
              refine wp_exit ?_
              refine wp_seq ?_
              refine wp_region_lit ?_
              refine sl hK (by decide) rfl rfl (r_loadA (cs := [v_128, v_624]) Try.isAgg25 Try.sizeOf25 rfl hK rfl (hS.cells_of (m := 2) (.tail _ (.tail _ (.tail _ (.tail _ (.head _))))) rfl)) fun a hK => ?_
              have hS := hS.pk2
              obtain ⟨R_1146, hS, hl_1148, hs_1147⟩ := hS.fz_row (hq_130.mono hl_629.le) rfl rfl
              have hRL := hRL.trans hl_1148
              have hS := hS.pk2
              obtain ⟨R_1149, hS, hl_1151, hs_1150⟩ := hS.fz_row (hq_626.mono hl_1148.le) rfl rfl
              have hRL := hRL.trans hl_1151
              obtain ⟨y_1152, h_1153, H⟩ := bind_some H
              refine sl_call Try.call21 hK (by decide) rfl rfl rfl (ref02_Canon.calls (⟨x_127, x_623⟩ : api_Table) hS.sub (hs_1147.mono hl_1151.le) hs_1150 h_1153) fun a v_ w hv_ hK => ?_
              obtain ⟨R_1154, v_1157, cs_1158, v_1161, cs_1162, hv_, hr_, hl_1155, hq_1159, hq_1163⟩ := hv_
              have hv_ := hv_.symm
              subst hv_
              obtain ⟨hS, hl_1155⟩ := hS.sp0.back hr_ hl_1155
              have hS := hS.un2
              have hRL := hRL.trans hl_1155
              have hS := hS.pk3
              refine sl_storeA (vs := [v_1157, v_1161]) (c' := [v_1157, v_1161]) Try.sizeOf25 hS hK rfl rfl rfl rfl (all_cons (hS.row_one (.tail _ (.head _))) (all_cons (hS.row_one (.tail _ (.tail _ (.head _)))) (all_nil))) (Nat.le_of_ble_eq_true rfl) rfl fun a w hS hK => ?_
              refine sl hK (by decide) rfl rfl (r_assign hK rfl) fun a hK => ?_
              refine wpList_nil ?_
              obtain rfl := Option.some.inj H
              refine wp_ret ?_
              repeat (first | refine ret_then ?_ | refine ret_block ?_ | refine ret_scope ?_)
              exact ret_2 Try.results27 hK (rv_cell (c := [v_1157, v_1161]) Try.isAgg25 Try.sizeOf25 hS (.head _) rfl hK rfl) (rv_tmp hK rfl) ⟨_, rfl, _, _, _, _, _, rfl, (hS.pk2.pk2.trunc 2), hRL, hq_1159, hq_1163⟩

/-! ### catchment/catchmentlaw02.TableKeeps: function 8 -/
set_option maxHeartbeats 4000000 in
set_option maxRecDepth 100000 in
theorem law02_TableKeeps.calls (a0 : api_Table) (a1 : List ByteArray) {w0 : World} {R : Hp} {RA : Hp} {v0_0 : Value} {v0_1 : Value} {v1_0 : Value} (hRA : RA.sub w0) (hR : R.sub w0) (h0_0 : SlR ty_api_Col R v0_0 a0.Cols) (h0_1 : SlR (tySl ty_api_Value) R v0_1 a0.Rows) (h1_0 : SlR tyStr RA v1_0 a1) (H : law02_TableKeeps a0 a1 = some true) : CallsV Try.prog 8 #[.agg #[v0_0, v0_1], v1_0] w0 (.bool true) := by
  unfold law02_TableKeeps at H
  refine enter (args := [.agg #[v0_0, v0_1], v1_0]) Try.func8 rfl Try.ntmps8 rfl fun a hK => ?_
  have hS := St.init hR
  have hRL := RLe.refl (M := []) w0 R
  refine wp_seq ?_
  refine wp_region_lit ?_
  refine sl_box hS hK (by decide) rfl rfl (c := [v0_0, v0_1]) rfl fun a w b_1 hS hK => ?_
  refine sl hK (by decide) rfl rfl (r_assign hK rfl) fun a hK => ?_
  refine wpList_nil ?_
  refine wp_seq ?_
  refine wp_region_lit ?_
  obtain ⟨y_2, h_3, H⟩ := bind_some H
  refine sl_callV Try.call11 hS hK (by decide) rfl rfl rfl (law02_shown.calls h_3 _) fun a w hS hK => ?_
  refine sl hK (by decide) rfl rfl (r_assign hK rfl) fun a hK => ?_
  refine wpList_nil ?_
  refine wp_seq ?_
  refine wp_region_lit ?_
  refine sl hK (by decide) rfl rfl (r_loadA (cs := [v0_0, v0_1]) Try.isAgg25 Try.sizeOf25 rfl hK rfl (hS.cells_of (m := 2) (.head _) rfl)) fun a hK => ?_
  obtain ⟨y_4, h_5, H⟩ := bind_some H
  refine sl_call Try.call12 hK (by decide) rfl rfl rfl (law02_cut.calls a0 hS.sub h0_0 h0_1 h_5) fun a v_ w hv_ hK => ?_
  obtain ⟨R_6, v_8, v_10, hv_, hr_, hl_7, hs_9, hs_11⟩ := hv_
  have hv_ := hv_.symm
  subst hv_
  obtain ⟨hS, hl_7⟩ := hS.sp0.back hr_ hl_7
  have hS := hS.un0
  have hRL := hRL.trans hl_7
  refine sl_storeA (vs := [v_8, v_10]) (c' := [v_8, v_10]) Try.sizeOf25 hS hK rfl rfl rfl rfl (all_cons hs_9.one (all_cons hs_11.one (all_nil))) (Nat.le_of_ble_eq_true rfl) rfl fun a w hS hK => ?_
  refine wpList_nil ?_
  refine wp_seq ?_
  refine wp_seq ?_
  refine wp_region_lit ?_
  refine sl hK (by decide) rfl rfl (r_move hK rfl) fun a hK => ?_
  refine sl hK (by decide) rfl rfl (r_len_R Try.underlying39 h1_0 hK rfl) fun a hK => ?_
  refine sl hK (by decide) rfl rfl (r_ibin hK rfl rfl rfl) fun a hK => ?_
  refine wpList_nil ?_
  refine wp_mid (fun a w => ∃ (x_20 : List ByteArray) (v_18 : Value), law02_TableKeeps.j0 y_2 y_4 x_20 = some true ∧ SlR tyStr RA v_18 x_20 ∧ Kn 43 a [(1, v_18), (2, .pointer (some ⟨b_1, 0, none⟩)), (5, .bool y_2)] ∧ St [] w0 w R_6 [.cells b_1 [v_8, v_10] 25]) ?_ ?_
  · refine wp_cond_split (hK.ev rfl) (fun (hb_22 : (decide ((a1.length : Int) > 40)) = true) => ?_) (fun (hb_22 : (decide ((a1.length : Int) > 40)) = false) => ?_)
    · rw [ifb_t hb_22] at H
      refine wp_region_lit ?_
      refine sl hK (by decide) rfl rfl (r_move hK rfl) fun a hK => ?_
      obtain ⟨y_23, h_24, H⟩ := bind_some H
      obtain ⟨v_25, hs_26, hr_27⟩ := r_slice_R (x := .tmp 17) (lo := none) (hi := some (.const (.int .i64 40))) Try.underlying39 Try.sizeOf9 h1_0 h_24 hK rfl rfl ⟨_, rfl⟩
      refine sl hK (by decide) rfl rfl (hr_27 _ _ _ _ _ _ _ hK) fun a hK => ?_
      refine sl hK (by decide) rfl rfl (r_assign hK rfl) fun a hK => ?_
      refine wpList_nil ?_
      exact ⟨y_23, v_25, H, hs_26, hK.sub (all_cons rfl (all_cons rfl (all_cons rfl (all_nil)))), hS⟩
    · rw [ifb_f hb_22] at H
      refine wp_skip ?_
      exact ⟨a1, v1_0, H, h1_0, hK.sub (all_cons rfl (all_cons rfl (all_cons rfl (all_nil)))), hS⟩
  · rintro a w ⟨x_20, v_18, H, hs_19, hK, hS⟩
    unfold law02_TableKeeps.j0 at H
    refine wp_seq ?_
    refine wp_region_lit ?_
    refine sl hK (by decide) rfl rfl (r_loadA (cs := [v_8, v_10]) Try.isAgg25 Try.sizeOf25 rfl hK rfl (hS.cells_of (m := 2) (.head _) rfl)) fun a hK => ?_
    refine sl hK (by decide) rfl rfl (r_move hK rfl) fun a hK => ?_
    obtain ⟨y_28, h_29, H⟩ := bind_some H
    refine sl_call Try.call26 hK (by decide) rfl rfl rfl (table_Keep.calls y_4 x_20 (lentOf_sub [] _) hS.sub (hs_9.mono hS.rLe0) (hs_11.mono hS.rLe0) (hs_19.mono (hS.raLe0 hRA nil_not)) h_29) fun a v_ w hv_ hK => ?_
    obtain ⟨R_30, v_33, cs_34, v_37, cs_38, hv_, hr_, hl_31, hq_35, hq_39⟩ := hv_
    have hv_ := hv_.symm
    subst hv_
    obtain ⟨hS, hl_31⟩ := hS.sp0.back hr_ hl_31
    have hS := hS.un2
    have hRL := hRL.trans hl_31
    refine sl hK (by decide) rfl rfl (r_move hK rfl) fun a hK => ?_
    refine sl hK (by decide) rfl rfl (r_extract hK rfl rfl) fun a hK => ?_
    refine sl hK (by decide) rfl rfl (r_extract hK rfl rfl) fun a hK => ?_
    refine sl_alloc Try.zeroValue25 hS hK (by decide) rfl rfl fun a w b_40 hS hK => ?_
    refine sl_storeA (vs := [v_33, v_37]) (c' := [v_33, v_37]) Try.sizeOf25 hS hK rfl rfl rfl rfl (all_cons (hS.row_one (.tail _ (.head _))) (all_cons (hS.row_one (.tail _ (.tail _ (.head _)))) (all_nil))) (Nat.le_of_ble_eq_true rfl) rfl fun a w hS hK => ?_
    refine sl hK (by decide) rfl rfl (r_assign hK rfl) fun a hK => ?_
    refine wpList_nil ?_
    refine wp_seq ?_
    refine wp_region_lit ?_
    refine sl hK (by decide) rfl rfl (r_loadA (cs := [v_8, v_10]) Try.isAgg25 Try.sizeOf25 rfl hK rfl (hS.cells_of (m := 2) (.tail _ (.tail _ (.tail _ (.head _)))) rfl)) fun a hK => ?_
    refine sl hK (by decide) rfl rfl (r_move hK rfl) fun a hK => ?_
    obtain ⟨y_41, h_42, H⟩ := bind_some H
    refine sl_call Try.call27 hK (by decide) rfl rfl rfl (ref02_Keep.calls y_4 x_20 (lentOf_sub [] _) hS.sub (hs_9.mono (hl_31.le.trans hS.rLe0)) (hs_11.mono (hl_31.le.trans hS.rLe0)) (hs_19.mono (hS.raLe0 hRA nil_not)) h_42) fun a v_ w hv_ hK => ?_
    obtain ⟨R_43, v_46, cs_47, v_50, cs_51, hv_, hr_, hl_44, hq_48, hq_52⟩ := hv_
    have hv_ := hv_.symm
    subst hv_
    obtain ⟨hS, hl_44⟩ := hS.sp0.back hr_ hl_44
    have hS := hS.un2
    have hRL := hRL.trans hl_44
    refine sl hK (by decide) rfl rfl (r_move hK rfl) fun a hK => ?_
    refine sl hK (by decide) rfl rfl (r_extract hK rfl rfl) fun a hK => ?_
    refine sl hK (by decide) rfl rfl (r_extract hK rfl rfl) fun a hK => ?_
    refine sl_alloc Try.zeroValue25 hS hK (by decide) rfl rfl fun a w b_53 hS hK => ?_
    refine sl_storeA (vs := [v_46, v_50]) (c' := [v_46, v_50]) Try.sizeOf25 hS hK rfl rfl rfl rfl (all_cons (hS.row_one (.tail _ (.head _))) (all_cons (hS.row_one (.tail _ (.tail _ (.head _)))) (all_nil))) (Nat.le_of_ble_eq_true rfl) rfl fun a w hS hK => ?_
    refine sl hK (by decide) rfl rfl (r_assign hK rfl) fun a hK => ?_
    refine wpList_nil ?_
    refine wp_seq ?_
    refine wp_region_lit ?_
    refine sl hK (by decide) rfl rfl (r_loadA (cs := [v_33, v_37]) Try.isAgg25 Try.sizeOf25 rfl hK rfl (hS.cells_of (m := 2) (.tail _ (.tail _ (.tail _ (.head _)))) rfl)) fun a hK => ?_
    refine sl hK (by decide) rfl rfl (r_loadA (cs := [v_46, v_50]) Try.isAgg25 Try.sizeOf25 rfl hK rfl (hS.cells_of (m := 2) (.head _) rfl)) fun a hK => ?_
    obtain ⟨y_54, h_55, H⟩ := bind_some H
    refine sl_callV Try.call22 hS hK (by decide) rfl rfl rfl (ref02_Same.calls y_28.1 y_41.1 (lentOf_sub [] _) (hS.lend_row0 (.tail _ (.tail _ (.tail _ (.tail _ (.head _))))) (hq_35.mono hl_44.le) rfl rfl) (hS.lend_row0 (.tail _ (.tail _ (.tail _ (.tail _ (.tail _ (.head _)))))) (hq_39.mono hl_44.le) rfl rfl) (hS.lend_row0 (.tail _ (.head _)) hq_48 rfl rfl) (hS.lend_row0 (.tail _ (.tail _ (.head _))) hq_52 rfl rfl) h_55) fun a w hS hK => ?_
    refine sl hK (by decide) rfl rfl (r_assign hK rfl) fun a hK => ?_
    refine wpList_nil ?_
    refine wp_seq ?_
    refine wp_region_lit ?_
    refine sl hK (by decide) rfl rfl (r_move hK rfl) fun a hK => ?_
    refine sl hK (by decide) rfl rfl (r_move hK rfl) fun a hK => ?_
    rcases or_b y_2 with hb_56 | hb_56
    · rw [ifb_t hb_56] at H
      refine sl hK (by decide) (wtt hb_56) rfl (r_move hK rfl) fun a hK => ?_
      refine sl hK (by decide) rfl rfl (r_pick_t hb_56 hK rfl rfl) fun a hK => ?_
      refine sl hK (by decide) rfl rfl (r_move hK rfl) fun a hK => ?_
      rcases or_b y_54 with hb_57 | hb_57
      · rw [ifb_t hb_57] at H
        refine sl hK (by decide) (wtt hb_57) rfl (r_move hK rfl) fun a hK => ?_
        refine sl hK (by decide) (wtt hb_57) rfl (r_move hK rfl) fun a hK => ?_
        refine sl hK (by decide) (wtt hb_57) rfl (r_ibin hK rfl rfl rfl) fun a hK => ?_
        refine sl hK (by decide) rfl rfl (r_pick_t hb_57 hK rfl rfl) fun a hK => ?_
        refine sl hK (by decide) rfl rfl (r_assign hK rfl) fun a hK => ?_
        refine wpList_nil ?_
        have hr_ := Option.some.inj H
        refine wp_ret ?_
        repeat (first | refine ret_then ?_ | refine ret_block ?_ | refine ret_scope ?_)
        exact ret_1 Try.results8 hK (rv_tmp hK rfl) ⟨congrArg (fun b => Ending.returned (Value.bool b)) hr_, hS.bel⟩
      · rw [ifb_f hb_57] at H
        refine sl_skip hK (by decide) (wtf hb_57) rfl fun a hK => ?_
        refine sl_skip hK (by decide) (wtf hb_57) rfl fun a hK => ?_
        refine sl_skip hK (by decide) (wtf hb_57) rfl fun a hK => ?_
        refine sl hK (by decide) rfl rfl (r_pick_f hb_57 hK rfl rfl) fun a hK => ?_
        refine sl hK (by decide) rfl rfl (r_assign hK rfl) fun a hK => ?_
        refine wpList_nil ?_
        exact absurd (Option.some.inj H) (by decide)
    · rw [ifb_f hb_56] at H
      refine sl_skip hK (by decide) (wtf hb_56) rfl fun a hK => ?_
      refine sl hK (by decide) rfl rfl (r_pick_f hb_56 hK rfl rfl) fun a hK => ?_
      refine sl hK (by decide) rfl rfl (r_move hK rfl) fun a hK => ?_
      refine sl_skip hK (by decide) rfl rfl fun a hK => ?_
      refine sl_skip hK (by decide) rfl rfl fun a hK => ?_
      refine sl_skip hK (by decide) rfl rfl fun a hK => ?_
      refine sl hK (by decide) rfl rfl (r_pick hK rfl rfl rfl) fun a hK => ?_
      refine sl hK (by decide) rfl rfl (r_assign hK rfl) fun a hK => ?_
      refine wpList_nil ?_
      exact absurd (Option.some.inj H) (by decide)

end Go.Proofs.Ytojfckndloelpaa.M
