/- Each Go function of the laws answers as its plain Lean function tells, wherever that tells something. Printed by wip/eng/gen.py. -/
import Derived.Test.YtabdokppkcgdlaaWalk2
namespace Go.Proofs.Ytabdokppkcgdlaa.M
open Go Go.Eng Go.Proofs Go.RowKit
set_option linter.unusedVariables false
set_option linter.unusedSimpArgs false

/-! ### catchment/catchmentref02.Keep: function 11 -/
set_option maxHeartbeats 4000000 in
set_option maxRecDepth 100000 in
theorem ref02_Keep.calls (a0 : api_Table) (a1 : List ByteArray) {w0 : World} {R : Hp} {RA : Hp} {v0_0 : Value} {v0_1 : Value} {v1_0 : Value} (hRA : RA.sub w0) (hR : R.sub w0) (h0_0 : SlR ty_api_Col RA v0_0 a0.Cols) (h0_1 : SlR (tySl ty_api_Value) RA v0_1 a0.Rows) (h1_0 : SlR tyStr RA v1_0 a1) {r : api_Table × Int} (H : ref02_Keep a0 a1 = some r) : Calls Try.prog 11 #[.agg #[v0_0, v0_1], v1_0] w0 (Rets fun v w' => ∃ (R' : Hp) (u0 : Value) (cu0 : List Value) (u1 : Value) (cu1 : List Value), v = .tuple #[.agg #[u0, u1], .int .i64 r.2] ∧ St [] w0 w' R' [.row 34 2 u0 r.1.Cols.length cu0, .row 40 1 u1 r.1.Rows.length cu1] ∧ RLe [] w0 R R' ∧ Reps ty_api_Col R' cu0 r.1.Cols ∧ Reps (tySl ty_api_Value) R' cu1 r.1.Rows) := by
  unfold ref02_Keep at H
  refine enter (args := [.agg #[v0_0, v0_1], v1_0]) Try.func11 rfl Try.ntmps11 rfl fun a hK => ?_
  have hS := St.init hR
  have hRL := RLe.refl (M := []) w0 R
  refine wp_seq ?_
  refine wp_region_lit ?_
  refine sl_box hS hK (by decide) rfl rfl (c := [v0_0, v0_1]) rfl fun a w b_1 hS hK => ?_
  refine sl_alloc Try.zeroValue25 hS hK (by decide) rfl rfl fun a w b_2 hS hK => ?_
  refine sl hK (by decide) rfl rfl (r_assign hK rfl) fun a hK => ?_
  refine wpList_nil ?_
  refine wp_seq ?_
  refine wp_region_lit ?_
  refine sl hK (by decide) rfl rfl (r_loadA (cs := [v0_0, v0_1]) Try.isAgg25 Try.sizeOf25 rfl hK rfl (hS.cells_of (m := 2) (.tail _ (.head _)) rfl)) fun a hK => ?_
  obtain ⟨y_3, h_4, H⟩ := bind_some H
  refine sl_callV Try.call10 hS hK (by decide) rfl rfl rfl (ref02_Check.calls a0 (lentOf_sub [] _) (h0_0.mono (hS.raLe0 hRA nil_not)) (h0_1.mono (hS.raLe0 hRA nil_not)) h_4) fun a w hS hK => ?_
  refine sl hK (by decide) rfl rfl (r_assign hK rfl) fun a hK => ?_
  refine wpList_nil ?_
  refine wp_seq ?_
  refine wp_seq ?_
  refine wp_region_lit ?_
  refine sl hK (by decide) rfl rfl (r_move hK rfl) fun a hK => ?_
  refine sl hK (by decide) rfl rfl (r_ibin hK rfl rfl rfl) fun a hK => ?_
  refine wpList_nil ?_
  refine wp_cond_split (hK.ev rfl) (fun (hb_5 : (y_3 != 0) = true) => ?_) (fun (hb_5 : (y_3 != 0) = false) => ?_)
  · rw [ifb_t hb_5] at H
    refine wp_seq ?_
    refine wp_region_lit ?_
    refine sl hK (by decide) rfl rfl (r_buildC (ps := []) (c := [.slice none 0 0, .slice none 0 0]) Try.underlying25 Try.zeroValue25 places25 hK rfl pc_nil rfl rfl) fun a hK => ?_
    refine sl hK (by decide) rfl rfl (r_move hK rfl) fun a hK => ?_
    refine sl_storeA (vs := [.slice none 0 0, .slice none 0 0]) (c' := [.slice none 0 0, .slice none 0 0]) Try.sizeOf25 hS hK rfl rfl rfl rfl (all_cons rfl (all_cons rfl (all_nil))) (Nat.le_of_ble_eq_true rfl) rfl fun a w hS hK => ?_
    refine sl hK (by decide) rfl rfl (r_assign hK rfl) fun a hK => ?_
    refine wpList_nil ?_
    have hS := hS.row_nil 34 2
    have hq_7 : Reps ty_api_Col R [] ([] : List api_Col) := Reps.nil _ _
    have hS := hS.row_nil 40 1
    have hq_9 : Reps (tySl ty_api_Value) R [] ([] : List (List api_Value)) := Reps.nil _ _
    obtain rfl := Option.some.inj H
    refine wp_ret ?_
    repeat (first | refine ret_then ?_ | refine ret_block ?_ | refine ret_scope ?_)
    exact ret_2 Try.results11 hK (rv_cell (c := [(.slice none 0 0), (.slice none 0 0)]) Try.isAgg25 Try.sizeOf25 hS (.tail _ (.tail _ (.head _))) rfl hK rfl) (rv_tmp hK rfl) ⟨_, rfl, _, _, _, _, _, rfl, (hS.pk1.trunc 2), hRL, hq_7, hq_9⟩
  · rw [ifb_f hb_5] at H
    refine wp_skip ?_
    refine wp_seq ?_
    refine wp_region_lit ?_
    refine sl hK (by decide) rfl rfl (r_buildC (ps := []) (c := [.slice none 0 0, .slice none 0 0]) Try.underlying25 Try.zeroValue25 places25 hK rfl pc_nil rfl rfl) fun a hK => ?_
    refine sl_alloc Try.zeroValue25 hS hK (by decide) rfl rfl fun a w b_10 hS hK => ?_
    refine sl_storeA (vs := [.slice none 0 0, .slice none 0 0]) (c' := [.slice none 0 0, .slice none 0 0]) Try.sizeOf25 hS hK rfl rfl rfl rfl (all_cons rfl (all_cons rfl (all_nil))) (Nat.le_of_ble_eq_true rfl) rfl fun a w hS hK => ?_
    refine wpList_nil ?_
    refine wp_seq ?_
    refine wp_seq ?_
    refine wp_region_lit ?_
    refine sl hK (by decide) rfl rfl (r_assign hK rfl) fun a hK => ?_
    refine wpList_nil ?_
    refine wp_block ?_
    refine wp_loop_k (fun k_l0 a w => ∃ (x_127 : List api_Col) (x_131 : Int) (v_128 : Value) (cs_129 : List Value), ref02_Keep.l0 a0 a1 k_l0 x_127 x_131 = some r ∧ Reps ty_api_Col R cs_129 x_127 ∧ Kn 98 a [(1, v1_0), (2, .pointer (some ⟨b_1, 0, none⟩)), (4, .pointer (some ⟨b_2, 0, none⟩)), (7, .pointer (some ⟨b_10, 0, none⟩)), (8, .int .i64 x_131)] ∧ St [] w0 w R [.cells b_1 [v0_0, v0_1] 25, .cells b_2 [.slice none 0 0, .slice none 0 0] 25, .row 34 2 v_128 x_127.length cs_129, .cells b_10 [v_128, .slice none 0 0] 25]) (((a1.length : Int) - 0).toNat + 1) ?_ ?_
    · have hS := hS.row_nil 34 2
      have hq_244 : Reps ty_api_Col R [] ([] : List api_Col) := Reps.nil _ _
      have hS := hS.pk1
      have hS := hS.pk1
      have hS := hS.pk2
      have hS := hS.pk3
      exact ⟨[], 0, _, _, H, hq_244, hK.sub (all_cons rfl (all_cons rfl (all_cons rfl (all_cons rfl (all_cons rfl (all_nil)))))), hS⟩
    · rintro k_l0 a w ⟨x_127, x_131, v_128, cs_129, H, hq_130, hK, hS⟩
      cases k_l0 with
      | zero => cases H
      | succ k_l0 =>
      rw [ref02_Keep.l0.eq_2] at H
      refine wp_seq ?_
      refine wp_seq ?_
      refine wp_region_lit ?_
      refine sl hK (by decide) rfl rfl (r_move hK rfl) fun a hK => ?_
      refine sl hK (by decide) rfl rfl (r_move hK rfl) fun a hK => ?_
      refine sl hK (by decide) rfl rfl (r_len_R Try.underlying32 h1_0 hK rfl) fun a hK => ?_
      refine sl hK (by decide) rfl rfl (r_ibin hK rfl rfl rfl) fun a hK => ?_
      refine wpList_nil ?_
      refine wp_cond_split (hK.ev rfl) (fun (hb_245 : (decide (x_131 < (a1.length : Int))) = true) => ?_) (fun (hb_245 : (decide (x_131 < (a1.length : Int))) = false) => ?_)
      · rw [ifb_t hb_245] at H
        refine wp_skip ?_
        refine wp_seq ?_
        refine wp_block ?_
        refine wp_seq ?_
        refine parT_region (C := fun w => St [] w0 w R [.cells b_1 [v0_0, v0_1] 25, .cells b_2 [.slice none 0 0, .slice none 0 0] 25, .row 34 2 v_128 x_127.length cs_129, .cells b_10 [v_128, .slice none 0 0] 25]) 6 [(0, true), (1, true), (2, true), (3, true), (4, true), (5, true)] mixed (by kernel_rfl) hS (fun w hS => hS) fun w hS => ?_
        refine sp (k := 0) rfl hK (by decide) rfl rfl (fun w hS => r_fieldAddr Try.underlying25 rfl Try.sizeOf22 hK rfl) fun a hK => ?_
        refine sp (k := 1) rfl hK (by decide) rfl rfl (fun w hS => r_load Try.isAgg22 hK rfl (hS.cell (.head _) rfl)) fun a hK => ?_
        refine sp (k := 2) rfl hK (by decide) rfl rfl (fun w hS => r_move hK rfl) fun a hK => ?_
        refine sp (k := 3) rfl hK (by decide) rfl rfl (fun w hS => r_move hK rfl) fun a hK => ?_
        obtain ⟨y_257, h_258, H⟩ := bind_some H
        obtain ⟨b_259, o_260, c_261, cs_262, hv_263, hr_264, hc_265, h_2580, h_2581⟩ := h1_0.ix h_258
        subst hr_264
        refine sp (k := 4) rfl hK (by decide) rfl rfl (fun w hS => r_indexAddr_R Try.underlying32 Try.sizeOf9 hv_263 h_2580 h_2581 hK rfl rfl) fun a hK => ?_
        refine sp (k := 5) rfl hK (by decide) rfl rfl (fun w hS => r_load Try.isAgg9 hK rfl ((hS.ra hRA nil_not).cell (hc_265 0 _ rfl))) fun a hK => ?_
        refine thenL_nil ?_
        obtain ⟨y_266, h_267, H⟩ := bind_some H
        refine sl_callV Try.call16 hS hK (by decide) rfl rfl rfl (ref02_Find.calls a0.Cols y_257 (lentOf_sub [] _) (h0_0.mono (hS.raLe0 hRA nil_not)) h_267) fun a w hS hK => ?_
        refine sl hK (by decide) rfl rfl (r_assign hK rfl) fun a hK => ?_
        refine wpList_nil (NoP_nil ?_)
        refine wp_seq ?_
        refine wp_seq ?_
        refine wp_mid (fun a w => ∃ (x_292 : Bool), ref02_Keep.j1 (ref02_Keep.l0 a0 a1 k_l0) a0 a1 x_127 x_131 y_266 x_292 = some r ∧ Kn 98 a [(1, v1_0), (2, .pointer (some ⟨b_1, 0, none⟩)), (4, .pointer (some ⟨b_2, 0, none⟩)), (7, .pointer (some ⟨b_10, 0, none⟩)), (8, .int .i64 x_131), (9, .int .i64 y_266), (44, .bool x_292)] ∧ St [] w0 w R [.cells b_1 [v0_0, v0_1] 25, .cells b_2 [.slice none 0 0, .slice none 0 0] 25, .row 34 2 v_128 x_127.length cs_129, .cells b_10 [v_128, .slice none 0 0] 25]) ?_ ?_
        · refine parT_region (C := fun w => St [] w0 w R [.cells b_1 [v0_0, v0_1] 25, .cells b_2 [.slice none 0 0, .slice none 0 0] 25, .row 34 2 v_128 x_127.length cs_129, .cells b_10 [v_128, .slice none 0 0] 25]) 9 [(0, true), (1, true), (2, true), (3, true), (4, true), (5, true), (6, true), (7, true), (8, true)] mixed (by kernel_rfl) hS (fun w hS => hS) fun w hS => ?_
          refine sp (k := 0) rfl hK (by decide) rfl rfl (fun w hS => r_move hK rfl) fun a hK => ?_
          refine sp (k := 1) rfl hK (by decide) rfl rfl (fun w hS => r_ibin hK rfl rfl rfl) fun a hK => ?_
          refine sp (k := 2) rfl hK (by decide) rfl rfl (fun w hS => r_move hK rfl) fun a hK => ?_
          rcases or_b (decide (y_266 < 0)) with hb_306 | hb_306
          · rw [ifb_t hb_306] at H
            refine sp_skip (k := 3) rfl hK (by decide) (wft hb_306) rfl fun a hK => ?_
            refine sp_skip (k := 4) rfl hK (by decide) (wft hb_306) rfl fun a hK => ?_
            refine sp_skip (k := 5) rfl hK (by decide) (wft hb_306) rfl fun a hK => ?_
            refine sp_skip (k := 6) rfl hK (by decide) (wft hb_306) rfl fun a hK => ?_
            refine sp_skip (k := 7) rfl hK (by decide) (wft hb_306) rfl fun a hK => ?_
            refine sp_skip (k := 8) rfl hK (by decide) (wft hb_306) rfl fun a hK => ?_
            refine thenL_nil ?_
            refine sl_skip hK (by decide) (wft hb_306) rfl fun a hK => ?_
            refine sl_skip hK (by decide) (wft hb_306) rfl fun a hK => ?_
            refine sl hK (by decide) rfl rfl (r_pick_t hb_306 hK rfl rfl) fun a hK => ?_
            refine wpList_nil (NoP_nil ?_)
            have hS := hS.pk3
            have hS := hS.pk3
            have hS := hS.pk3
            have hS := hS.pk3
            exact ⟨true, H, hK.sub (all_cons rfl (all_cons rfl (all_cons rfl (all_cons rfl (all_cons rfl (all_cons rfl (all_cons rfl (all_nil)))))))), hS⟩
          · rw [ifb_f hb_306] at H
            refine sp (k := 3) rfl hK (by decide) (wff hb_306) rfl (fun w hS => r_fieldAddr Try.underlying25 rfl Try.sizeOf22 hK rfl) fun a hK => ?_
            refine sp (k := 4) rfl hK (by decide) (wff hb_306) rfl (fun w hS => r_load Try.isAgg22 hK rfl (hS.cell (.tail _ (.tail _ (.tail _ (.head _)))) rfl)) fun a hK => ?_
            refine sp (k := 5) rfl hK (by decide) (wff hb_306) rfl (fun w hS => r_move hK rfl) fun a hK => ?_
            refine sp (k := 6) rfl hK (by decide) (wff hb_306) rfl (fun w hS => r_move hK rfl) fun a hK => ?_
            obtain ⟨y_307, h_308, H⟩ := bind_some H
            obtain ⟨b_309, o_310, c_311, cs_312, hv_313, hr_314, hc_315, h_3080, h_3081⟩ := h1_0.ix h_308
            subst hr_314
            refine sp (k := 7) rfl hK (by decide) (wff hb_306) rfl (fun w hS => r_indexAddr_R Try.underlying32 Try.sizeOf9 hv_313 h_3080 h_3081 hK rfl rfl) fun a hK => ?_
            refine sp (k := 8) rfl hK (by decide) (wff hb_306) rfl (fun w hS => r_load Try.isAgg9 hK rfl ((hS.ra hRA nil_not).cell (hc_315 0 _ rfl))) fun a hK => ?_
            refine thenL_nil ?_
            obtain ⟨y_316, h_317, H⟩ := bind_some H
            refine sl_callV Try.call16 hS hK (by decide) (wff hb_306) rfl rfl (ref02_Find.calls x_127 y_307 (lentOf_sub [] _) (hS.lend_row0 (.tail _ (.tail _ (.head _))) hq_130 rfl rfl) h_317) fun a w hS hK => ?_
            refine sl hK (by decide) (wff hb_306) rfl (r_ibin hK rfl rfl rfl) fun a hK => ?_
            refine sl hK (by decide) rfl rfl (r_pick_f hb_306 hK rfl rfl) fun a hK => ?_
            refine wpList_nil (NoP_nil ?_)
            have hS := hS.pk3
            have hS := hS.pk3
            have hS := hS.pk3
            have hS := hS.pk3
            exact ⟨(decide (y_316 ≥ 0)), H, hK.sub (all_cons rfl (all_cons rfl (all_cons rfl (all_cons rfl (all_cons rfl (all_cons rfl (all_cons rfl (all_nil)))))))), hS⟩
        · rintro a w ⟨x_292, H, hK, hS⟩
          unfold ref02_Keep.j1 at H
          refine wp_cond_split (hK.ev rfl) (fun (hb_318 : x_292 = true) => ?_) (fun (hb_318 : x_292 = false) => ?_)
          · rw [ifb_t hb_318] at H
            refine wp_seq ?_
            refine wp_region_lit ?_
            refine sl hK (by decide) rfl rfl (r_buildC (ps := []) (c := [.slice none 0 0, .slice none 0 0]) Try.underlying25 Try.zeroValue25 places25 hK rfl pc_nil rfl rfl) fun a hK => ?_
            have hS := hS.pk1
            refine sl_storeA (vs := [.slice none 0 0, .slice none 0 0]) (c' := [.slice none 0 0, .slice none 0 0]) Try.sizeOf25 hS hK rfl rfl rfl rfl (all_cons rfl (all_cons rfl (all_nil))) (Nat.le_of_ble_eq_true rfl) rfl fun a w hS hK => ?_
            refine sl hK (by decide) rfl rfl (r_assign hK rfl) fun a hK => ?_
            refine wpList_nil ?_
            have hS := hS.row_nil 34 2
            have hq_320 : Reps ty_api_Col R [] ([] : List api_Col) := Reps.nil _ _
            have hS := hS.row_nil 40 1
            have hq_322 : Reps (tySl ty_api_Value) R [] ([] : List (List api_Value)) := Reps.nil _ _
            obtain rfl := Option.some.inj H
            refine wp_ret ?_
            repeat (first | refine ret_then ?_ | refine ret_block ?_ | refine ret_scope ?_)
            exact ret_2 Try.results11 hK (rv_cell (c := [(.slice none 0 0), (.slice none 0 0)]) Try.isAgg25 Try.sizeOf25 hS (.tail _ (.tail _ (.head _))) rfl hK rfl) (rv_tmp hK rfl) ⟨_, rfl, _, _, _, _, _, rfl, (hS.pk1.trunc 2), hRL, hq_320, hq_322⟩
          · rw [ifb_f hb_318] at H
            refine wp_skip ?_
            refine parT_region (C := fun w => St [] w0 w R [.cells b_1 [v0_0, v0_1] 25, .cells b_2 [.slice none 0 0, .slice none 0 0] 25, .row 34 2 v_128 x_127.length cs_129, .cells b_10 [v_128, .slice none 0 0] 25]) 8 [(0, true), (1, true), (2, true), (3, true), (4, true), (5, true), (6, true), (7, false)] mixed (by kernel_rfl) hS (fun w hS => hS) fun w hS => ?_
            refine sp (k := 0) rfl hK (by decide) rfl rfl (fun w hS => r_fieldAddr Try.underlying25 rfl Try.sizeOf22 hK rfl) fun a hK => ?_
            refine sp (k := 1) rfl hK (by decide) rfl rfl (fun w hS => r_load Try.isAgg22 hK rfl (hS.cell (.tail _ (.tail _ (.tail _ (.head _)))) rfl)) fun a hK => ?_
            refine sp (k := 2) rfl hK (by decide) rfl rfl (fun w hS => r_fieldAddr Try.underlying25 rfl Try.sizeOf22 hK rfl) fun a hK => ?_
            refine sp (k := 3) rfl hK (by decide) rfl rfl (fun w hS => r_load Try.isAgg22 hK rfl (hS.cell (.head _) rfl)) fun a hK => ?_
            refine sp (k := 4) rfl hK (by decide) rfl rfl (fun w hS => r_move hK rfl) fun a hK => ?_
            obtain ⟨y_339, h_340, H⟩ := bind_some H
            obtain ⟨b_341, o_342, c_343, cs_344, hv_345, hr_346, hc_347, h_3400, h_3401⟩ := h0_0.ix h_340
            subst hr_346
            refine sp (k := 5) rfl hK (by decide) rfl rfl (fun w hS => r_indexAddr_R Try.underlying22 Try.sizeOf34 hv_345 h_3400 h_3401 hK rfl rfl) fun a hK => ?_
            refine sp (k := 6) rfl hK (by decide) rfl rfl (fun w hS => r_loadA (cs := [.string y_339.Name, .int .i64 y_339.Kind]) Try.isAgg34 Try.sizeOf34 rfl hK rfl (fun j v hv => (hS.ra hRA nil_not).cell (hc_347 j v hv))) fun a hK => ?_
            refine spw (k := 7) rfl rfl hS ?_
            refine sl_buildSliceF (zc := [.string (⟨#[]⟩ : ByteArray), .int .i64 0]) (ps := [(0, .agg #[.string y_339.Name, .int .i64 y_339.Kind])]) (c := [.string y_339.Name, .int .i64 y_339.Kind]) [[.string y_339.Name, .int .i64 y_339.Kind]] Try.underlying22 Try.sizeOf34 Try.zeroValue34 rfl (pc_cons rfl pc_nil) rfl rfl (Nat.le_of_ble_eq_true rfl) rfl (all_cons rfl (all_nil)) rfl hS hK (by decide) rfl fun a w b_348 hS hK => ?_
            refine parK_nil (hS.pk4.pk4.pk4.pk4.trunc 4) ?_
            refine thenL_nil ?_
            obtain ⟨y_349, h_350, H⟩ := bind_some H
            have hS := hS.pk3
            refine sl_append_L (ty := ty_api_Col) (ys := [y_339]) elT22 (by decide) rfl hq_130 rfl (Reps.cons (show Ty.rep ty_api_Col _ [.string y_339.Name, .int .i64 y_339.Kind] y_339 from rfl) (Reps.nil _ _)) rfl h_350 hS hK (by decide) rfl rfl rfl fun a w v_351 cs_352 hq_353 hS hK => ?_
            refine sl hK (by decide) rfl rfl (r_fieldAddr Try.underlying25 rfl Try.sizeOf22 hK rfl) fun a hK => ?_
            have hS := hS.pk3
            refine sl_store1 (c' := [v_351, .slice none 0 0]) Try.sizeOf22 hS hK rfl rfl rfl (hS.row_one (.tail _ (.head _))) (Nat.le_of_ble_eq_true rfl) rfl fun a w hS hK => ?_
            refine wpList_nil (NoP_nil ?_)
            refine wp_region_lit ?_
            refine sl hK (by decide) rfl rfl (r_move hK rfl) fun a hK => ?_
            refine sl hK (by decide) rfl rfl (r_ibin hK rfl rfl rfl) fun a hK => ?_
            refine sl hK (by decide) rfl rfl (r_assign hK rfl) fun a hK => ?_
            refine wpList_nil ?_
            have hS := hS.pk1
            have hS := hS.pk3
            have hS := hS.pk3
            exact ⟨_, Nat.lt_succ_self _, y_349, (IntKind.i64.wrap (x_131 + 1)), _, _, H, hq_353, hK.sub (all_cons rfl (all_cons rfl (all_cons rfl (all_cons rfl (all_cons rfl (all_nil)))))), hS⟩
      · rw [ifb_f hb_245] at H
        refine wp_exit ?_
        refine wp_seq ?_
        refine wp_seq ?_
        refine wp_region_lit ?_
        refine sl hK (by decide) rfl rfl (r_move hK rfl) fun a hK => ?_
        refine sl hK (by decide) rfl rfl (r_len_R Try.underlying32 h1_0 hK rfl) fun a hK => ?_
        refine sl hK (by decide) rfl rfl (r_ibin hK rfl rfl rfl) fun a hK => ?_
        refine wpList_nil ?_
        refine wp_cond_split (hK.ev rfl) (fun (hb_355 : ((a1.length : Int) == 0) = true) => ?_) (fun (hb_355 : ((a1.length : Int) == 0) = false) => ?_)
        · rw [ifb_t hb_355] at H
          refine wp_seq ?_
          refine wp_region_lit ?_
          refine sl hK (by decide) rfl rfl (r_buildC (ps := []) (c := [.slice none 0 0, .slice none 0 0]) Try.underlying25 Try.zeroValue25 places25 hK rfl pc_nil rfl rfl) fun a hK => ?_
          have hS := hS.pk1
          refine sl_storeA (vs := [.slice none 0 0, .slice none 0 0]) (c' := [.slice none 0 0, .slice none 0 0]) Try.sizeOf25 hS hK rfl rfl rfl rfl (all_cons rfl (all_cons rfl (all_nil))) (Nat.le_of_ble_eq_true rfl) rfl fun a w hS hK => ?_
          refine sl hK (by decide) rfl rfl (r_assign hK rfl) fun a hK => ?_
          refine wpList_nil ?_
          have hS := hS.row_nil 34 2
          have hq_357 : Reps ty_api_Col R [] ([] : List api_Col) := Reps.nil _ _
          have hS := hS.row_nil 40 1
          have hq_359 : Reps (tySl ty_api_Value) R [] ([] : List (List api_Value)) := Reps.nil _ _
          obtain rfl := Option.some.inj H
          refine wp_ret ?_
          repeat (first | refine ret_then ?_ | refine ret_block ?_ | refine ret_scope ?_)
          exact ret_2 Try.results11 hK (rv_cell (c := [(.slice none 0 0), (.slice none 0 0)]) Try.isAgg25 Try.sizeOf25 hS (.tail _ (.tail _ (.head _))) rfl hK rfl) (rv_tmp hK rfl) ⟨_, rfl, _, _, _, _, _, rfl, (hS.pk1.trunc 2), hRL, hq_357, hq_359⟩
        · rw [ifb_f hb_355] at H
          refine wp_skip ?_
          refine wp_seq ?_
          refine wp_seq ?_
          refine wp_region_lit ?_
          refine sl hK (by decide) rfl rfl (r_assign hK rfl) fun a hK => ?_
          refine wpList_nil ?_
          refine wp_block ?_
          refine wp_loop_k (fun k_l2 a w => ∃ (x_623 : List (List api_Value)) (x_627 : Int) (R_628 : Hp) (v_624 : Value) (cs_625 : List Value), ref02_Keep.l2 a0 a1 x_127 k_l2 x_623 x_627 = some r ∧ RLe [] w0 R R_628 ∧ Reps (tySl ty_api_Value) R_628 cs_625 x_623 ∧ Kn 98 a [(1, v1_0), (2, .pointer (some ⟨b_1, 0, none⟩)), (4, .pointer (some ⟨b_2, 0, none⟩)), (7, .pointer (some ⟨b_10, 0, none⟩)), (10, .int .i64 x_627)] ∧ St [] w0 w R_628 [.cells b_1 [v0_0, v0_1] 25, .cells b_2 [.slice none 0 0, .slice none 0 0] 25, .row 34 2 v_128 x_127.length cs_129, .row 40 1 v_624 x_623.length cs_625, .cells b_10 [v_128, v_624] 25]) (((a0.Rows.length : Int) - 0).toNat + 1) ?_ ?_
          · have hS := hS.row_nil 40 1
            have hq_888 : Reps (tySl ty_api_Value) R [] ([] : List (List api_Value)) := Reps.nil _ _
            have hS := hS.pk4
            have hS := hS.pk1
            have hS := hS.pk4
            have hS := hS.pk4
            have hS := hS.pk4
            exact ⟨[], 0, _, _, _, H, (RLe.refl _ _), hq_888, hK.sub (all_cons rfl (all_cons rfl (all_cons rfl (all_cons rfl (all_cons rfl (all_nil)))))), hS⟩
          · rintro k_l2 a w ⟨x_623, x_627, R_628, v_624, cs_625, H, hl_629, hq_626, hK, hS⟩
            cases k_l2 with
            | zero => cases H
            | succ k_l2 =>
            rw [ref02_Keep.l2.eq_2] at H
            have hRL := hRL.trans hl_629
            refine wp_seq ?_
            refine wp_seq ?_
            refine wp_region_lit ?_
            refine sl hK (by decide) rfl rfl (r_move hK rfl) fun a hK => ?_
            refine sl hK (by decide) rfl rfl (r_fieldAddr Try.underlying25 rfl Try.sizeOf23 hK rfl) fun a hK => ?_
            refine sl hK (by decide) rfl rfl (r_load Try.isAgg23 hK rfl (hS.cell (.head _) rfl)) fun a hK => ?_
            refine sl hK (by decide) rfl rfl (r_len_R Try.underlying23 h0_1 hK rfl) fun a hK => ?_
            refine sl hK (by decide) rfl rfl (r_ibin hK rfl rfl rfl) fun a hK => ?_
            refine wpList_nil ?_
            refine wp_cond_split (hK.ev rfl) (fun (hb_889 : (decide (x_627 < (a0.Rows.length : Int))) = true) => ?_) (fun (hb_889 : (decide (x_627 < (a0.Rows.length : Int))) = false) => ?_)
            · rw [ifb_t hb_889] at H
              refine wp_skip ?_
              refine wp_seq ?_
              refine wp_block ?_
              refine wp_seq ?_
              refine wp_region_lit ?_
              refine sl hK (by decide) rfl rfl (r_assign hK rfl) fun a hK => ?_
              refine wpList_nil ?_
              refine wp_seq ?_
              refine wp_seq ?_
              refine wp_region_lit ?_
              refine sl hK (by decide) rfl rfl (r_assign hK rfl) fun a hK => ?_
              refine wpList_nil ?_
              refine wp_block ?_
              refine wp_loop_k (fun k_l3 a w => ∃ (x_973 : List api_Value) (x_977 : Int) (v_974 : Value) (cs_975 : List Value), ref02_Keep.l3 (ref02_Keep.l2 a0 a1 x_127 k_l2) a0 a1 x_623 x_627 k_l3 x_973 x_977 = some r ∧ Reps ty_api_Value R_628 cs_975 x_973 ∧ Kn 98 a [(1, v1_0), (2, .pointer (some ⟨b_1, 0, none⟩)), (4, .pointer (some ⟨b_2, 0, none⟩)), (7, .pointer (some ⟨b_10, 0, none⟩)), (10, .int .i64 x_627), (11, v_974), (12, .int .i64 x_977)] ∧ St [] w0 w R_628 [.cells b_1 [v0_0, v0_1] 25, .cells b_2 [.slice none 0 0, .slice none 0 0] 25, .row 34 2 v_128 x_127.length cs_129, .row 40 1 v_624 x_623.length cs_625, .cells b_10 [v_128, v_624] 25, .row 46 11 v_974 x_973.length cs_975]) (((a1.length : Int) - 0).toNat + 1) ?_ ?_
              · have hS := hS.row_nil 46 11
                have hq_1057 : Reps ty_api_Value R_628 [] ([] : List api_Value) := Reps.nil _ _
                have hS := hS.pk5
                have hS := hS.pk5
                have hS := hS.pk5
                have hS := hS.pk5
                have hS := hS.pk5
                exact ⟨[], 0, _, _, H, hq_1057, hK.sub (all_cons rfl (all_cons rfl (all_cons rfl (all_cons rfl (all_cons rfl (all_cons rfl (all_cons rfl (all_nil)))))))), hS⟩
              · rintro k_l3 a w ⟨x_973, x_977, v_974, cs_975, H, hq_976, hK, hS⟩
                cases k_l3 with
                | zero => cases H
                | succ k_l3 =>
                rw [ref02_Keep.l3.eq_2] at H
                refine wp_seq ?_
                refine wp_seq ?_
                refine wp_region_lit ?_
                refine sl hK (by decide) rfl rfl (r_move hK rfl) fun a hK => ?_
                refine sl hK (by decide) rfl rfl (r_move hK rfl) fun a hK => ?_
                refine sl hK (by decide) rfl rfl (r_len_R Try.underlying32 h1_0 hK rfl) fun a hK => ?_
                refine sl hK (by decide) rfl rfl (r_ibin hK rfl rfl rfl) fun a hK => ?_
                refine wpList_nil ?_
                refine wp_cond_split (hK.ev rfl) (fun (hb_1058 : (decide (x_977 < (a1.length : Int))) = true) => ?_) (fun (hb_1058 : (decide (x_977 < (a1.length : Int))) = false) => ?_)
                · rw [ifb_t hb_1058] at H
                  refine wp_skip ?_
                  refine wp_seq ?_
                  refine wp_block ?_
                  refine parT_region (C := fun w => St [] w0 w R_628 [.cells b_1 [v0_0, v0_1] 25, .cells b_2 [.slice none 0 0, .slice none 0 0] 25, .row 34 2 v_128 x_127.length cs_129, .row 40 1 v_624 x_623.length cs_625, .cells b_10 [v_128, v_624] 25, .row 46 11 v_974 x_973.length cs_975]) 16 [(0, true), (1, true), (2, true), (3, true), (4, true), (5, true), (6, true), (7, true), (8, true), (9, true), (10, true), (11, true), (12, false), (13, true), (14, true), (15, false)] mixed (by kernel_rfl) hS (fun w hS => hS) fun w hS => ?_
                  refine sp (k := 0) rfl hK (by decide) rfl rfl (fun w hS => r_move hK rfl) fun a hK => ?_
                  refine sp (k := 1) rfl hK (by decide) rfl rfl (fun w hS => r_fieldAddr Try.underlying25 rfl Try.sizeOf23 hK rfl) fun a hK => ?_
                  refine sp (k := 2) rfl hK (by decide) rfl rfl (fun w hS => r_load Try.isAgg23 hK rfl (hS.cell (.head _) rfl)) fun a hK => ?_
                  refine sp (k := 3) rfl hK (by decide) rfl rfl (fun w hS => r_move hK rfl) fun a hK => ?_
                  obtain ⟨y_1097, h_1098, H⟩ := bind_some H
                  obtain ⟨b_1099, o_1100, c_1101, cs_1102, hv_1103, hr_1104, hc_1105, h_10980, h_10981⟩ := h0_1.ix h_1098
                  obtain ⟨v_1106, rfl, hs_1107⟩ := hr_1104
                  refine sp (k := 4) rfl hK (by decide) rfl rfl (fun w hS => r_indexAddr_R Try.underlying23 Try.sizeOf40 hv_1103 h_10980 h_10981 hK rfl rfl) fun a hK => ?_
                  refine sp (k := 5) rfl hK (by decide) rfl rfl (fun w hS => r_load Try.isAgg40 hK rfl ((hS.ra hRA nil_not).cell (hc_1105 0 _ rfl))) fun a hK => ?_
                  refine sp (k := 6) rfl hK (by decide) rfl rfl (fun w hS => r_fieldAddr Try.underlying25 rfl Try.sizeOf22 hK rfl) fun a hK => ?_
                  refine sp (k := 7) rfl hK (by decide) rfl rfl (fun w hS => r_load Try.isAgg22 hK rfl (hS.cell (.head _) rfl)) fun a hK => ?_
                  refine sp (k := 8) rfl hK (by decide) rfl rfl (fun w hS => r_move hK rfl) fun a hK => ?_
                  refine sp (k := 9) rfl hK (by decide) rfl rfl (fun w hS => r_move hK rfl) fun a hK => ?_
                  obtain ⟨y_1108, h_1109, H⟩ := bind_some H
                  obtain ⟨b_1110, o_1111, c_1112, cs_1113, hv_1114, hr_1115, hc_1116, h_11090, h_11091⟩ := h1_0.ix h_1109
                  subst hr_1115
                  refine sp (k := 10) rfl hK (by decide) rfl rfl (fun w hS => r_indexAddr_R Try.underlying32 Try.sizeOf9 hv_1114 h_11090 h_11091 hK rfl rfl) fun a hK => ?_
                  refine sp (k := 11) rfl hK (by decide) rfl rfl (fun w hS => r_load Try.isAgg9 hK rfl ((hS.ra hRA nil_not).cell (hc_1116 0 _ rfl))) fun a hK => ?_
                  refine spw (k := 12) rfl rfl hS ?_
                  obtain ⟨y_1117, h_1118, H⟩ := bind_some H
                  refine sl_callV Try.call16 hS hK (by decide) rfl rfl rfl (ref02_Find.calls a0.Cols y_1108 (lentOf_sub [] _) (h0_0.mono (hS.raLe0 hRA nil_not)) h_1118) fun a w hS hK => ?_
                  refine parK_nil hS ?_
                  obtain ⟨y_1119, h_1120, H⟩ := bind_some H
                  obtain ⟨b_1121, o_1122, c_1123, cs_1124, hv_1125, hr_1126, hc_1127, h_11200, h_11201⟩ := hs_1107.ix h_1120
                  subst hr_1126
                  refine sp (k := 13) rfl hK (by decide) rfl rfl (fun w hS => r_indexAddr_R Try.underlying40 Try.sizeOf46 hv_1125 h_11200 h_11201 hK rfl rfl) fun a hK => ?_
                  refine sp (k := 14) rfl hK (by decide) rfl rfl (fun w hS => r_loadA (cs := [.int .i64 y_1119.Kind, .int .i64 y_1119.N, .string y_1119.S, .int .i64 y_1119.H.a0, .int .i64 y_1119.H.a1, .int .i64 y_1119.H.a2, .int .i64 y_1119.H.a3, .int .i64 y_1119.H.a4, .int .i64 y_1119.H.a5, .int .i64 y_1119.H.a6, .int .i64 y_1119.H.a7]) Try.isAgg46 Try.sizeOf46 rfl hK rfl (fun j v hv => (hS.ra hRA nil_not).cell (hc_1127 j v hv))) fun a hK => ?_
                  refine spw (k := 15) rfl rfl hS ?_
                  refine sl_buildSliceF (zc := [.int .i64 0, .int .i64 0, .string (⟨#[]⟩ : ByteArray), .int .i64 0, .int .i64 0, .int .i64 0, .int .i64 0, .int .i64 0, .int .i64 0, .int .i64 0, .int .i64 0]) (ps := [(0, .agg #[.int .i64 y_1119.Kind, .int .i64 y_1119.N, .string y_1119.S, .int .i64 y_1119.H.a0, .int .i64 y_1119.H.a1, .int .i64 y_1119.H.a2, .int .i64 y_1119.H.a3, .int .i64 y_1119.H.a4, .int .i64 y_1119.H.a5, .int .i64 y_1119.H.a6, .int .i64 y_1119.H.a7])]) (c := [.int .i64 y_1119.Kind, .int .i64 y_1119.N, .string y_1119.S, .int .i64 y_1119.H.a0, .int .i64 y_1119.H.a1, .int .i64 y_1119.H.a2, .int .i64 y_1119.H.a3, .int .i64 y_1119.H.a4, .int .i64 y_1119.H.a5, .int .i64 y_1119.H.a6, .int .i64 y_1119.H.a7]) [[.int .i64 y_1119.Kind, .int .i64 y_1119.N, .string y_1119.S, .int .i64 y_1119.H.a0, .int .i64 y_1119.H.a1, .int .i64 y_1119.H.a2, .int .i64 y_1119.H.a3, .int .i64 y_1119.H.a4, .int .i64 y_1119.H.a5, .int .i64 y_1119.H.a6, .int .i64 y_1119.H.a7]] Try.underlying40 Try.sizeOf46 Try.zeroValue46 rfl (pc_cons rfl pc_nil) rfl rfl (Nat.le_of_ble_eq_true rfl) rfl (all_cons rfl (all_nil)) rfl hS hK (by decide) rfl fun a w b_1128 hS hK => ?_
                  refine parK_nil (hS.pk6.pk6.pk6.pk6.pk6.pk6.trunc 6) ?_
                  refine thenL_nil ?_
                  obtain ⟨y_1129, h_1130, H⟩ := bind_some H
                  have hS := hS.pk6
                  refine sl_append_L (ty := ty_api_Value) (ys := [y_1119]) elT40 (by decide) rfl hq_976 rfl (Reps.cons (show Ty.rep ty_api_Value _ [.int .i64 y_1119.Kind, .int .i64 y_1119.N, .string y_1119.S, .int .i64 y_1119.H.a0, .int .i64 y_1119.H.a1, .int .i64 y_1119.H.a2, .int .i64 y_1119.H.a3, .int .i64 y_1119.H.a4, .int .i64 y_1119.H.a5, .int .i64 y_1119.H.a6, .int .i64 y_1119.H.a7] y_1119 from rfl) (Reps.nil _ _)) rfl h_1130 hS hK (by decide) rfl rfl rfl fun a w v_1131 cs_1132 hq_1133 hS hK => ?_
                  refine sl hK (by decide) rfl rfl (r_assign hK rfl) fun a hK => ?_
                  refine wpList_nil (NoP_nil ?_)
                  refine wp_region_lit ?_
                  refine sl hK (by decide) rfl rfl (r_move hK rfl) fun a hK => ?_
                  refine sl hK (by decide) rfl rfl (r_ibin hK rfl rfl rfl) fun a hK => ?_
                  refine sl hK (by decide) rfl rfl (r_assign hK rfl) fun a hK => ?_
                  refine wpList_nil ?_
                  have hS := hS.pk5
                  have hS := hS.pk5
                  have hS := hS.pk5
                  have hS := hS.pk5
                  have hS := hS.pk5
                  exact ⟨_, Nat.lt_succ_self _, y_1129, (IntKind.i64.wrap (x_977 + 1)), _, _, H, hq_1133, hK.sub (all_cons rfl (all_cons rfl (all_cons rfl (all_cons rfl (all_cons rfl (all_cons rfl (all_cons rfl (all_nil)))))))), hS⟩
                · rw [ifb_f hb_1058] at H
                  refine wp_exit ?_
                  refine wp_region_lit ?_
                  refine sl hK (by decide) rfl rfl (r_fieldAddr Try.underlying25 rfl Try.sizeOf23 hK rfl) fun a hK => ?_
                  refine sl hK (by decide) rfl rfl (r_load Try.isAgg23 hK rfl (hS.cell (.tail _ (.tail _ (.tail _ (.tail _ (.head _))))) rfl)) fun a hK => ?_
                  refine sl hK (by decide) rfl rfl (r_move hK rfl) fun a hK => ?_
                  have ho_1135 := hS.row_one (.tail _ (.tail _ (.tail _ (.tail _ (.tail _ (.head _))))))
                  refine sl_buildSliceF (zc := [.slice none 0 0]) (ps := [(0, v_974)]) (c := [v_974]) [[v_974]] Try.underlying23 Try.sizeOf40 Try.zeroValue40 rfl (pc_cons (cells1 ho_1135) pc_nil) rfl rfl (Nat.le_of_ble_eq_true rfl) rfl (all_cons rfl (all_nil)) rfl hS hK (by decide) rfl fun a w b_1136 hS hK => ?_
                  have hS := hS.pk4
                  have hS := hS.pk6
                  obtain ⟨R_1137, hS, hl_1139, hs_1138⟩ := hS.fz_row hq_976 rfl rfl
                  have hRL := hRL.trans hl_1139
                  obtain ⟨y_1140, h_1141, H⟩ := bind_some H
                  refine sl_append_L (ty := (tySl ty_api_Value)) (ys := [x_973]) elT23 (by decide) rfl (hq_626.mono hl_1139.le) rfl (Reps.cons (show Ty.rep (tySl ty_api_Value) _ [v_974] x_973 from ⟨_, rfl, hs_1138⟩) (Reps.nil _ _)) rfl h_1141 hS hK (by decide) rfl rfl rfl fun a w v_1142 cs_1143 hq_1144 hS hK => ?_
                  refine sl hK (by decide) rfl rfl (r_fieldAddr Try.underlying25 rfl Try.sizeOf23 hK rfl) fun a hK => ?_
                  have hS := hS.pk4
                  refine sl_store1 (c' := [v_128, v_1142]) Try.sizeOf23 hS hK rfl rfl rfl (hS.row_one (.tail _ (.head _))) (Nat.le_of_ble_eq_true rfl) rfl fun a w hS hK => ?_
                  refine wpList_nil ?_
                  refine wp_region_lit ?_
                  refine sl hK (by decide) rfl rfl (r_move hK rfl) fun a hK => ?_
                  refine sl hK (by decide) rfl rfl (r_ibin hK rfl rfl rfl) fun a hK => ?_
                  refine sl hK (by decide) rfl rfl (r_assign hK rfl) fun a hK => ?_
                  refine wpList_nil ?_
                  have hS := hS.pk1
                  have hS := hS.pk4
                  have hS := hS.pk4
                  have hS := hS.pk4
                  exact ⟨_, Nat.lt_succ_self _, y_1140, (IntKind.i64.wrap (x_627 + 1)), _, _, _, H, (hl_629.trans hl_1139), hq_1144, hK.sub (all_cons rfl (all_cons rfl (all_cons rfl (all_cons rfl (all_cons rfl (all_nil)))))), hS⟩
            · rw [ifb_f hb_889] at H
              refine wp_exit ?_
              refine wp_seq ?_
              refine wp_region_lit ?_
              refine sl hK (by decide) rfl rfl (r_loadA (cs := [v_128, v_624]) Try.isAgg25 Try.sizeOf25 rfl hK rfl (hS.cells_of (m := 2) (.tail _ (.tail _ (.tail _ (.tail _ (.head _))))) rfl)) fun a hK => ?_
              have hS := hS.pk2
              obtain ⟨R_1146, hS, hl_1148, hs_1147⟩ := hS.fz_row (hq_130.mono hl_629.le) rfl rfl
              have hRL := hRL.trans hl_1148
              have hS := hS.pk2
              obtain ⟨R_1149, hS, hl_1151, hs_1150⟩ := hS.fz_row (hq_626.mono hl_1148.le) rfl rfl
              have hRL := hRL.trans hl_1151
              obtain ⟨y_1152, h_1153, H⟩ := bind_some H
              refine sl_call Try.call30 hK (by decide) rfl rfl rfl (ref02_Canon.calls (⟨x_127, x_623⟩ : api_Table) hS.sub (hs_1147.mono hl_1151.le) hs_1150 h_1153) fun a v_ w hv_ hK => ?_
              obtain ⟨R_1154, v_1157, cs_1158, v_1161, cs_1162, hv_, hr_, hl_1155, hq_1159, hq_1163⟩ := hv_
              have hv_ := hv_.symm
              subst hv_
              obtain ⟨hS, hl_1155⟩ := hS.sp0.back hr_ hl_1155
              have hS := hS.un2
              have hRL := hRL.trans hl_1155
              have hS := hS.pk3
              refine sl_storeA (vs := [v_1157, v_1161]) (c' := [v_1157, v_1161]) Try.sizeOf25 hS hK rfl rfl rfl rfl (all_cons (hS.row_one (.tail _ (.head _))) (all_cons (hS.row_one (.tail _ (.tail _ (.head _)))) (all_nil))) (Nat.le_of_ble_eq_true rfl) rfl fun a w hS hK => ?_
              refine sl hK (by decide) rfl rfl (r_assign hK rfl) fun a hK => ?_
              refine wpList_nil ?_
              obtain rfl := Option.some.inj H
              refine wp_ret ?_
              repeat (first | refine ret_then ?_ | refine ret_block ?_ | refine ret_scope ?_)
              exact ret_2 Try.results11 hK (rv_cell (c := [v_1157, v_1161]) Try.isAgg25 Try.sizeOf25 hS (.head _) rfl hK rfl) (rv_tmp hK rfl) ⟨_, rfl, _, _, _, _, _, rfl, (hS.pk2.pk2.trunc 2), hRL, hq_1159, hq_1163⟩

/-! ### catchment/catchmentlaw17.JoinSides: function 3 -/
set_option maxHeartbeats 4000000 in
set_option maxRecDepth 100000 in
theorem law17_JoinSides.calls (a0 : api_Table) (a1 : api_Table) {w0 : World} {R : Hp} {v0_0 : Value} {v0_1 : Value} {v1_0 : Value} {v1_1 : Value} (hR : R.sub w0) (h0_0 : SlR ty_api_Col R v0_0 a0.Cols) (h0_1 : SlR (tySl ty_api_Value) R v0_1 a0.Rows) (h1_0 : SlR ty_api_Col R v1_0 a1.Cols) (h1_1 : SlR (tySl ty_api_Value) R v1_1 a1.Rows) (H : law17_JoinSides a0 a1 = some true) : CallsV Try.prog 3 #[.agg #[v0_0, v0_1], .agg #[v1_0, v1_1]] w0 (.bool true) := by
  unfold law17_JoinSides at H
  refine enter (args := [.agg #[v0_0, v0_1], .agg #[v1_0, v1_1]]) Try.func3 rfl Try.ntmps3 rfl fun a hK => ?_
  have hS := St.init hR
  have hRL := RLe.refl (M := []) w0 R
  refine wp_seq ?_
  refine wp_region_lit ?_
  refine sl_box hS hK (by decide) rfl rfl (c := [v0_0, v0_1]) rfl fun a w b_1 hS hK => ?_
  refine sl_box hS hK (by decide) rfl rfl (c := [v1_0, v1_1]) rfl fun a w b_2 hS hK => ?_
  refine sl hK (by decide) rfl rfl (r_assign hK rfl) fun a hK => ?_
  refine wpList_nil ?_
  refine wp_seq ?_
  refine wp_region_lit ?_
  obtain ⟨y_3, h_4, H⟩ := bind_some H
  refine sl_callV Try.call7 hS hK (by decide) rfl rfl rfl (law17_shown.calls h_4 _) fun a w hS hK => ?_
  refine sl hK (by decide) rfl rfl (r_assign hK rfl) fun a hK => ?_
  refine wpList_nil ?_
  refine wp_seq ?_
  refine wp_region_lit ?_
  refine sl hK (by decide) rfl rfl (r_loadA (cs := [v0_0, v0_1]) Try.isAgg25 Try.sizeOf25 rfl hK rfl (hS.cells_of (m := 2) (.tail _ (.head _)) rfl)) fun a hK => ?_
  obtain ⟨y_5, h_6, H⟩ := bind_some H
  refine sl_call Try.call8 hK (by decide) rfl rfl rfl (law17_cut.calls a0 40 hS.sub h0_0 h0_1 h_6) fun a v_ w hv_ hK => ?_
  obtain ⟨R_7, v_9, v_11, hv_, hr_, hl_8, hs_10, hs_12⟩ := hv_
  have hv_ := hv_.symm
  subst hv_
  obtain ⟨hS, hl_8⟩ := hS.sp0.back hr_ hl_8
  have hS := hS.un0
  have hRL := hRL.trans hl_8
  have hS := hS.pk1
  refine sl_storeA (vs := [v_9, v_11]) (c' := [v_9, v_11]) Try.sizeOf25 hS hK rfl rfl rfl rfl (all_cons hs_10.one (all_cons hs_12.one (all_nil))) (Nat.le_of_ble_eq_true rfl) rfl fun a w hS hK => ?_
  refine wpList_nil ?_
  refine wp_seq ?_
  refine wp_region_lit ?_
  refine sl hK (by decide) rfl rfl (r_loadA (cs := [v1_0, v1_1]) Try.isAgg25 Try.sizeOf25 rfl hK rfl (hS.cells_of (m := 2) (.tail _ (.head _)) rfl)) fun a hK => ?_
  obtain ⟨y_13, h_14, H⟩ := bind_some H
  refine sl_call Try.call8 hK (by decide) rfl rfl rfl (law17_cut.calls a1 40 hS.sub (h1_0.mono hl_8.le) (h1_1.mono hl_8.le) h_14) fun a v_ w hv_ hK => ?_
  obtain ⟨R_15, v_17, v_19, hv_, hr_, hl_16, hs_18, hs_20⟩ := hv_
  have hv_ := hv_.symm
  subst hv_
  obtain ⟨hS, hl_16⟩ := hS.sp0.back hr_ hl_16
  have hS := hS.un0
  have hRL := hRL.trans hl_16
  have hS := hS.pk1
  refine sl_storeA (vs := [v_17, v_19]) (c' := [v_17, v_19]) Try.sizeOf25 hS hK rfl rfl rfl rfl (all_cons hs_18.one (all_cons hs_20.one (all_nil))) (Nat.le_of_ble_eq_true rfl) rfl fun a w hS hK => ?_
  refine wpList_nil ?_
  refine wp_seq ?_
  refine wp_region_lit ?_
  refine sl hK (by decide) rfl rfl (r_loadA (cs := [v_9, v_11]) Try.isAgg25 Try.sizeOf25 rfl hK rfl (hS.cells_of (m := 2) (.tail _ (.head _)) rfl)) fun a hK => ?_
  refine sl hK (by decide) rfl rfl (r_loadA (cs := [v_17, v_19]) Try.isAgg25 Try.sizeOf25 rfl hK rfl (hS.cells_of (m := 2) (.head _) rfl)) fun a hK => ?_
  obtain ⟨y_21, h_22, H⟩ := bind_some H
  refine sl_call Try.call9 hK (by decide) rfl rfl rfl (join_Join.calls y_5 y_13 1600 hS.sub (hs_10.mono hl_16.le) (hs_12.mono hl_16.le) hs_18 hs_20 h_22) fun a v_ w hv_ hK => ?_
  obtain ⟨R_23, v_26, cs_27, v_30, cs_31, hv_, hr_, hl_24, hq_28, hq_32⟩ := hv_
  have hv_ := hv_.symm
  subst hv_
  obtain ⟨hS, hl_24⟩ := hS.sp0.back hr_ hl_24
  have hS := hS.un2
  have hRL := hRL.trans hl_24
  refine sl hK (by decide) rfl rfl (r_move hK rfl) fun a hK => ?_
  refine sl hK (by decide) rfl rfl (r_extract hK rfl rfl) fun a hK => ?_
  refine sl hK (by decide) rfl rfl (r_extract hK rfl rfl) fun a hK => ?_
  refine sl_alloc Try.zeroValue25 hS hK (by decide) rfl rfl fun a w b_33 hS hK => ?_
  refine sl_storeA (vs := [v_26, v_30]) (c' := [v_26, v_30]) Try.sizeOf25 hS hK rfl rfl rfl rfl (all_cons (hS.row_one (.tail _ (.head _))) (all_cons (hS.row_one (.tail _ (.tail _ (.head _)))) (all_nil))) (Nat.le_of_ble_eq_true rfl) rfl fun a w hS hK => ?_
  refine sl hK (by decide) rfl rfl (r_assign hK rfl) fun a hK => ?_
  refine wpList_nil ?_
  refine wp_seq ?_
  refine wp_region_lit ?_
  refine sl hK (by decide) rfl rfl (r_loadA (cs := [v_17, v_19]) Try.isAgg25 Try.sizeOf25 rfl hK rfl (hS.cells_of (m := 2) (.tail _ (.tail _ (.tail _ (.head _)))) rfl)) fun a hK => ?_
  refine sl hK (by decide) rfl rfl (r_loadA (cs := [v_9, v_11]) Try.isAgg25 Try.sizeOf25 rfl hK rfl (hS.cells_of (m := 2) (.tail _ (.tail _ (.tail _ (.tail _ (.head _))))) rfl)) fun a hK => ?_
  obtain ⟨y_34, h_35, H⟩ := bind_some H
  refine sl_call Try.call9 hK (by decide) rfl rfl rfl (join_Join.calls y_13 y_5 1600 hS.sub (hs_18.mono hl_24.le) (hs_20.mono hl_24.le) (hs_10.mono (hl_16.le.trans hl_24.le)) (hs_12.mono (hl_16.le.trans hl_24.le)) h_35) fun a v_ w hv_ hK => ?_
  obtain ⟨R_36, v_39, cs_40, v_43, cs_44, hv_, hr_, hl_37, hq_41, hq_45⟩ := hv_
  have hv_ := hv_.symm
  subst hv_
  obtain ⟨hS, hl_37⟩ := hS.sp0.back hr_ hl_37
  have hS := hS.un2
  have hRL := hRL.trans hl_37
  refine sl hK (by decide) rfl rfl (r_move hK rfl) fun a hK => ?_
  refine sl hK (by decide) rfl rfl (r_extract hK rfl rfl) fun a hK => ?_
  refine sl hK (by decide) rfl rfl (r_extract hK rfl rfl) fun a hK => ?_
  refine sl_alloc Try.zeroValue25 hS hK (by decide) rfl rfl fun a w b_46 hS hK => ?_
  refine sl_storeA (vs := [v_39, v_43]) (c' := [v_39, v_43]) Try.sizeOf25 hS hK rfl rfl rfl rfl (all_cons (hS.row_one (.tail _ (.head _))) (all_cons (hS.row_one (.tail _ (.tail _ (.head _)))) (all_nil))) (Nat.le_of_ble_eq_true rfl) rfl fun a w hS hK => ?_
  refine sl hK (by decide) rfl rfl (r_assign hK rfl) fun a hK => ?_
  refine wpList_nil ?_
  refine wp_seq ?_
  refine wp_seq ?_
  refine wp_mid (fun a w => ∃ (x_52 : Bool), law17_JoinSides.j0 y_3 y_21 y_34 x_52 = some true ∧ Kn 95 a [(5, .bool y_3), (6, .pointer (some ⟨b_33, 0, none⟩)), (7, .int .i64 y_21.2), (8, .pointer (some ⟨b_46, 0, none⟩)), (9, .int .i64 y_34.2), (39, .bool x_52)] ∧ St [] w0 w R_36 [.row 34 2 v_26 y_21.1.Cols.length cs_27, .row 40 1 v_30 y_21.1.Rows.length cs_31, .cells b_33 [v_26, v_30] 25, .row 34 2 v_39 y_34.1.Cols.length cs_40, .row 40 1 v_43 y_34.1.Rows.length cs_44, .cells b_46 [v_39, v_43] 25]) ?_ ?_
  · refine wp_region_lit ?_
    refine sl hK (by decide) rfl rfl (r_loadA (cs := [v_9, v_11]) Try.isAgg25 Try.sizeOf25 rfl hK rfl (hS.cells_of (m := 2) (.tail _ (.tail _ (.tail _ (.tail _ (.tail _ (.tail _ (.tail _ (.head _)))))))) rfl)) fun a hK => ?_
    obtain ⟨y_54, h_55, H⟩ := bind_some H
    refine sl_callV Try.call10 hS hK (by decide) rfl rfl rfl (ref02_Check.calls y_5 (lentOf_sub [] _) (hs_10.mono ((hl_16.le.trans (hl_24.le.trans hl_37.le)).trans hS.rLe0)) (hs_12.mono ((hl_16.le.trans (hl_24.le.trans hl_37.le)).trans hS.rLe0)) h_55) fun a w hS hK => ?_
    refine sl hK (by decide) rfl rfl (r_ibin hK rfl rfl rfl) fun a hK => ?_
    refine sl hK (by decide) rfl rfl (r_move hK rfl) fun a hK => ?_
    rcases or_b (y_54 != 0) with hb_56 | hb_56
    · rw [ifb_t hb_56] at H
      refine sl_skip hK (by decide) (wft hb_56) rfl fun a hK => ?_
      refine sl_skip hK (by decide) (wft hb_56) rfl fun a hK => ?_
      refine sl_skip hK (by decide) (wft hb_56) rfl fun a hK => ?_
      refine sl hK (by decide) rfl rfl (r_pick_t hb_56 hK rfl rfl) fun a hK => ?_
      refine wpList_nil ?_
      have hS := hS.pk2
      have hS := hS.pk2
      have hS := hS.pk3
      have hS := hS.pk5
      have hS := hS.pk5
      exact ⟨true, H, hK.sub (all_cons rfl (all_cons rfl (all_cons rfl (all_cons rfl (all_cons rfl (all_cons rfl (all_nil))))))), hS.trunc 6⟩
    · rw [ifb_f hb_56] at H
      refine sl hK (by decide) (wff hb_56) rfl (r_loadA (cs := [v_17, v_19]) Try.isAgg25 Try.sizeOf25 rfl hK rfl (hS.cells_of (m := 2) (.tail _ (.tail _ (.tail _ (.tail _ (.tail _ (.tail _ (.head _))))))) rfl)) fun a hK => ?_
      obtain ⟨y_57, h_58, H⟩ := bind_some H
      refine sl_callV Try.call10 hS hK (by decide) (wff hb_56) rfl rfl (ref02_Check.calls y_13 (lentOf_sub [] _) (hs_18.mono ((hl_24.le.trans hl_37.le).trans hS.rLe0)) (hs_20.mono ((hl_24.le.trans hl_37.le).trans hS.rLe0)) h_58) fun a w hS hK => ?_
      refine sl hK (by decide) (wff hb_56) rfl (r_ibin hK rfl rfl rfl) fun a hK => ?_
      refine sl hK (by decide) rfl rfl (r_pick_f hb_56 hK rfl rfl) fun a hK => ?_
      refine wpList_nil ?_
      have hS := hS.pk2
      have hS := hS.pk2
      have hS := hS.pk3
      have hS := hS.pk5
      have hS := hS.pk5
      exact ⟨(y_57 != 0), H, hK.sub (all_cons rfl (all_cons rfl (all_cons rfl (all_cons rfl (all_cons rfl (all_cons rfl (all_nil))))))), hS.trunc 6⟩
  · rintro a w ⟨x_52, H, hK, hS⟩
    unfold law17_JoinSides.j0 at H
    refine wp_cond_split (hK.ev rfl) (fun (hb_59 : x_52 = true) => ?_) (fun (hb_59 : x_52 = false) => ?_)
    · rw [ifb_t hb_59] at H
      refine wp_seq ?_
      refine wp_mid (fun a w => ∃ (x_62 : Bool), law17_JoinSides.j1 x_62 = some true ∧ Kn 95 a [(4, .bool x_62)] ∧ St [] w0 w R_36 []) ?_ ?_
      · refine wp_region_lit ?_
        refine sl hK (by decide) rfl rfl (r_move hK rfl) fun a hK => ?_
        refine sl hK (by decide) rfl rfl (r_move hK rfl) fun a hK => ?_
        rcases or_b y_3 with hb_64 | hb_64
        · rw [ifb_t hb_64] at H
          refine sl hK (by decide) (wtt hb_64) rfl (r_move hK rfl) fun a hK => ?_
          refine sl hK (by decide) (wtt hb_64) rfl (r_ibin hK rfl rfl rfl) fun a hK => ?_
          refine sl hK (by decide) rfl rfl (r_pick_t hb_64 hK rfl rfl) fun a hK => ?_
          refine sl hK (by decide) rfl rfl (r_move hK rfl) fun a hK => ?_
          rcases or_b (y_21.2 != 0) with hb_65 | hb_65
          · rw [ifb_t hb_65] at H
            refine sl hK (by decide) (wtt hb_65) rfl (r_move hK rfl) fun a hK => ?_
            refine sl hK (by decide) (wtt hb_65) rfl (r_ibin hK rfl rfl rfl) fun a hK => ?_
            refine sl hK (by decide) rfl rfl (r_pick_t hb_65 hK rfl rfl) fun a hK => ?_
            refine sl hK (by decide) rfl rfl (r_assign hK rfl) fun a hK => ?_
            refine wpList_nil ?_
            exact ⟨(y_34.2 != 0), H, hK.sub (all_cons rfl (all_nil)), hS.trunc 0⟩
          · rw [ifb_f hb_65] at H
            refine sl_skip hK (by decide) (wtf hb_65) rfl fun a hK => ?_
            refine sl_skip hK (by decide) (wtf hb_65) rfl fun a hK => ?_
            refine sl hK (by decide) rfl rfl (r_pick_f hb_65 hK rfl rfl) fun a hK => ?_
            refine sl hK (by decide) rfl rfl (r_assign hK rfl) fun a hK => ?_
            refine wpList_nil ?_
            exact ⟨false, H, hK.sub (all_cons rfl (all_nil)), hS.trunc 0⟩
        · rw [ifb_f hb_64] at H
          refine sl_skip hK (by decide) (wtf hb_64) rfl fun a hK => ?_
          refine sl_skip hK (by decide) (wtf hb_64) rfl fun a hK => ?_
          refine sl hK (by decide) rfl rfl (r_pick_f hb_64 hK rfl rfl) fun a hK => ?_
          refine sl hK (by decide) rfl rfl (r_move hK rfl) fun a hK => ?_
          refine sl_skip hK (by decide) rfl rfl fun a hK => ?_
          refine sl_skip hK (by decide) rfl rfl fun a hK => ?_
          refine sl hK (by decide) rfl rfl (r_pick hK rfl rfl rfl) fun a hK => ?_
          refine sl hK (by decide) rfl rfl (r_assign hK rfl) fun a hK => ?_
          refine wpList_nil ?_
          exact ⟨false, H, hK.sub (all_cons rfl (all_nil)), hS.trunc 0⟩
      · rintro a w ⟨x_62, H, hK, hS⟩
        unfold law17_JoinSides.j1 at H
        have hr_ := Option.some.inj H
        refine wp_ret ?_
        repeat (first | refine ret_then ?_ | refine ret_block ?_ | refine ret_scope ?_)
        exact ret_1 Try.results3 hK (rv_tmp hK rfl) ⟨congrArg (fun b => Ending.returned (Value.bool b)) hr_, hS.bel⟩
    · rw [ifb_f hb_59] at H
      refine wp_skip ?_
      refine wp_seq ?_
      refine wp_seq ?_
      refine wp_mid (fun a w => ∃ (x_67 : Bool), law17_JoinSides.j2 y_3 y_21 y_34 x_67 = some true ∧ Kn 95 a [(5, .bool y_3), (6, .pointer (some ⟨b_33, 0, none⟩)), (7, .int .i64 y_21.2), (8, .pointer (some ⟨b_46, 0, none⟩)), (9, .int .i64 y_34.2), (54, .bool x_67)] ∧ St [] w0 w R_36 [.row 34 2 v_26 y_21.1.Cols.length cs_27, .row 40 1 v_30 y_21.1.Rows.length cs_31, .cells b_33 [v_26, v_30] 25, .row 34 2 v_39 y_34.1.Cols.length cs_40, .row 40 1 v_43 y_34.1.Rows.length cs_44, .cells b_46 [v_39, v_43] 25]) ?_ ?_
      · refine wp_region_lit ?_
        refine sl hK (by decide) rfl rfl (r_move hK rfl) fun a hK => ?_
        refine sl hK (by decide) rfl rfl (r_ibin hK rfl rfl rfl) fun a hK => ?_
        refine sl hK (by decide) rfl rfl (r_move hK rfl) fun a hK => ?_
        rcases or_b (y_21.2 != 0) with hb_69 | hb_69
        · rw [ifb_t hb_69] at H
          refine sl_skip hK (by decide) (wft hb_69) rfl fun a hK => ?_
          refine sl_skip hK (by decide) (wft hb_69) rfl fun a hK => ?_
          refine sl hK (by decide) rfl rfl (r_pick_t hb_69 hK rfl rfl) fun a hK => ?_
          refine wpList_nil ?_
          have hS := hS.pk5
          have hS := hS.pk5
          have hS := hS.pk5
          have hS := hS.pk5
          have hS := hS.pk5
          have hS := hS.pk5
          exact ⟨true, H, hK.sub (all_cons rfl (all_cons rfl (all_cons rfl (all_cons rfl (all_cons rfl (all_cons rfl (all_nil))))))), hS⟩
        · rw [ifb_f hb_69] at H
          refine sl hK (by decide) (wff hb_69) rfl (r_move hK rfl) fun a hK => ?_
          refine sl hK (by decide) (wff hb_69) rfl (r_ibin hK rfl rfl rfl) fun a hK => ?_
          refine sl hK (by decide) rfl rfl (r_pick_f hb_69 hK rfl rfl) fun a hK => ?_
          refine wpList_nil ?_
          have hS := hS.pk5
          have hS := hS.pk5
          have hS := hS.pk5
          have hS := hS.pk5
          have hS := hS.pk5
          have hS := hS.pk5
          exact ⟨(y_34.2 != 0), H, hK.sub (all_cons rfl (all_cons rfl (all_cons rfl (all_cons rfl (all_cons rfl (all_cons rfl (all_nil))))))), hS⟩
      · rintro a w ⟨x_67, H, hK, hS⟩
        unfold law17_JoinSides.j2 at H
        refine wp_cond_split (hK.ev rfl) (fun (hb_70 : x_67 = true) => ?_) (fun (hb_70 : x_67 = false) => ?_)
        · rw [ifb_t hb_70] at H
          refine wp_seq ?_
          refine wp_mid (fun a w => ∃ (x_72 : Bool), law17_JoinSides.j3 x_72 = some true ∧ Kn 95 a [(4, .bool x_72)] ∧ St [] w0 w R_36 []) ?_ ?_
          · refine wp_region_lit ?_
            refine sl hK (by decide) rfl rfl (r_move hK rfl) fun a hK => ?_
            refine sl hK (by decide) rfl rfl (r_move hK rfl) fun a hK => ?_
            rcases or_b y_3 with hb_74 | hb_74
            · rw [ifb_t hb_74] at H
              refine sl hK (by decide) (wtt hb_74) rfl (r_move hK rfl) fun a hK => ?_
              refine sl hK (by decide) (wtt hb_74) rfl (r_move hK rfl) fun a hK => ?_
              refine sl hK (by decide) (wtt hb_74) rfl (r_ibin hK rfl rfl rfl) fun a hK => ?_
              refine sl hK (by decide) rfl rfl (r_pick_t hb_74 hK rfl rfl) fun a hK => ?_
              refine sl hK (by decide) rfl rfl (r_assign hK rfl) fun a hK => ?_
              refine wpList_nil ?_
              exact ⟨(y_21.2 == y_34.2), H, hK.sub (all_cons rfl (all_nil)), hS.trunc 0⟩
            · rw [ifb_f hb_74] at H
              refine sl_skip hK (by decide) (wtf hb_74) rfl fun a hK => ?_
              refine sl_skip hK (by decide) (wtf hb_74) rfl fun a hK => ?_
              refine sl_skip hK (by decide) (wtf hb_74) rfl fun a hK => ?_
              refine sl hK (by decide) rfl rfl (r_pick_f hb_74 hK rfl rfl) fun a hK => ?_
              refine sl hK (by decide) rfl rfl (r_assign hK rfl) fun a hK => ?_
              refine wpList_nil ?_
              exact ⟨false, H, hK.sub (all_cons rfl (all_nil)), hS.trunc 0⟩
          · rintro a w ⟨x_72, H, hK, hS⟩
            unfold law17_JoinSides.j3 at H
            have hr_ := Option.some.inj H
            refine wp_ret ?_
            repeat (first | refine ret_then ?_ | refine ret_block ?_ | refine ret_scope ?_)
            exact ret_1 Try.results3 hK (rv_tmp hK rfl) ⟨congrArg (fun b => Ending.returned (Value.bool b)) hr_, hS.bel⟩
        · rw [ifb_f hb_70] at H
          refine wp_skip ?_
          refine wp_seq ?_
          refine wp_region_lit ?_
          refine sl_buildSliceC (zc := [.string (⟨#[]⟩ : ByteArray)]) (zs := []) (ps := []) (c := []) Try.underlying32 Try.sizeOf9 Try.zeroValue9 rfl pc_nil rfl rfl (by decide) (by kernel_rfl) rfl hS hK (by decide) rfl fun a w b_75 hS hK => ?_
          refine sl hK (by decide) rfl rfl (r_assign hK rfl) fun a hK => ?_
          refine wpList_nil ?_
          refine wp_seq ?_
          refine wp_seq ?_
          refine wp_region_lit ?_
          refine sl hK (by decide) rfl rfl (r_assign hK rfl) fun a hK => ?_
          refine wpList_nil ?_
          refine wp_block ?_
          refine wp_loop_k (fun k_l4 a w => ∃ (x_99 : List ByteArray) (x_103 : Int) (v_100 : Value) (cs_101 : List Value), law17_JoinSides.l4 y_3 y_21 y_34 k_l4 x_99 x_103 = some true ∧ Reps tyStr R_36 cs_101 x_99 ∧ Kn 95 a [(5, .bool y_3), (6, .pointer (some ⟨b_33, 0, none⟩)), (8, .pointer (some ⟨b_46, 0, none⟩)), (10, v_100), (11, .int .i64 x_103)] ∧ St [] w0 w R_36 [.row 34 2 v_26 y_21.1.Cols.length cs_27, .row 40 1 v_30 y_21.1.Rows.length cs_31, .cells b_33 [v_26, v_30] 25, .row 34 2 v_39 y_34.1.Cols.length cs_40, .row 40 1 v_43 y_34.1.Rows.length cs_44, .cells b_46 [v_39, v_43] 25, .row 9 1 v_100 x_99.length cs_101]) (((y_21.1.Cols.length : Int) - 0).toNat + 1) ?_ ?_
          · have hS := hS.row_lit (size := 1) (m := 0) rfl (by decide)
            have hq_122 : Reps tyStr R_36 [] ([] : List ByteArray) := (Reps.nil _ _)
            have hS := hS.pk6
            have hS := hS.pk6
            have hS := hS.pk6
            have hS := hS.pk6
            have hS := hS.pk6
            have hS := hS.pk6
            exact ⟨[], 0, _, _, H, hq_122, hK.sub (all_cons rfl (all_cons rfl (all_cons rfl (all_cons rfl (all_cons rfl (all_nil)))))), hS⟩
          · rintro k_l4 a w ⟨x_99, x_103, v_100, cs_101, H, hq_102, hK, hS⟩
            cases k_l4 with
            | zero => cases H
            | succ k_l4 =>
            rw [law17_JoinSides.l4.eq_2] at H
            refine wp_seq ?_
            refine wp_seq ?_
            refine wp_region_lit ?_
            refine sl hK (by decide) rfl rfl (r_move hK rfl) fun a hK => ?_
            refine sl hK (by decide) rfl rfl (r_fieldAddr Try.underlying25 rfl Try.sizeOf22 hK rfl) fun a hK => ?_
            refine sl hK (by decide) rfl rfl (r_load Try.isAgg22 hK rfl (hS.cell (.tail _ (.tail _ (.head _))) rfl)) fun a hK => ?_
            refine sl hK (by decide) rfl rfl (r_len_O Try.underlying22 hS (.head _) hK rfl) fun a hK => ?_
            refine sl hK (by decide) rfl rfl (r_ibin hK rfl rfl rfl) fun a hK => ?_
            refine wpList_nil ?_
            refine wp_cond_split (hK.ev rfl) (fun (hb_123 : (decide (x_103 < (y_21.1.Cols.length : Int))) = true) => ?_) (fun (hb_123 : (decide (x_103 < (y_21.1.Cols.length : Int))) = false) => ?_)
            · rw [ifb_t hb_123] at H
              refine wp_skip ?_
              refine wp_seq ?_
              refine wp_block ?_
              refine wp_region_lit ?_
              refine sl hK (by decide) rfl rfl (r_move hK rfl) fun a hK => ?_
              refine sl hK (by decide) rfl rfl (r_fieldAddr Try.underlying25 rfl Try.sizeOf22 hK rfl) fun a hK => ?_
              refine sl hK (by decide) rfl rfl (r_load Try.isAgg22 hK rfl (hS.cell (.tail _ (.tail _ (.head _))) rfl)) fun a hK => ?_
              refine sl hK (by decide) rfl rfl (r_move hK rfl) fun a hK => ?_
              obtain ⟨y_124, h_125, H⟩ := bind_some H
              obtain ⟨b_127, c_128, cs_129, hv_126, hr_130, hc_131, h_1250, h_1251⟩ := hS.row_ix (.head _) (hq_28.mono hl_37.le) rfl rfl h_125
              subst hr_130
              refine sl hK (by decide) rfl rfl (r_indexAddr_R Try.underlying22 Try.sizeOf34 hv_126 h_1250 h_1251 hK rfl rfl) fun a hK => ?_
              refine sl hK (by decide) rfl rfl (r_fieldAddr Try.underlying34 rfl Try.sizeOf9 hK rfl) fun a hK => ?_
              refine sl hK (by decide) rfl rfl (r_load Try.isAgg9 hK rfl (by have h_ := hS.row_cell (.head _) hv_126 (hc_131 0 _ rfl); simpa [Nat.add_assoc] using h_)) fun a hK => ?_
              refine sl_buildSliceF (zc := [.string (⟨#[]⟩ : ByteArray)]) (ps := [(0, .string y_124.Name)]) (c := [.string y_124.Name]) [[.string y_124.Name]] Try.underlying32 Try.sizeOf9 Try.zeroValue9 rfl (pc_cons rfl pc_nil) rfl rfl (Nat.le_of_ble_eq_true rfl) rfl (all_cons rfl (all_nil)) rfl hS hK (by decide) rfl fun a w b_132 hS hK => ?_
              obtain ⟨y_133, h_134, H⟩ := bind_some H
              have hS := hS.pk7
              refine sl_append_L (ty := tyStr) (ys := [y_124.Name]) elT32 (by decide) rfl hq_102 rfl (Reps.cons (show Ty.rep tyStr _ [.string y_124.Name] y_124.Name from rfl) (Reps.nil _ _)) rfl h_134 hS hK (by decide) rfl rfl rfl fun a w v_135 cs_136 hq_137 hS hK => ?_
              refine sl hK (by decide) rfl rfl (r_assign hK rfl) fun a hK => ?_
              refine wpList_nil ?_
              refine wp_region_lit ?_
              refine sl hK (by decide) rfl rfl (r_move hK rfl) fun a hK => ?_
              refine sl hK (by decide) rfl rfl (r_ibin hK rfl rfl rfl) fun a hK => ?_
              refine sl hK (by decide) rfl rfl (r_assign hK rfl) fun a hK => ?_
              refine wpList_nil ?_
              have hS := hS.pk6
              have hS := hS.pk6
              have hS := hS.pk6
              have hS := hS.pk6
              have hS := hS.pk6
              have hS := hS.pk6
              exact ⟨_, Nat.lt_succ_self _, y_133, (IntKind.i64.wrap (x_103 + 1)), _, _, H, hq_137, hK.sub (all_cons rfl (all_cons rfl (all_cons rfl (all_cons rfl (all_cons rfl (all_nil)))))), hS⟩
            · rw [ifb_f hb_123] at H
              refine wp_exit ?_
              refine wp_seq ?_
              refine wp_region_lit ?_
              refine sl hK (by decide) rfl rfl (r_loadA (cs := [v_39, v_43]) Try.isAgg25 Try.sizeOf25 rfl hK rfl (hS.cells_of (m := 2) (.tail _ (.tail _ (.tail _ (.tail _ (.tail _ (.head _)))))) rfl)) fun a hK => ?_
              refine sl hK (by decide) rfl rfl (r_move hK rfl) fun a hK => ?_
              obtain ⟨y_139, h_140, H⟩ := bind_some H
              refine sl_call Try.call11 hK (by decide) rfl rfl rfl (ref02_Keep.calls y_34.1 x_99 (lentOf_sub [] _) hS.sub (hS.lend_row0 (.tail _ (.tail _ (.tail _ (.head _)))) hq_41 rfl rfl) (hS.lend_row0 (.tail _ (.tail _ (.tail _ (.tail _ (.head _))))) hq_45 rfl rfl) (hS.lend_row0 (.tail _ (.tail _ (.tail _ (.tail _ (.tail _ (.tail _ (.head _))))))) hq_102 rfl rfl) h_140) fun a v_ w hv_ hK => ?_
              obtain ⟨R_141, v_144, cs_145, v_148, cs_149, hv_, hr_, hl_142, hq_146, hq_150⟩ := hv_
              have hv_ := hv_.symm
              subst hv_
              obtain ⟨hS, hl_142⟩ := hS.sp0.back hr_ hl_142
              have hS := hS.un2
              have hRL := hRL.trans hl_142
              refine sl hK (by decide) rfl rfl (r_move hK rfl) fun a hK => ?_
              refine sl hK (by decide) rfl rfl (r_extract hK rfl rfl) fun a hK => ?_
              refine sl hK (by decide) rfl rfl (r_extract hK rfl rfl) fun a hK => ?_
              refine sl_alloc Try.zeroValue25 hS hK (by decide) rfl rfl fun a w b_151 hS hK => ?_
              refine sl_storeA (vs := [v_144, v_148]) (c' := [v_144, v_148]) Try.sizeOf25 hS hK rfl rfl rfl rfl (all_cons (hS.row_one (.tail _ (.head _))) (all_cons (hS.row_one (.tail _ (.tail _ (.head _)))) (all_nil))) (Nat.le_of_ble_eq_true rfl) rfl fun a w hS hK => ?_
              refine sl hK (by decide) rfl rfl (r_assign hK rfl) fun a hK => ?_
              refine wpList_nil ?_
              refine wp_seq ?_
              refine wp_region_lit ?_
              refine sl hK (by decide) rfl rfl (r_loadA (cs := [v_26, v_30]) Try.isAgg25 Try.sizeOf25 rfl hK rfl (hS.cells_of (m := 2) (.tail _ (.tail _ (.tail _ (.tail _ (.tail _ (.head _)))))) rfl)) fun a hK => ?_
              refine sl hK (by decide) rfl rfl (r_loadA (cs := [v_144, v_148]) Try.isAgg25 Try.sizeOf25 rfl hK rfl (hS.cells_of (m := 2) (.head _) rfl)) fun a hK => ?_
              obtain ⟨y_152, h_153, H⟩ := bind_some H
              refine sl_callV Try.call12 hS hK (by decide) rfl rfl rfl (ref02_Same.calls y_21.1 y_139.1 (lentOf_sub [] _) (hS.lend_row0 (.tail _ (.tail _ (.tail _ (.head _)))) (hq_28.mono (hl_37.le.trans hl_142.le)) rfl rfl) (hS.lend_row0 (.tail _ (.tail _ (.tail _ (.tail _ (.head _))))) (hq_32.mono (hl_37.le.trans hl_142.le)) rfl rfl) (hS.lend_row0 (.tail _ (.head _)) hq_146 rfl rfl) (hS.lend_row0 (.tail _ (.tail _ (.head _))) hq_150 rfl rfl) h_153) fun a w hS hK => ?_
              refine sl hK (by decide) rfl rfl (r_assign hK rfl) fun a hK => ?_
              refine wpList_nil ?_
              refine wp_seq ?_
              refine wp_region_lit ?_
              refine sl hK (by decide) rfl rfl (r_move hK rfl) fun a hK => ?_
              refine sl hK (by decide) rfl rfl (r_move hK rfl) fun a hK => ?_
              rcases or_b y_3 with hb_154 | hb_154
              · rw [ifb_t hb_154] at H
                refine sl hK (by decide) (wtt hb_154) rfl (r_move hK rfl) fun a hK => ?_
                refine sl hK (by decide) (wtt hb_154) rfl (r_ibin hK rfl rfl rfl) fun a hK => ?_
                refine sl hK (by decide) rfl rfl (r_pick_t hb_154 hK rfl rfl) fun a hK => ?_
                refine sl hK (by decide) rfl rfl (r_move hK rfl) fun a hK => ?_
                rcases or_b (y_139.2 == 0) with hb_155 | hb_155
                · rw [ifb_t hb_155] at H
                  refine sl hK (by decide) (wtt hb_155) rfl (r_move hK rfl) fun a hK => ?_
                  refine sl hK (by decide) rfl rfl (r_pick_t hb_155 hK rfl rfl) fun a hK => ?_
                  refine sl hK (by decide) rfl rfl (r_assign hK rfl) fun a hK => ?_
                  refine wpList_nil ?_
                  have hr_ := Option.some.inj H
                  refine wp_ret ?_
                  repeat (first | refine ret_then ?_ | refine ret_block ?_ | refine ret_scope ?_)
                  exact ret_1 Try.results3 hK (rv_tmp hK rfl) ⟨congrArg (fun b => Ending.returned (Value.bool b)) hr_, hS.bel⟩
                · rw [ifb_f hb_155] at H
                  refine sl_skip hK (by decide) (wtf hb_155) rfl fun a hK => ?_
                  refine sl hK (by decide) rfl rfl (r_pick_f hb_155 hK rfl rfl) fun a hK => ?_
                  refine sl hK (by decide) rfl rfl (r_assign hK rfl) fun a hK => ?_
                  refine wpList_nil ?_
                  exact absurd (Option.some.inj H) (by decide)
              · rw [ifb_f hb_154] at H
                refine sl_skip hK (by decide) (wtf hb_154) rfl fun a hK => ?_
                refine sl_skip hK (by decide) (wtf hb_154) rfl fun a hK => ?_
                refine sl hK (by decide) rfl rfl (r_pick_f hb_154 hK rfl rfl) fun a hK => ?_
                refine sl hK (by decide) rfl rfl (r_move hK rfl) fun a hK => ?_
                refine sl_skip hK (by decide) rfl rfl fun a hK => ?_
                refine sl hK (by decide) rfl rfl (r_pick hK rfl rfl rfl) fun a hK => ?_
                refine sl hK (by decide) rfl rfl (r_assign hK rfl) fun a hK => ?_
                refine wpList_nil ?_
                exact absurd (Option.some.inj H) (by decide)

end Go.Proofs.Ytabdokppkcgdlaa.M
