/- Each Go function of the laws answers as its plain Lean function tells, wherever that tells something. Printed by wip/eng/gen.py. -/
import Derived.Test.YtifijboegibchaaWalk3
namespace Go.Proofs.Ytifijboegibchaa.M
open Go Go.Eng Go.Proofs Go.RowKit
set_option linter.unusedVariables false
set_option linter.unusedSimpArgs false

/-! ### catchment/catchmentref04.Decode: function 20 -/
set_option maxHeartbeats 4000000 in
set_option maxRecDepth 100000 in
theorem ref04_Decode.calls (a0 : List Int) {w0 : World} {R : Hp} {RA : Hp} {v0_0 : Value} (hRA : RA.sub w0) (hR : R.sub w0) (h0_0 : SlR (tyInt .u8) RA v0_0 a0) {r : api_Table × Int} (H : ref04_Decode a0 = some r) : Calls Try.prog 20 #[v0_0] w0 (Rets fun v w' => ∃ (R' : Hp) (u0 : Value) (cu0 : List Value) (u1 : Value) (cu1 : List Value), v = .tuple #[.agg #[u0, u1], .int .i64 r.2] ∧ St [] w0 w' R' [.row 48 2 u0 r.1.Cols.length cu0, .row 49 1 u1 r.1.Rows.length cu1] ∧ RLe [] w0 R R' ∧ Reps ty_api_Col R' cu0 r.1.Cols ∧ Reps (tySl ty_api_Value) R' cu1 r.1.Rows) := by
  unfold ref04_Decode at H
  refine enter (args := [v0_0]) Try.func20 rfl Try.ntmps20 rfl fun a hK => ?_
  have hS := St.init hR
  have hRL := RLe.refl (M := []) w0 R
  refine wp_seq ?_
  refine wp_region_lit ?_
  refine sl_alloc Try.zeroValue37 hS hK (by decide) rfl rfl fun a w b_1 hS hK => ?_
  refine sl hK (by decide) rfl rfl (r_assign hK rfl) fun a hK => ?_
  refine wpList_nil ?_
  refine wp_seq ?_
  refine wp_region_lit ?_
  refine sl hK (by decide) rfl rfl (r_buildC (ps := []) (c := [.slice none 0 0, .slice none 0 0]) Try.underlying37 Try.zeroValue37 places37 hK rfl pc_nil rfl rfl) fun a hK => ?_
  refine sl_alloc Try.zeroValue37 hS hK (by decide) rfl rfl fun a w b_2 hS hK => ?_
  refine sl_storeA (vs := [.slice none 0 0, .slice none 0 0]) (c' := [.slice none 0 0, .slice none 0 0]) Try.sizeOf37 hS hK rfl rfl rfl rfl (all_cons rfl (all_cons rfl (all_nil))) (Nat.le_of_ble_eq_true rfl) rfl fun a w hS hK => ?_
  refine wpList_nil ?_
  refine wp_seq ?_
  refine wp_seq ?_
  refine wp_mid (fun a w => ∃ (x_11 : Bool), ref04_Decode.j0 a0 x_11 = some r ∧ Kn 183 a [(0, v0_0), (2, .pointer (some ⟨b_1, 0, none⟩)), (4, .pointer (some ⟨b_2, 0, none⟩)), (32, .bool x_11)] ∧ St [] w0 w R [.cells b_1 [.slice none 0 0, .slice none 0 0] 37, .cells b_2 [.slice none 0 0, .slice none 0 0] 37]) ?_ ?_
  · refine wp_region_lit ?_
    refine sl hK (by decide) rfl rfl (r_move hK rfl) fun a hK => ?_
    refine sl hK (by decide) rfl rfl (r_len_R Try.underlying22 h0_0 hK rfl) fun a hK => ?_
    refine sl hK (by decide) rfl rfl (r_ibin hK rfl rfl rfl) fun a hK => ?_
    refine sl hK (by decide) rfl rfl (r_move hK rfl) fun a hK => ?_
    rcases or_b (decide ((a0.length : Int) < 9)) with hb_13 | hb_13
    · rw [ifb_t hb_13] at H
      refine sl_skip hK (by decide) (wft hb_13) rfl fun a hK => ?_
      refine sl_skip hK (by decide) (wft hb_13) rfl fun a hK => ?_
      refine sl_skip hK (by decide) (wft hb_13) rfl fun a hK => ?_
      refine sl_skip hK (by decide) (wft hb_13) rfl fun a hK => ?_
      refine sl_skip hK (by decide) (wft hb_13) rfl fun a hK => ?_
      refine sl_skip hK (by decide) (wft hb_13) rfl fun a hK => ?_
      refine sl_skip hK (by decide) (wft hb_13) rfl fun a hK => ?_
      refine sl hK (by decide) rfl rfl (r_pick_t hb_13 hK rfl rfl) fun a hK => ?_
      refine wpList_nil ?_
      have hS := hS.pk1
      exact ⟨true, H, hK.sub (all_cons rfl (all_cons rfl (all_cons rfl (all_cons rfl (all_nil))))), hS⟩
    · rw [ifb_f hb_13] at H
      refine sl hK (by decide) (wff hb_13) rfl (r_move hK rfl) fun a hK => ?_
      obtain ⟨y_14, h_15, H⟩ := bind_some H
      obtain ⟨v_16, hs_17, hr_18⟩ := r_slice_R (x := .tmp 25) (lo := none) (hi := some (.const (.int .i64 4))) Try.underlying22 Try.sizeOf5 h0_0 h_15 hK rfl rfl ⟨_, rfl⟩
      refine sl hK (by decide) (wff hb_13) rfl (hr_18 _ _ _ _ _ _ _ hK) fun a hK => ?_
      obtain ⟨y_19, h_20, H⟩ := bind_some H
      refine sl_callV Try.call29 hS hK (by decide) (wff hb_13) rfl rfl (ref04_small.calls y_14 (lentOf_sub [] _) (hs_17.mono (hS.raLe0 hRA nil_not)) h_20) fun a w hS hK => ?_
      refine sl hK (by decide) (wff hb_13) rfl (r_move hK rfl) fun a hK => ?_
      refine sl hK (by decide) (wff hb_13) rfl (r_len_R Try.underlying22 h0_0 hK rfl) fun a hK => ?_
      refine sl hK (by decide) (wff hb_13) rfl (r_ibin hK rfl rfl rfl) fun a hK => ?_
      refine sl hK (by decide) (wff hb_13) rfl (r_ibin hK rfl rfl rfl) fun a hK => ?_
      refine sl hK (by decide) rfl rfl (r_pick_f hb_13 hK rfl rfl) fun a hK => ?_
      refine wpList_nil ?_
      have hS := hS.pk1
      exact ⟨(y_19 != (IntKind.i64.wrap ((a0.length : Int) - 8))), H, hK.sub (all_cons rfl (all_cons rfl (all_cons rfl (all_cons rfl (all_nil))))), hS⟩
  · rintro a w ⟨x_11, H, hK, hS⟩
    unfold ref04_Decode.j0 at H
    refine wp_cond_split (hK.ev rfl) (fun (hb_21 : x_11 = true) => ?_) (fun (hb_21 : x_11 = false) => ?_)
    · rw [ifb_t hb_21] at H
      refine wp_seq ?_
      refine wp_region_lit ?_
      refine sl hK (by decide) rfl rfl (r_loadA (cs := [.slice none 0 0, .slice none 0 0]) Try.isAgg37 Try.sizeOf37 rfl hK rfl (hS.cells_of (m := 2) (.tail _ (.head _)) rfl)) fun a hK => ?_
      refine sl_storeA (vs := [.slice none 0 0, .slice none 0 0]) (c' := [.slice none 0 0, .slice none 0 0]) Try.sizeOf37 hS hK rfl rfl rfl rfl (all_cons rfl (all_cons rfl (all_nil))) (Nat.le_of_ble_eq_true rfl) rfl fun a w hS hK => ?_
      refine sl hK (by decide) rfl rfl (r_assign hK rfl) fun a hK => ?_
      refine wpList_nil ?_
      have hS := hS.row_nil 48 2
      have hq_23 : Reps ty_api_Col R [] ([] : List api_Col) := Reps.nil _ _
      have hS := hS.row_nil 49 1
      have hq_25 : Reps (tySl ty_api_Value) R [] ([] : List (List api_Value)) := Reps.nil _ _
      obtain rfl := Option.some.inj H
      refine wp_ret ?_
      repeat (first | refine ret_then ?_ | refine ret_block ?_ | refine ret_scope ?_)
      exact ret_2 Try.results20 hK (rv_cell (c := [(.slice none 0 0), (.slice none 0 0)]) Try.isAgg37 Try.sizeOf37 hS (.tail _ (.tail _ (.head _))) rfl hK rfl) (rv_tmp hK rfl) ⟨_, rfl, _, _, _, _, _, rfl, (hS.pk1.trunc 2), hRL, hq_23, hq_25⟩
    · rw [ifb_f hb_21] at H
      refine wp_skip ?_
      refine wp_seq ?_
      refine wp_region_lit ?_
      refine sl hK (by decide) rfl rfl (r_move hK rfl) fun a hK => ?_
      refine sl hK (by decide) rfl rfl (r_move hK rfl) fun a hK => ?_
      refine sl hK (by decide) rfl rfl (r_len_R Try.underlying22 h0_0 hK rfl) fun a hK => ?_
      refine sl hK (by decide) rfl rfl (r_ibin hK rfl rfl rfl) fun a hK => ?_
      obtain ⟨y_26, h_27, H⟩ := bind_some H
      obtain ⟨v_28, hs_29, hr_30⟩ := r_slice_R (x := .tmp 34) (lo := some (.const (.int .i64 4))) (hi := some (.tmp 37)) Try.underlying22 Try.sizeOf5 h0_0 h_27 hK rfl ⟨_, rfl⟩ ⟨_, rfl⟩
      refine sl hK (by decide) rfl rfl (hr_30 _ _ _ _ _ _ _ hK) fun a hK => ?_
      refine sl hK (by decide) rfl rfl (r_assign hK rfl) fun a hK => ?_
      refine wpList_nil ?_
      refine wp_seq ?_
      refine wp_region_lit ?_
      refine sl hK (by decide) rfl rfl (r_buildC (ps := []) (c := [.slice none 0 0, .slice none 0 0]) Try.underlying37 Try.zeroValue37 places37 hK rfl pc_nil rfl rfl) fun a hK => ?_
      refine sl_alloc Try.zeroValue37 hS hK (by decide) rfl rfl fun a w b_31 hS hK => ?_
      refine sl_storeA (vs := [.slice none 0 0, .slice none 0 0]) (c' := [.slice none 0 0, .slice none 0 0]) Try.sizeOf37 hS hK rfl rfl rfl rfl (all_cons rfl (all_cons rfl (all_nil))) (Nat.le_of_ble_eq_true rfl) rfl fun a w hS hK => ?_
      refine wpList_nil ?_
      refine wp_seq ?_
      refine wp_region_lit ?_
      refine sl hK (by decide) rfl rfl (r_assign hK rfl) fun a hK => ?_
      refine wpList_nil ?_
      refine wp_seq ?_
      refine wp_seq ?_
      refine wp_region_lit ?_
      refine sl hK (by decide) rfl rfl (r_assign hK rfl) fun a hK => ?_
      refine wpList_nil ?_
      refine wp_block ?_
      refine wp_loop_k (fun k_l1 a w => ∃ (x_126 : List api_Col) (x_130 : Int) (x_131 : Int) (v_127 : Value) (cs_128 : List Value), ref04_Decode.l1 a0 y_26 k_l1 x_126 x_130 x_131 = some r ∧ Reps ty_api_Col R cs_128 x_126 ∧ Kn 183 a [(0, v0_0), (2, .pointer (some ⟨b_1, 0, none⟩)), (4, .pointer (some ⟨b_2, 0, none⟩)), (5, v_28), (6, .pointer (some ⟨b_31, 0, none⟩)), (7, .int .i64 x_130), (8, .int .i64 x_131)] ∧ St [] w0 w R [.cells b_1 [.slice none 0 0, .slice none 0 0] 37, .cells b_2 [.slice none 0 0, .slice none 0 0] 37, .row 48 2 v_127 x_126.length cs_128, .cells b_31 [v_127, .slice none 0 0] 37]) (((IntKind.i64.wrap ((ix y_26 0).getD 0)) - 0).toNat + 1) ?_ ?_
      · have hS := hS.row_nil 48 2
        have hq_231 : Reps ty_api_Col R [] ([] : List api_Col) := Reps.nil _ _
        have hS := hS.pk1
        have hS := hS.pk1
        have hS := hS.pk3
        have hS := hS.pk3
        exact ⟨[], 1, 0, _, _, H, hq_231, hK.sub (all_cons rfl (all_cons rfl (all_cons rfl (all_cons rfl (all_cons rfl (all_cons rfl (all_cons rfl (all_nil)))))))), hS⟩
      · rintro k_l1 a w ⟨x_126, x_130, x_131, v_127, cs_128, H, hq_129, hK, hS⟩
        cases k_l1 with
        | zero => cases H
        | succ k_l1 =>
        rw [ref04_Decode.l1.eq_2] at H
        refine wp_seq ?_
        refine wp_seq ?_
        refine wp_region_lit ?_
        refine sl hK (by decide) rfl rfl (r_move hK rfl) fun a hK => ?_
        refine sl hK (by decide) rfl rfl (r_move hK rfl) fun a hK => ?_
        obtain ⟨y_232, h_233, H⟩ := bind_some H
        obtain ⟨b_234, o_235, c_236, cs_237, hv_238, hr_239, hc_240, h_2330, h_2331⟩ := hs_29.ix h_233
        subst hr_239
        refine sl hK (by decide) rfl rfl (r_indexAddr_R Try.underlying22 Try.sizeOf5 hv_238 h_2330 h_2331 hK rfl rfl) fun a hK => ?_
        refine sl hK (by decide) rfl rfl (r_load Try.isAgg5 hK rfl ((hS.ra hRA nil_not).cell (hc_240 0 _ rfl))) fun a hK => ?_
        refine sl hK (by decide) rfl rfl (r_conv Try.underlying5 Try.underlying3 hK rfl) fun a hK => ?_
        refine sl hK (by decide) rfl rfl (r_ibin hK rfl rfl rfl) fun a hK => ?_
        refine wpList_nil ?_
        refine wp_cond_split (hK.ev rfl) (fun (hb_241 : (decide (x_131 < (IntKind.i64.wrap y_232))) = true) => ?_) (fun (hb_241 : (decide (x_131 < (IntKind.i64.wrap y_232))) = false) => ?_)
        · rw [ifb_t hb_241] at H
          refine wp_skip ?_
          refine wp_seq ?_
          refine wp_block ?_
          refine wp_seq ?_
          refine wp_seq ?_
          refine wp_mid (fun a w => ∃ (x_252 : Bool), ref04_Decode.j2 (ref04_Decode.l1 a0 y_26 k_l1) y_26 x_126 x_130 x_131 x_252 = some r ∧ Kn 183 a [(0, v0_0), (2, .pointer (some ⟨b_1, 0, none⟩)), (4, .pointer (some ⟨b_2, 0, none⟩)), (5, v_28), (6, .pointer (some ⟨b_31, 0, none⟩)), (7, .int .i64 x_130), (8, .int .i64 x_131), (64, .bool x_252)] ∧ St [] w0 w R [.cells b_1 [.slice none 0 0, .slice none 0 0] 37, .cells b_2 [.slice none 0 0, .slice none 0 0] 37, .row 48 2 v_127 x_126.length cs_128, .cells b_31 [v_127, .slice none 0 0] 37]) ?_ ?_
          · refine wp_region_lit ?_
            refine sl hK (by decide) rfl rfl (r_move hK rfl) fun a hK => ?_
            refine sl hK (by decide) rfl rfl (r_move hK rfl) fun a hK => ?_
            refine sl hK (by decide) rfl rfl (r_len_R Try.underlying22 hs_29 hK rfl) fun a hK => ?_
            refine sl hK (by decide) rfl rfl (r_ibin hK rfl rfl rfl) fun a hK => ?_
            refine sl hK (by decide) rfl rfl (r_move hK rfl) fun a hK => ?_
            rcases or_b (decide (x_130 ≥ (y_26.length : Int))) with hb_254 | hb_254
            · rw [ifb_t hb_254] at H
              refine sl_skip hK (by decide) (wft hb_254) rfl fun a hK => ?_
              refine sl_skip hK (by decide) (wft hb_254) rfl fun a hK => ?_
              refine sl_skip hK (by decide) (wft hb_254) rfl fun a hK => ?_
              refine sl_skip hK (by decide) (wft hb_254) rfl fun a hK => ?_
              refine sl_skip hK (by decide) (wft hb_254) rfl fun a hK => ?_
              refine sl_skip hK (by decide) (wft hb_254) rfl fun a hK => ?_
              refine sl_skip hK (by decide) (wft hb_254) rfl fun a hK => ?_
              refine sl_skip hK (by decide) (wft hb_254) rfl fun a hK => ?_
              refine sl_skip hK (by decide) (wft hb_254) rfl fun a hK => ?_
              refine sl_skip hK (by decide) (wft hb_254) rfl fun a hK => ?_
              refine sl_skip hK (by decide) (wft hb_254) rfl fun a hK => ?_
              refine sl hK (by decide) rfl rfl (r_pick_t hb_254 hK rfl rfl) fun a hK => ?_
              refine wpList_nil ?_
              have hS := hS.pk3
              have hS := hS.pk3
              have hS := hS.pk3
              have hS := hS.pk3
              exact ⟨true, H, hK.sub (all_cons rfl (all_cons rfl (all_cons rfl (all_cons rfl (all_cons rfl (all_cons rfl (all_cons rfl (all_cons rfl (all_nil))))))))), hS⟩
            · rw [ifb_f hb_254] at H
              refine sl hK (by decide) (wff hb_254) rfl (r_move hK rfl) fun a hK => ?_
              refine sl hK (by decide) (wff hb_254) rfl (r_ibin hK rfl rfl rfl) fun a hK => ?_
              refine sl hK (by decide) (wff hb_254) rfl (r_move hK rfl) fun a hK => ?_
              refine sl hK (by decide) (wff hb_254) rfl (r_move hK rfl) fun a hK => ?_
              obtain ⟨y_255, h_256, H⟩ := bind_some H
              obtain ⟨b_257, o_258, c_259, cs_260, hv_261, hr_262, hc_263, h_2560, h_2561⟩ := hs_29.ix h_256
              subst hr_262
              refine sl hK (by decide) (wff hb_254) rfl (r_indexAddr_R Try.underlying22 Try.sizeOf5 hv_261 h_2560 h_2561 hK rfl rfl) fun a hK => ?_
              refine sl hK (by decide) (wff hb_254) rfl (r_load Try.isAgg5 hK rfl ((hS.ra hRA nil_not).cell (hc_263 0 _ rfl))) fun a hK => ?_
              refine sl hK (by decide) (wff hb_254) rfl (r_conv Try.underlying5 Try.underlying3 hK rfl) fun a hK => ?_
              refine sl hK (by decide) (wff hb_254) rfl (r_ibin hK rfl rfl rfl) fun a hK => ?_
              refine sl hK (by decide) (wff hb_254) rfl (r_move hK rfl) fun a hK => ?_
              refine sl hK (by decide) (wff hb_254) rfl (r_len_R Try.underlying22 hs_29 hK rfl) fun a hK => ?_
              refine sl hK (by decide) (wff hb_254) rfl (r_ibin hK rfl rfl rfl) fun a hK => ?_
              refine sl hK (by decide) rfl rfl (r_pick_f hb_254 hK rfl rfl) fun a hK => ?_
              refine wpList_nil ?_
              have hS := hS.pk3
              have hS := hS.pk3
              have hS := hS.pk3
              have hS := hS.pk3
              exact ⟨(decide ((IntKind.i64.wrap ((IntKind.i64.wrap (x_130 + 1)) + (IntKind.i64.wrap y_255))) ≥ (y_26.length : Int))), H, hK.sub (all_cons rfl (all_cons rfl (all_cons rfl (all_cons rfl (all_cons rfl (all_cons rfl (all_cons rfl (all_cons rfl (all_nil))))))))), hS⟩
          · rintro a w ⟨x_252, H, hK, hS⟩
            unfold ref04_Decode.j2 at H
            refine wp_cond_split (hK.ev rfl) (fun (hb_264 : x_252 = true) => ?_) (fun (hb_264 : x_252 = false) => ?_)
            · rw [ifb_t hb_264] at H
              refine wp_seq ?_
              refine wp_region_lit ?_
              refine sl hK (by decide) rfl rfl (r_loadA (cs := [.slice none 0 0, .slice none 0 0]) Try.isAgg37 Try.sizeOf37 rfl hK rfl (hS.cells_of (m := 2) (.tail _ (.head _)) rfl)) fun a hK => ?_
              refine sl_storeA (vs := [.slice none 0 0, .slice none 0 0]) (c' := [.slice none 0 0, .slice none 0 0]) Try.sizeOf37 hS hK rfl rfl rfl rfl (all_cons rfl (all_cons rfl (all_nil))) (Nat.le_of_ble_eq_true rfl) rfl fun a w hS hK => ?_
              refine sl hK (by decide) rfl rfl (r_assign hK rfl) fun a hK => ?_
              refine wpList_nil ?_
              have hS := hS.row_nil 48 2
              have hq_266 : Reps ty_api_Col R [] ([] : List api_Col) := Reps.nil _ _
              have hS := hS.row_nil 49 1
              have hq_268 : Reps (tySl ty_api_Value) R [] ([] : List (List api_Value)) := Reps.nil _ _
              obtain rfl := Option.some.inj H
              refine wp_ret ?_
              repeat (first | refine ret_then ?_ | refine ret_block ?_ | refine ret_scope ?_)
              exact ret_2 Try.results20 hK (rv_cell (c := [(.slice none 0 0), (.slice none 0 0)]) Try.isAgg37 Try.sizeOf37 hS (.tail _ (.tail _ (.head _))) rfl hK rfl) (rv_tmp hK rfl) ⟨_, rfl, _, _, _, _, _, rfl, (hS.pk1.trunc 2), hRL, hq_266, hq_268⟩
            · rw [ifb_f hb_264] at H
              refine wp_skip ?_
              refine wp_seq ?_
              refine wp_region_lit ?_
              refine sl hK (by decide) rfl rfl (r_move hK rfl) fun a hK => ?_
              refine sl hK (by decide) rfl rfl (r_move hK rfl) fun a hK => ?_
              obtain ⟨y_269, h_270, H⟩ := bind_some H
              obtain ⟨b_271, o_272, c_273, cs_274, hv_275, hr_276, hc_277, h_2700, h_2701⟩ := hs_29.ix h_270
              subst hr_276
              refine sl hK (by decide) rfl rfl (r_indexAddr_R Try.underlying22 Try.sizeOf5 hv_275 h_2700 h_2701 hK rfl rfl) fun a hK => ?_
              refine sl hK (by decide) rfl rfl (r_load Try.isAgg5 hK rfl ((hS.ra hRA nil_not).cell (hc_277 0 _ rfl))) fun a hK => ?_
              refine sl hK (by decide) rfl rfl (r_conv Try.underlying5 Try.underlying3 hK rfl) fun a hK => ?_
              refine sl hK (by decide) rfl rfl (r_assign hK rfl) fun a hK => ?_
              refine wpList_nil ?_
              refine wp_seq ?_
              refine parT_region (C := fun w => St [] w0 w R [.cells b_1 [.slice none 0 0, .slice none 0 0] 37, .cells b_2 [.slice none 0 0, .slice none 0 0] 37, .row 48 2 v_127 x_126.length cs_128, .cells b_31 [v_127, .slice none 0 0] 37]) 21 [(0, true), (1, true), (2, true), (3, true), (4, true), (5, true), (6, true), (7, true), (8, true), (9, true), (10, true), (11, true), (12, true), (13, true), (14, true), (15, true), (16, true), (17, true), (18, true), (19, true), (20, false)] mixed (by kernel_rfl) hS (fun w hS => hS) fun w hS => ?_
              refine sp (k := 0) rfl hK (by decide) rfl rfl (fun w hS => r_fieldAddr Try.underlying37 rfl Try.sizeOf34 hK rfl) fun a hK => ?_
              refine sp (k := 1) rfl hK (by decide) rfl rfl (fun w hS => r_load Try.isAgg34 hK rfl (hS.cell (.tail _ (.tail _ (.tail _ (.head _)))) rfl)) fun a hK => ?_
              refine sp (k := 2) rfl hK (by decide) rfl rfl (fun w hS => r_move hK rfl) fun a hK => ?_
              refine sp (k := 3) rfl hK (by decide) rfl rfl (fun w hS => r_move hK rfl) fun a hK => ?_
              refine sp (k := 4) rfl hK (by decide) rfl rfl (fun w hS => r_ibin hK rfl rfl rfl) fun a hK => ?_
              refine sp (k := 5) rfl hK (by decide) rfl rfl (fun w hS => r_move hK rfl) fun a hK => ?_
              refine sp (k := 6) rfl hK (by decide) rfl rfl (fun w hS => r_ibin hK rfl rfl rfl) fun a hK => ?_
              refine sp (k := 7) rfl hK (by decide) rfl rfl (fun w hS => r_move hK rfl) fun a hK => ?_
              refine sp (k := 8) rfl hK (by decide) rfl rfl (fun w hS => r_ibin hK rfl rfl rfl) fun a hK => ?_
              obtain ⟨y_299, h_300, H⟩ := bind_some H
              obtain ⟨v_301, hs_302, hr_303⟩ := r_slice_R (x := .tmp 73) (lo := some (.tmp 75)) (hi := some (.tmp 79)) Try.underlying22 Try.sizeOf5 hs_29 h_300 hK rfl ⟨_, rfl⟩ ⟨_, rfl⟩
              refine sp (k := 9) rfl hK (by decide) rfl rfl (fun w hS => hr_303 _ _ _ _ _ _ _ hK) fun a hK => ?_
              refine sp (k := 10) rfl hK (by decide) rfl rfl (fun w hS => r_conv_bs Try.underlying22 Try.underlying9 Try.underlying5 hs_302 hK rfl (hS.ra hRA nil_not)) fun a hK => ?_
              refine sp (k := 11) rfl hK (by decide) rfl rfl (fun w hS => r_move hK rfl) fun a hK => ?_
              refine sp (k := 12) rfl hK (by decide) rfl rfl (fun w hS => r_move hK rfl) fun a hK => ?_
              refine sp (k := 13) rfl hK (by decide) rfl rfl (fun w hS => r_ibin hK rfl rfl rfl) fun a hK => ?_
              refine sp (k := 14) rfl hK (by decide) rfl rfl (fun w hS => r_move hK rfl) fun a hK => ?_
              refine sp (k := 15) rfl hK (by decide) rfl rfl (fun w hS => r_ibin hK rfl rfl rfl) fun a hK => ?_
              obtain ⟨y_304, h_305, H⟩ := bind_some H
              obtain ⟨b_306, o_307, c_308, cs_309, hv_310, hr_311, hc_312, h_3050, h_3051⟩ := hs_29.ix h_305
              subst hr_311
              refine sp (k := 16) rfl hK (by decide) rfl rfl (fun w hS => r_indexAddr_R Try.underlying22 Try.sizeOf5 hv_310 h_3050 h_3051 hK rfl rfl) fun a hK => ?_
              refine sp (k := 17) rfl hK (by decide) rfl rfl (fun w hS => r_load Try.isAgg5 hK rfl ((hS.ra hRA nil_not).cell (hc_312 0 _ rfl))) fun a hK => ?_
              refine sp (k := 18) rfl hK (by decide) rfl rfl (fun w hS => r_conv Try.underlying5 Try.underlying3 hK rfl) fun a hK => ?_
              refine sp (k := 19) rfl hK (by decide) rfl rfl (fun w hS => r_buildC (ps := [(0, .string (bstr y_299)), (1, .int .i64 (IntKind.i64.wrap y_304))]) (c := [.string (bstr y_299), .int .i64 (IntKind.i64.wrap y_304)]) Try.underlying48 Try.zeroValue48 places48 hK rfl (pc_cons rfl (pc_cons rfl pc_nil)) rfl rfl) fun a hK => ?_
              refine spw (k := 20) rfl rfl hS ?_
              refine sl_buildSliceF (zc := [.string (⟨#[]⟩ : ByteArray), .int .i64 0]) (ps := [(0, .agg #[.string (bstr y_299), .int .i64 (IntKind.i64.wrap y_304)])]) (c := [.string (bstr y_299), .int .i64 (IntKind.i64.wrap y_304)]) [[.string (bstr y_299), .int .i64 (IntKind.i64.wrap y_304)]] Try.underlying34 Try.sizeOf48 Try.zeroValue48 rfl (pc_cons rfl pc_nil) rfl rfl (Nat.le_of_ble_eq_true rfl) rfl (all_cons rfl (all_nil)) rfl hS hK (by decide) rfl fun a w b_313 hS hK => ?_
              refine parK_nil (hS.pk4.pk4.pk4.pk4.trunc 4) ?_
              refine thenL_nil ?_
              obtain ⟨y_314, h_315, H⟩ := bind_some H
              have hS := hS.pk3
              refine sl_append_L (ty := ty_api_Col) (ys := [(⟨bstr y_299, IntKind.i64.wrap y_304⟩ : api_Col)]) elT34 (by decide) rfl hq_129 rfl (Reps.cons (show Ty.rep ty_api_Col _ [.string (bstr y_299), .int .i64 (IntKind.i64.wrap y_304)] (⟨bstr y_299, IntKind.i64.wrap y_304⟩ : api_Col) from rfl) (Reps.nil _ _)) rfl h_315 hS hK (by decide) rfl rfl rfl fun a w v_316 cs_317 hq_318 hS hK => ?_
              refine sl hK (by decide) rfl rfl (r_fieldAddr Try.underlying37 rfl Try.sizeOf34 hK rfl) fun a hK => ?_
              have hS := hS.pk3
              refine sl_store1 (c' := [v_316, .slice none 0 0]) Try.sizeOf34 hS hK rfl rfl rfl (hS.row_one (.tail _ (.head _))) (Nat.le_of_ble_eq_true rfl) rfl fun a w hS hK => ?_
              refine wpList_nil (NoP_nil ?_)
              refine wp_region_lit ?_
              refine sl hK (by decide) rfl rfl (r_move hK rfl) fun a hK => ?_
              refine sl hK (by decide) rfl rfl (r_move hK rfl) fun a hK => ?_
              refine sl hK (by decide) rfl rfl (r_ibin hK rfl rfl rfl) fun a hK => ?_
              refine sl hK (by decide) rfl rfl (r_ibin hK rfl rfl rfl) fun a hK => ?_
              refine sl hK (by decide) rfl rfl (r_assign hK rfl) fun a hK => ?_
              refine wpList_nil ?_
              refine wp_region_lit ?_
              refine sl hK (by decide) rfl rfl (r_move hK rfl) fun a hK => ?_
              refine sl hK (by decide) rfl rfl (r_ibin hK rfl rfl rfl) fun a hK => ?_
              refine sl hK (by decide) rfl rfl (r_assign hK rfl) fun a hK => ?_
              refine wpList_nil ?_
              have hS := hS.pk1
              have hS := hS.pk3
              have hS := hS.pk3
              exact ⟨_, Nat.lt_succ_self _, y_314, (IntKind.i64.wrap ((IntKind.i64.wrap (x_130 + (IntKind.i64.wrap y_269))) + 2)), (IntKind.i64.wrap (x_131 + 1)), _, _, H, hq_318, hK.sub (all_cons rfl (all_cons rfl (all_cons rfl (all_cons rfl (all_cons rfl (all_cons rfl (all_cons rfl (all_nil)))))))), hS⟩
        · rw [ifb_f hb_241] at H
          refine wp_exit ?_
          refine wp_seq ?_
          refine wp_seq ?_
          refine wp_mid (fun a w => ∃ (x_323 : Bool), ref04_Decode.j3 a0 y_26 x_126 x_130 x_323 = some r ∧ Kn 183 a [(0, v0_0), (2, .pointer (some ⟨b_1, 0, none⟩)), (4, .pointer (some ⟨b_2, 0, none⟩)), (5, v_28), (6, .pointer (some ⟨b_31, 0, none⟩)), (7, .int .i64 x_130), (108, .bool x_323)] ∧ St [] w0 w R [.cells b_1 [.slice none 0 0, .slice none 0 0] 37, .cells b_2 [.slice none 0 0, .slice none 0 0] 37, .row 48 2 v_127 x_126.length cs_128, .cells b_31 [v_127, .slice none 0 0] 37]) ?_ ?_
          · refine wp_region_lit ?_
            refine sl hK (by decide) rfl rfl (r_move hK rfl) fun a hK => ?_
            refine sl hK (by decide) rfl rfl (r_ibin hK rfl rfl rfl) fun a hK => ?_
            refine sl hK (by decide) rfl rfl (r_move hK rfl) fun a hK => ?_
            refine sl hK (by decide) rfl rfl (r_len_R Try.underlying22 hs_29 hK rfl) fun a hK => ?_
            refine sl hK (by decide) rfl rfl (r_ibin hK rfl rfl rfl) fun a hK => ?_
            refine sl hK (by decide) rfl rfl (r_move hK rfl) fun a hK => ?_
            rcases or_b (decide ((IntKind.i64.wrap (x_130 + 2)) > (y_26.length : Int))) with hb_325 | hb_325
            · rw [ifb_t hb_325] at H
              refine sl_skip hK (by decide) (wft hb_325) rfl fun a hK => ?_
              refine sl_skip hK (by decide) (wft hb_325) rfl fun a hK => ?_
              refine sl_skip hK (by decide) (wft hb_325) rfl fun a hK => ?_
              refine sl_skip hK (by decide) (wft hb_325) rfl fun a hK => ?_
              refine sl hK (by decide) rfl rfl (r_pick_t hb_325 hK rfl rfl) fun a hK => ?_
              refine wpList_nil ?_
              have hS := hS.pk3
              have hS := hS.pk3
              have hS := hS.pk3
              have hS := hS.pk3
              exact ⟨true, H, hK.sub (all_cons rfl (all_cons rfl (all_cons rfl (all_cons rfl (all_cons rfl (all_cons rfl (all_cons rfl (all_nil)))))))), hS⟩
            · rw [ifb_f hb_325] at H
              refine sl hK (by decide) (wff hb_325) rfl (r_fieldAddr Try.underlying37 rfl Try.sizeOf34 hK rfl) fun a hK => ?_
              refine sl hK (by decide) (wff hb_325) rfl (r_load Try.isAgg34 hK rfl (hS.cell (.tail _ (.tail _ (.tail _ (.head _)))) rfl)) fun a hK => ?_
              obtain ⟨y_326, h_327, H⟩ := bind_some H
              refine sl_callV Try.call40 hS hK (by decide) (wff hb_325) rfl rfl (ref02_Cols.calls x_126 (lentOf_sub [] _) (hS.lend_row0 (.tail _ (.tail _ (.head _))) hq_129 rfl rfl) h_327) fun a w hS hK => ?_
              refine sl hK (by decide) (wff hb_325) rfl (r_un hK rfl (u_not _)) fun a hK => ?_
              refine sl hK (by decide) rfl rfl (r_pick_f hb_325 hK rfl rfl) fun a hK => ?_
              refine wpList_nil ?_
              have hS := hS.pk3
              have hS := hS.pk3
              have hS := hS.pk3
              have hS := hS.pk3
              exact ⟨(!y_326), H, hK.sub (all_cons rfl (all_cons rfl (all_cons rfl (all_cons rfl (all_cons rfl (all_cons rfl (all_cons rfl (all_nil)))))))), hS⟩
          · rintro a w ⟨x_323, H, hK, hS⟩
            unfold ref04_Decode.j3 at H
            refine wp_cond_split (hK.ev rfl) (fun (hb_328 : x_323 = true) => ?_) (fun (hb_328 : x_323 = false) => ?_)
            · rw [ifb_t hb_328] at H
              refine wp_seq ?_
              refine wp_region_lit ?_
              refine sl hK (by decide) rfl rfl (r_loadA (cs := [.slice none 0 0, .slice none 0 0]) Try.isAgg37 Try.sizeOf37 rfl hK rfl (hS.cells_of (m := 2) (.tail _ (.head _)) rfl)) fun a hK => ?_
              refine sl_storeA (vs := [.slice none 0 0, .slice none 0 0]) (c' := [.slice none 0 0, .slice none 0 0]) Try.sizeOf37 hS hK rfl rfl rfl rfl (all_cons rfl (all_cons rfl (all_nil))) (Nat.le_of_ble_eq_true rfl) rfl fun a w hS hK => ?_
              refine sl hK (by decide) rfl rfl (r_assign hK rfl) fun a hK => ?_
              refine wpList_nil ?_
              have hS := hS.row_nil 48 2
              have hq_330 : Reps ty_api_Col R [] ([] : List api_Col) := Reps.nil _ _
              have hS := hS.row_nil 49 1
              have hq_332 : Reps (tySl ty_api_Value) R [] ([] : List (List api_Value)) := Reps.nil _ _
              obtain rfl := Option.some.inj H
              refine wp_ret ?_
              repeat (first | refine ret_then ?_ | refine ret_block ?_ | refine ret_scope ?_)
              exact ret_2 Try.results20 hK (rv_cell (c := [(.slice none 0 0), (.slice none 0 0)]) Try.isAgg37 Try.sizeOf37 hS (.tail _ (.tail _ (.head _))) rfl hK rfl) (rv_tmp hK rfl) ⟨_, rfl, _, _, _, _, _, rfl, (hS.pk1.trunc 2), hRL, hq_330, hq_332⟩
            · rw [ifb_f hb_328] at H
              refine wp_skip ?_
              refine wp_seq ?_
              refine wp_region_lit ?_
              refine sl hK (by decide) rfl rfl (r_move hK rfl) fun a hK => ?_
              refine sl hK (by decide) rfl rfl (r_move hK rfl) fun a hK => ?_
              refine sl hK (by decide) rfl rfl (r_move hK rfl) fun a hK => ?_
              refine sl hK (by decide) rfl rfl (r_ibin hK rfl rfl rfl) fun a hK => ?_
              obtain ⟨y_333, h_334, H⟩ := bind_some H
              obtain ⟨v_335, hs_336, hr_337⟩ := r_slice_R (x := .tmp 110) (lo := some (.tmp 111)) (hi := some (.tmp 113)) Try.underlying22 Try.sizeOf5 hs_29 h_334 hK rfl ⟨_, rfl⟩ ⟨_, rfl⟩
              refine sl hK (by decide) rfl rfl (hr_337 _ _ _ _ _ _ _ hK) fun a hK => ?_
              obtain ⟨y_338, h_339, H⟩ := bind_some H
              refine sl_callV Try.call29 hS hK (by decide) rfl rfl rfl (ref04_small.calls y_333 (lentOf_sub [] _) (hs_336.mono (hS.raLe0 hRA nil_not)) h_339) fun a w hS hK => ?_
              refine sl hK (by decide) rfl rfl (r_assign hK rfl) fun a hK => ?_
              refine wpList_nil ?_
              refine wp_seq ?_
              refine wp_region_lit ?_
              refine sl hK (by decide) rfl rfl (r_move hK rfl) fun a hK => ?_
              refine sl hK (by decide) rfl rfl (r_ibin hK rfl rfl rfl) fun a hK => ?_
              refine sl hK (by decide) rfl rfl (r_assign hK rfl) fun a hK => ?_
              refine wpList_nil ?_
              refine wp_seq ?_
              refine wp_seq ?_
              refine wp_region_lit ?_
              refine sl hK (by decide) rfl rfl (r_assign hK rfl) fun a hK => ?_
              refine wpList_nil ?_
              refine wp_block ?_
              refine wp_loop_k (fun k_l4 a w => ∃ (x_822 : List (List api_Value)) (x_826 : Int) (x_827 : Int) (R_828 : Hp) (v_823 : Value) (cs_824 : List Value), ref04_Decode.l4 a0 y_26 x_126 y_338 k_l4 x_822 x_826 x_827 = some r ∧ RLe [] w0 R R_828 ∧ Reps (tySl ty_api_Value) R_828 cs_824 x_822 ∧ Kn 183 a [(0, v0_0), (2, .pointer (some ⟨b_1, 0, none⟩)), (4, .pointer (some ⟨b_2, 0, none⟩)), (5, v_28), (6, .pointer (some ⟨b_31, 0, none⟩)), (7, .int .i64 x_826), (10, .int .i64 y_338), (11, .int .i64 x_827)] ∧ St [] w0 w R_828 [.cells b_1 [.slice none 0 0, .slice none 0 0] 37, .cells b_2 [.slice none 0 0, .slice none 0 0] 37, .row 48 2 v_127 x_126.length cs_128, .row 49 1 v_823 x_822.length cs_824, .cells b_31 [v_127, v_823] 37]) ((y_338 - 0).toNat + 1) ?_ ?_
              · have hS := hS.row_nil 49 1
                have hq_1307 : Reps (tySl ty_api_Value) R [] ([] : List (List api_Value)) := Reps.nil _ _
                have hS := hS.pk4
                have hS := hS.pk1
                have hS := hS.pk4
                have hS := hS.pk4
                have hS := hS.pk4
                exact ⟨[], (IntKind.i64.wrap (x_130 + 2)), 0, _, _, _, H, (RLe.refl _ _), hq_1307, hK.sub (all_cons rfl (all_cons rfl (all_cons rfl (all_cons rfl (all_cons rfl (all_cons rfl (all_cons rfl (all_cons rfl (all_nil))))))))), hS⟩
              · rintro k_l4 a w ⟨x_822, x_826, x_827, R_828, v_823, cs_824, H, hl_829, hq_825, hK, hS⟩
                cases k_l4 with
                | zero => cases H
                | succ k_l4 =>
                rw [ref04_Decode.l4.eq_2] at H
                have hRL := hRL.trans hl_829
                refine wp_seq ?_
                refine wp_seq ?_
                refine wp_region_lit ?_
                refine sl hK (by decide) rfl rfl (r_move hK rfl) fun a hK => ?_
                refine sl hK (by decide) rfl rfl (r_move hK rfl) fun a hK => ?_
                refine sl hK (by decide) rfl rfl (r_ibin hK rfl rfl rfl) fun a hK => ?_
                refine wpList_nil ?_
                refine wp_cond_split (hK.ev rfl) (fun (hb_1308 : (decide (x_827 < y_338)) = true) => ?_) (fun (hb_1308 : (decide (x_827 < y_338)) = false) => ?_)
                · rw [ifb_t hb_1308] at H
                  refine wp_skip ?_
                  refine wp_seq ?_
                  refine wp_block ?_
                  refine wp_seq ?_
                  refine wp_region_lit ?_
                  refine sl hK (by decide) rfl rfl (r_assign hK rfl) fun a hK => ?_
                  refine wpList_nil ?_
                  refine wp_seq ?_
                  refine wp_seq ?_
                  refine wp_region_lit ?_
                  refine sl hK (by decide) rfl rfl (r_assign hK rfl) fun a hK => ?_
                  refine wpList_nil ?_
                  refine wp_block ?_
                  refine wp_loop_k (fun k_l5 a w => ∃ (x_1462 : Int) (x_1464 : List api_Value) (x_1468 : Int) (R_1469 : Hp) (v_1465 : Value) (cs_1466 : List Value), ref04_Decode.l5 (ref04_Decode.l4 a0 y_26 x_126 y_338 k_l4) y_26 x_126 y_338 x_822 x_827 k_l5 x_1462 x_1464 x_1468 = some r ∧ RLe [] w0 R_828 R_1469 ∧ Reps ty_api_Value R_1469 cs_1466 x_1464 ∧ Kn 183 a [(0, v0_0), (2, .pointer (some ⟨b_1, 0, none⟩)), (4, .pointer (some ⟨b_2, 0, none⟩)), (5, v_28), (6, .pointer (some ⟨b_31, 0, none⟩)), (7, .int .i64 x_1462), (10, .int .i64 y_338), (11, .int .i64 x_827), (12, v_1465), (13, .int .i64 x_1468)] ∧ St [] w0 w R_1469 [.cells b_1 [.slice none 0 0, .slice none 0 0] 37, .cells b_2 [.slice none 0 0, .slice none 0 0] 37, .row 48 2 v_127 x_126.length cs_128, .row 49 1 v_823 x_822.length cs_824, .cells b_31 [v_127, v_823] 37, .row 25 11 v_1465 x_1464.length cs_1466]) (((x_126.length : Int) - 0).toNat + 1) ?_ ?_
                  · have hS := hS.row_nil 25 11
                    have hq_1622 : Reps ty_api_Value R_828 [] ([] : List api_Value) := Reps.nil _ _
                    have hS := hS.pk5
                    have hS := hS.pk5
                    have hS := hS.pk5
                    have hS := hS.pk5
                    have hS := hS.pk5
                    exact ⟨x_826, [], 0, _, _, _, H, (RLe.refl _ _), hq_1622, hK.sub (all_cons rfl (all_cons rfl (all_cons rfl (all_cons rfl (all_cons rfl (all_cons rfl (all_cons rfl (all_cons rfl (all_cons rfl (all_cons rfl (all_nil))))))))))), hS⟩
                  · rintro k_l5 a w ⟨x_1462, x_1464, x_1468, R_1469, v_1465, cs_1466, H, hl_1470, hq_1467, hK, hS⟩
                    cases k_l5 with
                    | zero => cases H
                    | succ k_l5 =>
                    rw [ref04_Decode.l5.eq_2] at H
                    have hRL := hRL.trans hl_1470
                    refine wp_seq ?_
                    refine wp_seq ?_
                    refine wp_region_lit ?_
                    refine sl hK (by decide) rfl rfl (r_move hK rfl) fun a hK => ?_
                    refine sl hK (by decide) rfl rfl (r_fieldAddr Try.underlying37 rfl Try.sizeOf34 hK rfl) fun a hK => ?_
                    refine sl hK (by decide) rfl rfl (r_load Try.isAgg34 hK rfl (hS.cell (.tail _ (.tail _ (.tail _ (.tail _ (.head _))))) rfl)) fun a hK => ?_
                    refine sl hK (by decide) rfl rfl (r_len_O Try.underlying34 hS (.tail _ (.tail _ (.head _))) hK rfl) fun a hK => ?_
                    refine sl hK (by decide) rfl rfl (r_ibin hK rfl rfl rfl) fun a hK => ?_
                    refine wpList_nil ?_
                    refine wp_cond_split (hK.ev rfl) (fun (hb_1623 : (decide (x_1468 < (x_126.length : Int))) = true) => ?_) (fun (hb_1623 : (decide (x_1468 < (x_126.length : Int))) = false) => ?_)
                    · rw [ifb_t hb_1623] at H
                      refine wp_skip ?_
                      refine wp_seq ?_
                      refine wp_block ?_
                      refine wp_seq ?_
                      refine wp_region_lit ?_
                      refine sl hK (by decide) rfl rfl (r_move hK rfl) fun a hK => ?_
                      refine sl hK (by decide) rfl rfl (r_len_R Try.underlying22 hs_29 hK rfl) fun a hK => ?_
                      refine sl hK (by decide) rfl rfl (r_move hK rfl) fun a hK => ?_
                      refine sl hK (by decide) rfl rfl (r_ibin hK rfl rfl rfl) fun a hK => ?_
                      refine sl hK (by decide) rfl rfl (r_min2 hK rfl rfl) fun a hK => ?_
                      refine sl hK (by decide) rfl rfl (r_assign hK rfl) fun a hK => ?_
                      refine wpList_nil ?_
                      refine wp_seq ?_
                      refine wp_mid (fun a w => ∃ (x_1687 : Int) (x_1688 : Int) (x_1689 : ByteArray) (x_1690 : Arr8) (x_1692 : List Int) (x_1696 : Int) (R_1697 : Hp) (v_1693 : Value) (cs_1694 : List Value) (b_1686 : Nat), ref04_Decode.j6 (ref04_Decode.l5 (ref04_Decode.l4 a0 y_26 x_126 y_338 k_l4) y_26 x_126 y_338 x_822 x_827 k_l5) y_26 x_126 x_1462 x_1464 x_1468 x_1687 x_1688 x_1689 x_1690 x_1692 x_1696 = some r ∧ RLe [] w0 R_1469 R_1697 ∧ Reps (tyInt .u8) R_1697 cs_1694 x_1692 ∧ Kn 183 a [(0, v0_0), (2, .pointer (some ⟨b_1, 0, none⟩)), (4, .pointer (some ⟨b_2, 0, none⟩)), (5, v_28), (6, .pointer (some ⟨b_31, 0, none⟩)), (10, .int .i64 y_338), (11, .int .i64 x_827), (12, v_1465), (13, .int .i64 x_1468), (14, .int .i64 (min (y_26.length : Int) (IntKind.i64.wrap (x_1462 + 66)))), (15, .pointer (some ⟨b_1686, 0, none⟩)), (16, v_1693), (17, .int .i64 x_1696)] ∧ St [] w0 w R_1697 [.cells b_1 [.slice none 0 0, .slice none 0 0] 37, .cells b_2 [.slice none 0 0, .slice none 0 0] 37, .row 48 2 v_127 x_126.length cs_128, .row 49 1 v_823 x_822.length cs_824, .cells b_31 [v_127, v_823] 37, .row 25 11 v_1465 x_1464.length cs_1466, .cells b_1686 [.int .i64 x_1687, .int .i64 x_1688, .string x_1689, .int .i64 x_1690.a0, .int .i64 x_1690.a1, .int .i64 x_1690.a2, .int .i64 x_1690.a3, .int .i64 x_1690.a4, .int .i64 x_1690.a5, .int .i64 x_1690.a6, .int .i64 x_1690.a7] 25, .row 5 1 v_1693 x_1692.length cs_1694]) ?_ ?_
                      · refine treeT_region (C := fun w => St [] w0 w R_1469 [.cells b_1 [.slice none 0 0, .slice none 0 0] 37, .cells b_2 [.slice none 0 0, .slice none 0 0] 37, .row 48 2 v_127 x_126.length cs_128, .row 49 1 v_823 x_822.length cs_824, .cells b_31 [v_127, v_823] 37, .row 25 11 v_1465 x_1464.length cs_1466]) 18 (.br [(0, true), (1, true), (2, true), (3, true), (4, true), (5, true), (6, true), (7, true), (8, true), (9, true)] 10 (.list [(11, true), (12, true), (13, true), (14, true), (15, false), (16, false), (17, true)]) 15 (.list [(10, false), (11, true), (12, true), (13, true), (14, true), (16, false), (17, true)])) mixed (by kernel_rfl) hS (fun w hS => hS) fun w hS => ?_
                        refine tree_fork ?_
                        refine sp (k := 0) rfl hK (by decide) rfl rfl (fun w hS => r_move hK rfl) fun a hK => ?_
                        refine sp (k := 1) rfl hK (by decide) rfl rfl (fun w hS => r_move hK rfl) fun a hK => ?_
                        refine sp (k := 2) rfl hK (by decide) rfl rfl (fun w hS => r_move hK rfl) fun a hK => ?_
                        obtain ⟨y_1730, h_1731, H⟩ := bind_some H
                        obtain ⟨v_1732, hs_1733, hr_1734⟩ := r_slice_R (x := .tmp 136) (lo := some (.tmp 137)) (hi := some (.tmp 138)) Try.underlying22 Try.sizeOf5 hs_29 h_1731 hK rfl ⟨_, rfl⟩ ⟨_, rfl⟩
                        refine sp (k := 3) rfl hK (by decide) rfl rfl (fun w hS => hr_1734 _ _ _ _ _ _ _ hK) fun a hK => ?_
                        refine sp (k := 4) rfl hK (by decide) rfl rfl (fun w hS => r_fieldAddr Try.underlying37 rfl Try.sizeOf34 hK rfl) fun a hK => ?_
                        refine sp (k := 5) rfl hK (by decide) rfl rfl (fun w hS => r_load Try.isAgg34 hK rfl (hS.cell (.tail _ (.tail _ (.tail _ (.tail _ (.head _))))) rfl)) fun a hK => ?_
                        refine sp (k := 6) rfl hK (by decide) rfl rfl (fun w hS => r_move hK rfl) fun a hK => ?_
                        obtain ⟨y_1735, h_1736, H⟩ := bind_some H
                        obtain ⟨b_1738, c_1739, cs_1740, hv_1737, hr_1741, hc_1742, h_17360, h_17361⟩ := hS.row_ix (.tail _ (.tail _ (.head _))) (hq_129.mono (hl_829.le.trans hl_1470.le)) rfl rfl h_1736
                        subst hr_1741
                        refine sp (k := 7) rfl hK (by decide) rfl rfl (fun w hS => r_indexAddr_R Try.underlying34 Try.sizeOf48 hv_1737 h_17360 h_17361 hK rfl rfl) fun a hK => ?_
                        refine sp (k := 8) rfl hK (by decide) rfl rfl (fun w hS => r_fieldAddr Try.underlying48 rfl Try.sizeOf3 hK rfl) fun a hK => ?_
                        refine sp (k := 9) rfl hK (by decide) rfl rfl (fun w hS => r_load Try.isAgg3 hK rfl (by have h_ := hS.row_cell (.tail _ (.tail _ (.head _))) hv_1737 (hc_1742 1 _ rfl); simpa [Nat.add_assoc] using h_)) fun a hK => ?_
                        refine wpPar_nil (tree_br ?_ ?_)
                        · refine spwB (k := 10) rfl rfl hS ?_
                          obtain ⟨y_1743, h_1744, H⟩ := bind_some H
                          refine sl_call Try.call15 hK (by decide) rfl rfl rfl (ref04_Take.calls y_1730 y_1735.Kind (lentOf_sub [] _) hS.sub (hs_1733.mono (hS.raLe0 hRA nil_not)) h_1744) fun a v_ w hv_ hK => ?_
                          obtain ⟨R_1745, v_1748, cs_1749, hv_, hr_, hl_1746, hq_1750⟩ := hv_
                          have hv_ := hv_.symm
                          subst hv_
                          obtain ⟨hS, hl_1746⟩ := hS.sp0.back hr_ hl_1746
                          have hS := hS.un1
                          have hRL := hRL.trans hl_1746
                          refine parKK_nil ((hS.pk6.pk6.pk6.pk6.pk6.pk6.trunc 6).lower hl_1746.le) ?_
                          refine tree_list ?_
                          refine sp (k := 11) rfl hK (by decide) rfl rfl (fun w hS => r_move hK rfl) fun a hK => ?_
                          refine sp (k := 12) rfl hK (by decide) rfl rfl (fun w hS => r_extract hK rfl rfl) fun a hK => ?_
                          refine sp (k := 13) rfl hK (by decide) rfl rfl (fun w hS => r_extract hK rfl rfl) fun a hK => ?_
                          refine sp (k := 14) rfl hK (by decide) rfl rfl (fun w hS => r_extract hK rfl rfl) fun a hK => ?_
                          refine spw (k := 15) rfl rfl ((hS.pk6.pk6.pk6.pk6.pk6.pk6.trunc 6).lower hl_1746.le) ?_
                          refine sl_alloc Try.zeroValue25 hS hK (by decide) rfl rfl fun a w b_1751 hS hK => ?_
                          refine parK_nil ((hS.pk7.pk7.pk7.pk7.pk7.pk7.trunc 6).lower hl_1746.le) ?_
                          refine spw (k := 16) rfl rfl ((hS.pk7.pk7.pk7.pk7.pk7.pk7.trunc 6).lower hl_1746.le) ?_
                          refine sl_storeA (vs := [.int .i64 y_1743.1.Kind, .int .i64 y_1743.1.N, .string y_1743.1.S, .int .i64 y_1743.1.H.a0, .int .i64 y_1743.1.H.a1, .int .i64 y_1743.1.H.a2, .int .i64 y_1743.1.H.a3, .int .i64 y_1743.1.H.a4, .int .i64 y_1743.1.H.a5, .int .i64 y_1743.1.H.a6, .int .i64 y_1743.1.H.a7]) (c' := [.int .i64 y_1743.1.Kind, .int .i64 y_1743.1.N, .string y_1743.1.S, .int .i64 y_1743.1.H.a0, .int .i64 y_1743.1.H.a1, .int .i64 y_1743.1.H.a2, .int .i64 y_1743.1.H.a3, .int .i64 y_1743.1.H.a4, .int .i64 y_1743.1.H.a5, .int .i64 y_1743.1.H.a6, .int .i64 y_1743.1.H.a7]) Try.sizeOf25 hS hK rfl rfl rfl rfl (all_cons rfl (all_cons rfl (all_cons rfl (all_cons rfl (all_cons rfl (all_cons rfl (all_cons rfl (all_cons rfl (all_cons rfl (all_cons rfl (all_cons rfl (all_nil)))))))))))) (Nat.le_of_ble_eq_true rfl) rfl fun a w hS hK => ?_
                          refine parK_nil ((hS.pk7.pk7.pk7.pk7.pk7.pk7.trunc 6).lower hl_1746.le) ?_
                          refine sp (k := 17) rfl hK (by decide) rfl rfl (fun w hS => r_assign hK rfl) fun a hK => ?_
                          refine thenL_nil ?_
                          refine sl hK (by decide) rfl rfl (r_assign hK rfl) fun a hK => ?_
                          refine wpList_nil (NoP_nil ?_)
                          have hS := hS.pk1
                          have hS := hS.pk1
                          have hS := hS.pk7
                          have hS := hS.pk7
                          have hS := hS.pk7
                          have hS := hS.pk7
                          have hS := hS.pk7
                          have hS := hS.pk7
                          exact ⟨y_1743.1.Kind, y_1743.1.N, y_1743.1.S, y_1743.1.H, y_1743.2.1, y_1743.2.2, _, _, _, _, H, hl_1746, hq_1750, hK.sub (all_cons rfl (all_cons rfl (all_cons rfl (all_cons rfl (all_cons rfl (all_cons rfl (all_cons rfl (all_cons rfl (all_cons rfl (all_cons rfl (all_cons rfl (all_cons rfl (all_cons rfl (all_nil)))))))))))))), hS⟩
                        · refine spwB (k := 15) rfl rfl hS ?_
                          refine sl_alloc Try.zeroValue25 hS hK (by decide) rfl rfl fun a w b_1752 hS hK => ?_
                          refine parKK_nil (hS.pk6.pk6.pk6.pk6.pk6.pk6.trunc 6) ?_
                          refine tree_list ?_
                          refine spw (k := 10) rfl rfl (hS.pk6.pk6.pk6.pk6.pk6.pk6.trunc 6) ?_
                          obtain ⟨y_1753, h_1754, H⟩ := bind_some H
                          refine sl_call Try.call15 hK (by decide) rfl rfl rfl (ref04_Take.calls y_1730 y_1735.Kind (lentOf_sub [] _) hS.sub (hs_1733.mono (hS.raLe0 hRA nil_not)) h_1754) fun a v_ w hv_ hK => ?_
                          obtain ⟨R_1755, v_1758, cs_1759, hv_, hr_, hl_1756, hq_1760⟩ := hv_
                          have hv_ := hv_.symm
                          subst hv_
                          obtain ⟨hS, hl_1756⟩ := hS.sp0.back hr_ hl_1756
                          have hS := hS.un1
                          have hRL := hRL.trans hl_1756
                          refine parK_nil ((hS.pk7.pk7.pk7.pk7.pk7.pk7.trunc 6).lower hl_1756.le) ?_
                          refine sp (k := 11) rfl hK (by decide) rfl rfl (fun w hS => r_move hK rfl) fun a hK => ?_
                          refine sp (k := 12) rfl hK (by decide) rfl rfl (fun w hS => r_extract hK rfl rfl) fun a hK => ?_
                          refine sp (k := 13) rfl hK (by decide) rfl rfl (fun w hS => r_extract hK rfl rfl) fun a hK => ?_
                          refine sp (k := 14) rfl hK (by decide) rfl rfl (fun w hS => r_extract hK rfl rfl) fun a hK => ?_
                          refine spw (k := 16) rfl rfl ((hS.pk7.pk7.pk7.pk7.pk7.pk7.trunc 6).lower hl_1756.le) ?_
                          have hS := hS.pk1
                          refine sl_storeA (vs := [.int .i64 y_1753.1.Kind, .int .i64 y_1753.1.N, .string y_1753.1.S, .int .i64 y_1753.1.H.a0, .int .i64 y_1753.1.H.a1, .int .i64 y_1753.1.H.a2, .int .i64 y_1753.1.H.a3, .int .i64 y_1753.1.H.a4, .int .i64 y_1753.1.H.a5, .int .i64 y_1753.1.H.a6, .int .i64 y_1753.1.H.a7]) (c' := [.int .i64 y_1753.1.Kind, .int .i64 y_1753.1.N, .string y_1753.1.S, .int .i64 y_1753.1.H.a0, .int .i64 y_1753.1.H.a1, .int .i64 y_1753.1.H.a2, .int .i64 y_1753.1.H.a3, .int .i64 y_1753.1.H.a4, .int .i64 y_1753.1.H.a5, .int .i64 y_1753.1.H.a6, .int .i64 y_1753.1.H.a7]) Try.sizeOf25 hS hK rfl rfl rfl rfl (all_cons rfl (all_cons rfl (all_cons rfl (all_cons rfl (all_cons rfl (all_cons rfl (all_cons rfl (all_cons rfl (all_cons rfl (all_cons rfl (all_cons rfl (all_nil)))))))))))) (Nat.le_of_ble_eq_true rfl) rfl fun a w hS hK => ?_
                          refine parK_nil ((hS.pk7.pk7.pk7.pk7.pk7.pk7.trunc 6).lower hl_1756.le) ?_
                          refine sp (k := 17) rfl hK (by decide) rfl rfl (fun w hS => r_assign hK rfl) fun a hK => ?_
                          refine thenL_nil ?_
                          refine sl hK (by decide) rfl rfl (r_assign hK rfl) fun a hK => ?_
                          refine wpList_nil (NoP_nil ?_)
                          have hS := hS.pk1
                          have hS := hS.pk1
                          have hS := hS.pk7
                          have hS := hS.pk7
                          have hS := hS.pk7
                          have hS := hS.pk7
                          have hS := hS.pk7
                          have hS := hS.pk7
                          exact ⟨y_1753.1.Kind, y_1753.1.N, y_1753.1.S, y_1753.1.H, y_1753.2.1, y_1753.2.2, _, _, _, _, H, hl_1756, hq_1760, hK.sub (all_cons rfl (all_cons rfl (all_cons rfl (all_cons rfl (all_cons rfl (all_cons rfl (all_cons rfl (all_cons rfl (all_cons rfl (all_cons rfl (all_cons rfl (all_cons rfl (all_cons rfl (all_nil)))))))))))))), hS⟩
                      · rintro a w ⟨x_1687, x_1688, x_1689, x_1690, x_1692, x_1696, R_1697, v_1693, cs_1694, b_1686, H, hl_1698, hq_1695, hK, hS⟩
                        unfold ref04_Decode.j6 at H
                        have hRL := hRL.trans hl_1698
                        refine wp_seq ?_
                        refine wp_seq ?_
                        refine wp_region_lit ?_
                        refine sl hK (by decide) rfl rfl (r_move hK rfl) fun a hK => ?_
                        refine sl hK (by decide) rfl rfl (r_ibin hK rfl rfl rfl) fun a hK => ?_
                        refine wpList_nil ?_
                        refine wp_cond_split (hK.ev rfl) (fun (hb_1761 : (x_1696 != 0) = true) => ?_) (fun (hb_1761 : (x_1696 != 0) = false) => ?_)
                        · rw [ifb_t hb_1761] at H
                          refine wp_seq ?_
                          refine wp_region_lit ?_
                          refine sl hK (by decide) rfl rfl (r_loadA (cs := [.slice none 0 0, .slice none 0 0]) Try.isAgg37 Try.sizeOf37 rfl hK rfl (hS.cells_of (m := 2) (.tail _ (.head _)) rfl)) fun a hK => ?_
                          refine sl_storeA (vs := [.slice none 0 0, .slice none 0 0]) (c' := [.slice none 0 0, .slice none 0 0]) Try.sizeOf37 hS hK rfl rfl rfl rfl (all_cons rfl (all_cons rfl (all_nil))) (Nat.le_of_ble_eq_true rfl) rfl fun a w hS hK => ?_
                          refine sl hK (by decide) rfl rfl (r_assign hK rfl) fun a hK => ?_
                          refine wpList_nil ?_
                          have hS := hS.row_nil 48 2
                          have hq_1763 : Reps ty_api_Col R_1697 [] ([] : List api_Col) := Reps.nil _ _
                          have hS := hS.row_nil 49 1
                          have hq_1765 : Reps (tySl ty_api_Value) R_1697 [] ([] : List (List api_Value)) := Reps.nil _ _
                          obtain rfl := Option.some.inj H
                          refine wp_ret ?_
                          repeat (first | refine ret_then ?_ | refine ret_block ?_ | refine ret_scope ?_)
                          exact ret_2 Try.results20 hK (rv_cell (c := [(.slice none 0 0), (.slice none 0 0)]) Try.isAgg37 Try.sizeOf37 hS (.tail _ (.tail _ (.head _))) rfl hK rfl) (rv_tmp hK rfl) ⟨_, rfl, _, _, _, _, _, rfl, (hS.pk1.trunc 2), hRL, hq_1763, hq_1765⟩
                        · rw [ifb_f hb_1761] at H
                          refine wp_skip ?_
                          refine wp_seq ?_
                          refine wp_region_lit ?_
                          refine sl hK (by decide) rfl rfl (r_move hK rfl) fun a hK => ?_
                          refine sl hK (by decide) rfl rfl (r_loadA (cs := [.int .i64 x_1687, .int .i64 x_1688, .string x_1689, .int .i64 x_1690.a0, .int .i64 x_1690.a1, .int .i64 x_1690.a2, .int .i64 x_1690.a3, .int .i64 x_1690.a4, .int .i64 x_1690.a5, .int .i64 x_1690.a6, .int .i64 x_1690.a7]) Try.isAgg25 Try.sizeOf25 rfl hK rfl (hS.cells_of (m := 11) (.tail _ (.tail _ (.tail _ (.tail _ (.tail _ (.tail _ (.head _))))))) rfl)) fun a hK => ?_
                          refine sl_buildSliceF (zc := [.int .i64 0, .int .i64 0, .string (⟨#[]⟩ : ByteArray), .int .i64 0, .int .i64 0, .int .i64 0, .int .i64 0, .int .i64 0, .int .i64 0, .int .i64 0, .int .i64 0]) (ps := [(0, .agg #[.int .i64 x_1687, .int .i64 x_1688, .string x_1689, .int .i64 x_1690.a0, .int .i64 x_1690.a1, .int .i64 x_1690.a2, .int .i64 x_1690.a3, .int .i64 x_1690.a4, .int .i64 x_1690.a5, .int .i64 x_1690.a6, .int .i64 x_1690.a7])]) (c := [.int .i64 x_1687, .int .i64 x_1688, .string x_1689, .int .i64 x_1690.a0, .int .i64 x_1690.a1, .int .i64 x_1690.a2, .int .i64 x_1690.a3, .int .i64 x_1690.a4, .int .i64 x_1690.a5, .int .i64 x_1690.a6, .int .i64 x_1690.a7]) [[.int .i64 x_1687, .int .i64 x_1688, .string x_1689, .int .i64 x_1690.a0, .int .i64 x_1690.a1, .int .i64 x_1690.a2, .int .i64 x_1690.a3, .int .i64 x_1690.a4, .int .i64 x_1690.a5, .int .i64 x_1690.a6, .int .i64 x_1690.a7]] Try.underlying49 Try.sizeOf25 Try.zeroValue25 rfl (pc_cons rfl pc_nil) rfl rfl (Nat.le_of_ble_eq_true rfl) rfl (all_cons rfl (all_nil)) rfl hS hK (by decide) rfl fun a w b_1766 hS hK => ?_
                          obtain ⟨y_1767, h_1768, H⟩ := bind_some H
                          have hS := hS.pk6
                          refine sl_append_L (ty := ty_api_Value) (ys := [(⟨x_1687, x_1688, x_1689, x_1690⟩ : api_Value)]) elT49 (by decide) rfl (hq_1467.mono hl_1698.le) rfl (Reps.cons (show Ty.rep ty_api_Value _ [.int .i64 x_1687, .int .i64 x_1688, .string x_1689, .int .i64 x_1690.a0, .int .i64 x_1690.a1, .int .i64 x_1690.a2, .int .i64 x_1690.a3, .int .i64 x_1690.a4, .int .i64 x_1690.a5, .int .i64 x_1690.a6, .int .i64 x_1690.a7] (⟨x_1687, x_1688, x_1689, x_1690⟩ : api_Value) from rfl) (Reps.nil _ _)) rfl h_1768 hS hK (by decide) rfl rfl rfl fun a w v_1769 cs_1770 hq_1771 hS hK => ?_
                          refine sl hK (by decide) rfl rfl (r_assign hK rfl) fun a hK => ?_
                          refine wpList_nil ?_
                          refine wp_region_lit ?_
                          refine sl hK (by decide) rfl rfl (r_move hK rfl) fun a hK => ?_
                          refine sl hK (by decide) rfl rfl (r_move hK rfl) fun a hK => ?_
                          refine sl hK (by decide) rfl rfl (r_len_O Try.underlying22 hS (.tail _ (.tail _ (.tail _ (.tail _ (.tail _ (.tail _ (.tail _ (.head _)))))))) hK rfl) fun a hK => ?_
                          refine sl hK (by decide) rfl rfl (r_ibin hK rfl rfl rfl) fun a hK => ?_
                          refine sl hK (by decide) rfl rfl (r_assign hK rfl) fun a hK => ?_
                          refine wpList_nil ?_
                          refine wp_region_lit ?_
                          refine sl hK (by decide) rfl rfl (r_move hK rfl) fun a hK => ?_
                          refine sl hK (by decide) rfl rfl (r_ibin hK rfl rfl rfl) fun a hK => ?_
                          refine sl hK (by decide) rfl rfl (r_assign hK rfl) fun a hK => ?_
                          refine wpList_nil ?_
                          have hS := hS.pk5
                          have hS := hS.pk5
                          have hS := hS.pk5
                          have hS := hS.pk5
                          have hS := hS.pk5
                          exact ⟨_, Nat.lt_succ_self _, (IntKind.i64.wrap ((min (y_26.length : Int) (IntKind.i64.wrap (x_1462 + 66))) - (x_1692.length : Int))), y_1767, (IntKind.i64.wrap (x_1468 + 1)), _, _, _, H, (hl_1470.trans hl_1698), hq_1771, hK.sub (all_cons rfl (all_cons rfl (all_cons rfl (all_cons rfl (all_cons rfl (all_cons rfl (all_cons rfl (all_cons rfl (all_cons rfl (all_cons rfl (all_nil))))))))))), hS.trunc 6⟩
                    · rw [ifb_f hb_1623] at H
                      refine wp_exit ?_
                      refine wp_region_lit ?_
                      refine sl hK (by decide) rfl rfl (r_fieldAddr Try.underlying37 rfl Try.sizeOf35 hK rfl) fun a hK => ?_
                      refine sl hK (by decide) rfl rfl (r_load Try.isAgg35 hK rfl (hS.cell (.tail _ (.tail _ (.tail _ (.tail _ (.head _))))) rfl)) fun a hK => ?_
                      refine sl hK (by decide) rfl rfl (r_move hK rfl) fun a hK => ?_
                      have ho_1773 := hS.row_one (.tail _ (.tail _ (.tail _ (.tail _ (.tail _ (.head _))))))
                      refine sl_buildSliceF (zc := [.slice none 0 0]) (ps := [(0, v_1465)]) (c := [v_1465]) [[v_1465]] Try.underlying35 Try.sizeOf49 Try.zeroValue49 rfl (pc_cons (cells1 ho_1773) pc_nil) rfl rfl (Nat.le_of_ble_eq_true rfl) rfl (all_cons rfl (all_nil)) rfl hS hK (by decide) rfl fun a w b_1774 hS hK => ?_
                      have hS := hS.pk4
                      have hS := hS.pk6
                      obtain ⟨R_1775, hS, hl_1777, hs_1776⟩ := hS.fz_row hq_1467 rfl rfl
                      have hRL := hRL.trans hl_1777
                      obtain ⟨y_1778, h_1779, H⟩ := bind_some H
                      refine sl_append_L (ty := (tySl ty_api_Value)) (ys := [x_1464]) elT35 (by decide) rfl (hq_825.mono (hl_1470.le.trans hl_1777.le)) rfl (Reps.cons (show Ty.rep (tySl ty_api_Value) _ [v_1465] x_1464 from ⟨_, rfl, hs_1776⟩) (Reps.nil _ _)) rfl h_1779 hS hK (by decide) rfl rfl rfl fun a w v_1780 cs_1781 hq_1782 hS hK => ?_
                      refine sl hK (by decide) rfl rfl (r_fieldAddr Try.underlying37 rfl Try.sizeOf35 hK rfl) fun a hK => ?_
                      have hS := hS.pk4
                      refine sl_store1 (c' := [v_127, v_1780]) Try.sizeOf35 hS hK rfl rfl rfl (hS.row_one (.tail _ (.head _))) (Nat.le_of_ble_eq_true rfl) rfl fun a w hS hK => ?_
                      refine wpList_nil ?_
                      refine wp_region_lit ?_
                      refine sl hK (by decide) rfl rfl (r_move hK rfl) fun a hK => ?_
                      refine sl hK (by decide) rfl rfl (r_ibin hK rfl rfl rfl) fun a hK => ?_
                      refine sl hK (by decide) rfl rfl (r_assign hK rfl) fun a hK => ?_
                      refine wpList_nil ?_
                      have hS := hS.pk1
                      have hS := hS.pk4
                      have hS := hS.pk4
                      have hS := hS.pk4
                      exact ⟨_, Nat.lt_succ_self _, y_1778, x_1462, (IntKind.i64.wrap (x_827 + 1)), _, _, _, H, (hl_829.trans (hl_1470.trans hl_1777)), hq_1782, hK.sub (all_cons rfl (all_cons rfl (all_cons rfl (all_cons rfl (all_cons rfl (all_cons rfl (all_cons rfl (all_cons rfl (all_nil))))))))), hS⟩
                · rw [ifb_f hb_1308] at H
                  refine wp_exit ?_
                  refine wp_seq ?_
                  refine wp_region_lit ?_
                  refine sl hK (by decide) rfl rfl (r_loadA (cs := [v_127, v_823]) Try.isAgg37 Try.sizeOf37 rfl hK rfl (hS.cells_of (m := 2) (.tail _ (.tail _ (.tail _ (.tail _ (.head _))))) rfl)) fun a hK => ?_
                  obtain ⟨y_1784, h_1785, H⟩ := bind_some H
                  refine sl_call Try.call18 hK (by decide) rfl rfl rfl (ref04_Encode.calls (⟨x_126, x_822⟩ : api_Table) (lentOf_sub [] _) hS.sub (hS.lend_row0 (.tail _ (.tail _ (.head _))) (hq_129.mono hl_829.le) rfl rfl) (hS.lend_row0 (.tail _ (.tail _ (.tail _ (.head _)))) hq_825 rfl rfl) h_1785) fun a v_ w hv_ hK => ?_
                  obtain ⟨R_1786, v_1789, cs_1790, hv_, hr_, hl_1787, hq_1791⟩ := hv_
                  have hv_ := hv_.symm
                  subst hv_
                  obtain ⟨hS, hl_1787⟩ := hS.sp0.back hr_ hl_1787
                  have hS := hS.un1
                  have hRL := hRL.trans hl_1787
                  refine sl hK (by decide) rfl rfl (r_move hK rfl) fun a hK => ?_
                  refine sl hK (by decide) rfl rfl (r_extract hK rfl rfl) fun a hK => ?_
                  refine sl hK (by decide) rfl rfl (r_extract hK rfl rfl) fun a hK => ?_
                  refine sl hK (by decide) rfl rfl (r_assign hK rfl) fun a hK => ?_
                  refine sl hK (by decide) rfl rfl (r_assign hK rfl) fun a hK => ?_
                  refine wpList_nil ?_
                  refine wp_seq ?_
                  refine wp_seq ?_
                  refine wp_mid (fun a w => ∃ (x_1793 : Bool), ref04_Decode.j7 x_126 x_822 x_1793 = some r ∧ Kn 183 a [(2, .pointer (some ⟨b_1, 0, none⟩)), (4, .pointer (some ⟨b_2, 0, none⟩)), (6, .pointer (some ⟨b_31, 0, none⟩)), (180, .bool x_1793)] ∧ St [] w0 w R_1786 [.cells b_1 [.slice none 0 0, .slice none 0 0] 37, .cells b_2 [.slice none 0 0, .slice none 0 0] 37, .row 48 2 v_127 x_126.length cs_128, .row 49 1 v_823 x_822.length cs_824, .cells b_31 [v_127, v_823] 37]) ?_ ?_
                  · refine wp_region_lit ?_
                    refine sl hK (by decide) rfl rfl (r_move hK rfl) fun a hK => ?_
                    refine sl hK (by decide) rfl rfl (r_ibin hK rfl rfl rfl) fun a hK => ?_
                    refine sl hK (by decide) rfl rfl (r_move hK rfl) fun a hK => ?_
                    rcases or_b (y_1784.2 != 0) with hb_1795 | hb_1795
                    · rw [ifb_t hb_1795] at H
                      refine sl_skip hK (by decide) (wft hb_1795) rfl fun a hK => ?_
                      refine sl_skip hK (by decide) (wft hb_1795) rfl fun a hK => ?_
                      refine sl_skip hK (by decide) (wft hb_1795) rfl fun a hK => ?_
                      refine sl_skip hK (by decide) (wft hb_1795) rfl fun a hK => ?_
                      refine sl_skip hK (by decide) (wft hb_1795) rfl fun a hK => ?_
                      refine sl hK (by decide) rfl rfl (r_pick_t hb_1795 hK rfl rfl) fun a hK => ?_
                      refine wpList_nil ?_
                      have hS := hS.pk5
                      have hS := hS.pk5
                      have hS := hS.pk5
                      have hS := hS.pk5
                      have hS := hS.pk5
                      exact ⟨true, H, hK.sub (all_cons rfl (all_cons rfl (all_cons rfl (all_cons rfl (all_nil))))), hS.trunc 5⟩
                    · rw [ifb_f hb_1795] at H
                      refine sl hK (by decide) (wff hb_1795) rfl (r_move hK rfl) fun a hK => ?_
                      refine sl hK (by decide) (wff hb_1795) rfl (r_conv_bo Try.underlying22 Try.underlying9 Try.underlying5 hq_1791 rfl hS (.head _) hK rfl) fun a hK => ?_
                      refine sl hK (by decide) (wff hb_1795) rfl (r_move hK rfl) fun a hK => ?_
                      refine sl hK (by decide) (wff hb_1795) rfl (r_conv_bs Try.underlying22 Try.underlying9 Try.underlying5 h0_0 hK rfl (hS.ra hRA nil_not)) fun a hK => ?_
                      refine sl hK (by decide) (wff hb_1795) rfl (r_sbin hK rfl rfl rfl) fun a hK => ?_
                      refine sl hK (by decide) rfl rfl (r_pick_f hb_1795 hK rfl rfl) fun a hK => ?_
                      refine wpList_nil ?_
                      have hS := hS.pk5
                      have hS := hS.pk5
                      have hS := hS.pk5
                      have hS := hS.pk5
                      have hS := hS.pk5
                      exact ⟨(!((bstr y_1784.1).toList == (bstr a0).toList)), H, hK.sub (all_cons rfl (all_cons rfl (all_cons rfl (all_cons rfl (all_nil))))), hS.trunc 5⟩
                  · rintro a w ⟨x_1793, H, hK, hS⟩
                    unfold ref04_Decode.j7 at H
                    refine wp_cond_split (hK.ev rfl) (fun (hb_1796 : x_1793 = true) => ?_) (fun (hb_1796 : x_1793 = false) => ?_)
                    · rw [ifb_t hb_1796] at H
                      refine wp_seq ?_
                      refine wp_region_lit ?_
                      refine sl hK (by decide) rfl rfl (r_loadA (cs := [.slice none 0 0, .slice none 0 0]) Try.isAgg37 Try.sizeOf37 rfl hK rfl (hS.cells_of (m := 2) (.tail _ (.head _)) rfl)) fun a hK => ?_
                      refine sl_storeA (vs := [.slice none 0 0, .slice none 0 0]) (c' := [.slice none 0 0, .slice none 0 0]) Try.sizeOf37 hS hK rfl rfl rfl rfl (all_cons rfl (all_cons rfl (all_nil))) (Nat.le_of_ble_eq_true rfl) rfl fun a w hS hK => ?_
                      refine sl hK (by decide) rfl rfl (r_assign hK rfl) fun a hK => ?_
                      refine wpList_nil ?_
                      have hS := hS.row_nil 48 2
                      have hq_1798 : Reps ty_api_Col R_1786 [] ([] : List api_Col) := Reps.nil _ _
                      have hS := hS.row_nil 49 1
                      have hq_1800 : Reps (tySl ty_api_Value) R_1786 [] ([] : List (List api_Value)) := Reps.nil _ _
                      obtain rfl := Option.some.inj H
                      refine wp_ret ?_
                      repeat (first | refine ret_then ?_ | refine ret_block ?_ | refine ret_scope ?_)
                      exact ret_2 Try.results20 hK (rv_cell (c := [(.slice none 0 0), (.slice none 0 0)]) Try.isAgg37 Try.sizeOf37 hS (.tail _ (.tail _ (.head _))) rfl hK rfl) (rv_tmp hK rfl) ⟨_, rfl, _, _, _, _, _, rfl, (hS.pk1.trunc 2), hRL, hq_1798, hq_1800⟩
                    · rw [ifb_f hb_1796] at H
                      refine wp_skip ?_
                      refine wp_seq ?_
                      refine wp_region_lit ?_
                      refine sl hK (by decide) rfl rfl (r_loadA (cs := [v_127, v_823]) Try.isAgg37 Try.sizeOf37 rfl hK rfl (hS.cells_of (m := 2) (.tail _ (.tail _ (.tail _ (.tail _ (.head _))))) rfl)) fun a hK => ?_
                      refine sl_storeA (vs := [v_127, v_823]) (c' := [v_127, v_823]) Try.sizeOf37 hS hK rfl rfl rfl rfl (all_cons (hS.row_one (.tail _ (.tail _ (.head _)))) (all_cons (hS.row_one (.tail _ (.tail _ (.tail _ (.head _))))) (all_nil))) (Nat.le_of_ble_eq_true rfl) rfl fun a w hS hK => ?_
                      refine sl hK (by decide) rfl rfl (r_assign hK rfl) fun a hK => ?_
                      refine wpList_nil ?_
                      obtain rfl := Option.some.inj H
                      refine wp_ret ?_
                      repeat (first | refine ret_then ?_ | refine ret_block ?_ | refine ret_scope ?_)
                      exact ret_2 Try.results20 hK (rv_cell (c := [v_127, v_823]) Try.isAgg37 Try.sizeOf37 hS (.head _) rfl hK rfl) (rv_tmp hK rfl) ⟨_, rfl, _, _, _, _, _, rfl, (hS.pk3.pk3.trunc 2), hRL, (hq_129.mono (hl_829.le.trans hl_1787.le)), (hq_825.mono hl_1787.le)⟩

/-! ### catchment/catchmentlaw04.WireReads: function 6 -/
set_option maxHeartbeats 4000000 in
set_option maxRecDepth 100000 in
theorem law04_WireReads.calls (a0 : List Int) {w0 : World} {RA : Hp} {v0_0 : Value} (hRA : RA.sub w0) (h0_0 : SlR (tyInt .u8) RA v0_0 a0) (H : law04_WireReads a0 = some true) : CallsV Try.prog 6 #[v0_0] w0 (.bool true) := by
  unfold law04_WireReads at H
  refine enter (args := [v0_0]) Try.func6 rfl Try.ntmps6 rfl fun a hK => ?_
  have hS := St.init (R := fun _ => none) (w := w0) (fun _ _ h => by cases h)
  have hRL := RLe.refl (M := []) w0 (fun _ => none)
  refine wp_seq ?_
  refine wp_region_lit ?_
  refine sl hK (by decide) rfl rfl (r_assign hK rfl) fun a hK => ?_
  refine wpList_nil ?_
  refine wp_seq ?_
  refine wp_region_lit ?_
  obtain ⟨y_1, h_2, H⟩ := bind_some H
  refine sl_callV Try.call11 hS hK (by decide) rfl rfl rfl (law04_shown.calls h_2 _) fun a w hS hK => ?_
  refine sl hK (by decide) rfl rfl (r_assign hK rfl) fun a hK => ?_
  refine wpList_nil ?_
  refine wp_seq ?_
  refine wp_region_lit ?_
  refine sl_buildSliceC (zc := [.int .u8 0]) (zs := []) (ps := []) (c := []) Try.underlying22 Try.sizeOf5 Try.zeroValue5 rfl pc_nil rfl rfl (by decide) (by kernel_rfl) rfl hS hK (by decide) rfl fun a w b_3 hS hK => ?_
  refine sl hK (by decide) rfl rfl (r_move hK rfl) fun a hK => ?_
  obtain ⟨y_6, h_7, H⟩ := bind_some H
  have hS := hS.row_lit (size := 1) (m := 0) rfl (by decide)
  have hq_5 : Reps (tyInt .u8) (fun _ => none) [] ([] : List Int) := (Reps.nil _ _)
  refine sl_append_A elT22 (by decide) rfl (fun _ _ _ _ h => h) (hS.ra hRA nil_not) hq_5 rfl h0_0 h_7 hS hK (by decide) rfl rfl rfl fun a w v_8 cs_9 hq_10 hS hK => ?_
  refine sl hK (by decide) rfl rfl (r_assign hK rfl) fun a hK => ?_
  refine wpList_nil ?_
  refine wp_seq ?_
  refine wp_region_lit ?_
  refine sl hK (by decide) rfl rfl (r_move hK rfl) fun a hK => ?_
  obtain ⟨R_12, hS, hl_14, hs_13⟩ := hS.fz_row hq_10 rfl rfl
  have hRL := hRL.trans hl_14
  obtain ⟨y_15, h_16, H⟩ := bind_some H
  refine sl_call Try.call19 hK (by decide) rfl rfl rfl (wire_Decode.calls y_6 hS.sub hs_13 h_16) fun a v_ w hv_ hK => ?_
  obtain ⟨R_17, v_20, cs_21, v_24, cs_25, hv_, hr_, hl_18, hq_22, hq_26⟩ := hv_
  have hv_ := hv_.symm
  subst hv_
  obtain ⟨hS, hl_18⟩ := hS.sp0.back hr_ hl_18
  have hS := hS.un2
  have hRL := hRL.trans hl_18
  refine sl hK (by decide) rfl rfl (r_move hK rfl) fun a hK => ?_
  refine sl hK (by decide) rfl rfl (r_extract hK rfl rfl) fun a hK => ?_
  refine sl hK (by decide) rfl rfl (r_extract hK rfl rfl) fun a hK => ?_
  refine sl_alloc Try.zeroValue37 hS hK (by decide) rfl rfl fun a w b_27 hS hK => ?_
  refine sl_storeA (vs := [v_20, v_24]) (c' := [v_20, v_24]) Try.sizeOf37 hS hK rfl rfl rfl rfl (all_cons (hS.row_one (.tail _ (.head _))) (all_cons (hS.row_one (.tail _ (.tail _ (.head _)))) (all_nil))) (Nat.le_of_ble_eq_true rfl) rfl fun a w hS hK => ?_
  refine sl hK (by decide) rfl rfl (r_assign hK rfl) fun a hK => ?_
  refine wpList_nil ?_
  refine wp_seq ?_
  refine wp_region_lit ?_
  refine sl hK (by decide) rfl rfl (r_move hK rfl) fun a hK => ?_
  obtain ⟨y_28, h_29, H⟩ := bind_some H
  refine sl_call Try.call20 hK (by decide) rfl rfl rfl (ref04_Decode.calls a0 (lentOf_sub [] _) hS.sub (h0_0.mono (hS.raLe0 hRA nil_not)) h_29) fun a v_ w hv_ hK => ?_
  obtain ⟨R_30, v_33, cs_34, v_37, cs_38, hv_, hr_, hl_31, hq_35, hq_39⟩ := hv_
  have hv_ := hv_.symm
  subst hv_
  obtain ⟨hS, hl_31⟩ := hS.sp0.back hr_ hl_31
  have hS := hS.un2
  have hRL := hRL.trans hl_31
  refine sl hK (by decide) rfl rfl (r_move hK rfl) fun a hK => ?_
  refine sl hK (by decide) rfl rfl (r_extract hK rfl rfl) fun a hK => ?_
  refine sl hK (by decide) rfl rfl (r_extract hK rfl rfl) fun a hK => ?_
  refine sl_alloc Try.zeroValue37 hS hK (by decide) rfl rfl fun a w b_40 hS hK => ?_
  refine sl_storeA (vs := [v_33, v_37]) (c' := [v_33, v_37]) Try.sizeOf37 hS hK rfl rfl rfl rfl (all_cons (hS.row_one (.tail _ (.head _))) (all_cons (hS.row_one (.tail _ (.tail _ (.head _)))) (all_nil))) (Nat.le_of_ble_eq_true rfl) rfl fun a w hS hK => ?_
  refine sl hK (by decide) rfl rfl (r_assign hK rfl) fun a hK => ?_
  refine wpList_nil ?_
  refine wp_seq ?_
  refine wp_region_lit ?_
  refine sl hK (by decide) rfl rfl (r_loadA (cs := [v_20, v_24]) Try.isAgg37 Try.sizeOf37 rfl hK rfl (hS.cells_of (m := 2) (.tail _ (.tail _ (.tail _ (.head _)))) rfl)) fun a hK => ?_
  refine sl hK (by decide) rfl rfl (r_loadA (cs := [v_33, v_37]) Try.isAgg37 Try.sizeOf37 rfl hK rfl (hS.cells_of (m := 2) (.head _) rfl)) fun a hK => ?_
  obtain ⟨y_41, h_42, H⟩ := bind_some H
  refine sl_callV Try.call21 hS hK (by decide) rfl rfl rfl (ref02_Same.calls y_15.1 y_28.1 (lentOf_sub [] _) (hS.lend_row0 (.tail _ (.tail _ (.tail _ (.tail _ (.head _))))) (hq_22.mono hl_31.le) rfl rfl) (hS.lend_row0 (.tail _ (.tail _ (.tail _ (.tail _ (.tail _ (.head _)))))) (hq_26.mono hl_31.le) rfl rfl) (hS.lend_row0 (.tail _ (.head _)) hq_35 rfl rfl) (hS.lend_row0 (.tail _ (.tail _ (.head _))) hq_39 rfl rfl) h_42) fun a w hS hK => ?_
  refine sl hK (by decide) rfl rfl (r_assign hK rfl) fun a hK => ?_
  refine wpList_nil ?_
  refine wp_seq ?_
  refine wp_region_lit ?_
  refine sl hK (by decide) rfl rfl (r_move hK rfl) fun a hK => ?_
  refine sl hK (by decide) rfl rfl (r_move hK rfl) fun a hK => ?_
  rcases or_b y_1 with hb_43 | hb_43
  · rw [ifb_t hb_43] at H
    refine sl hK (by decide) (wtt hb_43) rfl (r_move hK rfl) fun a hK => ?_
    refine sl hK (by decide) rfl rfl (r_pick_t hb_43 hK rfl rfl) fun a hK => ?_
    refine sl hK (by decide) rfl rfl (r_move hK rfl) fun a hK => ?_
    rcases or_b y_41 with hb_44 | hb_44
    · rw [ifb_t hb_44] at H
      refine sl hK (by decide) (wtt hb_44) rfl (r_move hK rfl) fun a hK => ?_
      refine sl hK (by decide) (wtt hb_44) rfl (r_move hK rfl) fun a hK => ?_
      refine sl hK (by decide) (wtt hb_44) rfl (r_ibin hK rfl rfl rfl) fun a hK => ?_
      refine sl hK (by decide) rfl rfl (r_pick_t hb_44 hK rfl rfl) fun a hK => ?_
      refine sl hK (by decide) rfl rfl (r_move hK rfl) fun a hK => ?_
      rcases or_b (y_15.2 == y_28.2) with hb_45 | hb_45
      · rw [ifb_t hb_45] at H
        refine sl hK (by decide) (wtt hb_45) rfl (r_move hK rfl) fun a hK => ?_
        refine sl hK (by decide) (wtt hb_45) rfl (r_conv_bs Try.underlying22 Try.underlying9 Try.underlying5 hs_13 hK rfl (hS.sub.le (hl_18.le.trans hl_31.le))) fun a hK => ?_
        refine sl hK (by decide) (wtt hb_45) rfl (r_move hK rfl) fun a hK => ?_
        refine sl hK (by decide) (wtt hb_45) rfl (r_conv_bs Try.underlying22 Try.underlying9 Try.underlying5 h0_0 hK rfl (hS.ra hRA nil_not)) fun a hK => ?_
        refine sl hK (by decide) (wtt hb_45) rfl (r_sbin hK rfl rfl rfl) fun a hK => ?_
        refine sl hK (by decide) rfl rfl (r_pick_t hb_45 hK rfl rfl) fun a hK => ?_
        refine sl hK (by decide) rfl rfl (r_assign hK rfl) fun a hK => ?_
        refine wpList_nil ?_
        have hr_ := Option.some.inj H
        refine wp_ret ?_
        repeat (first | refine ret_then ?_ | refine ret_block ?_ | refine ret_scope ?_)
        exact ret_1 Try.results6 hK (rv_tmp hK rfl) ⟨congrArg (fun b => Ending.returned (Value.bool b)) hr_, hS.bel⟩
      · rw [ifb_f hb_45] at H
        refine sl_skip hK (by decide) (wtf hb_45) rfl fun a hK => ?_
        refine sl_skip hK (by decide) (wtf hb_45) rfl fun a hK => ?_
        refine sl_skip hK (by decide) (wtf hb_45) rfl fun a hK => ?_
        refine sl_skip hK (by decide) (wtf hb_45) rfl fun a hK => ?_
        refine sl_skip hK (by decide) (wtf hb_45) rfl fun a hK => ?_
        refine sl hK (by decide) rfl rfl (r_pick_f hb_45 hK rfl rfl) fun a hK => ?_
        refine sl hK (by decide) rfl rfl (r_assign hK rfl) fun a hK => ?_
        refine wpList_nil ?_
        exact absurd (Option.some.inj H) (by decide)
    · rw [ifb_f hb_44] at H
      refine sl_skip hK (by decide) (wtf hb_44) rfl fun a hK => ?_
      refine sl_skip hK (by decide) (wtf hb_44) rfl fun a hK => ?_
      refine sl_skip hK (by decide) (wtf hb_44) rfl fun a hK => ?_
      refine sl hK (by decide) rfl rfl (r_pick_f hb_44 hK rfl rfl) fun a hK => ?_
      refine sl hK (by decide) rfl rfl (r_move hK rfl) fun a hK => ?_
      refine sl_skip hK (by decide) rfl rfl fun a hK => ?_
      refine sl_skip hK (by decide) rfl rfl fun a hK => ?_
      refine sl_skip hK (by decide) rfl rfl fun a hK => ?_
      refine sl_skip hK (by decide) rfl rfl fun a hK => ?_
      refine sl_skip hK (by decide) rfl rfl fun a hK => ?_
      refine sl hK (by decide) rfl rfl (r_pick hK rfl rfl rfl) fun a hK => ?_
      refine sl hK (by decide) rfl rfl (r_assign hK rfl) fun a hK => ?_
      refine wpList_nil ?_
      exact absurd (Option.some.inj H) (by decide)
  · rw [ifb_f hb_43] at H
    refine sl_skip hK (by decide) (wtf hb_43) rfl fun a hK => ?_
    refine sl hK (by decide) rfl rfl (r_pick_f hb_43 hK rfl rfl) fun a hK => ?_
    refine sl hK (by decide) rfl rfl (r_move hK rfl) fun a hK => ?_
    refine sl_skip hK (by decide) rfl rfl fun a hK => ?_
    refine sl_skip hK (by decide) rfl rfl fun a hK => ?_
    refine sl_skip hK (by decide) rfl rfl fun a hK => ?_
    refine sl hK (by decide) rfl rfl (r_pick hK rfl rfl rfl) fun a hK => ?_
    refine sl hK (by decide) rfl rfl (r_move hK rfl) fun a hK => ?_
    refine sl_skip hK (by decide) rfl rfl fun a hK => ?_
    refine sl_skip hK (by decide) rfl rfl fun a hK => ?_
    refine sl_skip hK (by decide) rfl rfl fun a hK => ?_
    refine sl_skip hK (by decide) rfl rfl fun a hK => ?_
    refine sl_skip hK (by decide) rfl rfl fun a hK => ?_
    refine sl hK (by decide) rfl rfl (r_pick hK rfl rfl rfl) fun a hK => ?_
    refine sl hK (by decide) rfl rfl (r_assign hK rfl) fun a hK => ?_
    refine wpList_nil ?_
    exact absurd (Option.some.inj H) (by decide)

end Go.Proofs.Ytifijboegibchaa.M
