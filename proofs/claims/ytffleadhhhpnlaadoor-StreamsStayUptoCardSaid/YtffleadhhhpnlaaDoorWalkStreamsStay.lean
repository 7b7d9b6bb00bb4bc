/- Each Go function of the laws answers as its plain Lean function tells, wherever that tells something. Printed by wip/eng/gen.py. -/
import Derived.Test.YtffleadhhhpnlaaDoorWalk1
namespace Go.Proofs.YtffleadhhhpnlaaDoor.M
open Go Go.Eng Go.Proofs Go.RowKit
set_option linter.unusedVariables false
set_option linter.unusedSimpArgs false

/-! ### catchment/catchmentlaw06.StreamsStay: function 3 -/
set_option maxHeartbeats 4000000 in
set_option maxRecDepth 100000 in
theorem law06_StreamsStay.calls (a0 : List catchmentlaw06_Stream) {w0 : World} {RA : Hp} {v0_0 : Value} (hRA : RA.sub w0) (h0_0 : SlR ty_catchmentlaw06_Stream RA v0_0 a0) (hG : GF RA) (H : law06_StreamsStay a0 = some true) : CallsV Tryd.prog 3 #[v0_0] w0 (.bool true) := by
  unfold law06_StreamsStay at H
  refine enter (args := [v0_0]) Tryd.func3 rfl Tryd.ntmps3 rfl fun a hK => ?_
  have hS := St.init (R := fun _ => none) (w := w0) (fun _ _ h => by cases h)
  have hRL := RLe.refl (M := []) w0 (fun _ => none)
  refine wp_seq ?_
  refine wp_region_lit ?_
  refine sl hK (by decide) rfl rfl (r_assign hK rfl) fun a hK => ?_
  refine wpList_nil ?_
  refine wp_seq ?_
  refine wp_region_lit ?_
  obtain ⟨y_1, h_2, H⟩ := bind_some H
  refine sl_callV Tryd.call6 hS hK (by decide) rfl rfl rfl (law06_shown.calls (lentOf_sub [] _) (GF.mono (hS.raLe0 hRA nil_not) hG) h_2) fun a w hS hK => ?_
  refine sl hK (by decide) rfl rfl (r_assign hK rfl) fun a hK => ?_
  refine wpList_nil ?_
  refine wp_seq ?_
  refine wp_region_lit ?_
  obtain ⟨y_3, h_4, H⟩ := bind_some H
  refine sl_call Tryd.call7 hK (by decide) rfl rfl rfl (streams_New.calls 100 hS.sub h_4) fun a v_ w hv_ hK => ?_
  obtain ⟨R_5, b_7, v_9, cs_10, mb_12, hv_, hr_, hl_6, hq_11⟩ := hv_
  have hv_ := hv_.symm
  subst hv_
  obtain ⟨hS, hl_6⟩ := hS.sp0.back hr_ hl_6
  have hS := hS.un3
  have hRL := hRL.trans hl_6
  refine sl hK (by decide) rfl rfl (r_assign hK rfl) fun a hK => ?_
  refine wpList_nil ?_
  refine wp_seq ?_
  refine wp_seq ?_
  refine wp_mid (fun a w => ∃ (x_14 : Bool), law06_StreamsStay.j0 a0 y_3 x_14 = some true ∧ Kn 146 a [(0, v0_0), (4, .pointer (some ⟨b_7, 0, none⟩)), (21, .bool x_14)] ∧ St [] w0 w R_5 [.row 60 2 v_9 y_3.l.length cs_10, .mp mb_12 (kvs Value.string (Value.int .i64) y_3.ids), .cells b_7 [.int .i64 y_3.most, v_9, .map (some mb_12)] 56]) ?_ ?_
  · refine wp_region_lit ?_
    refine sl hK (by decide) rfl rfl (r_move hK rfl) fun a hK => ?_
    refine sl hK (by decide) rfl rfl (r_un hK rfl (u_not _)) fun a hK => ?_
    refine sl hK (by decide) rfl rfl (r_move hK rfl) fun a hK => ?_
    rcases or_b (!y_1) with hb_16 | hb_16
    · rw [ifb_t hb_16] at H
      refine sl_skip hK (by decide) (wft hb_16) rfl fun a hK => ?_
      refine sl_skip hK (by decide) (wft hb_16) rfl fun a hK => ?_
      refine sl hK (by decide) rfl rfl (r_pick_t hb_16 hK rfl rfl) fun a hK => ?_
      refine wpList_nil ?_
      have hS := hS.pk2
      have hS := hS.pk2
      exact ⟨true, H, hK.sub (all_cons rfl (all_cons rfl (all_cons rfl (all_nil)))), hS⟩
    · rw [ifb_f hb_16] at H
      refine sl hK (by decide) (wff hb_16) rfl (r_move hK rfl) fun a hK => ?_
      refine sl hK (by decide) (wff hb_16) rfl (r_peq Tryd.underlying24 hK rfl rfl) fun a hK => ?_
      refine sl hK (by decide) rfl rfl (r_pick_f hb_16 hK rfl rfl) fun a hK => ?_
      refine wpList_nil ?_
      have hS := hS.pk2
      have hS := hS.pk2
      exact ⟨false, H, hK.sub (all_cons rfl (all_cons rfl (all_cons rfl (all_nil)))), hS⟩
  · rintro a w ⟨x_14, H, hK, hS⟩
    unfold law06_StreamsStay.j0 at H
    refine wp_cond_split (hK.ev rfl) (fun (hb_17 : x_14 = true) => ?_) (fun (hb_17 : x_14 = false) => ?_)
    · rw [ifb_t hb_17] at H
      refine wp_seq ?_
      refine wp_region_lit ?_
      refine sl hK (by decide) rfl rfl (r_assign hK rfl) fun a hK => ?_
      refine wpList_nil ?_
      exact absurd (Option.some.inj H) (by decide)
    · rw [ifb_f hb_17] at H
      refine wp_skip ?_
      refine wp_seq ?_
      refine wp_region_lit ?_
      refine sl_buildSliceC (zc := [.int .i64 0]) (zs := []) (ps := []) (c := []) Tryd.underlying26 Tryd.sizeOf3 Tryd.zeroValue3 rfl pc_nil rfl rfl (by decide) (by kernel_rfl) rfl hS hK (by decide) rfl fun a w b_18 hS hK => ?_
      refine sl hK (by decide) rfl rfl (r_assign hK rfl) fun a hK => ?_
      refine wpList_nil ?_
      refine wp_seq ?_
      refine wp_seq ?_
      refine wp_region_lit ?_
      refine sl hK (by decide) rfl rfl (r_assign hK rfl) fun a hK => ?_
      refine wpList_nil ?_
      refine wp_block ?_
      refine wp_loop_k (fun k_l1 a w => ∃ (x_103 : Int) (x_105 : List streams_stream) (x_110 : List (ByteArray × Int)) (x_112 : List Int) (x_116 : Int) (R_117 : Hp) (v_106 : Value) (cs_107 : List Value) (v_113 : Value) (cs_114 : List Value) (b_109 : Nat), law06_StreamsStay.l1 a0 k_l1 x_103 x_105 x_110 x_112 x_116 = some true ∧ RLe [] w0 R_5 R_117 ∧ Reps ty_streams_stream R_117 cs_107 x_105 ∧ Reps (tyInt .i64) R_117 cs_114 x_112 ∧ Kn 146 a [(0, v0_0), (4, .pointer (some ⟨b_7, 0, none⟩)), (5, v_113), (6, .int .i64 x_116)] ∧ St [] w0 w R_117 [.row 60 2 v_106 x_105.length cs_107, .mp b_109 (kvs Value.string (Value.int .i64) x_110), .cells b_7 [.int .i64 x_103, v_106, .map (some b_109)] 56, .row 3 1 v_113 x_112.length cs_114]) (((a0.length : Int) - 0).toNat + 1) ?_ ?_
      · have hS := hS.row_lit (size := 1) (m := 0) rfl (by decide)
        have hq_199 : Reps (tyInt .i64) R_5 [] ([] : List Int) := (Reps.nil _ _)
        have hS := hS.pk3
        have hS := hS.pk3
        have hS := hS.pk3
        exact ⟨y_3.most, y_3.l, y_3.ids, [], 0, _, _, _, _, _, _, H, (RLe.refl _ _), hq_11, hq_199, hK.sub (all_cons rfl (all_cons rfl (all_cons rfl (all_cons rfl (all_nil))))), hS⟩
      · rintro k_l1 a w ⟨x_103, x_105, x_110, x_112, x_116, R_117, v_106, cs_107, v_113, cs_114, b_109, H, hl_118, hq_108, hq_115, hK, hS⟩
        cases k_l1 with
        | zero => cases H
        | succ k_l1 =>
        rw [law06_StreamsStay.l1.eq_2] at H
        have hRL := hRL.trans hl_118
        refine wp_seq ?_
        refine wp_seq ?_
        refine wp_mid (fun a w => ∃ (x_201 : Bool), law06_StreamsStay.j2 (law06_StreamsStay.l1 a0 k_l1) a0 x_103 x_105 x_110 x_112 x_116 x_201 = some true ∧ Kn 146 a [(0, v0_0), (4, .pointer (some ⟨b_7, 0, none⟩)), (5, v_113), (6, .int .i64 x_116), (30, .bool x_201)] ∧ St [] w0 w R_117 [.row 60 2 v_106 x_105.length cs_107, .mp b_109 (kvs Value.string (Value.int .i64) x_110), .cells b_7 [.int .i64 x_103, v_106, .map (some b_109)] 56, .row 3 1 v_113 x_112.length cs_114]) ?_ ?_
        · refine wp_region_lit ?_
          refine sl hK (by decide) rfl rfl (r_move hK rfl) fun a hK => ?_
          refine sl hK (by decide) rfl rfl (r_move hK rfl) fun a hK => ?_
          refine sl hK (by decide) rfl rfl (r_len_R Tryd.underlying22 h0_0 hK rfl) fun a hK => ?_
          refine sl hK (by decide) rfl rfl (r_ibin hK rfl rfl rfl) fun a hK => ?_
          refine sl hK (by decide) rfl rfl (r_move hK rfl) fun a hK => ?_
          rcases or_b (decide (x_116 < (a0.length : Int))) with hb_203 | hb_203
          · rw [ifb_t hb_203] at H
            refine sl hK (by decide) (wtt hb_203) rfl (r_move hK rfl) fun a hK => ?_
            refine sl hK (by decide) (wtt hb_203) rfl (r_ibin hK rfl rfl rfl) fun a hK => ?_
            refine sl hK (by decide) rfl rfl (r_pick_t hb_203 hK rfl rfl) fun a hK => ?_
            refine wpList_nil ?_
            have hS := hS.pk3
            have hS := hS.pk3
            have hS := hS.pk3
            have hS := hS.pk3
            exact ⟨(decide (x_116 < 100)), H, hK.sub (all_cons rfl (all_cons rfl (all_cons rfl (all_cons rfl (all_cons rfl (all_nil)))))), hS⟩
          · rw [ifb_f hb_203] at H
            refine sl_skip hK (by decide) (wtf hb_203) rfl fun a hK => ?_
            refine sl_skip hK (by decide) (wtf hb_203) rfl fun a hK => ?_
            refine sl hK (by decide) rfl rfl (r_pick_f hb_203 hK rfl rfl) fun a hK => ?_
            refine wpList_nil ?_
            have hS := hS.pk3
            have hS := hS.pk3
            have hS := hS.pk3
            have hS := hS.pk3
            exact ⟨false, H, hK.sub (all_cons rfl (all_cons rfl (all_cons rfl (all_cons rfl (all_cons rfl (all_nil)))))), hS⟩
        · rintro a w ⟨x_201, H, hK, hS⟩
          unfold law06_StreamsStay.j2 at H
          refine wp_cond_split (hK.ev rfl) (fun (hb_204 : x_201 = true) => ?_) (fun (hb_204 : x_201 = false) => ?_)
          · rw [ifb_t hb_204] at H
            refine wp_skip ?_
            refine wp_seq ?_
            refine wp_block ?_
            refine wp_seq ?_
            refine parT_region (C := fun w => St [] w0 w R_117 [.row 3 1 v_113 x_112.length cs_114]) 16 [(0, true), (1, true), (2, true), (3, true), (4, true), (5, true), (6, true), (7, true), (8, true), (9, true), (10, true), (11, false), (12, true), (13, true), (14, true), (15, true)] mixed (by kernel_rfl) hS (fun w hS => (hS.pk3.trunc 1)) fun w hS => ?_
            refine sp (k := 0) rfl hK (by decide) rfl rfl (fun w hS => r_move hK rfl) fun a hK => ?_
            refine sp (k := 1) rfl hK (by decide) rfl rfl (fun w hS => r_move hK rfl) fun a hK => ?_
            refine sp (k := 2) rfl hK (by decide) rfl rfl (fun w hS => r_move hK rfl) fun a hK => ?_
            obtain ⟨y_236, h_237, H⟩ := bind_some H
            obtain ⟨b_238, o_239, c_240, cs_241, hv_242, hr_243, hc_244, h_2370, h_2371⟩ := h0_0.ix h_237
            obtain ⟨v_245, rfl, hs_246⟩ := hr_243
            refine sp (k := 3) rfl hK (by decide) rfl rfl (fun w hS => r_indexAddr_R Tryd.underlying22 Tryd.sizeOf32 hv_242 h_2370 h_2371 hK rfl rfl) fun a hK => ?_
            refine sp (k := 4) rfl hK (by decide) rfl rfl (fun w hS => r_fieldAddr Tryd.underlying32 rfl Tryd.sizeOf9 hK rfl) fun a hK => ?_
            refine sp (k := 5) rfl hK (by decide) rfl rfl (fun w hS => r_load Tryd.isAgg9 hK rfl ((hS.ra hRA nil_not).cell (hc_244 0 _ rfl))) fun a hK => ?_
            refine sp (k := 6) rfl hK (by decide) rfl rfl (fun w hS => r_move hK rfl) fun a hK => ?_
            refine sp (k := 7) rfl hK (by decide) rfl rfl (fun w hS => r_move hK rfl) fun a hK => ?_
            obtain ⟨y_247, h_248, H⟩ := bind_some H
            obtain ⟨b_249, o_250, c_251, cs_252, hv_253, hr_254, hc_255, h_2480, h_2481⟩ := h0_0.ix h_248
            obtain ⟨v_256, rfl, hs_257⟩ := hr_254
            refine sp (k := 8) rfl hK (by decide) rfl rfl (fun w hS => r_indexAddr_R Tryd.underlying22 Tryd.sizeOf32 hv_253 h_2480 h_2481 hK rfl rfl) fun a hK => ?_
            refine sp (k := 9) rfl hK (by decide) rfl rfl (fun w hS => r_fieldAddr Tryd.underlying32 rfl Tryd.sizeOf30 hK rfl) fun a hK => ?_
            refine sp (k := 10) rfl hK (by decide) rfl rfl (fun w hS => r_load Tryd.isAgg30 hK rfl ((hS.ra hRA nil_not).cell (hc_255 1 _ rfl))) fun a hK => ?_
            refine spw (k := 11) rfl rfl (hS.pk3.trunc 1) ?_
            obtain ⟨y_258, h_259, H⟩ := bind_some H
            have hS := hS.pk1
            have hS := hS.pk1
            have hS := hS.pk2
            have hS1 := hS.sp3
            refine sl_call Tryd.call8 hK (by decide) rfl rfl rfl (streams_Dict_Add.calls (⟨x_103, x_105, x_110⟩ : streams_Dict) y_236.Name y_247.Keys (lentOf_sub _ _) lentOf_not hS1.lend hq_108 (hs_257.mono (hS1.raLe hRA nil_not)) (GF.mono (hS1.raLe hRA nil_not) hG) h_259) fun a v_ w hv_ hK => ?_
            obtain ⟨R_260, v_263, cs_264, mb_266, hv_, hr_, hl_261, hq_265⟩ := hv_
            have hv_ := hv_.symm
            subst hv_
            obtain ⟨hS, hl_261⟩ := hS1.back hr_ hl_261
            have hS := hS.un3
            have hRL := hRL.trans hl_261
            refine parK_nil ((hS.pk3.trunc 1).lower hl_261.le) ?_
            refine sp (k := 12) rfl hK (by decide) rfl rfl (fun w hS => r_move hK rfl) fun a hK => ?_
            refine sp (k := 13) rfl hK (by decide) rfl rfl (fun w hS => r_extract hK rfl rfl) fun a hK => ?_
            refine sp (k := 14) rfl hK (by decide) rfl rfl (fun w hS => r_extract hK rfl rfl) fun a hK => ?_
            refine sp (k := 15) rfl hK (by decide) rfl rfl (fun w hS => r_assign hK rfl) fun a hK => ?_
            refine thenL_nil ?_
            refine sl hK (by decide) rfl rfl (r_assign hK rfl) fun a hK => ?_
            refine wpList_nil (NoP_nil ?_)
            refine wp_seq ?_
            refine wp_seq ?_
            refine wp_region_lit ?_
            refine sl hK (by decide) rfl rfl (r_move hK rfl) fun a hK => ?_
            refine sl hK (by decide) rfl rfl (r_ibin hK rfl rfl rfl) fun a hK => ?_
            refine wpList_nil ?_
            refine wp_mid (fun a w => ∃ (x_268 : Int), law06_StreamsStay.j3 (law06_StreamsStay.l1 a0 k_l1) a0 x_112 x_116 y_258 x_268 = some true ∧ Kn 146 a [(0, v0_0), (4, .pointer (some ⟨b_7, 0, none⟩)), (5, v_113), (6, .int .i64 x_116), (7, .int .i64 x_268)] ∧ St [] w0 w R_260 [.row 60 2 v_263 y_258.2.2.l.length cs_264, .mp mb_266 (kvs Value.string (Value.int .i64) y_258.2.2.ids), .cells b_7 [.int .i64 y_258.2.2.most, v_263, .map (some mb_266)] 56, .row 3 1 v_113 x_112.length cs_114]) ?_ ?_
            · refine wp_cond_split (hK.ev rfl) (fun (hb_270 : (y_258.2.1 != 0) = true) => ?_) (fun (hb_270 : (y_258.2.1 != 0) = false) => ?_)
              · rw [ifb_t hb_270] at H
                refine wp_region_lit ?_
                refine sl hK (by decide) rfl rfl (r_assign hK rfl) fun a hK => ?_
                refine wpList_nil ?_
                have hS := hS.pk3
                have hS := hS.pk1
                have hS := hS.pk3
                have hS := hS.pk3
                exact ⟨(-1), H, hK.sub (all_cons rfl (all_cons rfl (all_cons rfl (all_cons rfl (all_cons rfl (all_nil)))))), hS⟩
              · rw [ifb_f hb_270] at H
                refine wp_skip ?_
                have hS := hS.pk3
                have hS := hS.pk1
                have hS := hS.pk3
                have hS := hS.pk3
                exact ⟨y_258.1, H, hK.sub (all_cons rfl (all_cons rfl (all_cons rfl (all_cons rfl (all_cons rfl (all_nil)))))), hS⟩
            · rintro a w ⟨x_268, H, hK, hS⟩
              unfold law06_StreamsStay.j3 at H
              refine wp_region_lit ?_
              refine sl hK (by decide) rfl rfl (r_move hK rfl) fun a hK => ?_
              refine sl hK (by decide) rfl rfl (r_move hK rfl) fun a hK => ?_
              refine sl_buildSliceF (zc := [.int .i64 0]) (ps := [(0, .int .i64 x_268)]) (c := [.int .i64 x_268]) [[.int .i64 x_268]] Tryd.underlying26 Tryd.sizeOf3 Tryd.zeroValue3 rfl (pc_cons rfl pc_nil) rfl rfl (Nat.le_of_ble_eq_true rfl) rfl (all_cons rfl (all_nil)) rfl hS hK (by decide) rfl fun a w b_271 hS hK => ?_
              obtain ⟨y_272, h_273, H⟩ := bind_some H
              have hS := hS.pk4
              refine sl_append_L (ty := (tyInt .i64)) (ys := [x_268]) elT26 (by decide) rfl (hq_115.mono hl_261.le) rfl (Reps.cons (show Ty.rep (tyInt .i64) _ [.int .i64 x_268] x_268 from rfl) (Reps.nil _ _)) rfl h_273 hS hK (by decide) rfl rfl rfl fun a w v_274 cs_275 hq_276 hS hK => ?_
              refine sl hK (by decide) rfl rfl (r_assign hK rfl) fun a hK => ?_
              refine wpList_nil ?_
              refine wp_region_lit ?_
              refine sl hK (by decide) rfl rfl (r_move hK rfl) fun a hK => ?_
              refine sl hK (by decide) rfl rfl (r_ibin hK rfl rfl rfl) fun a hK => ?_
              refine sl hK (by decide) rfl rfl (r_assign hK rfl) fun a hK => ?_
              refine wpList_nil ?_
              have hS := hS.pk3
              have hS := hS.pk3
              have hS := hS.pk3
              exact ⟨_, Nat.lt_succ_self _, y_258.2.2.most, y_258.2.2.l, y_258.2.2.ids, y_272, (IntKind.i64.wrap (x_116 + 1)), _, _, _, _, _, _, H, (hl_118.trans hl_261), hq_265, hq_276, hK.sub (all_cons rfl (all_cons rfl (all_cons rfl (all_cons rfl (all_nil))))), hS⟩
          · rw [ifb_f hb_204] at H
            refine wp_exit ?_
            refine wp_seq ?_
            refine wp_seq ?_
            refine wp_region_lit ?_
            refine sl hK (by decide) rfl rfl (r_assign hK rfl) fun a hK => ?_
            refine wpList_nil ?_
            refine wp_block ?_
            refine wp_loop_k (fun k_l4 a w => ∃ (x_368 : Int), law06_StreamsStay.l4 a0 x_103 x_105 x_110 x_112 k_l4 x_368 = some true ∧ Kn 146 a [(0, v0_0), (4, .pointer (some ⟨b_7, 0, none⟩)), (5, v_113), (9, .int .i64 x_368)] ∧ St [] w0 w R_117 [.row 60 2 v_106 x_105.length cs_107, .mp b_109 (kvs Value.string (Value.int .i64) x_110), .cells b_7 [.int .i64 x_103, v_106, .map (some b_109)] 56, .row 3 1 v_113 x_112.length cs_114]) (((x_112.length : Int) - 0).toNat + 1) ?_ ?_
            · have hS := hS.pk3
              have hS := hS.pk3
              have hS := hS.pk3
              have hS := hS.pk3
              exact ⟨0, H, hK.sub (all_cons rfl (all_cons rfl (all_cons rfl (all_cons rfl (all_nil))))), hS⟩
            · rintro k_l4 a w ⟨x_368, H, hK, hS⟩
              cases k_l4 with
              | zero => cases H
              | succ k_l4 =>
              rw [law06_StreamsStay.l4.eq_2] at H
              refine wp_seq ?_
              refine wp_seq ?_
              refine wp_region_lit ?_
              refine sl hK (by decide) rfl rfl (r_move hK rfl) fun a hK => ?_
              refine sl hK (by decide) rfl rfl (r_move hK rfl) fun a hK => ?_
              refine sl hK (by decide) rfl rfl (r_len_O Tryd.underlying26 hS (.tail _ (.tail _ (.tail _ (.head _)))) hK rfl) fun a hK => ?_
              refine sl hK (by decide) rfl rfl (r_ibin hK rfl rfl rfl) fun a hK => ?_
              refine wpList_nil ?_
              refine wp_cond_split (hK.ev rfl) (fun (hb_1451 : (decide (x_368 < (x_112.length : Int))) = true) => ?_) (fun (hb_1451 : (decide (x_368 < (x_112.length : Int))) = false) => ?_)
              · rw [ifb_t hb_1451] at H
                refine wp_skip ?_
                refine wp_seq ?_
                refine wp_block ?_
                refine wp_seq ?_
                refine parT_region (C := fun w => St [] w0 w R_117 [.row 60 2 v_106 x_105.length cs_107, .mp b_109 (kvs Value.string (Value.int .i64) x_110), .cells b_7 [.int .i64 x_103, v_106, .map (some b_109)] 56, .row 3 1 v_113 x_112.length cs_114]) 16 [(0, true), (1, true), (2, true), (3, true), (4, true), (5, true), (6, true), (7, true), (8, true), (9, true), (10, true), (11, false), (12, true), (13, true), (14, true), (15, true)] mixed (by kernel_rfl) hS (fun w hS => hS) fun w hS => ?_
                refine sp (k := 0) rfl hK (by decide) rfl rfl (fun w hS => r_move hK rfl) fun a hK => ?_
                refine sp (k := 1) rfl hK (by decide) rfl rfl (fun w hS => r_move hK rfl) fun a hK => ?_
                refine sp (k := 2) rfl hK (by decide) rfl rfl (fun w hS => r_move hK rfl) fun a hK => ?_
                obtain ⟨y_1476, h_1477, H⟩ := bind_some H
                obtain ⟨b_1478, o_1479, c_1480, cs_1481, hv_1482, hr_1483, hc_1484, h_14770, h_14771⟩ := h0_0.ix h_1477
                obtain ⟨v_1485, rfl, hs_1486⟩ := hr_1483
                refine sp (k := 3) rfl hK (by decide) rfl rfl (fun w hS => r_indexAddr_R Tryd.underlying22 Tryd.sizeOf32 hv_1482 h_14770 h_14771 hK rfl rfl) fun a hK => ?_
                refine sp (k := 4) rfl hK (by decide) rfl rfl (fun w hS => r_fieldAddr Tryd.underlying32 rfl Tryd.sizeOf9 hK rfl) fun a hK => ?_
                refine sp (k := 5) rfl hK (by decide) rfl rfl (fun w hS => r_load Tryd.isAgg9 hK rfl ((hS.ra hRA nil_not).cell (hc_1484 0 _ rfl))) fun a hK => ?_
                refine sp (k := 6) rfl hK (by decide) rfl rfl (fun w hS => r_move hK rfl) fun a hK => ?_
                refine sp (k := 7) rfl hK (by decide) rfl rfl (fun w hS => r_move hK rfl) fun a hK => ?_
                obtain ⟨y_1487, h_1488, H⟩ := bind_some H
                obtain ⟨b_1489, o_1490, c_1491, cs_1492, hv_1493, hr_1494, hc_1495, h_14880, h_14881⟩ := h0_0.ix h_1488
                obtain ⟨v_1496, rfl, hs_1497⟩ := hr_1494
                refine sp (k := 8) rfl hK (by decide) rfl rfl (fun w hS => r_indexAddr_R Tryd.underlying22 Tryd.sizeOf32 hv_1493 h_14880 h_14881 hK rfl rfl) fun a hK => ?_
                refine sp (k := 9) rfl hK (by decide) rfl rfl (fun w hS => r_fieldAddr Tryd.underlying32 rfl Tryd.sizeOf30 hK rfl) fun a hK => ?_
                refine sp (k := 10) rfl hK (by decide) rfl rfl (fun w hS => r_load Tryd.isAgg30 hK rfl ((hS.ra hRA nil_not).cell (hc_1495 1 _ rfl))) fun a hK => ?_
                refine spw (k := 11) rfl rfl hS ?_
                obtain ⟨y_1498, h_1499, H⟩ := bind_some H
                refine sl_callV Tryd.call9 hS hK (by decide) rfl rfl rfl (streams_Dict_Find.calls (⟨x_103, x_105, x_110⟩ : streams_Dict) y_1476.Name y_1487.Keys (lentOf_sub [] _) (hS.lend_box0 (.tail _ (.tail _ (.head _)))) (hS.lend_row0 (.head _) hq_108 rfl rfl) (hS.lend_map0 (.tail _ (.head _))) (hs_1497.mono (hS.raLe0 hRA nil_not)) (GF.mono (hS.raLe0 hRA nil_not) hG) h_1499) fun a w hS hK => ?_
                refine parK_nil hS ?_
                refine sp (k := 12) rfl hK (by decide) rfl rfl (fun w hS => r_move hK rfl) fun a hK => ?_
                refine sp (k := 13) rfl hK (by decide) rfl rfl (fun w hS => r_extract hK rfl rfl) fun a hK => ?_
                refine sp (k := 14) rfl hK (by decide) rfl rfl (fun w hS => r_extract hK rfl rfl) fun a hK => ?_
                refine sp (k := 15) rfl hK (by decide) rfl rfl (fun w hS => r_assign hK rfl) fun a hK => ?_
                refine thenL_nil ?_
                refine sl hK (by decide) rfl rfl (r_assign hK rfl) fun a hK => ?_
                refine wpList_nil (NoP_nil ?_)
                refine wp_seq ?_
                refine wp_seq ?_
                refine wp_mid (fun a w => ∃ (x_1518 : Bool), law06_StreamsStay.j5 (law06_StreamsStay.l4 a0 x_103 x_105 x_110 x_112 k_l4) a0 x_112 x_368 x_1518 = some true ∧ Kn 146 a [(0, v0_0), (4, .pointer (some ⟨b_7, 0, none⟩)), (5, v_113), (9, .int .i64 x_368), (91, .bool x_1518)] ∧ St [] w0 w R_117 [.row 60 2 v_106 x_105.length cs_107, .mp b_109 (kvs Value.string (Value.int .i64) x_110), .cells b_7 [.int .i64 x_103, v_106, .map (some b_109)] 56, .row 3 1 v_113 x_112.length cs_114]) ?_ ?_
                · refine wp_region_lit ?_
                  refine sl hK (by decide) rfl rfl (r_move hK rfl) fun a hK => ?_
                  refine sl hK (by decide) rfl rfl (r_move hK rfl) fun a hK => ?_
                  obtain ⟨y_1520, h_1521, H⟩ := bind_some H
                  obtain ⟨b_1523, c_1524, cs_1525, hv_1522, hr_1526, hc_1527, h_15210, h_15211⟩ := hS.row_ix (.tail _ (.tail _ (.tail _ (.head _)))) hq_115 rfl rfl h_1521
                  subst hr_1526
                  refine sl hK (by decide) rfl rfl (r_indexAddr_R Tryd.underlying26 Tryd.sizeOf3 hv_1522 h_15210 h_15211 hK rfl rfl) fun a hK => ?_
                  refine sl hK (by decide) rfl rfl (r_load Tryd.isAgg3 hK rfl (hS.row_cell (.tail _ (.tail _ (.tail _ (.head _)))) hv_1522 (hc_1527 0 _ rfl))) fun a hK => ?_
                  refine sl hK (by decide) rfl rfl (r_ibin hK rfl rfl rfl) fun a hK => ?_
                  refine sl hK (by decide) rfl rfl (r_move hK rfl) fun a hK => ?_
                  rcases or_b (decide (y_1520 ≥ 0)) with hb_1528 | hb_1528
                  · rw [ifb_t hb_1528] at H
                    refine sl hK (by decide) (wtt hb_1528) rfl (r_move hK rfl) fun a hK => ?_
                    refine sl hK (by decide) (wtt hb_1528) rfl (r_un hK rfl (u_not _)) fun a hK => ?_
                    refine sl hK (by decide) (wtt hb_1528) rfl (r_move hK rfl) fun a hK => ?_
                    rcases or_b (!y_1498.2) with hb_1529 | hb_1529
                    · rw [ifb_t hb_1529] at H
                      refine sl_skip hK (by decide) (wft hb_1529) rfl fun a hK => ?_
                      refine sl_skip hK (by decide) (wft hb_1529) rfl fun a hK => ?_
                      refine sl_skip hK (by decide) (wft hb_1529) rfl fun a hK => ?_
                      refine sl_skip hK (by decide) (wft hb_1529) rfl fun a hK => ?_
                      refine sl_skip hK (by decide) (wft hb_1529) rfl fun a hK => ?_
                      refine sl_skip hK (by decide) (wft hb_1529) rfl fun a hK => ?_
                      refine sl hK (by decide) (wtt hb_1528) rfl (r_pick_t hb_1529 hK rfl rfl) fun a hK => ?_
                      refine sl hK (by decide) rfl rfl (r_pick_t hb_1528 hK rfl rfl) fun a hK => ?_
                      refine wpList_nil ?_
                      have hS := hS.pk3
                      have hS := hS.pk3
                      have hS := hS.pk3
                      have hS := hS.pk3
                      exact ⟨true, H, hK.sub (all_cons rfl (all_cons rfl (all_cons rfl (all_cons rfl (all_cons rfl (all_nil)))))), hS⟩
                    · rw [ifb_f hb_1529] at H
                      refine sl hK (by decide) (wff hb_1529) rfl (r_move hK rfl) fun a hK => ?_
                      refine sl hK (by decide) (wff hb_1529) rfl (r_move hK rfl) fun a hK => ?_
                      refine sl hK (by decide) (wff hb_1529) rfl (r_move hK rfl) fun a hK => ?_
                      obtain ⟨y_1530, h_1531, H⟩ := bind_some H
                      obtain ⟨b_1533, c_1534, cs_1535, hv_1532, hr_1536, hc_1537, h_15310, h_15311⟩ := hS.row_ix (.tail _ (.tail _ (.tail _ (.head _)))) hq_115 rfl rfl h_1531
                      subst hr_1536
                      refine sl hK (by decide) (wff hb_1529) rfl (r_indexAddr_R Tryd.underlying26 Tryd.sizeOf3 hv_1532 h_15310 h_15311 hK rfl rfl) fun a hK => ?_
                      refine sl hK (by decide) (wff hb_1529) rfl (r_load Tryd.isAgg3 hK rfl (hS.row_cell (.tail _ (.tail _ (.tail _ (.head _)))) hv_1532 (hc_1537 0 _ rfl))) fun a hK => ?_
                      refine sl hK (by decide) (wff hb_1529) rfl (r_ibin hK rfl rfl rfl) fun a hK => ?_
                      refine sl hK (by decide) (wtt hb_1528) rfl (r_pick_f hb_1529 hK rfl rfl) fun a hK => ?_
                      refine sl hK (by decide) rfl rfl (r_pick_t hb_1528 hK rfl rfl) fun a hK => ?_
                      refine wpList_nil ?_
                      have hS := hS.pk3
                      have hS := hS.pk3
                      have hS := hS.pk3
                      have hS := hS.pk3
                      exact ⟨(y_1498.1 != y_1530), H, hK.sub (all_cons rfl (all_cons rfl (all_cons rfl (all_cons rfl (all_cons rfl (all_nil)))))), hS⟩
                  · rw [ifb_f hb_1528] at H
                    refine sl_skip hK (by decide) (wtf hb_1528) rfl fun a hK => ?_
                    refine sl_skip hK (by decide) (wtf hb_1528) rfl fun a hK => ?_
                    refine sl_skip hK (by decide) (wtf hb_1528) rfl fun a hK => ?_
                    refine sl_skip hK (by decide) rfl rfl fun a hK => ?_
                    refine sl_skip hK (by decide) rfl rfl fun a hK => ?_
                    refine sl_skip hK (by decide) rfl rfl fun a hK => ?_
                    refine sl_skip hK (by decide) rfl rfl fun a hK => ?_
                    refine sl_skip hK (by decide) rfl rfl fun a hK => ?_
                    refine sl_skip hK (by decide) rfl rfl fun a hK => ?_
                    refine sl_skip hK (by decide) (wtf hb_1528) rfl fun a hK => ?_
                    refine sl hK (by decide) rfl rfl (r_pick_f hb_1528 hK rfl rfl) fun a hK => ?_
                    refine wpList_nil ?_
                    have hS := hS.pk3
                    have hS := hS.pk3
                    have hS := hS.pk3
                    have hS := hS.pk3
                    exact ⟨false, H, hK.sub (all_cons rfl (all_cons rfl (all_cons rfl (all_cons rfl (all_cons rfl (all_nil)))))), hS⟩
                · rintro a w ⟨x_1518, H, hK, hS⟩
                  unfold law06_StreamsStay.j5 at H
                  refine wp_cond_split (hK.ev rfl) (fun (hb_1538 : x_1518 = true) => ?_) (fun (hb_1538 : x_1518 = false) => ?_)
                  · rw [ifb_t hb_1538] at H
                    refine wp_seq ?_
                    refine wp_region_lit ?_
                    refine sl hK (by decide) rfl rfl (r_assign hK rfl) fun a hK => ?_
                    refine wpList_nil ?_
                    exact absurd (Option.some.inj H) (by decide)
                  · rw [ifb_f hb_1538] at H
                    refine wp_skip ?_
                    refine wp_seq ?_
                    refine wp_region_lit ?_
                    refine sl hK (by decide) rfl rfl (r_assign hK rfl) fun a hK => ?_
                    refine wpList_nil ?_
                    refine wp_block ?_
                    refine wp_loop_k (fun k_l6 a w => ∃ (x_1870 : Int), law06_StreamsStay.l6 (law06_StreamsStay.l4 a0 x_103 x_105 x_110 x_112 k_l4) a0 x_112 x_368 k_l6 x_1870 = some true ∧ Kn 146 a [(0, v0_0), (4, .pointer (some ⟨b_7, 0, none⟩)), (5, v_113), (9, .int .i64 x_368), (12, .int .i64 x_1870)] ∧ St [] w0 w R_117 [.row 60 2 v_106 x_105.length cs_107, .mp b_109 (kvs Value.string (Value.int .i64) x_110), .cells b_7 [.int .i64 x_103, v_106, .map (some b_109)] 56, .row 3 1 v_113 x_112.length cs_114]) ((x_368 - 0).toNat + 1) ?_ ?_
                    · have hS := hS.pk3
                      have hS := hS.pk3
                      have hS := hS.pk3
                      have hS := hS.pk3
                      exact ⟨0, H, hK.sub (all_cons rfl (all_cons rfl (all_cons rfl (all_cons rfl (all_cons rfl (all_nil)))))), hS⟩
                    · rintro k_l6 a w ⟨x_1870, H, hK, hS⟩
                      cases k_l6 with
                      | zero => cases H
                      | succ k_l6 =>
                      rw [law06_StreamsStay.l6.eq_2] at H
                      refine wp_seq ?_
                      refine wp_seq ?_
                      refine wp_region_lit ?_
                      refine sl hK (by decide) rfl rfl (r_move hK rfl) fun a hK => ?_
                      refine sl hK (by decide) rfl rfl (r_move hK rfl) fun a hK => ?_
                      refine sl hK (by decide) rfl rfl (r_ibin hK rfl rfl rfl) fun a hK => ?_
                      refine wpList_nil ?_
                      refine wp_cond_split (hK.ev rfl) (fun (hb_2202 : (decide (x_1870 < x_368)) = true) => ?_) (fun (hb_2202 : (decide (x_1870 < x_368)) = false) => ?_)
                      · rw [ifb_t hb_2202] at H
                        refine wp_skip ?_
                        refine wp_seq ?_
                        refine wp_block ?_
                        refine wp_seq ?_
                        refine wp_mid (fun a w => ∃ (x_2297 : Bool), law06_StreamsStay.j7 (law06_StreamsStay.l6 (law06_StreamsStay.l4 a0 x_103 x_105 x_110 x_112 k_l4) a0 x_112 x_368 k_l6) x_112 x_368 x_1870 x_2297 = some true ∧ Kn 146 a [(0, v0_0), (4, .pointer (some ⟨b_7, 0, none⟩)), (5, v_113), (9, .int .i64 x_368), (12, .int .i64 x_1870), (13, .bool x_2297)] ∧ St [] w0 w R_117 [.row 60 2 v_106 x_105.length cs_107, .mp b_109 (kvs Value.string (Value.int .i64) x_110), .cells b_7 [.int .i64 x_103, v_106, .map (some b_109)] 56, .row 3 1 v_113 x_112.length cs_114]) ?_ ?_
                        · refine parT_region (C := fun w => St [] w0 w R_117 [.row 60 2 v_106 x_105.length cs_107, .mp b_109 (kvs Value.string (Value.int .i64) x_110), .cells b_7 [.int .i64 x_103, v_106, .map (some b_109)] 56, .row 3 1 v_113 x_112.length cs_114]) 22 [(0, true), (1, true), (2, true), (3, true), (4, true), (5, true), (6, true), (7, true), (8, true), (9, true), (10, true), (11, true), (12, true), (13, true), (14, true), (15, true), (16, true), (17, true), (18, true), (19, true), (20, true), (21, true)] mixed (by kernel_rfl) hS (fun w hS => hS) fun w hS => ?_
                          refine sp (k := 0) rfl hK (by decide) rfl rfl (fun w hS => r_move hK rfl) fun a hK => ?_
                          refine sp (k := 1) rfl hK (by decide) rfl rfl (fun w hS => r_move hK rfl) fun a hK => ?_
                          obtain ⟨y_2346, h_2347, H⟩ := bind_some H
                          obtain ⟨b_2348, o_2349, c_2350, cs_2351, hv_2352, hr_2353, hc_2354, h_23470, h_23471⟩ := h0_0.ix h_2347
                          obtain ⟨v_2355, rfl, hs_2356⟩ := hr_2353
                          refine sp (k := 2) rfl hK (by decide) rfl rfl (fun w hS => r_indexAddr_R Tryd.underlying22 Tryd.sizeOf32 hv_2352 h_23470 h_23471 hK rfl rfl) fun a hK => ?_
                          refine sp (k := 3) rfl hK (by decide) rfl rfl (fun w hS => r_fieldAddr Tryd.underlying32 rfl Tryd.sizeOf9 hK rfl) fun a hK => ?_
                          refine sp (k := 4) rfl hK (by decide) rfl rfl (fun w hS => r_load Tryd.isAgg9 hK rfl ((hS.ra hRA nil_not).cell (hc_2354 0 _ rfl))) fun a hK => ?_
                          refine sp (k := 5) rfl hK (by decide) rfl rfl (fun w hS => r_move hK rfl) fun a hK => ?_
                          refine sp (k := 6) rfl hK (by decide) rfl rfl (fun w hS => r_move hK rfl) fun a hK => ?_
                          obtain ⟨y_2357, h_2358, H⟩ := bind_some H
                          obtain ⟨b_2359, o_2360, c_2361, cs_2362, hv_2363, hr_2364, hc_2365, h_23580, h_23581⟩ := h0_0.ix h_2358
                          obtain ⟨v_2366, rfl, hs_2367⟩ := hr_2364
                          refine sp (k := 7) rfl hK (by decide) rfl rfl (fun w hS => r_indexAddr_R Tryd.underlying22 Tryd.sizeOf32 hv_2363 h_23580 h_23581 hK rfl rfl) fun a hK => ?_
                          refine sp (k := 8) rfl hK (by decide) rfl rfl (fun w hS => r_fieldAddr Tryd.underlying32 rfl Tryd.sizeOf9 hK rfl) fun a hK => ?_
                          refine sp (k := 9) rfl hK (by decide) rfl rfl (fun w hS => r_load Tryd.isAgg9 hK rfl ((hS.ra hRA nil_not).cell (hc_2365 0 _ rfl))) fun a hK => ?_
                          refine sp (k := 10) rfl hK (by decide) rfl rfl (fun w hS => r_sbin hK rfl rfl rfl) fun a hK => ?_
                          refine sp (k := 11) rfl hK (by decide) rfl rfl (fun w hS => r_move hK rfl) fun a hK => ?_
                          rcases or_b (y_2346.Name.toList == y_2357.Name.toList) with hb_2368 | hb_2368
                          · rw [ifb_t hb_2368] at H
                            refine sp (k := 12) rfl hK (by decide) (wtt hb_2368) rfl (fun w hS => r_move hK rfl) fun a hK => ?_
                            refine sp (k := 13) rfl hK (by decide) (wtt hb_2368) rfl (fun w hS => r_move hK rfl) fun a hK => ?_
                            obtain ⟨y_2369, h_2370, H⟩ := bind_some H
                            obtain ⟨b_2371, o_2372, c_2373, cs_2374, hv_2375, hr_2376, hc_2377, h_23700, h_23701⟩ := h0_0.ix h_2370
                            obtain ⟨v_2378, rfl, hs_2379⟩ := hr_2376
                            refine sp (k := 14) rfl hK (by decide) (wtt hb_2368) rfl (fun w hS => r_indexAddr_R Tryd.underlying22 Tryd.sizeOf32 hv_2375 h_23700 h_23701 hK rfl rfl) fun a hK => ?_
                            refine sp (k := 15) rfl hK (by decide) (wtt hb_2368) rfl (fun w hS => r_fieldAddr Tryd.underlying32 rfl Tryd.sizeOf30 hK rfl) fun a hK => ?_
                            refine sp (k := 16) rfl hK (by decide) (wtt hb_2368) rfl (fun w hS => r_load Tryd.isAgg30 hK rfl ((hS.ra hRA nil_not).cell (hc_2377 1 _ rfl))) fun a hK => ?_
                            refine sp (k := 17) rfl hK (by decide) (wtt hb_2368) rfl (fun w hS => r_move hK rfl) fun a hK => ?_
                            refine sp (k := 18) rfl hK (by decide) (wtt hb_2368) rfl (fun w hS => r_move hK rfl) fun a hK => ?_
                            obtain ⟨y_2380, h_2381, H⟩ := bind_some H
                            obtain ⟨b_2382, o_2383, c_2384, cs_2385, hv_2386, hr_2387, hc_2388, h_23810, h_23811⟩ := h0_0.ix h_2381
                            obtain ⟨v_2389, rfl, hs_2390⟩ := hr_2387
                            refine sp (k := 19) rfl hK (by decide) (wtt hb_2368) rfl (fun w hS => r_indexAddr_R Tryd.underlying22 Tryd.sizeOf32 hv_2386 h_23810 h_23811 hK rfl rfl) fun a hK => ?_
                            refine sp (k := 20) rfl hK (by decide) (wtt hb_2368) rfl (fun w hS => r_fieldAddr Tryd.underlying32 rfl Tryd.sizeOf30 hK rfl) fun a hK => ?_
                            refine sp (k := 21) rfl hK (by decide) (wtt hb_2368) rfl (fun w hS => r_load Tryd.isAgg30 hK rfl ((hS.ra hRA nil_not).cell (hc_2388 1 _ rfl))) fun a hK => ?_
                            refine thenL_nil ?_
                            obtain ⟨y_2391, h_2392, H⟩ := bind_some H
                            refine sl_callV Tryd.call10 hS hK (by decide) (wtt hb_2368) rfl rfl (law06_same.calls y_2369.Keys y_2380.Keys (lentOf_sub [] _) (hs_2379.mono (hS.raLe0 hRA nil_not)) (hs_2390.mono (hS.raLe0 hRA nil_not)) h_2392) fun a w hS hK => ?_
                            refine sl hK (by decide) rfl rfl (r_pick_t hb_2368 hK rfl rfl) fun a hK => ?_
                            refine sl hK (by decide) rfl rfl (r_assign hK rfl) fun a hK => ?_
                            refine wpList_nil (NoP_nil ?_)
                            have hS := hS.pk3
                            have hS := hS.pk3
                            have hS := hS.pk3
                            have hS := hS.pk3
                            exact ⟨y_2391, H, hK.sub (all_cons rfl (all_cons rfl (all_cons rfl (all_cons rfl (all_cons rfl (all_cons rfl (all_nil))))))), hS⟩
                          · rw [ifb_f hb_2368] at H
                            refine sp_skip (k := 12) rfl hK (by decide) (wtf hb_2368) rfl fun a hK => ?_
                            refine sp_skip (k := 13) rfl hK (by decide) (wtf hb_2368) rfl fun a hK => ?_
                            refine sp_skip (k := 14) rfl hK (by decide) (wtf hb_2368) rfl fun a hK => ?_
                            refine sp_skip (k := 15) rfl hK (by decide) (wtf hb_2368) rfl fun a hK => ?_
                            refine sp_skip (k := 16) rfl hK (by decide) (wtf hb_2368) rfl fun a hK => ?_
                            refine sp_skip (k := 17) rfl hK (by decide) (wtf hb_2368) rfl fun a hK => ?_
                            refine sp_skip (k := 18) rfl hK (by decide) (wtf hb_2368) rfl fun a hK => ?_
                            refine sp_skip (k := 19) rfl hK (by decide) (wtf hb_2368) rfl fun a hK => ?_
                            refine sp_skip (k := 20) rfl hK (by decide) (wtf hb_2368) rfl fun a hK => ?_
                            refine sp_skip (k := 21) rfl hK (by decide) (wtf hb_2368) rfl fun a hK => ?_
                            refine thenL_nil ?_
                            refine sl_skip hK (by decide) (wtf hb_2368) rfl fun a hK => ?_
                            refine sl hK (by decide) rfl rfl (r_pick_f hb_2368 hK rfl rfl) fun a hK => ?_
                            refine sl hK (by decide) rfl rfl (r_assign hK rfl) fun a hK => ?_
                            refine wpList_nil (NoP_nil ?_)
                            have hS := hS.pk3
                            have hS := hS.pk3
                            have hS := hS.pk3
                            have hS := hS.pk3
                            exact ⟨false, H, hK.sub (all_cons rfl (all_cons rfl (all_cons rfl (all_cons rfl (all_cons rfl (all_cons rfl (all_nil))))))), hS⟩
                        · rintro a w ⟨x_2297, H, hK, hS⟩
                          unfold law06_StreamsStay.j7 at H
                          refine wp_seq ?_
                          refine wp_mid (fun a w => ∃ (x_2461 : Bool), law06_StreamsStay.j8 (law06_StreamsStay.l6 (law06_StreamsStay.l4 a0 x_103 x_105 x_110 x_112 k_l4) a0 x_112 x_368 k_l6) x_368 x_1870 x_2461 = some true ∧ Kn 146 a [(0, v0_0), (4, .pointer (some ⟨b_7, 0, none⟩)), (5, v_113), (9, .int .i64 x_368), (12, .int .i64 x_1870), (145, .bool x_2461)] ∧ St [] w0 w R_117 [.row 60 2 v_106 x_105.length cs_107, .mp b_109 (kvs Value.string (Value.int .i64) x_110), .cells b_7 [.int .i64 x_103, v_106, .map (some b_109)] 56, .row 3 1 v_113 x_112.length cs_114]) ?_ ?_
                          · refine par_region (C := fun w => St [] w0 w R_117 [.row 60 2 v_106 x_105.length cs_107, .mp b_109 (kvs Value.string (Value.int .i64) x_110), .cells b_7 [.int .i64 x_103, v_106, .map (some b_109)] 56, .row 3 1 v_113 x_112.length cs_114]) [(0, true), (1, true), (2, true), (3, true), (4, true), (5, true), (6, true), (7, true), (8, true), (9, true), (10, true), (11, true), (12, true), (13, true), (14, true), (15, true), (16, true), (17, true), (18, true), (19, true), (20, true), (21, true), (22, true), (23, true), (24, true)] mixed (by kernel_rfl) hS (fun w hS => hS) fun w hS => ?_
                            refine sp (k := 0) rfl hK (by decide) rfl rfl (fun w hS => r_move hK rfl) fun a hK => ?_
                            refine sp (k := 1) rfl hK (by decide) rfl rfl (fun w hS => r_move hK rfl) fun a hK => ?_
                            obtain ⟨y_2497, h_2498, H⟩ := bind_some H
                            obtain ⟨b_2500, c_2501, cs_2502, hv_2499, hr_2503, hc_2504, h_24980, h_24981⟩ := hS.row_ix (.tail _ (.tail _ (.tail _ (.head _)))) hq_115 rfl rfl h_2498
                            subst hr_2503
                            refine sp (k := 2) rfl hK (by decide) rfl rfl (fun w hS => r_indexAddr_R Tryd.underlying26 Tryd.sizeOf3 hv_2499 h_24980 h_24981 hK rfl rfl) fun a hK => ?_
                            refine sp (k := 3) rfl hK (by decide) rfl rfl (fun w hS => r_load Tryd.isAgg3 hK rfl (hS.row_cell (.tail _ (.tail _ (.tail _ (.head _)))) hv_2499 (hc_2504 0 _ rfl))) fun a hK => ?_
                            refine sp (k := 4) rfl hK (by decide) rfl rfl (fun w hS => r_ibin hK rfl rfl rfl) fun a hK => ?_
                            refine sp (k := 5) rfl hK (by decide) rfl rfl (fun w hS => r_move hK rfl) fun a hK => ?_
                            rcases or_b (decide (y_2497 ≥ 0)) with hb_2505 | hb_2505
                            · rw [ifb_t hb_2505] at H
                              refine sp (k := 6) rfl hK (by decide) (wtt hb_2505) rfl (fun w hS => r_move hK rfl) fun a hK => ?_
                              refine sp (k := 7) rfl hK (by decide) (wtt hb_2505) rfl (fun w hS => r_move hK rfl) fun a hK => ?_
                              obtain ⟨y_2506, h_2507, H⟩ := bind_some H
                              obtain ⟨b_2509, c_2510, cs_2511, hv_2508, hr_2512, hc_2513, h_25070, h_25071⟩ := hS.row_ix (.tail _ (.tail _ (.tail _ (.head _)))) hq_115 rfl rfl h_2507
                              subst hr_2512
                              refine sp (k := 8) rfl hK (by decide) (wtt hb_2505) rfl (fun w hS => r_indexAddr_R Tryd.underlying26 Tryd.sizeOf3 hv_2508 h_25070 h_25071 hK rfl rfl) fun a hK => ?_
                              refine sp (k := 9) rfl hK (by decide) (wtt hb_2505) rfl (fun w hS => r_load Tryd.isAgg3 hK rfl (hS.row_cell (.tail _ (.tail _ (.tail _ (.head _)))) hv_2508 (hc_2513 0 _ rfl))) fun a hK => ?_
                              refine sp (k := 10) rfl hK (by decide) (wtt hb_2505) rfl (fun w hS => r_ibin hK rfl rfl rfl) fun a hK => ?_
                              refine sp (k := 11) rfl hK (by decide) rfl rfl (fun w hS => r_pick_t hb_2505 hK rfl rfl) fun a hK => ?_
                              refine sp (k := 12) rfl hK (by decide) rfl rfl (fun w hS => r_move hK rfl) fun a hK => ?_
                              rcases or_b (decide (y_2506 ≥ 0)) with hb_2514 | hb_2514
                              · rw [ifb_t hb_2514] at H
                                refine sp (k := 13) rfl hK (by decide) (wtt hb_2514) rfl (fun w hS => r_move hK rfl) fun a hK => ?_
                                refine sp (k := 14) rfl hK (by decide) (wtt hb_2514) rfl (fun w hS => r_move hK rfl) fun a hK => ?_
                                obtain ⟨y_2515, h_2516, H⟩ := bind_some H
                                obtain ⟨b_2518, c_2519, cs_2520, hv_2517, hr_2521, hc_2522, h_25160, h_25161⟩ := hS.row_ix (.tail _ (.tail _ (.tail _ (.head _)))) hq_115 rfl rfl h_2516
                                subst hr_2521
                                refine sp (k := 15) rfl hK (by decide) (wtt hb_2514) rfl (fun w hS => r_indexAddr_R Tryd.underlying26 Tryd.sizeOf3 hv_2517 h_25160 h_25161 hK rfl rfl) fun a hK => ?_
                                refine sp (k := 16) rfl hK (by decide) (wtt hb_2514) rfl (fun w hS => r_load Tryd.isAgg3 hK rfl (hS.row_cell (.tail _ (.tail _ (.tail _ (.head _)))) hv_2517 (hc_2522 0 _ rfl))) fun a hK => ?_
                                refine sp (k := 17) rfl hK (by decide) (wtt hb_2514) rfl (fun w hS => r_move hK rfl) fun a hK => ?_
                                refine sp (k := 18) rfl hK (by decide) (wtt hb_2514) rfl (fun w hS => r_move hK rfl) fun a hK => ?_
                                obtain ⟨y_2523, h_2524, H⟩ := bind_some H
                                obtain ⟨b_2526, c_2527, cs_2528, hv_2525, hr_2529, hc_2530, h_25240, h_25241⟩ := hS.row_ix (.tail _ (.tail _ (.tail _ (.head _)))) hq_115 rfl rfl h_2524
                                subst hr_2529
                                refine sp (k := 19) rfl hK (by decide) (wtt hb_2514) rfl (fun w hS => r_indexAddr_R Tryd.underlying26 Tryd.sizeOf3 hv_2525 h_25240 h_25241 hK rfl rfl) fun a hK => ?_
                                refine sp (k := 20) rfl hK (by decide) (wtt hb_2514) rfl (fun w hS => r_load Tryd.isAgg3 hK rfl (hS.row_cell (.tail _ (.tail _ (.tail _ (.head _)))) hv_2525 (hc_2530 0 _ rfl))) fun a hK => ?_
                                refine sp (k := 21) rfl hK (by decide) (wtt hb_2514) rfl (fun w hS => r_ibin hK rfl rfl rfl) fun a hK => ?_
                                refine sp (k := 22) rfl hK (by decide) (wtt hb_2514) rfl (fun w hS => r_move hK rfl) fun a hK => ?_
                                refine sp (k := 23) rfl hK (by decide) (wtt hb_2514) rfl (fun w hS => r_bne Tryd.underlying4 hK rfl rfl) fun a hK => ?_
                                refine sp (k := 24) rfl hK (by decide) rfl rfl (fun w hS => r_pick_t hb_2514 hK rfl rfl) fun a hK => ?_
                                refine wpPar_nil (NoP_nil ?_)
                                have hS := hS.pk3
                                have hS := hS.pk3
                                have hS := hS.pk3
                                have hS := hS.pk3
                                exact ⟨(!((y_2515 == y_2523) == x_2297)), H, hK.sub (all_cons rfl (all_cons rfl (all_cons rfl (all_cons rfl (all_cons rfl (all_cons rfl (all_nil))))))), hS⟩
                              · rw [ifb_f hb_2514] at H
                                refine sp_skip (k := 13) rfl hK (by decide) (wtf hb_2514) rfl fun a hK => ?_
                                refine sp_skip (k := 14) rfl hK (by decide) (wtf hb_2514) rfl fun a hK => ?_
                                refine sp_skip (k := 15) rfl hK (by decide) (wtf hb_2514) rfl fun a hK => ?_
                                refine sp_skip (k := 16) rfl hK (by decide) (wtf hb_2514) rfl fun a hK => ?_
                                refine sp_skip (k := 17) rfl hK (by decide) (wtf hb_2514) rfl fun a hK => ?_
                                refine sp_skip (k := 18) rfl hK (by decide) (wtf hb_2514) rfl fun a hK => ?_
                                refine sp_skip (k := 19) rfl hK (by decide) (wtf hb_2514) rfl fun a hK => ?_
                                refine sp_skip (k := 20) rfl hK (by decide) (wtf hb_2514) rfl fun a hK => ?_
                                refine sp_skip (k := 21) rfl hK (by decide) (wtf hb_2514) rfl fun a hK => ?_
                                refine sp_skip (k := 22) rfl hK (by decide) (wtf hb_2514) rfl fun a hK => ?_
                                refine sp_skip (k := 23) rfl hK (by decide) (wtf hb_2514) rfl fun a hK => ?_
                                refine sp (k := 24) rfl hK (by decide) rfl rfl (fun w hS => r_pick_f hb_2514 hK rfl rfl) fun a hK => ?_
                                refine wpPar_nil (NoP_nil ?_)
                                have hS := hS.pk3
                                have hS := hS.pk3
                                have hS := hS.pk3
                                have hS := hS.pk3
                                exact ⟨false, H, hK.sub (all_cons rfl (all_cons rfl (all_cons rfl (all_cons rfl (all_cons rfl (all_cons rfl (all_nil))))))), hS⟩
                            · rw [ifb_f hb_2505] at H
                              refine sp_skip (k := 6) rfl hK (by decide) (wtf hb_2505) rfl fun a hK => ?_
                              refine sp_skip (k := 7) rfl hK (by decide) (wtf hb_2505) rfl fun a hK => ?_
                              refine sp_skip (k := 8) rfl hK (by decide) (wtf hb_2505) rfl fun a hK => ?_
                              refine sp_skip (k := 9) rfl hK (by decide) (wtf hb_2505) rfl fun a hK => ?_
                              refine sp_skip (k := 10) rfl hK (by decide) (wtf hb_2505) rfl fun a hK => ?_
                              refine sp (k := 11) rfl hK (by decide) rfl rfl (fun w hS => r_pick_f hb_2505 hK rfl rfl) fun a hK => ?_
                              refine sp (k := 12) rfl hK (by decide) rfl rfl (fun w hS => r_move hK rfl) fun a hK => ?_
                              refine sp_skip (k := 13) rfl hK (by decide) rfl rfl fun a hK => ?_
                              refine sp_skip (k := 14) rfl hK (by decide) rfl rfl fun a hK => ?_
                              refine sp_skip (k := 15) rfl hK (by decide) rfl rfl fun a hK => ?_
                              refine sp_skip (k := 16) rfl hK (by decide) rfl rfl fun a hK => ?_
                              refine sp_skip (k := 17) rfl hK (by decide) rfl rfl fun a hK => ?_
                              refine sp_skip (k := 18) rfl hK (by decide) rfl rfl fun a hK => ?_
                              refine sp_skip (k := 19) rfl hK (by decide) rfl rfl fun a hK => ?_
                              refine sp_skip (k := 20) rfl hK (by decide) rfl rfl fun a hK => ?_
                              refine sp_skip (k := 21) rfl hK (by decide) rfl rfl fun a hK => ?_
                              refine sp_skip (k := 22) rfl hK (by decide) rfl rfl fun a hK => ?_
                              refine sp_skip (k := 23) rfl hK (by decide) rfl rfl fun a hK => ?_
                              refine sp (k := 24) rfl hK (by decide) rfl rfl (fun w hS => r_pick hK rfl rfl rfl) fun a hK => ?_
                              refine wpPar_nil (NoP_nil ?_)
                              have hS := hS.pk3
                              have hS := hS.pk3
                              have hS := hS.pk3
                              have hS := hS.pk3
                              exact ⟨false, H, hK.sub (all_cons rfl (all_cons rfl (all_cons rfl (all_cons rfl (all_cons rfl (all_cons rfl (all_nil))))))), hS⟩
                          · rintro a w ⟨x_2461, H, hK, hS⟩
                            unfold law06_StreamsStay.j8 at H
                            refine wp_cond_split (hK.ev rfl) (fun (hb_2531 : x_2461 = true) => ?_) (fun (hb_2531 : x_2461 = false) => ?_)
                            · rw [ifb_t hb_2531] at H
                              refine wp_seq ?_
                              refine wp_region_lit ?_
                              refine sl hK (by decide) rfl rfl (r_assign hK rfl) fun a hK => ?_
                              refine wpList_nil ?_
                              exact absurd (Option.some.inj H) (by decide)
                            · rw [ifb_f hb_2531] at H
                              refine wp_skip ?_
                              refine wp_region_lit ?_
                              refine sl hK (by decide) rfl rfl (r_move hK rfl) fun a hK => ?_
                              refine sl hK (by decide) rfl rfl (r_ibin hK rfl rfl rfl) fun a hK => ?_
                              refine sl hK (by decide) rfl rfl (r_assign hK rfl) fun a hK => ?_
                              refine wpList_nil ?_
                              have hS := hS.pk3
                              have hS := hS.pk3
                              have hS := hS.pk3
                              have hS := hS.pk3
                              exact ⟨_, Nat.lt_succ_self _, (IntKind.i64.wrap (x_1870 + 1)), H, hK.sub (all_cons rfl (all_cons rfl (all_cons rfl (all_cons rfl (all_cons rfl (all_nil)))))), hS⟩
                      · rw [ifb_f hb_2202] at H
                        refine wp_exit ?_
                        refine wp_region_lit ?_
                        refine sl hK (by decide) rfl rfl (r_move hK rfl) fun a hK => ?_
                        refine sl hK (by decide) rfl rfl (r_ibin hK rfl rfl rfl) fun a hK => ?_
                        refine sl hK (by decide) rfl rfl (r_assign hK rfl) fun a hK => ?_
                        refine wpList_nil ?_
                        have hS := hS.pk3
                        have hS := hS.pk3
                        have hS := hS.pk3
                        have hS := hS.pk3
                        exact ⟨_, Nat.lt_succ_self _, (IntKind.i64.wrap (x_368 + 1)), H, hK.sub (all_cons rfl (all_cons rfl (all_cons rfl (all_cons rfl (all_nil))))), hS⟩
              · rw [ifb_f hb_1451] at H
                refine wp_exit ?_
                refine wp_seq ?_
                refine wp_region_lit ?_
                refine sl hK (by decide) rfl rfl (r_assign hK rfl) fun a hK => ?_
                refine wpList_nil ?_
                refine wp_ret ?_
                repeat (first | refine ret_then ?_ | refine ret_block ?_ | refine ret_scope ?_)
                exact ret_1 Tryd.results3 hK (rv_tmp hK rfl) ⟨rfl, hS.bel⟩

end Go.Proofs.YtffleadhhhpnlaaDoor.M
