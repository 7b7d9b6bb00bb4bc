/- Each Go function of the laws answers as its plain Lean function tells, wherever that tells something. Printed by wip/eng/gen.py. -/
import Derived.Test.YtjklfkiaebipnaaWalk3
namespace Go.Proofs.Ytjklfkiaebipnaa.M
open Go Go.Eng Go.Proofs Go.RowKit
set_option linter.unusedVariables false
set_option linter.unusedSimpArgs false

/-! ### catchment/catchmentlaw15.PredSides: function 7 -/
set_option maxHeartbeats 4000000 in
set_option maxRecDepth 100000 in
theorem law15_PredSides.calls (a0 : ByteArray) (a1 : ByteArray) (a2 : api_Table) {w0 : World} {R : Hp} {RA : Hp} {v2_0 : Value} {v2_1 : Value} (hRA : RA.sub w0) (hR : R.sub w0) (h2_0 : SlR ty_api_Col R v2_0 a2.Cols) (h2_1 : SlR (tySl ty_api_Value) R v2_1 a2.Rows) (hG : GF RA) (H : law15_PredSides a0 a1 a2 = some true) : CallsV Try.prog 7 #[.string a0, .string a1, .agg #[v2_0, v2_1]] w0 (.bool true) := by
  unfold law15_PredSides at H
  refine enter (args := [.string a0, .string a1, .agg #[v2_0, v2_1]]) Try.func7 rfl Try.ntmps7 rfl fun a hK => ?_
  have hS := St.init hR
  have hRL := RLe.refl (M := []) w0 R
  refine wp_seq ?_
  refine wp_region_lit ?_
  refine sl_box hS hK (by decide) rfl rfl (c := [v2_0, v2_1]) rfl fun a w b_1 hS hK => ?_
  refine sl hK (by decide) rfl rfl (r_assign hK rfl) fun a hK => ?_
  refine wpList_nil ?_
  refine wp_seq ?_
  refine wp_region_lit ?_
  obtain ⟨y_2, h_3, H⟩ := bind_some H
  refine sl_callV Try.call9 hS hK (by decide) rfl rfl rfl (law15_shown.calls (lentOf_sub [] _) (GF.mono (hS.raLe0 hRA nil_not) hG) h_3) fun a w hS hK => ?_
  refine sl hK (by decide) rfl rfl (r_assign hK rfl) fun a hK => ?_
  refine wpList_nil ?_
  refine wp_seq ?_
  refine wp_region_lit ?_
  refine sl hK (by decide) rfl rfl (r_loadA (cs := [v2_0, v2_1]) Try.isAgg28 Try.sizeOf28 rfl hK rfl (hS.cells_of (m := 2) (.head _) rfl)) fun a hK => ?_
  obtain ⟨y_4, h_5, H⟩ := bind_some H
  refine sl_call Try.call11 hK (by decide) rfl rfl rfl (law15_cut.calls a2 hS.sub h2_0 h2_1 h_5) fun a v_ w hv_ hK => ?_
  obtain ⟨R_6, v_8, v_10, hv_, hr_, hl_7, hs_9, hs_11⟩ := hv_
  have hv_ := hv_.symm
  subst hv_
  obtain ⟨hS, hl_7⟩ := hS.sp0.back hr_ hl_7
  have hS := hS.un0
  have hRL := hRL.trans hl_7
  refine sl_storeA (vs := [v_8, v_10]) (c' := [v_8, v_10]) Try.sizeOf28 hS hK rfl rfl rfl rfl (all_cons hs_9.one (all_cons hs_11.one (all_nil))) (Nat.le_of_ble_eq_true rfl) rfl fun a w hS hK => ?_
  refine wpList_nil ?_
  refine wp_seq ?_
  refine wp_seq ?_
  refine wp_mid (fun a w => ∃ (x_19 : Bool), law15_PredSides.j0 a0 a1 y_2 y_4 x_19 = some true ∧ Kn 124 a [(0, .string a0), (1, .string a1), (5, .pointer (some ⟨b_1, 0, none⟩)), (7, .bool y_2), (45, .bool x_19)] ∧ St [] w0 w R_6 [.cells b_1 [v_8, v_10] 28]) ?_ ?_
  · refine wp_region_lit ?_
    refine sl hK (by decide) rfl rfl (r_move hK rfl) fun a hK => ?_
    refine sl hK (by decide) rfl rfl (r_len_str Try.underlying9 hK rfl) fun a hK => ?_
    refine sl hK (by decide) rfl rfl (r_ibin hK rfl rfl rfl) fun a hK => ?_
    refine sl hK (by decide) rfl rfl (r_move hK rfl) fun a hK => ?_
    rcases or_b (decide ((a0.size : Int) > 500)) with hb_21 | hb_21
    · rw [ifb_t hb_21] at H
      refine sl_skip hK (by decide) (wft hb_21) rfl fun a hK => ?_
      refine sl_skip hK (by decide) (wft hb_21) rfl fun a hK => ?_
      refine sl_skip hK (by decide) (wft hb_21) rfl fun a hK => ?_
      refine sl hK (by decide) rfl rfl (r_pick_t hb_21 hK rfl rfl) fun a hK => ?_
      refine sl hK (by decide) rfl rfl (r_move hK rfl) fun a hK => ?_
      refine sl_skip hK (by decide) rfl rfl fun a hK => ?_
      refine sl_skip hK (by decide) rfl rfl fun a hK => ?_
      refine sl_skip hK (by decide) rfl rfl fun a hK => ?_
      refine sl hK (by decide) rfl rfl (r_pick hK rfl rfl rfl) fun a hK => ?_
      refine sl hK (by decide) rfl rfl (r_move hK rfl) fun a hK => ?_
      refine sl_skip hK (by decide) rfl rfl fun a hK => ?_
      refine sl_skip hK (by decide) rfl rfl fun a hK => ?_
      refine sl_skip hK (by decide) rfl rfl fun a hK => ?_
      refine sl hK (by decide) rfl rfl (r_pick hK rfl rfl rfl) fun a hK => ?_
      refine wpList_nil ?_
      exact ⟨true, H, hK.sub (all_cons rfl (all_cons rfl (all_cons rfl (all_cons rfl (all_cons rfl (all_nil)))))), hS⟩
    · rw [ifb_f hb_21] at H
      refine sl hK (by decide) (wff hb_21) rfl (r_move hK rfl) fun a hK => ?_
      refine sl hK (by decide) (wff hb_21) rfl (r_len_str Try.underlying9 hK rfl) fun a hK => ?_
      refine sl hK (by decide) (wff hb_21) rfl (r_ibin hK rfl rfl rfl) fun a hK => ?_
      refine sl hK (by decide) rfl rfl (r_pick_f hb_21 hK rfl rfl) fun a hK => ?_
      refine sl hK (by decide) rfl rfl (r_move hK rfl) fun a hK => ?_
      rcases or_b (decide ((a1.size : Int) > 500)) with hb_22 | hb_22
      · rw [ifb_t hb_22] at H
        refine sl_skip hK (by decide) (wft hb_22) rfl fun a hK => ?_
        refine sl_skip hK (by decide) (wft hb_22) rfl fun a hK => ?_
        refine sl_skip hK (by decide) (wft hb_22) rfl fun a hK => ?_
        refine sl hK (by decide) rfl rfl (r_pick_t hb_22 hK rfl rfl) fun a hK => ?_
        refine sl hK (by decide) rfl rfl (r_move hK rfl) fun a hK => ?_
        refine sl_skip hK (by decide) rfl rfl fun a hK => ?_
        refine sl_skip hK (by decide) rfl rfl fun a hK => ?_
        refine sl_skip hK (by decide) rfl rfl fun a hK => ?_
        refine sl hK (by decide) rfl rfl (r_pick hK rfl rfl rfl) fun a hK => ?_
        refine wpList_nil ?_
        exact ⟨true, H, hK.sub (all_cons rfl (all_cons rfl (all_cons rfl (all_cons rfl (all_cons rfl (all_nil)))))), hS⟩
      · rw [ifb_f hb_22] at H
        refine sl hK (by decide) (wff hb_22) rfl (r_move hK rfl) fun a hK => ?_
        obtain ⟨y_23, h_24, H⟩ := bind_some H
        refine sl_callV Try.call20 hS hK (by decide) (wff hb_22) rfl rfl (law15_alone.calls a0 h_24 _) fun a w hS hK => ?_
        refine sl hK (by decide) (wff hb_22) rfl (r_un hK rfl (u_not _)) fun a hK => ?_
        refine sl hK (by decide) rfl rfl (r_pick_f hb_22 hK rfl rfl) fun a hK => ?_
        refine sl hK (by decide) rfl rfl (r_move hK rfl) fun a hK => ?_
        rcases or_b (!y_23) with hb_25 | hb_25
        · rw [ifb_t hb_25] at H
          refine sl_skip hK (by decide) (wft hb_25) rfl fun a hK => ?_
          refine sl_skip hK (by decide) (wft hb_25) rfl fun a hK => ?_
          refine sl_skip hK (by decide) (wft hb_25) rfl fun a hK => ?_
          refine sl hK (by decide) rfl rfl (r_pick_t hb_25 hK rfl rfl) fun a hK => ?_
          refine wpList_nil ?_
          exact ⟨true, H, hK.sub (all_cons rfl (all_cons rfl (all_cons rfl (all_cons rfl (all_cons rfl (all_nil)))))), hS⟩
        · rw [ifb_f hb_25] at H
          refine sl hK (by decide) (wff hb_25) rfl (r_move hK rfl) fun a hK => ?_
          obtain ⟨y_26, h_27, H⟩ := bind_some H
          refine sl_callV Try.call20 hS hK (by decide) (wff hb_25) rfl rfl (law15_alone.calls a1 h_27 _) fun a w hS hK => ?_
          refine sl hK (by decide) (wff hb_25) rfl (r_un hK rfl (u_not _)) fun a hK => ?_
          refine sl hK (by decide) rfl rfl (r_pick_f hb_25 hK rfl rfl) fun a hK => ?_
          refine wpList_nil ?_
          exact ⟨(!y_26), H, hK.sub (all_cons rfl (all_cons rfl (all_cons rfl (all_cons rfl (all_cons rfl (all_nil)))))), hS⟩
  · rintro a w ⟨x_19, H, hK, hS⟩
    unfold law15_PredSides.j0 at H
    refine wp_cond_split (hK.ev rfl) (fun (hb_28 : x_19 = true) => ?_) (fun (hb_28 : x_19 = false) => ?_)
    · rw [ifb_t hb_28] at H
      refine wp_seq ?_
      refine wp_region_lit ?_
      refine sl hK (by decide) rfl rfl (r_move hK rfl) fun a hK => ?_
      refine sl hK (by decide) rfl rfl (r_assign hK rfl) fun a hK => ?_
      refine wpList_nil ?_
      have hr_ := Option.some.inj H
      refine wp_ret ?_
      repeat (first | refine ret_then ?_ | refine ret_block ?_ | refine ret_scope ?_)
      exact ret_1 Try.results7 hK (rv_tmp hK rfl) ⟨congrArg (fun b => Ending.returned (Value.bool b)) hr_, hS.bel⟩
    · rw [ifb_f hb_28] at H
      refine wp_skip ?_
      refine wp_seq ?_
      refine wp_seq ?_
      refine wp_region_lit ?_
      refine sl hK (by decide) rfl rfl (r_assign hK rfl) fun a hK => ?_
      refine wpList_nil ?_
      refine wp_block ?_
      refine wp_loop_k (fun k_l1 a w => ∃ (x_112 : Int) (R_113 : Hp), law15_PredSides.l1 a0 a1 y_2 y_4 k_l1 x_112 = some true ∧ RLe [] w0 R_6 R_113 ∧ Kn 124 a [(0, .string a0), (1, .string a1), (5, .pointer (some ⟨b_1, 0, none⟩)), (7, .bool y_2), (8, .int .i64 x_112)] ∧ St [] w0 w R_113 [.cells b_1 [v_8, v_10] 28]) (((2 : Int) - 0).toNat + 1) ?_ ?_
      · exact ⟨0, _, H, (RLe.refl _ _), hK.sub (all_cons rfl (all_cons rfl (all_cons rfl (all_cons rfl (all_cons rfl (all_nil)))))), hS⟩
      · rintro k_l1 a w ⟨x_112, R_113, H, hl_114, hK, hS⟩
        cases k_l1 with
        | zero => cases H
        | succ k_l1 =>
        rw [law15_PredSides.l1.eq_2] at H
        have hRL := hRL.trans hl_114
        refine wp_seq ?_
        refine wp_seq ?_
        refine wp_region_lit ?_
        refine sl hK (by decide) rfl rfl (r_move hK rfl) fun a hK => ?_
        refine sl hK (by decide) rfl rfl (r_ibin hK rfl rfl rfl) fun a hK => ?_
        refine wpList_nil ?_
        refine wp_cond_split (hK.ev rfl) (fun (hb_202 : (decide (x_112 < 2)) = true) => ?_) (fun (hb_202 : (decide (x_112 < 2)) = false) => ?_)
        · rw [ifb_t hb_202] at H
          refine wp_skip ?_
          refine wp_seq ?_
          refine wp_block ?_
          refine wp_seq ?_
          refine wp_region_lit ?_
          refine sl hK (by decide) rfl rfl (r_assign hK rfl) fun a hK => ?_
          refine wpList_nil ?_
          refine wp_seq ?_
          refine wp_seq ?_
          refine wp_region_lit ?_
          refine sl hK (by decide) rfl rfl (r_move hK rfl) fun a hK => ?_
          refine sl hK (by decide) rfl rfl (r_ibin hK rfl rfl rfl) fun a hK => ?_
          refine wpList_nil ?_
          refine wp_mid (fun a w => ∃ (x_204 : ByteArray), law15_PredSides.j2 (law15_PredSides.l1 a0 a1 y_2 y_4 k_l1) a0 a1 y_2 y_4 x_112 x_204 = some true ∧ Kn 124 a [(0, .string a0), (1, .string a1), (5, .pointer (some ⟨b_1, 0, none⟩)), (7, .bool y_2), (8, .int .i64 x_112), (9, .string x_204)] ∧ St [] w0 w R_113 [.cells b_1 [v_8, v_10] 28]) ?_ ?_
          · refine wp_cond_split (hK.ev rfl) (fun (hb_206 : (x_112 == 1) = true) => ?_) (fun (hb_206 : (x_112 == 1) = false) => ?_)
            · rw [ifb_t hb_206] at H
              refine wp_region_lit ?_
              refine sl hK (by decide) rfl rfl (r_assign hK rfl) fun a hK => ?_
              refine wpList_nil ?_
              exact ⟨(⟨#[41, 32, 111, 114, 32, 40]⟩ : ByteArray), H, hK.sub (all_cons rfl (all_cons rfl (all_cons rfl (all_cons rfl (all_cons rfl (all_cons rfl (all_nil))))))), hS⟩
            · rw [ifb_f hb_206] at H
              refine wp_skip ?_
              exact ⟨(⟨#[41, 32, 97, 110, 100, 32, 40]⟩ : ByteArray), H, hK.sub (all_cons rfl (all_cons rfl (all_cons rfl (all_cons rfl (all_cons rfl (all_cons rfl (all_nil))))))), hS⟩
          · rintro a w ⟨x_204, H, hK, hS⟩
            unfold law15_PredSides.j2 at H
            refine wp_seq ?_
            refine wp_region_lit ?_
            refine sl hK (by decide) rfl rfl (r_move hK rfl) fun a hK => ?_
            rcases or_b (decide ((⟨#[40]⟩ : ByteArray).size + a0.size ≤ 9223372036854775807)) with hn_207 | hn_207
            · rw [ifb_t hn_207] at H
              refine sl hK (by decide) rfl rfl (r_sadd hK rfl rfl (of_decide_eq_true hn_207)) fun a hK => ?_
              refine sl hK (by decide) rfl rfl (r_move hK rfl) fun a hK => ?_
              rcases or_b (decide (((⟨#[40]⟩ : ByteArray) ++ a0).size + x_204.size ≤ 9223372036854775807)) with hn_208 | hn_208
              · rw [ifb_t hn_208] at H
                refine sl hK (by decide) rfl rfl (r_sadd hK rfl rfl (of_decide_eq_true hn_208)) fun a hK => ?_
                refine sl hK (by decide) rfl rfl (r_move hK rfl) fun a hK => ?_
                rcases or_b (decide ((((⟨#[40]⟩ : ByteArray) ++ a0) ++ x_204).size + a1.size ≤ 9223372036854775807)) with hn_209 | hn_209
                · rw [ifb_t hn_209] at H
                  refine sl hK (by decide) rfl rfl (r_sadd hK rfl rfl (of_decide_eq_true hn_209)) fun a hK => ?_
                  rcases or_b (decide (((((⟨#[40]⟩ : ByteArray) ++ a0) ++ x_204) ++ a1).size + (⟨#[41]⟩ : ByteArray).size ≤ 9223372036854775807)) with hn_210 | hn_210
                  · rw [ifb_t hn_210] at H
                    refine sl hK (by decide) rfl rfl (r_sadd hK rfl rfl (of_decide_eq_true hn_210)) fun a hK => ?_
                    obtain ⟨y_211, h_212, H⟩ := bind_some H
                    refine sl_call Try.call17 hK (by decide) rfl rfl rfl (ref11_Lex.calls (((((⟨#[40]⟩ : ByteArray) ++ a0) ++ x_204) ++ a1) ++ (⟨#[41]⟩ : ByteArray)) hS.sub h_212) fun a v_ w hv_ hK => ?_
                    obtain ⟨R_213, v_216, cs_217, hv_, hr_, hl_214, hq_218⟩ := hv_
                    have hv_ := hv_.symm
                    subst hv_
                    obtain ⟨hS, hl_214⟩ := hS.sp0.back hr_ hl_214
                    have hS := hS.un1
                    have hRL := hRL.trans hl_214
                    refine sl hK (by decide) rfl rfl (r_move hK rfl) fun a hK => ?_
                    refine sl hK (by decide) rfl rfl (r_extract hK rfl rfl) fun a hK => ?_
                    refine sl hK (by decide) rfl rfl (r_extract hK rfl rfl) fun a hK => ?_
                    refine sl hK (by decide) rfl rfl (r_extract hK rfl rfl) fun a hK => ?_
                    refine sl hK (by decide) rfl rfl (r_assign hK rfl) fun a hK => ?_
                    refine sl hK (by decide) rfl rfl (r_assign hK rfl) fun a hK => ?_
                    refine sl hK (by decide) rfl rfl (r_assign hK rfl) fun a hK => ?_
                    refine wpList_nil ?_
                    refine wp_seq ?_
                    refine wp_region_lit ?_
                    refine sl hK (by decide) rfl rfl (r_move hK rfl) fun a hK => ?_
                    obtain ⟨y_219, h_220, H⟩ := bind_some H
                    have hS1 := hS.sp1
                    refine sl_call Try.call18 hK (by decide) rfl rfl rfl (ref12_Cond.calls y_211.1 hS1.lend hq_218 h_220) fun a v_ w hv_ hK => ?_
                    obtain ⟨R_221, v_224, cs_225, hv_, hr_, hl_222, hq_226⟩ := hv_
                    have hv_ := hv_.symm
                    subst hv_
                    obtain ⟨hS, hl_222⟩ := hS1.back hr_ hl_222
                    have hS := hS.un1
                    have hRL := hRL.trans hl_222
                    refine sl hK (by decide) rfl rfl (r_move hK rfl) fun a hK => ?_
                    refine sl hK (by decide) rfl rfl (r_extract hK rfl rfl) fun a hK => ?_
                    refine sl hK (by decide) rfl rfl (r_extract hK rfl rfl) fun a hK => ?_
                    refine sl hK (by decide) rfl rfl (r_extract hK rfl rfl) fun a hK => ?_
                    refine sl_alloc Try.zeroValue24 hS hK (by decide) rfl rfl fun a w b_227 hS hK => ?_
                    refine sl_storeA (vs := [v_224]) (c' := [v_224]) Try.sizeOf24 hS hK rfl rfl rfl rfl (all_cons (hS.row_one (.tail _ (.head _))) (all_nil)) (Nat.le_of_ble_eq_true rfl) rfl fun a w hS hK => ?_
                    refine sl hK (by decide) rfl rfl (r_assign hK rfl) fun a hK => ?_
                    refine sl hK (by decide) rfl rfl (r_assign hK rfl) fun a hK => ?_
                    refine wpList_nil ?_
                    refine wp_seq ?_
                    refine wp_region_lit ?_
                    refine sl hK (by decide) rfl rfl (r_move hK rfl) fun a hK => ?_
                    rcases or_b (decide ((⟨#[40]⟩ : ByteArray).size + a1.size ≤ 9223372036854775807)) with hn_228 | hn_228
                    · rw [ifb_t hn_228] at H
                      refine sl hK (by decide) rfl rfl (r_sadd hK rfl rfl (of_decide_eq_true hn_228)) fun a hK => ?_
                      refine sl hK (by decide) rfl rfl (r_move hK rfl) fun a hK => ?_
                      rcases or_b (decide (((⟨#[40]⟩ : ByteArray) ++ a1).size + x_204.size ≤ 9223372036854775807)) with hn_229 | hn_229
                      · rw [ifb_t hn_229] at H
                        refine sl hK (by decide) rfl rfl (r_sadd hK rfl rfl (of_decide_eq_true hn_229)) fun a hK => ?_
                        refine sl hK (by decide) rfl rfl (r_move hK rfl) fun a hK => ?_
                        rcases or_b (decide ((((⟨#[40]⟩ : ByteArray) ++ a1) ++ x_204).size + a0.size ≤ 9223372036854775807)) with hn_230 | hn_230
                        · rw [ifb_t hn_230] at H
                          refine sl hK (by decide) rfl rfl (r_sadd hK rfl rfl (of_decide_eq_true hn_230)) fun a hK => ?_
                          rcases or_b (decide (((((⟨#[40]⟩ : ByteArray) ++ a1) ++ x_204) ++ a0).size + (⟨#[41]⟩ : ByteArray).size ≤ 9223372036854775807)) with hn_231 | hn_231
                          · rw [ifb_t hn_231] at H
                            refine sl hK (by decide) rfl rfl (r_sadd hK rfl rfl (of_decide_eq_true hn_231)) fun a hK => ?_
                            obtain ⟨y_232, h_233, H⟩ := bind_some H
                            refine sl_call Try.call17 hK (by decide) rfl rfl rfl (ref11_Lex.calls (((((⟨#[40]⟩ : ByteArray) ++ a1) ++ x_204) ++ a0) ++ (⟨#[41]⟩ : ByteArray)) hS.sub h_233) fun a v_ w hv_ hK => ?_
                            obtain ⟨R_234, v_237, cs_238, hv_, hr_, hl_235, hq_239⟩ := hv_
                            have hv_ := hv_.symm
                            subst hv_
                            obtain ⟨hS, hl_235⟩ := hS.sp0.back hr_ hl_235
                            have hS := hS.un1
                            have hRL := hRL.trans hl_235
                            refine sl hK (by decide) rfl rfl (r_move hK rfl) fun a hK => ?_
                            refine sl hK (by decide) rfl rfl (r_extract hK rfl rfl) fun a hK => ?_
                            refine sl hK (by decide) rfl rfl (r_extract hK rfl rfl) fun a hK => ?_
                            refine sl hK (by decide) rfl rfl (r_extract hK rfl rfl) fun a hK => ?_
                            refine sl hK (by decide) rfl rfl (r_assign hK rfl) fun a hK => ?_
                            refine sl hK (by decide) rfl rfl (r_assign hK rfl) fun a hK => ?_
                            refine sl hK (by decide) rfl rfl (r_assign hK rfl) fun a hK => ?_
                            refine wpList_nil ?_
                            refine wp_seq ?_
                            refine wp_region_lit ?_
                            refine sl hK (by decide) rfl rfl (r_move hK rfl) fun a hK => ?_
                            obtain ⟨y_240, h_241, H⟩ := bind_some H
                            have hS1 := hS.sp1
                            refine sl_call Try.call18 hK (by decide) rfl rfl rfl (ref12_Cond.calls y_232.1 hS1.lend hq_239 h_241) fun a v_ w hv_ hK => ?_
                            obtain ⟨R_242, v_245, cs_246, hv_, hr_, hl_243, hq_247⟩ := hv_
                            have hv_ := hv_.symm
                            subst hv_
                            obtain ⟨hS, hl_243⟩ := hS1.back hr_ hl_243
                            have hS := hS.un1
                            have hRL := hRL.trans hl_243
                            refine sl hK (by decide) rfl rfl (r_move hK rfl) fun a hK => ?_
                            refine sl hK (by decide) rfl rfl (r_extract hK rfl rfl) fun a hK => ?_
                            refine sl hK (by decide) rfl rfl (r_extract hK rfl rfl) fun a hK => ?_
                            refine sl hK (by decide) rfl rfl (r_extract hK rfl rfl) fun a hK => ?_
                            refine sl_alloc Try.zeroValue24 hS hK (by decide) rfl rfl fun a w b_248 hS hK => ?_
                            refine sl_storeA (vs := [v_245]) (c' := [v_245]) Try.sizeOf24 hS hK rfl rfl rfl rfl (all_cons (hS.row_one (.tail _ (.head _))) (all_nil)) (Nat.le_of_ble_eq_true rfl) rfl fun a w hS hK => ?_
                            refine sl hK (by decide) rfl rfl (r_assign hK rfl) fun a hK => ?_
                            refine sl hK (by decide) rfl rfl (r_assign hK rfl) fun a hK => ?_
                            refine wpList_nil ?_
                            refine wp_seq ?_
                            refine wp_seq ?_
                            refine wp_mid (fun a w => ∃ (x_252 : Bool), law15_PredSides.j3 (law15_PredSides.l1 a0 a1 y_2 y_4 k_l1) y_2 y_4 x_112 y_219 y_240 x_252 = some true ∧ Kn 124 a [(0, .string a0), (1, .string a1), (5, .pointer (some ⟨b_1, 0, none⟩)), (7, .bool y_2), (8, .int .i64 x_112), (13, .pointer (some ⟨b_227, 0, none⟩)), (19, .pointer (some ⟨b_248, 0, none⟩)), (102, .bool x_252)] ∧ St [] w0 w R_242 [.cells b_1 [v_8, v_10] 28, .row 51 19 v_224 y_219.1.N.length cs_225, .cells b_227 [v_224] 24, .row 51 19 v_245 y_240.1.N.length cs_246, .cells b_248 [v_245] 24]) ?_ ?_
                            · refine wp_region_lit ?_
                              refine sl hK (by decide) rfl rfl (r_move hK rfl) fun a hK => ?_
                              refine sl hK (by decide) rfl rfl (r_ibin hK rfl rfl rfl) fun a hK => ?_
                              refine sl hK (by decide) rfl rfl (r_move hK rfl) fun a hK => ?_
                              rcases or_b (y_211.2.2 != 0) with hb_254 | hb_254
                              · rw [ifb_t hb_254] at H
                                refine sl_skip hK (by decide) (wft hb_254) rfl fun a hK => ?_
                                refine sl_skip hK (by decide) (wft hb_254) rfl fun a hK => ?_
                                refine sl hK (by decide) rfl rfl (r_pick_t hb_254 hK rfl rfl) fun a hK => ?_
                                refine sl hK (by decide) rfl rfl (r_move hK rfl) fun a hK => ?_
                                refine sl_skip hK (by decide) rfl rfl fun a hK => ?_
                                refine sl_skip hK (by decide) rfl rfl fun a hK => ?_
                                refine sl hK (by decide) rfl rfl (r_pick hK rfl rfl rfl) fun a hK => ?_
                                refine sl hK (by decide) rfl rfl (r_move hK rfl) fun a hK => ?_
                                refine sl_skip hK (by decide) rfl rfl fun a hK => ?_
                                refine sl_skip hK (by decide) rfl rfl fun a hK => ?_
                                refine sl hK (by decide) rfl rfl (r_pick hK rfl rfl rfl) fun a hK => ?_
                                refine wpList_nil ?_
                                have hS := hS.pk1
                                have hS := hS.pk2
                                have hS := hS.pk3
                                have hS := hS.pk4
                                exact ⟨true, H, hK.sub (all_cons rfl (all_cons rfl (all_cons rfl (all_cons rfl (all_cons rfl (all_cons rfl (all_cons rfl (all_cons rfl (all_nil))))))))), hS⟩
                              · rw [ifb_f hb_254] at H
                                refine sl hK (by decide) (wff hb_254) rfl (r_move hK rfl) fun a hK => ?_
                                refine sl hK (by decide) (wff hb_254) rfl (r_ibin hK rfl rfl rfl) fun a hK => ?_
                                refine sl hK (by decide) rfl rfl (r_pick_f hb_254 hK rfl rfl) fun a hK => ?_
                                refine sl hK (by decide) rfl rfl (r_move hK rfl) fun a hK => ?_
                                rcases or_b (y_219.2.2 != 0) with hb_255 | hb_255
                                · rw [ifb_t hb_255] at H
                                  refine sl_skip hK (by decide) (wft hb_255) rfl fun a hK => ?_
                                  refine sl_skip hK (by decide) (wft hb_255) rfl fun a hK => ?_
                                  refine sl hK (by decide) rfl rfl (r_pick_t hb_255 hK rfl rfl) fun a hK => ?_
                                  refine sl hK (by decide) rfl rfl (r_move hK rfl) fun a hK => ?_
                                  refine sl_skip hK (by decide) rfl rfl fun a hK => ?_
                                  refine sl_skip hK (by decide) rfl rfl fun a hK => ?_
                                  refine sl hK (by decide) rfl rfl (r_pick hK rfl rfl rfl) fun a hK => ?_
                                  refine wpList_nil ?_
                                  have hS := hS.pk1
                                  have hS := hS.pk2
                                  have hS := hS.pk3
                                  have hS := hS.pk4
                                  exact ⟨true, H, hK.sub (all_cons rfl (all_cons rfl (all_cons rfl (all_cons rfl (all_cons rfl (all_cons rfl (all_cons rfl (all_cons rfl (all_nil))))))))), hS⟩
                                · rw [ifb_f hb_255] at H
                                  refine sl hK (by decide) (wff hb_255) rfl (r_move hK rfl) fun a hK => ?_
                                  refine sl hK (by decide) (wff hb_255) rfl (r_ibin hK rfl rfl rfl) fun a hK => ?_
                                  refine sl hK (by decide) rfl rfl (r_pick_f hb_255 hK rfl rfl) fun a hK => ?_
                                  refine sl hK (by decide) rfl rfl (r_move hK rfl) fun a hK => ?_
                                  rcases or_b (y_232.2.2 != 0) with hb_256 | hb_256
                                  · rw [ifb_t hb_256] at H
                                    refine sl_skip hK (by decide) (wft hb_256) rfl fun a hK => ?_
                                    refine sl_skip hK (by decide) (wft hb_256) rfl fun a hK => ?_
                                    refine sl hK (by decide) rfl rfl (r_pick_t hb_256 hK rfl rfl) fun a hK => ?_
                                    refine wpList_nil ?_
                                    have hS := hS.pk1
                                    have hS := hS.pk2
                                    have hS := hS.pk3
                                    have hS := hS.pk4
                                    exact ⟨true, H, hK.sub (all_cons rfl (all_cons rfl (all_cons rfl (all_cons rfl (all_cons rfl (all_cons rfl (all_cons rfl (all_cons rfl (all_nil))))))))), hS⟩
                                  · rw [ifb_f hb_256] at H
                                    refine sl hK (by decide) (wff hb_256) rfl (r_move hK rfl) fun a hK => ?_
                                    refine sl hK (by decide) (wff hb_256) rfl (r_ibin hK rfl rfl rfl) fun a hK => ?_
                                    refine sl hK (by decide) rfl rfl (r_pick_f hb_256 hK rfl rfl) fun a hK => ?_
                                    refine wpList_nil ?_
                                    have hS := hS.pk1
                                    have hS := hS.pk2
                                    have hS := hS.pk3
                                    have hS := hS.pk4
                                    exact ⟨(y_240.2.2 != 0), H, hK.sub (all_cons rfl (all_cons rfl (all_cons rfl (all_cons rfl (all_cons rfl (all_cons rfl (all_cons rfl (all_cons rfl (all_nil))))))))), hS⟩
                            · rintro a w ⟨x_252, H, hK, hS⟩
                              unfold law15_PredSides.j3 at H
                              refine wp_cond_split (hK.ev rfl) (fun (hb_257 : x_252 = true) => ?_) (fun (hb_257 : x_252 = false) => ?_)
                              · rw [ifb_t hb_257] at H
                                refine wp_seq ?_
                                refine wp_region_lit ?_
                                refine sl hK (by decide) rfl rfl (r_move hK rfl) fun a hK => ?_
                                refine sl hK (by decide) rfl rfl (r_assign hK rfl) fun a hK => ?_
                                refine wpList_nil ?_
                                have hr_ := Option.some.inj H
                                refine wp_ret ?_
                                repeat (first | refine ret_then ?_ | refine ret_block ?_ | refine ret_scope ?_)
                                exact ret_1 Try.results7 hK (rv_tmp hK rfl) ⟨congrArg (fun b => Ending.returned (Value.bool b)) hr_, hS.bel⟩
                              · rw [ifb_f hb_257] at H
                                refine wp_skip ?_
                                refine wp_seq ?_
                                refine wp_region_lit ?_
                                refine sl hK (by decide) rfl rfl (r_loadA (cs := [v_8, v_10]) Try.isAgg28 Try.sizeOf28 rfl hK rfl (hS.cells_of (m := 2) (.head _) rfl)) fun a hK => ?_
                                refine sl hK (by decide) rfl rfl (r_loadA (cs := [v_224]) Try.isAgg24 Try.sizeOf24 rfl hK rfl (hS.cells_of (m := 1) (.tail _ (.tail _ (.head _))) rfl)) fun a hK => ?_
                                refine sl hK (by decide) rfl rfl (r_fieldAddr Try.underlying24 rfl Try.sizeOf22 hK rfl) fun a hK => ?_
                                refine sl hK (by decide) rfl rfl (r_load Try.isAgg22 hK rfl (hS.cell (.tail _ (.tail _ (.head _))) rfl)) fun a hK => ?_
                                refine sl hK (by decide) rfl rfl (r_len_O Try.underlying22 hS (.tail _ (.head _)) hK rfl) fun a hK => ?_
                                refine sl hK (by decide) rfl rfl (r_ibin hK rfl rfl rfl) fun a hK => ?_
                                obtain ⟨y_258, h_259, H⟩ := bind_some H
                                refine sl_call Try.call14 hK (by decide) rfl rfl rfl (pred_Where.calls y_4 y_219.1 (IntKind.i64.wrap ((y_219.1.N.length : Int) - 1)) (lentOf_sub [] _) hS.sub (hs_9.mono ((hl_114.le.trans (hl_214.le.trans (hl_222.le.trans (hl_235.le.trans hl_243.le)))).trans hS.rLe0)) (hs_11.mono ((hl_114.le.trans (hl_214.le.trans (hl_222.le.trans (hl_235.le.trans hl_243.le)))).trans hS.rLe0)) (hS.lend_row0 (.tail _ (.head _)) (hq_226.mono (hl_235.le.trans hl_243.le)) rfl rfl) (GF.mono (hS.raLe0 hRA nil_not) hG) h_259) fun a v_ w hv_ hK => ?_
                                obtain ⟨R_260, v_263, cs_264, v_267, cs_268, hv_, hr_, hl_261, hq_265, hq_269, hap_270⟩ := hv_
                                have hv_ := hv_.symm
                                subst hv_
                                obtain ⟨hS, hl_261⟩ := hS.sp0.back hr_ hl_261
                                have hS := hS.un2
                                have hRL := hRL.trans hl_261
                                refine sl_alloc Try.zeroValue28 hS hK (by decide) rfl rfl fun a w b_271 hS hK => ?_
                                refine sl_storeA (vs := [v_263, v_267]) (c' := [v_263, v_267]) Try.sizeOf28 hS hK rfl rfl rfl rfl (all_cons (hS.row_one (.tail _ (.head _))) (all_cons (hS.row_one (.tail _ (.tail _ (.head _)))) (all_nil))) (Nat.le_of_ble_eq_true rfl) rfl fun a w hS hK => ?_
                                refine wpList_nil ?_
                                refine wp_seq ?_
                                refine wp_region_lit ?_
                                refine sl hK (by decide) rfl rfl (r_loadA (cs := [v_8, v_10]) Try.isAgg28 Try.sizeOf28 rfl hK rfl (hS.cells_of (m := 2) (.tail _ (.tail _ (.tail _ (.head _)))) rfl)) fun a hK => ?_
                                refine sl hK (by decide) rfl rfl (r_loadA (cs := [v_245]) Try.isAgg24 Try.sizeOf24 rfl hK rfl (hS.cells_of (m := 1) (.tail _ (.tail _ (.tail _ (.tail _ (.tail _ (.tail _ (.tail _ (.head _)))))))) rfl)) fun a hK => ?_
                                refine sl hK (by decide) rfl rfl (r_fieldAddr Try.underlying24 rfl Try.sizeOf22 hK rfl) fun a hK => ?_
                                refine sl hK (by decide) rfl rfl (r_load Try.isAgg22 hK rfl (hS.cell (.tail _ (.tail _ (.tail _ (.tail _ (.tail _ (.tail _ (.tail _ (.head _)))))))) rfl)) fun a hK => ?_
                                refine sl hK (by decide) rfl rfl (r_len_O Try.underlying22 hS (.tail _ (.tail _ (.tail _ (.tail _ (.tail _ (.tail _ (.head _))))))) hK rfl) fun a hK => ?_
                                refine sl hK (by decide) rfl rfl (r_ibin hK rfl rfl rfl) fun a hK => ?_
                                obtain ⟨y_272, h_273, H⟩ := bind_some H
                                refine sl_call Try.call14 hK (by decide) rfl rfl rfl (pred_Where.calls y_4 y_240.1 (IntKind.i64.wrap ((y_240.1.N.length : Int) - 1)) (lentOf_sub [] _) hS.sub (hs_9.mono ((hl_114.le.trans (hl_214.le.trans (hl_222.le.trans (hl_235.le.trans (hl_243.le.trans hl_261.le))))).trans hS.rLe0)) (hs_11.mono ((hl_114.le.trans (hl_214.le.trans (hl_222.le.trans (hl_235.le.trans (hl_243.le.trans hl_261.le))))).trans hS.rLe0)) (hS.lend_row0 (.tail _ (.tail _ (.tail _ (.tail _ (.tail _ (.tail _ (.head _))))))) (hq_247.mono hl_261.le) rfl rfl) (GF.mono (hS.raLe0 hRA nil_not) hG) h_273) fun a v_ w hv_ hK => ?_
                                obtain ⟨R_274, v_277, cs_278, v_281, cs_282, hv_, hr_, hl_275, hq_279, hq_283, hap_284⟩ := hv_
                                have hv_ := hv_.symm
                                subst hv_
                                obtain ⟨hS, hl_275⟩ := hS.sp0.back hr_ hl_275
                                have hS := hS.un2
                                have hRL := hRL.trans hl_275
                                refine sl_alloc Try.zeroValue28 hS hK (by decide) rfl rfl fun a w b_285 hS hK => ?_
                                refine sl_storeA (vs := [v_277, v_281]) (c' := [v_277, v_281]) Try.sizeOf28 hS hK rfl rfl rfl rfl (all_cons (hS.row_one (.tail _ (.head _))) (all_cons (hS.row_one (.tail _ (.tail _ (.head _)))) (all_nil))) (Nat.le_of_ble_eq_true rfl) rfl fun a w hS hK => ?_
                                refine wpList_nil ?_
                                refine wp_seq ?_
                                refine wp_region_lit ?_
                                refine sl hK (by decide) rfl rfl (r_loadA (cs := [v_263, v_267]) Try.isAgg28 Try.sizeOf28 rfl hK rfl (hS.cells_of (m := 2) (.tail _ (.tail _ (.tail _ (.head _)))) rfl)) fun a hK => ?_
                                refine sl hK (by decide) rfl rfl (r_loadA (cs := [v_277, v_281]) Try.isAgg28 Try.sizeOf28 rfl hK rfl (hS.cells_of (m := 2) (.head _) rfl)) fun a hK => ?_
                                obtain ⟨y_286, h_287, H⟩ := bind_some H
                                refine sl_callV Try.call16 hS hK (by decide) rfl rfl rfl (ref02_Same.calls y_258 y_272 (lentOf_sub [] _) (hS.lend_row0 (.tail _ (.tail _ (.tail _ (.tail _ (.head _))))) (hq_265.mono hl_275.le) rfl rfl) (hS.lend_row0 (.tail _ (.tail _ (.tail _ (.tail _ (.tail _ (.head _)))))) (hq_269.mono hl_275.le) rfl rfl) (hS.lend_row0 (.tail _ (.head _)) hq_279 rfl rfl) (hS.lend_row0 (.tail _ (.tail _ (.head _))) hq_283 rfl rfl) h_287) fun a w hS hK => ?_
                                refine sl hK (by decide) rfl rfl (r_assign hK rfl) fun a hK => ?_
                                refine wpList_nil ?_
                                refine wp_seq ?_
                                refine wp_region_lit ?_
                                refine sl hK (by decide) rfl rfl (r_move hK rfl) fun a hK => ?_
                                refine sl hK (by decide) rfl rfl (r_un hK rfl (u_not _)) fun a hK => ?_
                                refine wpList_nil ?_
                                refine wp_cond_split (hK.ev rfl) (fun (hb_288 : (!y_286) = true) => ?_) (fun (hb_288 : (!y_286) = false) => ?_)
                                · rw [ifb_t hb_288] at H
                                  refine wp_seq ?_
                                  refine wp_region_lit ?_
                                  refine sl hK (by decide) rfl rfl (r_assign hK rfl) fun a hK => ?_
                                  refine wpList_nil ?_
                                  exact absurd (Option.some.inj H) (by decide)
                                · rw [ifb_f hb_288] at H
                                  refine wp_skip ?_
                                  refine wp_region_lit ?_
                                  refine sl hK (by decide) rfl rfl (r_move hK rfl) fun a hK => ?_
                                  refine sl hK (by decide) rfl rfl (r_ibin hK rfl rfl rfl) fun a hK => ?_
                                  refine sl hK (by decide) rfl rfl (r_assign hK rfl) fun a hK => ?_
                                  refine wpList_nil ?_
                                  have hS := hS.pk6
                                  exact ⟨_, Nat.lt_succ_self _, (IntKind.i64.wrap (x_112 + 1)), _, H, (hl_114.trans (hl_214.trans (hl_222.trans (hl_235.trans (hl_243.trans (hl_261.trans hl_275)))))), hK.sub (all_cons rfl (all_cons rfl (all_cons rfl (all_cons rfl (all_cons rfl (all_nil)))))), hS.trunc 1⟩
                          · rw [ifb_f hn_231] at H
                            cases H
                        · rw [ifb_f hn_230] at H
                          cases H
                      · rw [ifb_f hn_229] at H
                        cases H
                    · rw [ifb_f hn_228] at H
                      cases H
                  · rw [ifb_f hn_210] at H
                    cases H
                · rw [ifb_f hn_209] at H
                  cases H
              · rw [ifb_f hn_208] at H
                cases H
            · rw [ifb_f hn_207] at H
              cases H
        · rw [ifb_f hb_202] at H
          refine wp_exit ?_
          refine wp_seq ?_
          refine wp_region_lit ?_
          refine sl hK (by decide) rfl rfl (r_move hK rfl) fun a hK => ?_
          refine sl hK (by decide) rfl rfl (r_assign hK rfl) fun a hK => ?_
          refine wpList_nil ?_
          have hr_ := Option.some.inj H
          refine wp_ret ?_
          repeat (first | refine ret_then ?_ | refine ret_block ?_ | refine ret_scope ?_)
          exact ret_1 Try.results7 hK (rv_tmp hK rfl) ⟨congrArg (fun b => Ending.returned (Value.bool b)) hr_, hS.bel⟩

end Go.Proofs.Ytjklfkiaebipnaa.M
