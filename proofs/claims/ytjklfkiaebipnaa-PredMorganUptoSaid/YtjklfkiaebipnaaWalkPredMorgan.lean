/- Each Go function of the laws answers as its plain Lean function tells, wherever that tells something. Printed by wip/eng/gen.py. -/
import Derived.Test.YtjklfkiaebipnaaWalk3
namespace Go.Proofs.Ytjklfkiaebipnaa.M
open Go Go.Eng Go.Proofs Go.RowKit
set_option linter.unusedVariables false
set_option linter.unusedSimpArgs false

/-! ### catchment/catchmentlaw15.PredMorgan: function 6 -/
set_option maxHeartbeats 4000000 in
set_option maxRecDepth 100000 in
theorem law15_PredMorgan.calls (a0 : ByteArray) (a1 : ByteArray) (a2 : api_Table) {w0 : World} {R : Hp} {RA : Hp} {v2_0 : Value} {v2_1 : Value} (hRA : RA.sub w0) (hR : R.sub w0) (h2_0 : SlR ty_api_Col R v2_0 a2.Cols) (h2_1 : SlR (tySl ty_api_Value) R v2_1 a2.Rows) (hG : GF RA) (H : law15_PredMorgan a0 a1 a2 = some true) : CallsV Try.prog 6 #[.string a0, .string a1, .agg #[v2_0, v2_1]] w0 (.bool true) := by
  unfold law15_PredMorgan at H
  refine enter (args := [.string a0, .string a1, .agg #[v2_0, v2_1]]) Try.func6 rfl Try.ntmps6 rfl fun a hK => ?_
  have hS := St.init hR
  have hRL := RLe.refl (M := []) w0 R
  refine wp_seq ?_
  refine wp_region_lit ?_
  refine sl_box hS hK (by decide) rfl rfl (c := [v2_0, v2_1]) rfl fun a w b_1 hS hK => ?_
  refine sl hK (by decide) rfl rfl (r_assign hK rfl) fun a hK => ?_
  refine wpList_nil ?_
  refine wp_seq ?_
  refine wp_region_lit ?_
  obtain ⟨y_2, h_3, H⟩ := bind_some H
  refine sl_callV Try.call9 hS hK (by decide) rfl rfl rfl (law15_shown.calls (lentOf_sub [] _) (GF.mono (hS.raLe0 hRA nil_not) hG) h_3) fun a w hS hK => ?_
  refine sl hK (by decide) rfl rfl (r_assign hK rfl) fun a hK => ?_
  refine wpList_nil ?_
  refine wp_seq ?_
  refine wp_region_lit ?_
  refine sl hK (by decide) rfl rfl (r_loadA (cs := [v2_0, v2_1]) Try.isAgg28 Try.sizeOf28 rfl hK rfl (hS.cells_of (m := 2) (.head _) rfl)) fun a hK => ?_
  obtain ⟨y_4, h_5, H⟩ := bind_some H
  refine sl_call Try.call11 hK (by decide) rfl rfl rfl (law15_cut.calls a2 hS.sub h2_0 h2_1 h_5) fun a v_ w hv_ hK => ?_
  obtain ⟨R_6, v_8, v_10, hv_, hr_, hl_7, hs_9, hs_11⟩ := hv_
  have hv_ := hv_.symm
  subst hv_
  obtain ⟨hS, hl_7⟩ := hS.sp0.back hr_ hl_7
  have hS := hS.un0
  have hRL := hRL.trans hl_7
  refine sl_storeA (vs := [v_8, v_10]) (c' := [v_8, v_10]) Try.sizeOf28 hS hK rfl rfl rfl rfl (all_cons hs_9.one (all_cons hs_11.one (all_nil))) (Nat.le_of_ble_eq_true rfl) rfl fun a w hS hK => ?_
  refine wpList_nil ?_
  refine wp_seq ?_
  refine wp_seq ?_
  refine wp_mid (fun a w => ∃ (x_19 : Bool), law15_PredMorgan.j0 a0 a1 y_2 y_4 x_19 = some true ∧ Kn 115 a [(0, .string a0), (1, .string a1), (5, .pointer (some ⟨b_1, 0, none⟩)), (7, .bool y_2), (43, .bool x_19)] ∧ St [] w0 w R_6 [.cells b_1 [v_8, v_10] 28]) ?_ ?_
  · refine wp_region_lit ?_
    refine sl hK (by decide) rfl rfl (r_move hK rfl) fun a hK => ?_
    refine sl hK (by decide) rfl rfl (r_len_str Try.underlying9 hK rfl) fun a hK => ?_
    refine sl hK (by decide) rfl rfl (r_ibin hK rfl rfl rfl) fun a hK => ?_
    refine sl hK (by decide) rfl rfl (r_move hK rfl) fun a hK => ?_
    rcases or_b (decide ((a0.size : Int) > 500)) with hb_21 | hb_21
    · rw [ifb_t hb_21] at H
      refine sl_skip hK (by decide) (wft hb_21) rfl fun a hK => ?_
      refine sl_skip hK (by decide) (wft hb_21) rfl fun a hK => ?_
      refine sl_skip hK (by decide) (wft hb_21) rfl fun a hK => ?_
      refine sl hK (by decide) rfl rfl (r_pick_t hb_21 hK rfl rfl) fun a hK => ?_
      refine sl hK (by decide) rfl rfl (r_move hK rfl) fun a hK => ?_
      refine sl_skip hK (by decide) rfl rfl fun a hK => ?_
      refine sl_skip hK (by decide) rfl rfl fun a hK => ?_
      refine sl_skip hK (by decide) rfl rfl fun a hK => ?_
      refine sl hK (by decide) rfl rfl (r_pick hK rfl rfl rfl) fun a hK => ?_
      refine sl hK (by decide) rfl rfl (r_move hK rfl) fun a hK => ?_
      refine sl_skip hK (by decide) rfl rfl fun a hK => ?_
      refine sl_skip hK (by decide) rfl rfl fun a hK => ?_
      refine sl_skip hK (by decide) rfl rfl fun a hK => ?_
      refine sl hK (by decide) rfl rfl (r_pick hK rfl rfl rfl) fun a hK => ?_
      refine wpList_nil ?_
      exact ⟨true, H, hK.sub (all_cons rfl (all_cons rfl (all_cons rfl (all_cons rfl (all_cons rfl (all_nil)))))), hS⟩
    · rw [ifb_f hb_21] at H
      refine sl hK (by decide) (wff hb_21) rfl (r_move hK rfl) fun a hK => ?_
      refine sl hK (by decide) (wff hb_21) rfl (r_len_str Try.underlying9 hK rfl) fun a hK => ?_
      refine sl hK (by decide) (wff hb_21) rfl (r_ibin hK rfl rfl rfl) fun a hK => ?_
      refine sl hK (by decide) rfl rfl (r_pick_f hb_21 hK rfl rfl) fun a hK => ?_
      refine sl hK (by decide) rfl rfl (r_move hK rfl) fun a hK => ?_
      rcases or_b (decide ((a1.size : Int) > 500)) with hb_22 | hb_22
      · rw [ifb_t hb_22] at H
        refine sl_skip hK (by decide) (wft hb_22) rfl fun a hK => ?_
        refine sl_skip hK (by decide) (wft hb_22) rfl fun a hK => ?_
        refine sl_skip hK (by decide) (wft hb_22) rfl fun a hK => ?_
        refine sl hK (by decide) rfl rfl (r_pick_t hb_22 hK rfl rfl) fun a hK => ?_
        refine sl hK (by decide) rfl rfl (r_move hK rfl) fun a hK => ?_
        refine sl_skip hK (by decide) rfl rfl fun a hK => ?_
        refine sl_skip hK (by decide) rfl rfl fun a hK => ?_
        refine sl_skip hK (by decide) rfl rfl fun a hK => ?_
        refine sl hK (by decide) rfl rfl (r_pick hK rfl rfl rfl) fun a hK => ?_
        refine wpList_nil ?_
        exact ⟨true, H, hK.sub (all_cons rfl (all_cons rfl (all_cons rfl (all_cons rfl (all_cons rfl (all_nil)))))), hS⟩
      · rw [ifb_f hb_22] at H
        refine sl hK (by decide) (wff hb_22) rfl (r_move hK rfl) fun a hK => ?_
        obtain ⟨y_23, h_24, H⟩ := bind_some H
        refine sl_callV Try.call20 hS hK (by decide) (wff hb_22) rfl rfl (law15_alone.calls a0 h_24 _) fun a w hS hK => ?_
        refine sl hK (by decide) (wff hb_22) rfl (r_un hK rfl (u_not _)) fun a hK => ?_
        refine sl hK (by decide) rfl rfl (r_pick_f hb_22 hK rfl rfl) fun a hK => ?_
        refine sl hK (by decide) rfl rfl (r_move hK rfl) fun a hK => ?_
        rcases or_b (!y_23) with hb_25 | hb_25
        · rw [ifb_t hb_25] at H
          refine sl_skip hK (by decide) (wft hb_25) rfl fun a hK => ?_
          refine sl_skip hK (by decide) (wft hb_25) rfl fun a hK => ?_
          refine sl_skip hK (by decide) (wft hb_25) rfl fun a hK => ?_
          refine sl hK (by decide) rfl rfl (r_pick_t hb_25 hK rfl rfl) fun a hK => ?_
          refine wpList_nil ?_
          exact ⟨true, H, hK.sub (all_cons rfl (all_cons rfl (all_cons rfl (all_cons rfl (all_cons rfl (all_nil)))))), hS⟩
        · rw [ifb_f hb_25] at H
          refine sl hK (by decide) (wff hb_25) rfl (r_move hK rfl) fun a hK => ?_
          obtain ⟨y_26, h_27, H⟩ := bind_some H
          refine sl_callV Try.call20 hS hK (by decide) (wff hb_25) rfl rfl (law15_alone.calls a1 h_27 _) fun a w hS hK => ?_
          refine sl hK (by decide) (wff hb_25) rfl (r_un hK rfl (u_not _)) fun a hK => ?_
          refine sl hK (by decide) rfl rfl (r_pick_f hb_25 hK rfl rfl) fun a hK => ?_
          refine wpList_nil ?_
          exact ⟨(!y_26), H, hK.sub (all_cons rfl (all_cons rfl (all_cons rfl (all_cons rfl (all_cons rfl (all_nil)))))), hS⟩
  · rintro a w ⟨x_19, H, hK, hS⟩
    unfold law15_PredMorgan.j0 at H
    refine wp_cond_split (hK.ev rfl) (fun (hb_28 : x_19 = true) => ?_) (fun (hb_28 : x_19 = false) => ?_)
    · rw [ifb_t hb_28] at H
      refine wp_seq ?_
      refine wp_region_lit ?_
      refine sl hK (by decide) rfl rfl (r_move hK rfl) fun a hK => ?_
      refine sl hK (by decide) rfl rfl (r_assign hK rfl) fun a hK => ?_
      refine wpList_nil ?_
      have hr_ := Option.some.inj H
      refine wp_ret ?_
      repeat (first | refine ret_then ?_ | refine ret_block ?_ | refine ret_scope ?_)
      exact ret_1 Try.results6 hK (rv_tmp hK rfl) ⟨congrArg (fun b => Ending.returned (Value.bool b)) hr_, hS.bel⟩
    · rw [ifb_f hb_28] at H
      refine wp_skip ?_
      refine wp_seq ?_
      refine wp_region_lit ?_
      refine sl hK (by decide) rfl rfl (r_move hK rfl) fun a hK => ?_
      rcases or_b (decide ((⟨#[110, 111, 116, 32, 40]⟩ : ByteArray).size + a0.size ≤ 9223372036854775807)) with hn_29 | hn_29
      · rw [ifb_t hn_29] at H
        refine sl hK (by decide) rfl rfl (r_sadd hK rfl rfl (of_decide_eq_true hn_29)) fun a hK => ?_
        rcases or_b (decide (((⟨#[110, 111, 116, 32, 40]⟩ : ByteArray) ++ a0).size + (⟨#[41, 32, 111, 114, 32, 110, 111, 116, 32, 40]⟩ : ByteArray).size ≤ 9223372036854775807)) with hn_30 | hn_30
        · rw [ifb_t hn_30] at H
          refine sl hK (by decide) rfl rfl (r_sadd hK rfl rfl (of_decide_eq_true hn_30)) fun a hK => ?_
          refine sl hK (by decide) rfl rfl (r_move hK rfl) fun a hK => ?_
          rcases or_b (decide ((((⟨#[110, 111, 116, 32, 40]⟩ : ByteArray) ++ a0) ++ (⟨#[41, 32, 111, 114, 32, 110, 111, 116, 32, 40]⟩ : ByteArray)).size + a1.size ≤ 9223372036854775807)) with hn_31 | hn_31
          · rw [ifb_t hn_31] at H
            refine sl hK (by decide) rfl rfl (r_sadd hK rfl rfl (of_decide_eq_true hn_31)) fun a hK => ?_
            rcases or_b (decide (((((⟨#[110, 111, 116, 32, 40]⟩ : ByteArray) ++ a0) ++ (⟨#[41, 32, 111, 114, 32, 110, 111, 116, 32, 40]⟩ : ByteArray)) ++ a1).size + (⟨#[41]⟩ : ByteArray).size ≤ 9223372036854775807)) with hn_32 | hn_32
            · rw [ifb_t hn_32] at H
              refine sl hK (by decide) rfl rfl (r_sadd hK rfl rfl (of_decide_eq_true hn_32)) fun a hK => ?_
              obtain ⟨y_33, h_34, H⟩ := bind_some H
              refine sl_call Try.call17 hK (by decide) rfl rfl rfl (ref11_Lex.calls (((((⟨#[110, 111, 116, 32, 40]⟩ : ByteArray) ++ a0) ++ (⟨#[41, 32, 111, 114, 32, 110, 111, 116, 32, 40]⟩ : ByteArray)) ++ a1) ++ (⟨#[41]⟩ : ByteArray)) hS.sub h_34) fun a v_ w hv_ hK => ?_
              obtain ⟨R_35, v_38, cs_39, hv_, hr_, hl_36, hq_40⟩ := hv_
              have hv_ := hv_.symm
              subst hv_
              obtain ⟨hS, hl_36⟩ := hS.sp0.back hr_ hl_36
              have hS := hS.un1
              have hRL := hRL.trans hl_36
              refine sl hK (by decide) rfl rfl (r_move hK rfl) fun a hK => ?_
              refine sl hK (by decide) rfl rfl (r_extract hK rfl rfl) fun a hK => ?_
              refine sl hK (by decide) rfl rfl (r_extract hK rfl rfl) fun a hK => ?_
              refine sl hK (by decide) rfl rfl (r_extract hK rfl rfl) fun a hK => ?_
              refine sl hK (by decide) rfl rfl (r_assign hK rfl) fun a hK => ?_
              refine sl hK (by decide) rfl rfl (r_assign hK rfl) fun a hK => ?_
              refine sl hK (by decide) rfl rfl (r_assign hK rfl) fun a hK => ?_
              refine wpList_nil ?_
              refine wp_seq ?_
              refine wp_region_lit ?_
              refine sl hK (by decide) rfl rfl (r_move hK rfl) fun a hK => ?_
              obtain ⟨y_41, h_42, H⟩ := bind_some H
              have hS1 := hS.sp1
              refine sl_call Try.call18 hK (by decide) rfl rfl rfl (ref12_Cond.calls y_33.1 hS1.lend hq_40 h_42) fun a v_ w hv_ hK => ?_
              obtain ⟨R_43, v_46, cs_47, hv_, hr_, hl_44, hq_48⟩ := hv_
              have hv_ := hv_.symm
              subst hv_
              obtain ⟨hS, hl_44⟩ := hS1.back hr_ hl_44
              have hS := hS.un1
              have hRL := hRL.trans hl_44
              refine sl hK (by decide) rfl rfl (r_move hK rfl) fun a hK => ?_
              refine sl hK (by decide) rfl rfl (r_extract hK rfl rfl) fun a hK => ?_
              refine sl hK (by decide) rfl rfl (r_extract hK rfl rfl) fun a hK => ?_
              refine sl hK (by decide) rfl rfl (r_extract hK rfl rfl) fun a hK => ?_
              refine sl_alloc Try.zeroValue24 hS hK (by decide) rfl rfl fun a w b_49 hS hK => ?_
              refine sl_storeA (vs := [v_46]) (c' := [v_46]) Try.sizeOf24 hS hK rfl rfl rfl rfl (all_cons (hS.row_one (.tail _ (.head _))) (all_nil)) (Nat.le_of_ble_eq_true rfl) rfl fun a w hS hK => ?_
              refine sl hK (by decide) rfl rfl (r_assign hK rfl) fun a hK => ?_
              refine sl hK (by decide) rfl rfl (r_assign hK rfl) fun a hK => ?_
              refine wpList_nil ?_
              refine wp_seq ?_
              refine wp_region_lit ?_
              refine sl hK (by decide) rfl rfl (r_move hK rfl) fun a hK => ?_
              rcases or_b (decide ((⟨#[110, 111, 116, 32, 110, 111, 116, 32, 110, 111, 116, 32, 40, 40]⟩ : ByteArray).size + a0.size ≤ 9223372036854775807)) with hn_50 | hn_50
              · rw [ifb_t hn_50] at H
                refine sl hK (by decide) rfl rfl (r_sadd hK rfl rfl (of_decide_eq_true hn_50)) fun a hK => ?_
                rcases or_b (decide (((⟨#[110, 111, 116, 32, 110, 111, 116, 32, 110, 111, 116, 32, 40, 40]⟩ : ByteArray) ++ a0).size + (⟨#[41, 32, 97, 110, 100, 32, 40]⟩ : ByteArray).size ≤ 9223372036854775807)) with hn_51 | hn_51
                · rw [ifb_t hn_51] at H
                  refine sl hK (by decide) rfl rfl (r_sadd hK rfl rfl (of_decide_eq_true hn_51)) fun a hK => ?_
                  refine sl hK (by decide) rfl rfl (r_move hK rfl) fun a hK => ?_
                  rcases or_b (decide ((((⟨#[110, 111, 116, 32, 110, 111, 116, 32, 110, 111, 116, 32, 40, 40]⟩ : ByteArray) ++ a0) ++ (⟨#[41, 32, 97, 110, 100, 32, 40]⟩ : ByteArray)).size + a1.size ≤ 9223372036854775807)) with hn_52 | hn_52
                  · rw [ifb_t hn_52] at H
                    refine sl hK (by decide) rfl rfl (r_sadd hK rfl rfl (of_decide_eq_true hn_52)) fun a hK => ?_
                    rcases or_b (decide (((((⟨#[110, 111, 116, 32, 110, 111, 116, 32, 110, 111, 116, 32, 40, 40]⟩ : ByteArray) ++ a0) ++ (⟨#[41, 32, 97, 110, 100, 32, 40]⟩ : ByteArray)) ++ a1).size + (⟨#[41, 41]⟩ : ByteArray).size ≤ 9223372036854775807)) with hn_53 | hn_53
                    · rw [ifb_t hn_53] at H
                      refine sl hK (by decide) rfl rfl (r_sadd hK rfl rfl (of_decide_eq_true hn_53)) fun a hK => ?_
                      obtain ⟨y_54, h_55, H⟩ := bind_some H
                      refine sl_call Try.call17 hK (by decide) rfl rfl rfl (ref11_Lex.calls (((((⟨#[110, 111, 116, 32, 110, 111, 116, 32, 110, 111, 116, 32, 40, 40]⟩ : ByteArray) ++ a0) ++ (⟨#[41, 32, 97, 110, 100, 32, 40]⟩ : ByteArray)) ++ a1) ++ (⟨#[41, 41]⟩ : ByteArray)) hS.sub h_55) fun a v_ w hv_ hK => ?_
                      obtain ⟨R_56, v_59, cs_60, hv_, hr_, hl_57, hq_61⟩ := hv_
                      have hv_ := hv_.symm
                      subst hv_
                      obtain ⟨hS, hl_57⟩ := hS.sp0.back hr_ hl_57
                      have hS := hS.un1
                      have hRL := hRL.trans hl_57
                      refine sl hK (by decide) rfl rfl (r_move hK rfl) fun a hK => ?_
                      refine sl hK (by decide) rfl rfl (r_extract hK rfl rfl) fun a hK => ?_
                      refine sl hK (by decide) rfl rfl (r_extract hK rfl rfl) fun a hK => ?_
                      refine sl hK (by decide) rfl rfl (r_extract hK rfl rfl) fun a hK => ?_
                      refine sl hK (by decide) rfl rfl (r_assign hK rfl) fun a hK => ?_
                      refine sl hK (by decide) rfl rfl (r_assign hK rfl) fun a hK => ?_
                      refine sl hK (by decide) rfl rfl (r_assign hK rfl) fun a hK => ?_
                      refine wpList_nil ?_
                      refine wp_seq ?_
                      refine wp_region_lit ?_
                      refine sl hK (by decide) rfl rfl (r_move hK rfl) fun a hK => ?_
                      obtain ⟨y_62, h_63, H⟩ := bind_some H
                      have hS1 := hS.sp1
                      refine sl_call Try.call18 hK (by decide) rfl rfl rfl (ref12_Cond.calls y_54.1 hS1.lend hq_61 h_63) fun a v_ w hv_ hK => ?_
                      obtain ⟨R_64, v_67, cs_68, hv_, hr_, hl_65, hq_69⟩ := hv_
                      have hv_ := hv_.symm
                      subst hv_
                      obtain ⟨hS, hl_65⟩ := hS1.back hr_ hl_65
                      have hS := hS.un1
                      have hRL := hRL.trans hl_65
                      refine sl hK (by decide) rfl rfl (r_move hK rfl) fun a hK => ?_
                      refine sl hK (by decide) rfl rfl (r_extract hK rfl rfl) fun a hK => ?_
                      refine sl hK (by decide) rfl rfl (r_extract hK rfl rfl) fun a hK => ?_
                      refine sl hK (by decide) rfl rfl (r_extract hK rfl rfl) fun a hK => ?_
                      refine sl_alloc Try.zeroValue24 hS hK (by decide) rfl rfl fun a w b_70 hS hK => ?_
                      refine sl_storeA (vs := [v_67]) (c' := [v_67]) Try.sizeOf24 hS hK rfl rfl rfl rfl (all_cons (hS.row_one (.tail _ (.head _))) (all_nil)) (Nat.le_of_ble_eq_true rfl) rfl fun a w hS hK => ?_
                      refine sl hK (by decide) rfl rfl (r_assign hK rfl) fun a hK => ?_
                      refine sl hK (by decide) rfl rfl (r_assign hK rfl) fun a hK => ?_
                      refine wpList_nil ?_
                      refine wp_seq ?_
                      refine wp_seq ?_
                      refine wp_mid (fun a w => ∃ (x_74 : Bool), law15_PredMorgan.j1 y_2 y_4 y_41 y_62 x_74 = some true ∧ Kn 115 a [(5, .pointer (some ⟨b_1, 0, none⟩)), (7, .bool y_2), (11, .pointer (some ⟨b_49, 0, none⟩)), (17, .pointer (some ⟨b_70, 0, none⟩)), (92, .bool x_74)] ∧ St [] w0 w R_64 [.cells b_1 [v_8, v_10] 28, .row 51 19 v_46 y_41.1.N.length cs_47, .cells b_49 [v_46] 24, .row 51 19 v_67 y_62.1.N.length cs_68, .cells b_70 [v_67] 24]) ?_ ?_
                      · refine wp_region_lit ?_
                        refine sl hK (by decide) rfl rfl (r_move hK rfl) fun a hK => ?_
                        refine sl hK (by decide) rfl rfl (r_ibin hK rfl rfl rfl) fun a hK => ?_
                        refine sl hK (by decide) rfl rfl (r_move hK rfl) fun a hK => ?_
                        rcases or_b (y_33.2.2 != 0) with hb_76 | hb_76
                        · rw [ifb_t hb_76] at H
                          refine sl_skip hK (by decide) (wft hb_76) rfl fun a hK => ?_
                          refine sl_skip hK (by decide) (wft hb_76) rfl fun a hK => ?_
                          refine sl hK (by decide) rfl rfl (r_pick_t hb_76 hK rfl rfl) fun a hK => ?_
                          refine sl hK (by decide) rfl rfl (r_move hK rfl) fun a hK => ?_
                          refine sl_skip hK (by decide) rfl rfl fun a hK => ?_
                          refine sl_skip hK (by decide) rfl rfl fun a hK => ?_
                          refine sl hK (by decide) rfl rfl (r_pick hK rfl rfl rfl) fun a hK => ?_
                          refine sl hK (by decide) rfl rfl (r_move hK rfl) fun a hK => ?_
                          refine sl_skip hK (by decide) rfl rfl fun a hK => ?_
                          refine sl_skip hK (by decide) rfl rfl fun a hK => ?_
                          refine sl hK (by decide) rfl rfl (r_pick hK rfl rfl rfl) fun a hK => ?_
                          refine wpList_nil ?_
                          have hS := hS.pk1
                          have hS := hS.pk2
                          have hS := hS.pk3
                          have hS := hS.pk4
                          exact ⟨true, H, hK.sub (all_cons rfl (all_cons rfl (all_cons rfl (all_cons rfl (all_cons rfl (all_nil)))))), hS⟩
                        · rw [ifb_f hb_76] at H
                          refine sl hK (by decide) (wff hb_76) rfl (r_move hK rfl) fun a hK => ?_
                          refine sl hK (by decide) (wff hb_76) rfl (r_ibin hK rfl rfl rfl) fun a hK => ?_
                          refine sl hK (by decide) rfl rfl (r_pick_f hb_76 hK rfl rfl) fun a hK => ?_
                          refine sl hK (by decide) rfl rfl (r_move hK rfl) fun a hK => ?_
                          rcases or_b (y_41.2.2 != 0) with hb_77 | hb_77
                          · rw [ifb_t hb_77] at H
                            refine sl_skip hK (by decide) (wft hb_77) rfl fun a hK => ?_
                            refine sl_skip hK (by decide) (wft hb_77) rfl fun a hK => ?_
                            refine sl hK (by decide) rfl rfl (r_pick_t hb_77 hK rfl rfl) fun a hK => ?_
                            refine sl hK (by decide) rfl rfl (r_move hK rfl) fun a hK => ?_
                            refine sl_skip hK (by decide) rfl rfl fun a hK => ?_
                            refine sl_skip hK (by decide) rfl rfl fun a hK => ?_
                            refine sl hK (by decide) rfl rfl (r_pick hK rfl rfl rfl) fun a hK => ?_
                            refine wpList_nil ?_
                            have hS := hS.pk1
                            have hS := hS.pk2
                            have hS := hS.pk3
                            have hS := hS.pk4
                            exact ⟨true, H, hK.sub (all_cons rfl (all_cons rfl (all_cons rfl (all_cons rfl (all_cons rfl (all_nil)))))), hS⟩
                          · rw [ifb_f hb_77] at H
                            refine sl hK (by decide) (wff hb_77) rfl (r_move hK rfl) fun a hK => ?_
                            refine sl hK (by decide) (wff hb_77) rfl (r_ibin hK rfl rfl rfl) fun a hK => ?_
                            refine sl hK (by decide) rfl rfl (r_pick_f hb_77 hK rfl rfl) fun a hK => ?_
                            refine sl hK (by decide) rfl rfl (r_move hK rfl) fun a hK => ?_
                            rcases or_b (y_54.2.2 != 0) with hb_78 | hb_78
                            · rw [ifb_t hb_78] at H
                              refine sl_skip hK (by decide) (wft hb_78) rfl fun a hK => ?_
                              refine sl_skip hK (by decide) (wft hb_78) rfl fun a hK => ?_
                              refine sl hK (by decide) rfl rfl (r_pick_t hb_78 hK rfl rfl) fun a hK => ?_
                              refine wpList_nil ?_
                              have hS := hS.pk1
                              have hS := hS.pk2
                              have hS := hS.pk3
                              have hS := hS.pk4
                              exact ⟨true, H, hK.sub (all_cons rfl (all_cons rfl (all_cons rfl (all_cons rfl (all_cons rfl (all_nil)))))), hS⟩
                            · rw [ifb_f hb_78] at H
                              refine sl hK (by decide) (wff hb_78) rfl (r_move hK rfl) fun a hK => ?_
                              refine sl hK (by decide) (wff hb_78) rfl (r_ibin hK rfl rfl rfl) fun a hK => ?_
                              refine sl hK (by decide) rfl rfl (r_pick_f hb_78 hK rfl rfl) fun a hK => ?_
                              refine wpList_nil ?_
                              have hS := hS.pk1
                              have hS := hS.pk2
                              have hS := hS.pk3
                              have hS := hS.pk4
                              exact ⟨(y_62.2.2 != 0), H, hK.sub (all_cons rfl (all_cons rfl (all_cons rfl (all_cons rfl (all_cons rfl (all_nil)))))), hS⟩
                      · rintro a w ⟨x_74, H, hK, hS⟩
                        unfold law15_PredMorgan.j1 at H
                        refine wp_cond_split (hK.ev rfl) (fun (hb_79 : x_74 = true) => ?_) (fun (hb_79 : x_74 = false) => ?_)
                        · rw [ifb_t hb_79] at H
                          refine wp_seq ?_
                          refine wp_region_lit ?_
                          refine sl hK (by decide) rfl rfl (r_move hK rfl) fun a hK => ?_
                          refine sl hK (by decide) rfl rfl (r_assign hK rfl) fun a hK => ?_
                          refine wpList_nil ?_
                          have hr_ := Option.some.inj H
                          refine wp_ret ?_
                          repeat (first | refine ret_then ?_ | refine ret_block ?_ | refine ret_scope ?_)
                          exact ret_1 Try.results6 hK (rv_tmp hK rfl) ⟨congrArg (fun b => Ending.returned (Value.bool b)) hr_, hS.bel⟩
                        · rw [ifb_f hb_79] at H
                          refine wp_skip ?_
                          refine wp_seq ?_
                          refine wp_region_lit ?_
                          refine sl hK (by decide) rfl rfl (r_loadA (cs := [v_8, v_10]) Try.isAgg28 Try.sizeOf28 rfl hK rfl (hS.cells_of (m := 2) (.head _) rfl)) fun a hK => ?_
                          refine sl hK (by decide) rfl rfl (r_loadA (cs := [v_46]) Try.isAgg24 Try.sizeOf24 rfl hK rfl (hS.cells_of (m := 1) (.tail _ (.tail _ (.head _))) rfl)) fun a hK => ?_
                          refine sl hK (by decide) rfl rfl (r_fieldAddr Try.underlying24 rfl Try.sizeOf22 hK rfl) fun a hK => ?_
                          refine sl hK (by decide) rfl rfl (r_load Try.isAgg22 hK rfl (hS.cell (.tail _ (.tail _ (.head _))) rfl)) fun a hK => ?_
                          refine sl hK (by decide) rfl rfl (r_len_O Try.underlying22 hS (.tail _ (.head _)) hK rfl) fun a hK => ?_
                          refine sl hK (by decide) rfl rfl (r_ibin hK rfl rfl rfl) fun a hK => ?_
                          obtain ⟨y_80, h_81, H⟩ := bind_some H
                          refine sl_call Try.call14 hK (by decide) rfl rfl rfl (pred_Where.calls y_4 y_41.1 (IntKind.i64.wrap ((y_41.1.N.length : Int) - 1)) (lentOf_sub [] _) hS.sub (hs_9.mono ((hl_36.le.trans (hl_44.le.trans (hl_57.le.trans hl_65.le))).trans hS.rLe0)) (hs_11.mono ((hl_36.le.trans (hl_44.le.trans (hl_57.le.trans hl_65.le))).trans hS.rLe0)) (hS.lend_row0 (.tail _ (.head _)) (hq_48.mono (hl_57.le.trans hl_65.le)) rfl rfl) (GF.mono (hS.raLe0 hRA nil_not) hG) h_81) fun a v_ w hv_ hK => ?_
                          obtain ⟨R_82, v_85, cs_86, v_89, cs_90, hv_, hr_, hl_83, hq_87, hq_91, hap_92⟩ := hv_
                          have hv_ := hv_.symm
                          subst hv_
                          obtain ⟨hS, hl_83⟩ := hS.sp0.back hr_ hl_83
                          have hS := hS.un2
                          have hRL := hRL.trans hl_83
                          refine sl_alloc Try.zeroValue28 hS hK (by decide) rfl rfl fun a w b_93 hS hK => ?_
                          refine sl_storeA (vs := [v_85, v_89]) (c' := [v_85, v_89]) Try.sizeOf28 hS hK rfl rfl rfl rfl (all_cons (hS.row_one (.tail _ (.head _))) (all_cons (hS.row_one (.tail _ (.tail _ (.head _)))) (all_nil))) (Nat.le_of_ble_eq_true rfl) rfl fun a w hS hK => ?_
                          refine wpList_nil ?_
                          refine wp_seq ?_
                          refine wp_region_lit ?_
                          refine sl hK (by decide) rfl rfl (r_loadA (cs := [v_8, v_10]) Try.isAgg28 Try.sizeOf28 rfl hK rfl (hS.cells_of (m := 2) (.tail _ (.tail _ (.tail _ (.head _)))) rfl)) fun a hK => ?_
                          refine sl hK (by decide) rfl rfl (r_loadA (cs := [v_67]) Try.isAgg24 Try.sizeOf24 rfl hK rfl (hS.cells_of (m := 1) (.tail _ (.tail _ (.tail _ (.tail _ (.tail _ (.tail _ (.tail _ (.head _)))))))) rfl)) fun a hK => ?_
                          refine sl hK (by decide) rfl rfl (r_fieldAddr Try.underlying24 rfl Try.sizeOf22 hK rfl) fun a hK => ?_
                          refine sl hK (by decide) rfl rfl (r_load Try.isAgg22 hK rfl (hS.cell (.tail _ (.tail _ (.tail _ (.tail _ (.tail _ (.tail _ (.tail _ (.head _)))))))) rfl)) fun a hK => ?_
                          refine sl hK (by decide) rfl rfl (r_len_O Try.underlying22 hS (.tail _ (.tail _ (.tail _ (.tail _ (.tail _ (.tail _ (.head _))))))) hK rfl) fun a hK => ?_
                          refine sl hK (by decide) rfl rfl (r_ibin hK rfl rfl rfl) fun a hK => ?_
                          obtain ⟨y_94, h_95, H⟩ := bind_some H
                          refine sl_call Try.call14 hK (by decide) rfl rfl rfl (pred_Where.calls y_4 y_62.1 (IntKind.i64.wrap ((y_62.1.N.length : Int) - 1)) (lentOf_sub [] _) hS.sub (hs_9.mono ((hl_36.le.trans (hl_44.le.trans (hl_57.le.trans (hl_65.le.trans hl_83.le)))).trans hS.rLe0)) (hs_11.mono ((hl_36.le.trans (hl_44.le.trans (hl_57.le.trans (hl_65.le.trans hl_83.le)))).trans hS.rLe0)) (hS.lend_row0 (.tail _ (.tail _ (.tail _ (.tail _ (.tail _ (.tail _ (.head _))))))) (hq_69.mono hl_83.le) rfl rfl) (GF.mono (hS.raLe0 hRA nil_not) hG) h_95) fun a v_ w hv_ hK => ?_
                          obtain ⟨R_96, v_99, cs_100, v_103, cs_104, hv_, hr_, hl_97, hq_101, hq_105, hap_106⟩ := hv_
                          have hv_ := hv_.symm
                          subst hv_
                          obtain ⟨hS, hl_97⟩ := hS.sp0.back hr_ hl_97
                          have hS := hS.un2
                          have hRL := hRL.trans hl_97
                          refine sl_alloc Try.zeroValue28 hS hK (by decide) rfl rfl fun a w b_107 hS hK => ?_
                          refine sl_storeA (vs := [v_99, v_103]) (c' := [v_99, v_103]) Try.sizeOf28 hS hK rfl rfl rfl rfl (all_cons (hS.row_one (.tail _ (.head _))) (all_cons (hS.row_one (.tail _ (.tail _ (.head _)))) (all_nil))) (Nat.le_of_ble_eq_true rfl) rfl fun a w hS hK => ?_
                          refine wpList_nil ?_
                          refine wp_seq ?_
                          refine wp_region_lit ?_
                          refine sl hK (by decide) rfl rfl (r_loadA (cs := [v_85, v_89]) Try.isAgg28 Try.sizeOf28 rfl hK rfl (hS.cells_of (m := 2) (.tail _ (.tail _ (.tail _ (.head _)))) rfl)) fun a hK => ?_
                          refine sl hK (by decide) rfl rfl (r_loadA (cs := [v_99, v_103]) Try.isAgg28 Try.sizeOf28 rfl hK rfl (hS.cells_of (m := 2) (.head _) rfl)) fun a hK => ?_
                          obtain ⟨y_108, h_109, H⟩ := bind_some H
                          refine sl_callV Try.call16 hS hK (by decide) rfl rfl rfl (ref02_Same.calls y_80 y_94 (lentOf_sub [] _) (hS.lend_row0 (.tail _ (.tail _ (.tail _ (.tail _ (.head _))))) (hq_87.mono hl_97.le) rfl rfl) (hS.lend_row0 (.tail _ (.tail _ (.tail _ (.tail _ (.tail _ (.head _)))))) (hq_91.mono hl_97.le) rfl rfl) (hS.lend_row0 (.tail _ (.head _)) hq_101 rfl rfl) (hS.lend_row0 (.tail _ (.tail _ (.head _))) hq_105 rfl rfl) h_109) fun a w hS hK => ?_
                          refine sl hK (by decide) rfl rfl (r_assign hK rfl) fun a hK => ?_
                          refine wpList_nil ?_
                          refine wp_seq ?_
                          refine wp_region_lit ?_
                          refine sl hK (by decide) rfl rfl (r_move hK rfl) fun a hK => ?_
                          refine sl hK (by decide) rfl rfl (r_move hK rfl) fun a hK => ?_
                          rcases or_b y_2 with hb_110 | hb_110
                          · rw [ifb_t hb_110] at H
                            refine sl hK (by decide) (wtt hb_110) rfl (r_move hK rfl) fun a hK => ?_
                            refine sl hK (by decide) rfl rfl (r_pick_t hb_110 hK rfl rfl) fun a hK => ?_
                            refine sl hK (by decide) rfl rfl (r_assign hK rfl) fun a hK => ?_
                            refine wpList_nil ?_
                            have hr_ := Option.some.inj H
                            refine wp_ret ?_
                            repeat (first | refine ret_then ?_ | refine ret_block ?_ | refine ret_scope ?_)
                            exact ret_1 Try.results6 hK (rv_tmp hK rfl) ⟨congrArg (fun b => Ending.returned (Value.bool b)) hr_, hS.bel⟩
                          · rw [ifb_f hb_110] at H
                            refine sl_skip hK (by decide) (wtf hb_110) rfl fun a hK => ?_
                            refine sl hK (by decide) rfl rfl (r_pick_f hb_110 hK rfl rfl) fun a hK => ?_
                            refine sl hK (by decide) rfl rfl (r_assign hK rfl) fun a hK => ?_
                            refine wpList_nil ?_
                            exact absurd (Option.some.inj H) (by decide)
                    · rw [ifb_f hn_53] at H
                      cases H
                  · rw [ifb_f hn_52] at H
                    cases H
                · rw [ifb_f hn_51] at H
                  cases H
              · rw [ifb_f hn_50] at H
                cases H
            · rw [ifb_f hn_32] at H
              cases H
          · rw [ifb_f hn_31] at H
            cases H
        · rw [ifb_f hn_30] at H
          cases H
      · rw [ifb_f hn_29] at H
        cases H

end Go.Proofs.Ytjklfkiaebipnaa.M
