/- Each Go function of the laws answers as its plain Lean function tells, wherever that tells something. Printed by wip/eng/gen.py. -/
import Derived.Test.YtjklfkiaebipnaaWalk3
namespace Go.Proofs.Ytjklfkiaebipnaa.M
open Go Go.Eng Go.Proofs Go.RowKit
set_option linter.unusedVariables false
set_option linter.unusedSimpArgs false

/-! ### catchment/catchmentref02.sorted: function 40 -/
set_option maxHeartbeats 4000000 in
set_option maxRecDepth 100000 in
theorem ref02_sorted.r_calls (fuel : Nat) : ∀ (a0 : List (List api_Value)) {w0 : World} {R : Hp} {v0_0 : Value} (hR : R.sub w0) (h0_0 : SlR (tySl ty_api_Value) R v0_0 a0) {r : List (List api_Value)} (H : ref02_sorted.r fuel a0 = some r), Calls Try.prog 40 #[v0_0] w0 (Rets fun v w' => ∃ (R' : Hp) (u0 : Value) (cu0 : List Value), v = u0 ∧ St [] w0 w' R' [.row 33 1 u0 r.length cu0] ∧ RLe [] w0 R R' ∧ Reps (tySl ty_api_Value) R' cu0 r) := by
  induction fuel with
  | zero => intros; rename_i H; exact nomatch (show (none : Option _) = some _ from H)
  | succ fuel ih_40 =>
    intro a0 w0 R v0_0 hR h0_0 r H
    rw [ref02_sorted.r.eq_2] at H
    generalize ref02_sorted.r fuel = kr_40 at ih_40 H
    unfold ref02_sorted.b at H
    refine enter (args := [v0_0]) Try.func40 rfl Try.ntmps40 rfl fun a hK => ?_
    have hS := St.init hR
    have hRL := RLe.refl (M := []) w0 R
    refine wp_seq ?_
    refine wp_region_lit ?_
    refine sl hK (by decide) rfl rfl (r_assign hK rfl) fun a hK => ?_
    refine wpList_nil ?_
    refine wp_seq ?_
    refine wp_seq ?_
    refine wp_region_lit ?_
    refine sl hK (by decide) rfl rfl (r_move hK rfl) fun a hK => ?_
    refine sl hK (by decide) rfl rfl (r_len_R Try.underlying26 h0_0 hK rfl) fun a hK => ?_
    refine sl hK (by decide) rfl rfl (r_ibin hK rfl rfl rfl) fun a hK => ?_
    refine wpList_nil ?_
    refine wp_cond_split (hK.ev rfl) (fun (hb_1 : (decide ((a0.length : Int) < 2)) = true) => ?_) (fun (hb_1 : (decide ((a0.length : Int) < 2)) = false) => ?_)
    · rw [ifb_t hb_1] at H
      refine wp_seq ?_
      refine wp_region_lit ?_
      refine sl_buildSliceC (zc := [.slice none 0 0]) (zs := []) (ps := []) (c := []) Try.underlying26 Try.sizeOf33 Try.zeroValue33 rfl pc_nil rfl rfl (by decide) (by kernel_rfl) rfl hS hK (by decide) rfl fun a w b_2 hS hK => ?_
      refine sl hK (by decide) rfl rfl (r_move hK rfl) fun a hK => ?_
      obtain ⟨y_5, h_6, H⟩ := bind_some H
      have hS := hS.row_lit (size := 1) (m := 0) rfl (by decide)
      have hq_4 : Reps (tySl ty_api_Value) R [] ([] : List (List api_Value)) := (Reps.nil _ _)
      refine sl_append_R elT26 (by decide) rfl hq_4 rfl h0_0 h_6 hS hK (by decide) rfl rfl rfl fun a w v_7 cs_8 hq_9 hS hK => ?_
      refine sl hK (by decide) rfl rfl (r_assign hK rfl) fun a hK => ?_
      refine wpList_nil ?_
      obtain rfl := Option.some.inj H
      refine wp_ret ?_
      repeat (first | refine ret_then ?_ | refine ret_block ?_ | refine ret_scope ?_)
      exact ret_1 Try.results40 hK (rv_tmp hK rfl) ⟨_, rfl, _, _, _, rfl, hS, hRL, hq_9⟩
    · rw [ifb_f hb_1] at H
      refine wp_skip ?_
      refine wp_seq ?_
      refine wp_region_lit ?_
      refine sl hK (by decide) rfl rfl (r_move hK rfl) fun a hK => ?_
      refine sl hK (by decide) rfl rfl (r_move hK rfl) fun a hK => ?_
      refine sl hK (by decide) rfl rfl (r_len_R Try.underlying26 h0_0 hK rfl) fun a hK => ?_
      refine sl hK (by decide) rfl rfl (r_quo hK rfl rfl (by decide)) fun a hK => ?_
      obtain ⟨y_11, h_12, H⟩ := bind_some H
      obtain ⟨v_13, hs_14, hr_15⟩ := r_slice_R (x := .tmp 14) (lo := none) (hi := some (.tmp 17)) Try.underlying26 Try.sizeOf33 h0_0 h_12 hK rfl rfl ⟨_, rfl⟩
      refine sl hK (by decide) rfl rfl (hr_15 _ _ _ _ _ _ _ hK) fun a hK => ?_
      obtain ⟨y_16, h_17, H⟩ := bind_some H
      refine sl_call Try.call40 hK (by decide) rfl rfl rfl (ih_40 y_11 hS.sub hs_14 h_17) fun a v_ w hv_ hK => ?_
      obtain ⟨R_18, v_21, cs_22, hv_, hr_, hl_19, hq_23⟩ := hv_
      have hv_ := hv_.symm
      subst hv_
      obtain ⟨hS, hl_19⟩ := hS.sp0.back hr_ hl_19
      have hS := hS.un1
      have hRL := hRL.trans hl_19
      refine sl hK (by decide) rfl rfl (r_assign hK rfl) fun a hK => ?_
      refine wpList_nil ?_
      refine wp_seq ?_
      refine wp_region_lit ?_
      refine sl hK (by decide) rfl rfl (r_move hK rfl) fun a hK => ?_
      refine sl hK (by decide) rfl rfl (r_move hK rfl) fun a hK => ?_
      refine sl hK (by decide) rfl rfl (r_len_R Try.underlying26 h0_0 hK rfl) fun a hK => ?_
      refine sl hK (by decide) rfl rfl (r_quo hK rfl rfl (by decide)) fun a hK => ?_
      obtain ⟨y_24, h_25, H⟩ := bind_some H
      obtain ⟨v_26, hs_27, hr_28⟩ := r_slice_R (x := .tmp 20) (lo := some (.tmp 23)) (hi := none) Try.underlying26 Try.sizeOf33 h0_0 h_25 hK rfl ⟨_, rfl⟩ rfl
      refine sl hK (by decide) rfl rfl (hr_28 _ _ _ _ _ _ _ hK) fun a hK => ?_
      obtain ⟨y_29, h_30, H⟩ := bind_some H
      refine sl_call Try.call40 hK (by decide) rfl rfl rfl (ih_40 y_24 hS.sub (hs_27.mono hl_19.le) h_30) fun a v_ w hv_ hK => ?_
      obtain ⟨R_31, v_34, cs_35, hv_, hr_, hl_32, hq_36⟩ := hv_
      have hv_ := hv_.symm
      subst hv_
      obtain ⟨hS, hl_32⟩ := hS.sp0.back hr_ hl_32
      have hS := hS.un1
      have hRL := hRL.trans hl_32
      refine sl hK (by decide) rfl rfl (r_assign hK rfl) fun a hK => ?_
      refine wpList_nil ?_
      refine wp_seq ?_
      refine wp_region_lit ?_
      refine sl hK (by decide) rfl rfl (r_assign hK rfl) fun a hK => ?_
      refine wpList_nil ?_
      refine wp_seq ?_
      refine wp_region_lit ?_
      refine sl hK (by decide) rfl rfl (r_assign hK rfl) fun a hK => ?_
      refine wpList_nil ?_
      refine wp_seq ?_
      refine wp_region_lit ?_
      refine sl hK (by decide) rfl rfl (r_assign hK rfl) fun a hK => ?_
      refine wpList_nil ?_
      refine wp_seq ?_
      refine wp_block ?_
      refine wp_loop_k (fun k_l0 a w => ∃ (x_228 : List (List api_Value)) (x_232 : Int) (x_233 : Int) (v_229 : Value) (cs_230 : List Value), ref02_sorted.l0 y_16 y_29 k_l0 x_228 x_232 x_233 = some r ∧ Reps (tySl ty_api_Value) R_31 cs_230 x_228 ∧ Kn 77 a [(3, v_21), (4, v_34), (5, v_229), (6, .int .i64 x_232), (7, .int .i64 x_233)] ∧ St [] w0 w R_31 [.row 33 1 v_21 y_16.length cs_22, .row 33 1 v_34 y_29.length cs_35, .row 33 1 v_229 x_228.length cs_230]) (y_16.length + y_29.length + 1) ?_ ?_
      · have hS := hS.row_nil 33 1
        have hq_417 : Reps (tySl ty_api_Value) R_31 [] ([] : List (List api_Value)) := Reps.nil _ _
        have hS := hS.pk1
        have hS := hS.pk2
        exact ⟨[], 0, 0, _, _, H, hq_417, hK.sub (all_cons rfl (all_cons rfl (all_cons rfl (all_cons rfl (all_cons rfl (all_nil)))))), hS⟩
      · rintro k_l0 a w ⟨x_228, x_232, x_233, v_229, cs_230, H, hq_231, hK, hS⟩
        cases k_l0 with
        | zero => cases H
        | succ k_l0 =>
        rw [ref02_sorted.l0.eq_2] at H
        refine wp_seq ?_
        refine wp_seq ?_
        refine wp_mid (fun a w => ∃ (x_419 : Bool), ref02_sorted.j1 (ref02_sorted.l0 y_16 y_29 k_l0) y_16 y_29 x_228 x_232 x_233 x_419 = some r ∧ Kn 77 a [(3, v_21), (4, v_34), (5, v_229), (6, .int .i64 x_232), (7, .int .i64 x_233), (35, .bool x_419)] ∧ St [] w0 w R_31 [.row 33 1 v_21 y_16.length cs_22, .row 33 1 v_34 y_29.length cs_35, .row 33 1 v_229 x_228.length cs_230]) ?_ ?_
        · refine wp_region_lit ?_
          refine sl hK (by decide) rfl rfl (r_move hK rfl) fun a hK => ?_
          refine sl hK (by decide) rfl rfl (r_move hK rfl) fun a hK => ?_
          refine sl hK (by decide) rfl rfl (r_len_O Try.underlying26 hS (.head _) hK rfl) fun a hK => ?_
          refine sl hK (by decide) rfl rfl (r_ibin hK rfl rfl rfl) fun a hK => ?_
          refine sl hK (by decide) rfl rfl (r_move hK rfl) fun a hK => ?_
          rcases or_b (decide (x_232 < (y_16.length : Int))) with hb_421 | hb_421
          · rw [ifb_t hb_421] at H
            refine sl_skip hK (by decide) (wft hb_421) rfl fun a hK => ?_
            refine sl_skip hK (by decide) (wft hb_421) rfl fun a hK => ?_
            refine sl_skip hK (by decide) (wft hb_421) rfl fun a hK => ?_
            refine sl_skip hK (by decide) (wft hb_421) rfl fun a hK => ?_
            refine sl hK (by decide) rfl rfl (r_pick_t hb_421 hK rfl rfl) fun a hK => ?_
            refine wpList_nil ?_
            have hS := hS.pk2
            have hS := hS.pk2
            have hS := hS.pk2
            exact ⟨true, H, hK.sub (all_cons rfl (all_cons rfl (all_cons rfl (all_cons rfl (all_cons rfl (all_cons rfl (all_nil))))))), hS⟩
          · rw [ifb_f hb_421] at H
            refine sl hK (by decide) (wff hb_421) rfl (r_move hK rfl) fun a hK => ?_
            refine sl hK (by decide) (wff hb_421) rfl (r_move hK rfl) fun a hK => ?_
            refine sl hK (by decide) (wff hb_421) rfl (r_len_O Try.underlying26 hS (.tail _ (.head _)) hK rfl) fun a hK => ?_
            refine sl hK (by decide) (wff hb_421) rfl (r_ibin hK rfl rfl rfl) fun a hK => ?_
            refine sl hK (by decide) rfl rfl (r_pick_f hb_421 hK rfl rfl) fun a hK => ?_
            refine wpList_nil ?_
            have hS := hS.pk2
            have hS := hS.pk2
            have hS := hS.pk2
            exact ⟨(decide (x_233 < (y_29.length : Int))), H, hK.sub (all_cons rfl (all_cons rfl (all_cons rfl (all_cons rfl (all_cons rfl (all_cons rfl (all_nil))))))), hS⟩
        · rintro a w ⟨x_419, H, hK, hS⟩
          unfold ref02_sorted.j1 at H
          refine wp_cond_split (hK.ev rfl) (fun (hb_422 : x_419 = true) => ?_) (fun (hb_422 : x_419 = false) => ?_)
          · rw [ifb_t hb_422] at H
            refine wp_skip ?_
            refine wp_block ?_
            refine wp_seq ?_
            refine wp_mid (fun a w => ∃ (x_471 : Bool), ref02_sorted.j2 (ref02_sorted.l0 y_16 y_29 k_l0) y_16 y_29 x_228 x_232 x_233 x_471 = some r ∧ Kn 77 a [(3, v_21), (4, v_34), (5, v_229), (6, .int .i64 x_232), (7, .int .i64 x_233), (57, .bool x_471)] ∧ St [] w0 w R_31 [.row 33 1 v_21 y_16.length cs_22, .row 33 1 v_34 y_29.length cs_35, .row 33 1 v_229 x_228.length cs_230]) ?_ ?_
            · refine parT_region (C := fun w => St [] w0 w R_31 [.row 33 1 v_21 y_16.length cs_22, .row 33 1 v_34 y_29.length cs_35, .row 33 1 v_229 x_228.length cs_230]) 18 [(0, true), (1, true), (2, true), (3, true), (4, true), (5, true), (6, true), (7, true), (8, true), (9, true), (10, true), (11, true), (12, true), (13, true), (14, true), (15, true), (16, true), (17, true)] mixed (by kernel_rfl) hS (fun w hS => hS) fun w hS => ?_
              refine sp (k := 0) rfl hK (by decide) rfl rfl (fun w hS => r_move hK rfl) fun a hK => ?_
              refine sp (k := 1) rfl hK (by decide) rfl rfl (fun w hS => r_move hK rfl) fun a hK => ?_
              refine sp (k := 2) rfl hK (by decide) rfl rfl (fun w hS => r_len_O Try.underlying26 hS (.tail _ (.head _)) hK rfl) fun a hK => ?_
              refine sp (k := 3) rfl hK (by decide) rfl rfl (fun w hS => r_ibin hK rfl rfl rfl) fun a hK => ?_
              refine sp (k := 4) rfl hK (by decide) rfl rfl (fun w hS => r_move hK rfl) fun a hK => ?_
              rcases or_b (x_233 == (y_29.length : Int)) with hb_497 | hb_497
              · rw [ifb_t hb_497] at H
                refine sp_skip (k := 5) rfl hK (by decide) (wft hb_497) rfl fun a hK => ?_
                refine sp_skip (k := 6) rfl hK (by decide) (wft hb_497) rfl fun a hK => ?_
                refine sp_skip (k := 7) rfl hK (by decide) (wft hb_497) rfl fun a hK => ?_
                refine sp_skip (k := 8) rfl hK (by decide) (wft hb_497) rfl fun a hK => ?_
                refine sp_skip (k := 9) rfl hK (by decide) (wft hb_497) rfl fun a hK => ?_
                refine sp_skip (k := 10) rfl hK (by decide) rfl rfl fun a hK => ?_
                refine sp_skip (k := 11) rfl hK (by decide) rfl rfl fun a hK => ?_
                refine sp_skip (k := 12) rfl hK (by decide) rfl rfl fun a hK => ?_
                refine sp_skip (k := 13) rfl hK (by decide) rfl rfl fun a hK => ?_
                refine sp_skip (k := 14) rfl hK (by decide) rfl rfl fun a hK => ?_
                refine sp_skip (k := 15) rfl hK (by decide) rfl rfl fun a hK => ?_
                refine sp_skip (k := 16) rfl hK (by decide) rfl rfl fun a hK => ?_
                refine sp_skip (k := 17) rfl hK (by decide) rfl rfl fun a hK => ?_
                refine thenL_nil ?_
                refine sl_skip hK (by decide) rfl rfl fun a hK => ?_
                refine sl_skip hK (by decide) rfl rfl fun a hK => ?_
                refine sl_skip hK (by decide) (wft hb_497) rfl fun a hK => ?_
                refine sl hK (by decide) rfl rfl (r_pick_t hb_497 hK rfl rfl) fun a hK => ?_
                refine wpList_nil (NoP_nil ?_)
                have hS := hS.pk2
                have hS := hS.pk2
                have hS := hS.pk2
                exact ⟨true, H, hK.sub (all_cons rfl (all_cons rfl (all_cons rfl (all_cons rfl (all_cons rfl (all_cons rfl (all_nil))))))), hS⟩
              · rw [ifb_f hb_497] at H
                refine sp (k := 5) rfl hK (by decide) (wff hb_497) rfl (fun w hS => r_move hK rfl) fun a hK => ?_
                refine sp (k := 6) rfl hK (by decide) (wff hb_497) rfl (fun w hS => r_move hK rfl) fun a hK => ?_
                refine sp (k := 7) rfl hK (by decide) (wff hb_497) rfl (fun w hS => r_len_O Try.underlying26 hS (.head _) hK rfl) fun a hK => ?_
                refine sp (k := 8) rfl hK (by decide) (wff hb_497) rfl (fun w hS => r_ibin hK rfl rfl rfl) fun a hK => ?_
                refine sp (k := 9) rfl hK (by decide) (wff hb_497) rfl (fun w hS => r_move hK rfl) fun a hK => ?_
                rcases or_b (decide (x_232 < (y_16.length : Int))) with hb_498 | hb_498
                · rw [ifb_t hb_498] at H
                  refine sp (k := 10) rfl hK (by decide) (wtt hb_498) rfl (fun w hS => r_move hK rfl) fun a hK => ?_
                  refine sp (k := 11) rfl hK (by decide) (wtt hb_498) rfl (fun w hS => r_move hK rfl) fun a hK => ?_
                  obtain ⟨y_499, h_500, H⟩ := bind_some H
                  obtain ⟨b_502, c_503, cs_504, hv_501, hr_505, hc_506, h_5000, h_5001⟩ := hS.row_ix (.head _) (hq_23.mono hl_32.le) rfl rfl h_500
                  obtain ⟨v_507, rfl, hs_508⟩ := hr_505
                  refine sp (k := 12) rfl hK (by decide) (wtt hb_498) rfl (fun w hS => r_indexAddr_R Try.underlying26 Try.sizeOf33 hv_501 h_5000 h_5001 hK rfl rfl) fun a hK => ?_
                  refine sp (k := 13) rfl hK (by decide) (wtt hb_498) rfl (fun w hS => r_load Try.isAgg33 hK rfl (hS.row_cell (.head _) hv_501 (hc_506 0 _ rfl))) fun a hK => ?_
                  refine sp (k := 14) rfl hK (by decide) (wtt hb_498) rfl (fun w hS => r_move hK rfl) fun a hK => ?_
                  refine sp (k := 15) rfl hK (by decide) (wtt hb_498) rfl (fun w hS => r_move hK rfl) fun a hK => ?_
                  obtain ⟨y_509, h_510, H⟩ := bind_some H
                  obtain ⟨b_512, c_513, cs_514, hv_511, hr_515, hc_516, h_5100, h_5101⟩ := hS.row_ix (.tail _ (.head _)) hq_36 rfl rfl h_510
                  obtain ⟨v_517, rfl, hs_518⟩ := hr_515
                  refine sp (k := 16) rfl hK (by decide) (wtt hb_498) rfl (fun w hS => r_indexAddr_R Try.underlying26 Try.sizeOf33 hv_511 h_5100 h_5101 hK rfl rfl) fun a hK => ?_
                  refine sp (k := 17) rfl hK (by decide) (wtt hb_498) rfl (fun w hS => r_load Try.isAgg33 hK rfl (hS.row_cell (.tail _ (.head _)) hv_511 (hc_516 0 _ rfl))) fun a hK => ?_
                  refine thenL_nil ?_
                  obtain ⟨y_519, h_520, H⟩ := bind_some H
                  refine sl_callV Try.call36 hS hK (by decide) (wtt hb_498) rfl rfl (ref02_Row.calls y_499 y_509 (lentOf_sub [] _) (hs_508.mono hS.rLe0) (hs_518.mono hS.rLe0) h_520) fun a w hS hK => ?_
                  refine sl hK (by decide) (wtt hb_498) rfl (r_ibin hK rfl rfl rfl) fun a hK => ?_
                  refine sl hK (by decide) (wff hb_497) rfl (r_pick_t hb_498 hK rfl rfl) fun a hK => ?_
                  refine sl hK (by decide) rfl rfl (r_pick_f hb_497 hK rfl rfl) fun a hK => ?_
                  refine wpList_nil (NoP_nil ?_)
                  have hS := hS.pk2
                  have hS := hS.pk2
                  have hS := hS.pk2
                  exact ⟨(decide (y_519 ≤ 0)), H, hK.sub (all_cons rfl (all_cons rfl (all_cons rfl (all_cons rfl (all_cons rfl (all_cons rfl (all_nil))))))), hS⟩
                · rw [ifb_f hb_498] at H
                  refine sp_skip (k := 10) rfl hK (by decide) (wtf hb_498) rfl fun a hK => ?_
                  refine sp_skip (k := 11) rfl hK (by decide) (wtf hb_498) rfl fun a hK => ?_
                  refine sp_skip (k := 12) rfl hK (by decide) (wtf hb_498) rfl fun a hK => ?_
                  refine sp_skip (k := 13) rfl hK (by decide) (wtf hb_498) rfl fun a hK => ?_
                  refine sp_skip (k := 14) rfl hK (by decide) (wtf hb_498) rfl fun a hK => ?_
                  refine sp_skip (k := 15) rfl hK (by decide) (wtf hb_498) rfl fun a hK => ?_
                  refine sp_skip (k := 16) rfl hK (by decide) (wtf hb_498) rfl fun a hK => ?_
                  refine sp_skip (k := 17) rfl hK (by decide) (wtf hb_498) rfl fun a hK => ?_
                  refine thenL_nil ?_
                  refine sl_skip hK (by decide) (wtf hb_498) rfl fun a hK => ?_
                  refine sl_skip hK (by decide) (wtf hb_498) rfl fun a hK => ?_
                  refine sl hK (by decide) (wff hb_497) rfl (r_pick_f hb_498 hK rfl rfl) fun a hK => ?_
                  refine sl hK (by decide) rfl rfl (r_pick_f hb_497 hK rfl rfl) fun a hK => ?_
                  refine wpList_nil (NoP_nil ?_)
                  have hS := hS.pk2
                  have hS := hS.pk2
                  have hS := hS.pk2
                  exact ⟨false, H, hK.sub (all_cons rfl (all_cons rfl (all_cons rfl (all_cons rfl (all_cons rfl (all_cons rfl (all_nil))))))), hS⟩
            · rintro a w ⟨x_471, H, hK, hS⟩
              unfold ref02_sorted.j2 at H
              refine wp_mid (fun a w => ∃ (x_557 : List (List api_Value)) (x_561 : Int) (x_562 : Int) (v_558 : Value) (cs_559 : List Value), ref02_sorted.j3 (ref02_sorted.l0 y_16 y_29 k_l0) y_16 y_29 x_557 x_561 x_562 = some r ∧ Reps (tySl ty_api_Value) R_31 cs_559 x_557 ∧ Kn 77 a [(3, v_21), (4, v_34), (5, v_558), (6, .int .i64 x_561), (7, .int .i64 x_562)] ∧ St [] w0 w R_31 [.row 33 1 v_21 y_16.length cs_22, .row 33 1 v_34 y_29.length cs_35, .row 33 1 v_558 x_557.length cs_559]) ?_ ?_
              · refine wp_cond_split (hK.ev rfl) (fun (hb_564 : x_471 = true) => ?_) (fun (hb_564 : x_471 = false) => ?_)
                · rw [ifb_t hb_564] at H
                  refine wp_seq ?_
                  refine wp_region_lit ?_
                  refine sl hK (by decide) rfl rfl (r_move hK rfl) fun a hK => ?_
                  refine sl hK (by decide) rfl rfl (r_move hK rfl) fun a hK => ?_
                  refine sl hK (by decide) rfl rfl (r_move hK rfl) fun a hK => ?_
                  obtain ⟨y_565, h_566, H⟩ := bind_some H
                  obtain ⟨b_568, c_569, cs_570, hv_567, hr_571, hc_572, h_5660, h_5661⟩ := hS.row_ix (.head _) (hq_23.mono hl_32.le) rfl rfl h_566
                  obtain ⟨v_573, rfl, hs_574⟩ := hr_571
                  refine sl hK (by decide) rfl rfl (r_indexAddr_R Try.underlying26 Try.sizeOf33 hv_567 h_5660 h_5661 hK rfl rfl) fun a hK => ?_
                  refine sl hK (by decide) rfl rfl (r_load Try.isAgg33 hK rfl (hS.row_cell (.head _) hv_567 (hc_572 0 _ rfl))) fun a hK => ?_
                  refine sl_buildSliceF (zc := [.slice none 0 0]) (ps := [(0, v_573)]) (c := [v_573]) [[v_573]] Try.underlying26 Try.sizeOf33 Try.zeroValue33 rfl (pc_cons (cells1 hs_574.one) pc_nil) rfl rfl (Nat.le_of_ble_eq_true rfl) rfl (all_cons rfl (all_nil)) rfl hS hK (by decide) rfl fun a w b_575 hS hK => ?_
                  obtain ⟨y_576, h_577, H⟩ := bind_some H
                  have hS := hS.pk3
                  refine sl_append_L (ty := (tySl ty_api_Value)) (ys := [y_565]) elT26 (by decide) rfl hq_231 rfl (Reps.cons (show Ty.rep (tySl ty_api_Value) _ [v_573] y_565 from ⟨_, rfl, hs_574⟩) (Reps.nil _ _)) rfl h_577 hS hK (by decide) rfl rfl rfl fun a w v_578 cs_579 hq_580 hS hK => ?_
                  refine sl hK (by decide) rfl rfl (r_assign hK rfl) fun a hK => ?_
                  refine wpList_nil ?_
                  refine wp_region_lit ?_
                  refine sl hK (by decide) rfl rfl (r_move hK rfl) fun a hK => ?_
                  refine sl hK (by decide) rfl rfl (r_ibin hK rfl rfl rfl) fun a hK => ?_
                  refine sl hK (by decide) rfl rfl (r_assign hK rfl) fun a hK => ?_
                  refine wpList_nil ?_
                  have hS := hS.pk2
                  have hS := hS.pk2
                  exact ⟨y_576, (IntKind.i64.wrap (x_232 + 1)), x_233, _, _, H, hq_580, hK.sub (all_cons rfl (all_cons rfl (all_cons rfl (all_cons rfl (all_cons rfl (all_nil)))))), hS⟩
                · rw [ifb_f hb_564] at H
                  refine wp_seq ?_
                  refine wp_region_lit ?_
                  refine sl hK (by decide) rfl rfl (r_move hK rfl) fun a hK => ?_
                  refine sl hK (by decide) rfl rfl (r_move hK rfl) fun a hK => ?_
                  refine sl hK (by decide) rfl rfl (r_move hK rfl) fun a hK => ?_
                  obtain ⟨y_582, h_583, H⟩ := bind_some H
                  obtain ⟨b_585, c_586, cs_587, hv_584, hr_588, hc_589, h_5830, h_5831⟩ := hS.row_ix (.tail _ (.head _)) hq_36 rfl rfl h_583
                  obtain ⟨v_590, rfl, hs_591⟩ := hr_588
                  refine sl hK (by decide) rfl rfl (r_indexAddr_R Try.underlying26 Try.sizeOf33 hv_584 h_5830 h_5831 hK rfl rfl) fun a hK => ?_
                  refine sl hK (by decide) rfl rfl (r_load Try.isAgg33 hK rfl (hS.row_cell (.tail _ (.head _)) hv_584 (hc_589 0 _ rfl))) fun a hK => ?_
                  refine sl_buildSliceF (zc := [.slice none 0 0]) (ps := [(0, v_590)]) (c := [v_590]) [[v_590]] Try.underlying26 Try.sizeOf33 Try.zeroValue33 rfl (pc_cons (cells1 hs_591.one) pc_nil) rfl rfl (Nat.le_of_ble_eq_true rfl) rfl (all_cons rfl (all_nil)) rfl hS hK (by decide) rfl fun a w b_592 hS hK => ?_
                  obtain ⟨y_593, h_594, H⟩ := bind_some H
                  have hS := hS.pk3
                  refine sl_append_L (ty := (tySl ty_api_Value)) (ys := [y_582]) elT26 (by decide) rfl hq_231 rfl (Reps.cons (show Ty.rep (tySl ty_api_Value) _ [v_590] y_582 from ⟨_, rfl, hs_591⟩) (Reps.nil _ _)) rfl h_594 hS hK (by decide) rfl rfl rfl fun a w v_595 cs_596 hq_597 hS hK => ?_
                  refine sl hK (by decide) rfl rfl (r_assign hK rfl) fun a hK => ?_
                  refine wpList_nil ?_
                  refine wp_region_lit ?_
                  refine sl hK (by decide) rfl rfl (r_move hK rfl) fun a hK => ?_
                  refine sl hK (by decide) rfl rfl (r_ibin hK rfl rfl rfl) fun a hK => ?_
                  refine sl hK (by decide) rfl rfl (r_assign hK rfl) fun a hK => ?_
                  refine wpList_nil ?_
                  have hS := hS.pk2
                  have hS := hS.pk2
                  exact ⟨y_593, x_232, (IntKind.i64.wrap (x_233 + 1)), _, _, H, hq_597, hK.sub (all_cons rfl (all_cons rfl (all_cons rfl (all_cons rfl (all_cons rfl (all_nil)))))), hS⟩
              · rintro a w ⟨x_557, x_561, x_562, v_558, cs_559, H, hq_560, hK, hS⟩
                unfold ref02_sorted.j3 at H
                have hS := hS.pk2
                have hS := hS.pk2
                have hS := hS.pk2
                exact ⟨_, Nat.lt_succ_self _, x_557, x_561, x_562, _, _, H, hq_560, hK.sub (all_cons rfl (all_cons rfl (all_cons rfl (all_cons rfl (all_cons rfl (all_nil)))))), hS⟩
          · rw [ifb_f hb_422] at H
            refine wp_exit ?_
            refine wp_seq ?_
            refine wp_region_lit ?_
            refine sl hK (by decide) rfl rfl (r_move hK rfl) fun a hK => ?_
            refine sl hK (by decide) rfl rfl (r_assign hK rfl) fun a hK => ?_
            refine wpList_nil ?_
            obtain rfl := Option.some.inj H
            refine wp_ret ?_
            repeat (first | refine ret_then ?_ | refine ret_block ?_ | refine ret_scope ?_)
            exact ret_1 Try.results40 hK (rv_tmp hK rfl) ⟨_, rfl, _, _, _, rfl, (hS.pk2.trunc 1), hRL, hq_231⟩
theorem ref02_sorted.calls (a0 : List (List api_Value)) {w0 : World} {R : Hp} {v0_0 : Value} (hR : R.sub w0) (h0_0 : SlR (tySl ty_api_Value) R v0_0 a0) {r : List (List api_Value)} (H : ref02_sorted a0 = some r) : Calls Try.prog 40 #[v0_0] w0 (Rets fun v w' => ∃ (R' : Hp) (u0 : Value) (cu0 : List Value), v = u0 ∧ St [] w0 w' R' [.row 33 1 u0 r.length cu0] ∧ RLe [] w0 R R' ∧ Reps (tySl ty_api_Value) R' cu0 r) := ref02_sorted.r_calls _ a0 hR h0_0 H

/-! ### catchment/catchmentref02.Canon: function 19 -/
set_option maxHeartbeats 4000000 in
set_option maxRecDepth 100000 in
theorem ref02_Canon.calls (a0 : api_Table) {w0 : World} {R : Hp} {v0_0 : Value} {v0_1 : Value} (hR : R.sub w0) (h0_0 : SlR ty_api_Col R v0_0 a0.Cols) (h0_1 : SlR (tySl ty_api_Value) R v0_1 a0.Rows) {r : api_Table} (H : ref02_Canon a0 = some r) : Calls Try.prog 19 #[.agg #[v0_0, v0_1]] w0 (Rets fun v w' => ∃ (R' : Hp) (u0 : Value) (cu0 : List Value) (u1 : Value) (cu1 : List Value), v = .agg #[u0, u1] ∧ St [] w0 w' R' [.row 57 2 u0 r.Cols.length cu0, .row 33 1 u1 r.Rows.length cu1] ∧ RLe [] w0 R R' ∧ Reps ty_api_Col R' cu0 r.Cols ∧ Reps (tySl ty_api_Value) R' cu1 r.Rows) := by
  unfold ref02_Canon at H
  refine enter (args := [.agg #[v0_0, v0_1]]) Try.func19 rfl Try.ntmps19 rfl fun a hK => ?_
  have hS := St.init hR
  have hRL := RLe.refl (M := []) w0 R
  refine wp_seq ?_
  refine wp_region_lit ?_
  refine sl_box hS hK (by decide) rfl rfl (c := [v0_0, v0_1]) rfl fun a w b_1 hS hK => ?_
  refine sl_alloc Try.zeroValue28 hS hK (by decide) rfl rfl fun a w b_2 hS hK => ?_
  refine wpList_nil ?_
  refine wp_seq ?_
  refine parT_region (C := fun w => St [] w0 w R [.cells b_2 [.slice none 0 0, .slice none 0 0] 28, .cells b_1 [v0_0, v0_1] 28]) 6 [(1, true), (2, true), (4, true), (5, true), (0, false), (3, false)] mixed (by kernel_rfl) hS (fun w hS => hS) fun w hS => ?_
  refine sp (k := 1) rfl hK (by decide) rfl rfl (fun w hS => r_fieldAddr Try.underlying28 rfl Try.sizeOf25 hK rfl) fun a hK => ?_
  refine sp (k := 2) rfl hK (by decide) rfl rfl (fun w hS => r_load Try.isAgg25 hK rfl (hS.cell (.tail _ (.head _)) rfl)) fun a hK => ?_
  refine sp (k := 4) rfl hK (by decide) rfl rfl (fun w hS => r_fieldAddr Try.underlying28 rfl Try.sizeOf26 hK rfl) fun a hK => ?_
  refine sp (k := 5) rfl hK (by decide) rfl rfl (fun w hS => r_load Try.isAgg26 hK rfl (hS.cell (.tail _ (.head _)) rfl)) fun a hK => ?_
  refine spw (k := 0) rfl rfl hS ?_
  refine sl_buildSliceC (zc := [.string (⟨#[]⟩ : ByteArray), .int .i64 0]) (zs := []) (ps := []) (c := []) Try.underlying25 Try.sizeOf57 Try.zeroValue57 rfl pc_nil rfl rfl (by decide) (by kernel_rfl) rfl hS hK (by decide) rfl fun a w b_22 hS hK => ?_
  refine parK_nil (hS.pk2.pk2.trunc 2) ?_
  refine spw (k := 3) rfl rfl (hS.pk2.pk2.trunc 2) ?_
  obtain ⟨y_25, h_26, H⟩ := bind_some H
  have hS := hS.row_lit (size := 2) (m := 0) rfl (by decide)
  have hq_24 : Reps ty_api_Col R [] ([] : List api_Col) := (Reps.nil _ _)
  refine sl_append_R elT25 (by decide) rfl hq_24 rfl h0_0 h_26 hS hK (by decide) rfl rfl rfl fun a w v_27 cs_28 hq_29 hS hK => ?_
  refine parK_nil (hS.pk2.pk2.trunc 2) ?_
  refine thenL_nil ?_
  obtain ⟨y_31, h_32, H⟩ := bind_some H
  refine sl_call Try.call40 hK (by decide) rfl rfl rfl (ref02_sorted.calls a0.Rows hS.sub h0_1 h_32) fun a v_ w hv_ hK => ?_
  obtain ⟨R_33, v_36, cs_37, hv_, hr_, hl_34, hq_38⟩ := hv_
  have hv_ := hv_.symm
  subst hv_
  obtain ⟨hS, hl_34⟩ := hS.sp0.back hr_ hl_34
  have hS := hS.un1
  have hRL := hRL.trans hl_34
  have ho_39 := hS.row_one (.tail _ (.head _))
  have ho_40 := hS.row_one (.head _)
  refine sl hK (by decide) rfl rfl (r_buildC (ps := [(0, v_27), (1, v_36)]) (c := [v_27, v_36]) Try.underlying28 Try.zeroValue28 places28 hK rfl (pc_cons (cells1 ho_39) (pc_cons (cells1 ho_40) pc_nil)) rfl rfl) fun a hK => ?_
  have hS := hS.pk2
  refine sl_storeA (vs := [v_27, v_36]) (c' := [v_27, v_36]) Try.sizeOf28 hS hK rfl rfl rfl rfl (all_cons (hS.row_one (.tail _ (.tail _ (.head _)))) (all_cons (hS.row_one (.tail _ (.head _))) (all_nil))) (Nat.le_of_ble_eq_true rfl) rfl fun a w hS hK => ?_
  refine wpList_nil (NoP_nil ?_)
  obtain rfl := Option.some.inj H
  refine wp_ret ?_
  repeat (first | refine ret_then ?_ | refine ret_block ?_ | refine ret_scope ?_)
  exact ret_1 Try.results19 hK (rv_cell (c := [v_27, v_36]) Try.isAgg28 Try.sizeOf28 hS (.head _) rfl hK rfl) ⟨_, rfl, _, _, _, _, _, rfl, (hS.pk1.pk2.trunc 2), hRL, (hq_29.mono hl_34.le), hq_38⟩

/-! ### catchment/catchmentlaw15.PredNot: function 5 -/
set_option maxHeartbeats 4000000 in
set_option maxRecDepth 100000 in
theorem law15_PredNot.calls (a0 : ByteArray) (a1 : api_Table) {w0 : World} {R : Hp} {RA : Hp} {v1_0 : Value} {v1_1 : Value} (hRA : RA.sub w0) (hR : R.sub w0) (h1_0 : SlR ty_api_Col R v1_0 a1.Cols) (h1_1 : SlR (tySl ty_api_Value) R v1_1 a1.Rows) (hG : GF RA) (H : law15_PredNot a0 a1 = some true) : CallsV Try.prog 5 #[.string a0, .agg #[v1_0, v1_1]] w0 (.bool true) := by
  unfold law15_PredNot at H
  refine enter (args := [.string a0, .agg #[v1_0, v1_1]]) Try.func5 rfl Try.ntmps5 rfl fun a hK => ?_
  have hS := St.init hR
  have hRL := RLe.refl (M := []) w0 R
  refine wp_seq ?_
  refine wp_region_lit ?_
  refine sl_box hS hK (by decide) rfl rfl (c := [v1_0, v1_1]) rfl fun a w b_1 hS hK => ?_
  refine sl hK (by decide) rfl rfl (r_assign hK rfl) fun a hK => ?_
  refine wpList_nil ?_
  refine wp_seq ?_
  refine wp_region_lit ?_
  obtain ⟨y_2, h_3, H⟩ := bind_some H
  refine sl_callV Try.call9 hS hK (by decide) rfl rfl rfl (law15_shown.calls (lentOf_sub [] _) (GF.mono (hS.raLe0 hRA nil_not) hG) h_3) fun a w hS hK => ?_
  refine sl hK (by decide) rfl rfl (r_assign hK rfl) fun a hK => ?_
  refine wpList_nil ?_
  refine wp_seq ?_
  refine wp_region_lit ?_
  refine sl hK (by decide) rfl rfl (r_loadA (cs := [v1_0, v1_1]) Try.isAgg28 Try.sizeOf28 rfl hK rfl (hS.cells_of (m := 2) (.head _) rfl)) fun a hK => ?_
  obtain ⟨y_4, h_5, H⟩ := bind_some H
  refine sl_call Try.call11 hK (by decide) rfl rfl rfl (law15_cut.calls a1 hS.sub h1_0 h1_1 h_5) fun a v_ w hv_ hK => ?_
  obtain ⟨R_6, v_8, v_10, hv_, hr_, hl_7, hs_9, hs_11⟩ := hv_
  have hv_ := hv_.symm
  subst hv_
  obtain ⟨hS, hl_7⟩ := hS.sp0.back hr_ hl_7
  have hS := hS.un0
  have hRL := hRL.trans hl_7
  refine sl_storeA (vs := [v_8, v_10]) (c' := [v_8, v_10]) Try.sizeOf28 hS hK rfl rfl rfl rfl (all_cons hs_9.one (all_cons hs_11.one (all_nil))) (Nat.le_of_ble_eq_true rfl) rfl fun a w hS hK => ?_
  refine wpList_nil ?_
  refine wp_seq ?_
  refine wp_region_lit ?_
  refine sl hK (by decide) rfl rfl (r_move hK rfl) fun a hK => ?_
  obtain ⟨y_12, h_13, H⟩ := bind_some H
  refine sl_call Try.call17 hK (by decide) rfl rfl rfl (ref11_Lex.calls a0 hS.sub h_13) fun a v_ w hv_ hK => ?_
  obtain ⟨R_14, v_17, cs_18, hv_, hr_, hl_15, hq_19⟩ := hv_
  have hv_ := hv_.symm
  subst hv_
  obtain ⟨hS, hl_15⟩ := hS.sp0.back hr_ hl_15
  have hS := hS.un1
  have hRL := hRL.trans hl_15
  refine sl hK (by decide) rfl rfl (r_move hK rfl) fun a hK => ?_
  refine sl hK (by decide) rfl rfl (r_extract hK rfl rfl) fun a hK => ?_
  refine sl hK (by decide) rfl rfl (r_extract hK rfl rfl) fun a hK => ?_
  refine sl hK (by decide) rfl rfl (r_extract hK rfl rfl) fun a hK => ?_
  refine sl hK (by decide) rfl rfl (r_assign hK rfl) fun a hK => ?_
  refine sl hK (by decide) rfl rfl (r_assign hK rfl) fun a hK => ?_
  refine sl hK (by decide) rfl rfl (r_assign hK rfl) fun a hK => ?_
  refine wpList_nil ?_
  refine wp_seq ?_
  refine wp_region_lit ?_
  refine sl hK (by decide) rfl rfl (r_move hK rfl) fun a hK => ?_
  obtain ⟨y_20, h_21, H⟩ := bind_some H
  have hS1 := hS.sp1
  refine sl_call Try.call18 hK (by decide) rfl rfl rfl (ref12_Cond.calls y_12.1 hS1.lend hq_19 h_21) fun a v_ w hv_ hK => ?_
  obtain ⟨R_22, v_25, cs_26, hv_, hr_, hl_23, hq_27⟩ := hv_
  have hv_ := hv_.symm
  subst hv_
  obtain ⟨hS, hl_23⟩ := hS1.back hr_ hl_23
  have hS := hS.un1
  have hRL := hRL.trans hl_23
  refine sl hK (by decide) rfl rfl (r_move hK rfl) fun a hK => ?_
  refine sl hK (by decide) rfl rfl (r_extract hK rfl rfl) fun a hK => ?_
  refine sl hK (by decide) rfl rfl (r_extract hK rfl rfl) fun a hK => ?_
  refine sl hK (by decide) rfl rfl (r_extract hK rfl rfl) fun a hK => ?_
  refine sl_alloc Try.zeroValue24 hS hK (by decide) rfl rfl fun a w b_28 hS hK => ?_
  refine sl_storeA (vs := [v_25]) (c' := [v_25]) Try.sizeOf24 hS hK rfl rfl rfl rfl (all_cons (hS.row_one (.tail _ (.head _))) (all_nil)) (Nat.le_of_ble_eq_true rfl) rfl fun a w hS hK => ?_
  refine sl hK (by decide) rfl rfl (r_assign hK rfl) fun a hK => ?_
  refine sl hK (by decide) rfl rfl (r_assign hK rfl) fun a hK => ?_
  refine wpList_nil ?_
  refine wp_seq ?_
  refine wp_seq ?_
  refine wp_mid (fun a w => ∃ (x_30 : Bool), law15_PredNot.j0 y_2 y_4 y_20 x_30 = some true ∧ Kn 111 a [(3, .pointer (some ⟨b_1, 0, none⟩)), (5, .bool y_2), (9, .pointer (some ⟨b_28, 0, none⟩)), (38, .bool x_30)] ∧ St [] w0 w R_22 [.cells b_1 [v_8, v_10] 28, .row 51 19 v_25 y_20.1.N.length cs_26, .cells b_28 [v_25] 24]) ?_ ?_
  · refine wp_region_lit ?_
    refine sl hK (by decide) rfl rfl (r_move hK rfl) fun a hK => ?_
    refine sl hK (by decide) rfl rfl (r_ibin hK rfl rfl rfl) fun a hK => ?_
    refine sl hK (by decide) rfl rfl (r_move hK rfl) fun a hK => ?_
    rcases or_b (y_12.2.2 != 0) with hb_32 | hb_32
    · rw [ifb_t hb_32] at H
      refine sl_skip hK (by decide) (wft hb_32) rfl fun a hK => ?_
      refine sl_skip hK (by decide) (wft hb_32) rfl fun a hK => ?_
      refine sl hK (by decide) rfl rfl (r_pick_t hb_32 hK rfl rfl) fun a hK => ?_
      refine wpList_nil ?_
      have hS := hS.pk1
      have hS := hS.pk2
      exact ⟨true, H, hK.sub (all_cons rfl (all_cons rfl (all_cons rfl (all_cons rfl (all_nil))))), hS⟩
    · rw [ifb_f hb_32] at H
      refine sl hK (by decide) (wff hb_32) rfl (r_move hK rfl) fun a hK => ?_
      refine sl hK (by decide) (wff hb_32) rfl (r_ibin hK rfl rfl rfl) fun a hK => ?_
      refine sl hK (by decide) rfl rfl (r_pick_f hb_32 hK rfl rfl) fun a hK => ?_
      refine wpList_nil ?_
      have hS := hS.pk1
      have hS := hS.pk2
      exact ⟨(y_20.2.2 != 0), H, hK.sub (all_cons rfl (all_cons rfl (all_cons rfl (all_cons rfl (all_nil))))), hS⟩
  · rintro a w ⟨x_30, H, hK, hS⟩
    unfold law15_PredNot.j0 at H
    refine wp_cond_split (hK.ev rfl) (fun (hb_33 : x_30 = true) => ?_) (fun (hb_33 : x_30 = false) => ?_)
    · rw [ifb_t hb_33] at H
      refine wp_seq ?_
      refine wp_region_lit ?_
      refine sl hK (by decide) rfl rfl (r_move hK rfl) fun a hK => ?_
      refine sl hK (by decide) rfl rfl (r_assign hK rfl) fun a hK => ?_
      refine wpList_nil ?_
      have hr_ := Option.some.inj H
      refine wp_ret ?_
      repeat (first | refine ret_then ?_ | refine ret_block ?_ | refine ret_scope ?_)
      exact ret_1 Try.results5 hK (rv_tmp hK rfl) ⟨congrArg (fun b => Ending.returned (Value.bool b)) hr_, hS.bel⟩
    · rw [ifb_f hb_33] at H
      refine wp_skip ?_
      refine wp_seq ?_
      refine wp_region_lit ?_
      refine sl hK (by decide) rfl rfl (r_fieldAddr Try.underlying24 rfl Try.sizeOf22 hK rfl) fun a hK => ?_
      refine sl hK (by decide) rfl rfl (r_load Try.isAgg22 hK rfl (hS.cell (.tail _ (.tail _ (.head _))) rfl)) fun a hK => ?_
      refine sl hK (by decide) rfl rfl (r_len_O Try.underlying22 hS (.tail _ (.head _)) hK rfl) fun a hK => ?_
      refine sl hK (by decide) rfl rfl (r_assign hK rfl) fun a hK => ?_
      refine wpList_nil ?_
      refine wp_seq ?_
      refine wp_region_lit ?_
      refine sl_buildSliceC (zc := [.int .i64 0, .string (⟨#[]⟩ : ByteArray), .int .i64 0, .int .i64 0, .int .i64 0, .int .i64 0, .int .i64 0, .string (⟨#[]⟩ : ByteArray), .int .i64 0, .int .i64 0, .int .i64 0, .int .i64 0, .int .i64 0, .int .i64 0, .int .i64 0, .int .i64 0, .slice none 0 0, .slice none 0 0, .slice none 0 0]) (zs := []) (ps := []) (c := []) Try.underlying22 Try.sizeOf51 Try.zeroValue51 rfl pc_nil rfl rfl (by decide) (by kernel_rfl) rfl hS hK (by decide) rfl fun a w b_34 hS hK => ?_
      refine sl hK (by decide) rfl rfl (r_fieldAddr Try.underlying24 rfl Try.sizeOf22 hK rfl) fun a hK => ?_
      refine sl hK (by decide) rfl rfl (r_load Try.isAgg22 hK rfl (hS.cell (.tail _ (.tail _ (.tail _ (.head _)))) rfl)) fun a hK => ?_
      have hS := hS.row_lit (size := 19) (m := 0) rfl (by decide)
      have hq_36 : Reps ty_api_Node R_22 [] ([] : List api_Node) := (Reps.nil _ _)
      have hS := hS.pk2
      obtain ⟨R_37, hS, hl_39, hs_38⟩ := hS.fz_row hq_27 rfl rfl
      have hRL := hRL.trans hl_39
      obtain ⟨y_40, h_41, H⟩ := bind_some H
      refine sl_append_R elT22 (by decide) rfl (hq_36.mono hl_39.le) rfl hs_38 h_41 hS hK (by decide) rfl rfl rfl fun a w v_42 cs_43 hq_44 hS hK => ?_
      refine sl hK (by decide) rfl rfl (r_move hK rfl) fun a hK => ?_
      refine sl hK (by decide) rfl rfl (r_ibin hK rfl rfl rfl) fun a hK => ?_
      refine sl_buildSliceF (zc := [.int .i64 0]) (ps := [(0, .int .i64 (IntKind.i64.wrap ((y_20.1.N.length : Int) - 1)))]) (c := [.int .i64 (IntKind.i64.wrap ((y_20.1.N.length : Int) - 1))]) [[.int .i64 (IntKind.i64.wrap ((y_20.1.N.length : Int) - 1))]] Try.underlying47 Try.sizeOf3 Try.zeroValue3 rfl (pc_cons rfl pc_nil) rfl rfl (Nat.le_of_ble_eq_true rfl) rfl (all_cons rfl (all_nil)) rfl hS hK (by decide) rfl fun a w b_46 hS hK => ?_
      refine sl hK (by decide) rfl rfl (r_buildC (ps := [(0, .int .i64 13), (6, .slice (some ⟨b_46, 0, none⟩) 1 1)]) (c := [.int .i64 13, .string (⟨#[]⟩ : ByteArray), .int .i64 0, .int .i64 0, .int .i64 0, .int .i64 0, .int .i64 0, .string (⟨#[]⟩ : ByteArray), .int .i64 0, .int .i64 0, .int .i64 0, .int .i64 0, .int .i64 0, .int .i64 0, .int .i64 0, .int .i64 0, .slice (some ⟨b_46, 0, none⟩) 1 1, .slice none 0 0, .slice none 0 0]) Try.underlying51 Try.zeroValue51 places51 hK rfl (pc_cons rfl (pc_cons rfl pc_nil)) rfl rfl) fun a hK => ?_
      refine sl_buildSliceF (zc := [.int .i64 0, .string (⟨#[]⟩ : ByteArray), .int .i64 0, .int .i64 0, .int .i64 0, .int .i64 0, .int .i64 0, .string (⟨#[]⟩ : ByteArray), .int .i64 0, .int .i64 0, .int .i64 0, .int .i64 0, .int .i64 0, .int .i64 0, .int .i64 0, .int .i64 0, .slice none 0 0, .slice none 0 0, .slice none 0 0]) (ps := [(0, .agg #[.int .i64 13, .string (⟨#[]⟩ : ByteArray), .int .i64 0, .int .i64 0, .int .i64 0, .int .i64 0, .int .i64 0, .string (⟨#[]⟩ : ByteArray), .int .i64 0, .int .i64 0, .int .i64 0, .int .i64 0, .int .i64 0, .int .i64 0, .int .i64 0, .int .i64 0, .slice (some ⟨b_46, 0, none⟩) 1 1, .slice none 0 0, .slice none 0 0])]) (c := [.int .i64 13, .string (⟨#[]⟩ : ByteArray), .int .i64 0, .int .i64 0, .int .i64 0, .int .i64 0, .int .i64 0, .string (⟨#[]⟩ : ByteArray), .int .i64 0, .int .i64 0, .int .i64 0, .int .i64 0, .int .i64 0, .int .i64 0, .int .i64 0, .int .i64 0, .slice (some ⟨b_46, 0, none⟩) 1 1, .slice none 0 0, .slice none 0 0]) [[.int .i64 13, .string (⟨#[]⟩ : ByteArray), .int .i64 0, .int .i64 0, .int .i64 0, .int .i64 0, .int .i64 0, .string (⟨#[]⟩ : ByteArray), .int .i64 0, .int .i64 0, .int .i64 0, .int .i64 0, .int .i64 0, .int .i64 0, .int .i64 0, .int .i64 0, .slice (some ⟨b_46, 0, none⟩) 1 1, .slice none 0 0, .slice none 0 0]] Try.underlying22 Try.sizeOf51 Try.zeroValue51 rfl (pc_cons rfl pc_nil) rfl rfl (Nat.le_of_ble_eq_true rfl) rfl (all_cons rfl (all_nil)) rfl hS hK (by decide) rfl fun a w b_47 hS hK => ?_
      have hS := hS.pk2
      have hS := hS.pk2
      obtain ⟨R_48, hS, hl_50, hs_49⟩ := hS.fz_lit (ty := (tyInt .i64)) (xs := [IntKind.i64.wrap ((y_20.1.N.length : Int) - 1)]) (Reps.cons (show Ty.rep (tyInt .i64) _ [.int .i64 (IntKind.i64.wrap ((y_20.1.N.length : Int) - 1))] (IntKind.i64.wrap ((y_20.1.N.length : Int) - 1)) from rfl) (Reps.nil _ _)) rfl
      have hRL := hRL.trans hl_50
      obtain ⟨y_51, h_52, H⟩ := bind_some H
      refine sl_append_L (ty := ty_api_Node) (ys := [(⟨13, (⟨#[]⟩ : ByteArray), 0, 0, 0, (⟨0, 0, (⟨#[]⟩ : ByteArray), (⟨0, 0, 0, 0, 0, 0, 0, 0⟩ : Arr8)⟩ : api_Value), [IntKind.i64.wrap ((y_20.1.N.length : Int) - 1)], [], []⟩ : api_Node)]) elT22 (by decide) rfl (hq_44.mono hl_50.le) rfl (Reps.cons (show Ty.rep ty_api_Node _ [.int .i64 13, .string (⟨#[]⟩ : ByteArray), .int .i64 0, .int .i64 0, .int .i64 0, .int .i64 0, .int .i64 0, .string (⟨#[]⟩ : ByteArray), .int .i64 0, .int .i64 0, .int .i64 0, .int .i64 0, .int .i64 0, .int .i64 0, .int .i64 0, .int .i64 0, (.slice (some ⟨b_46, 0, none⟩) 1 1), .slice none 0 0, .slice none 0 0] (⟨13, (⟨#[]⟩ : ByteArray), 0, 0, 0, (⟨0, 0, (⟨#[]⟩ : ByteArray), (⟨0, 0, 0, 0, 0, 0, 0, 0⟩ : Arr8)⟩ : api_Value), [IntKind.i64.wrap ((y_20.1.N.length : Int) - 1)], [], []⟩ : api_Node) from ⟨_, _, _, rfl, hs_49, SlR.nil _ _, SlR.nil _ _⟩) (Reps.nil _ _)) rfl h_52 hS hK (by decide) rfl rfl rfl fun a w v_53 cs_54 hq_55 hS hK => ?_
      refine sl hK (by decide) rfl rfl (r_fieldAddr Try.underlying24 rfl Try.sizeOf22 hK rfl) fun a hK => ?_
      have hS := hS.pk2
      refine sl_store1 (c' := [v_53]) Try.sizeOf22 hS hK rfl rfl rfl (hS.row_one (.tail _ (.head _))) (Nat.le_of_ble_eq_true rfl) rfl fun a w hS hK => ?_
      refine wpList_nil ?_
      refine wp_seq ?_
      refine wp_region_lit ?_
      refine sl hK (by decide) rfl rfl (r_loadA (cs := [v_8, v_10]) Try.isAgg28 Try.sizeOf28 rfl hK rfl (hS.cells_of (m := 2) (.tail _ (.tail _ (.head _))) rfl)) fun a hK => ?_
      refine sl hK (by decide) rfl rfl (r_loadA (cs := [v_53]) Try.isAgg24 Try.sizeOf24 rfl hK rfl (hS.cells_of (m := 1) (.head _) rfl)) fun a hK => ?_
      refine sl hK (by decide) rfl rfl (r_move hK rfl) fun a hK => ?_
      refine sl hK (by decide) rfl rfl (r_ibin hK rfl rfl rfl) fun a hK => ?_
      obtain ⟨y_57, h_58, H⟩ := bind_some H
      refine sl_call Try.call14 hK (by decide) rfl rfl rfl (pred_Where.calls y_4 (⟨y_51⟩ : api_Query) (IntKind.i64.wrap ((y_20.1.N.length : Int) - 1)) (lentOf_sub [] _) hS.sub (hs_9.mono ((hl_15.le.trans (hl_23.le.trans (hl_39.le.trans hl_50.le))).trans hS.rLe0)) (hs_11.mono ((hl_15.le.trans (hl_23.le.trans (hl_39.le.trans hl_50.le))).trans hS.rLe0)) (hS.lend_row0 (.tail _ (.head _)) hq_55 rfl rfl) (GF.mono (hS.raLe0 hRA nil_not) hG) h_58) fun a v_ w hv_ hK => ?_
      obtain ⟨R_59, v_62, cs_63, v_66, cs_67, hv_, hr_, hl_60, hq_64, hq_68, hap_69⟩ := hv_
      have hv_ := hv_.symm
      subst hv_
      obtain ⟨hS, hl_60⟩ := hS.sp0.back hr_ hl_60
      have hS := hS.un2
      have hRL := hRL.trans hl_60
      refine sl_alloc Try.zeroValue28 hS hK (by decide) rfl rfl fun a w b_70 hS hK => ?_
      refine sl_storeA (vs := [v_62, v_66]) (c' := [v_62, v_66]) Try.sizeOf28 hS hK rfl rfl rfl rfl (all_cons (hS.row_one (.tail _ (.head _))) (all_cons (hS.row_one (.tail _ (.tail _ (.head _)))) (all_nil))) (Nat.le_of_ble_eq_true rfl) rfl fun a w hS hK => ?_
      refine wpList_nil ?_
      refine wp_seq ?_
      refine wp_region_lit ?_
      refine sl hK (by decide) rfl rfl (r_loadA (cs := [v_8, v_10]) Try.isAgg28 Try.sizeOf28 rfl hK rfl (hS.cells_of (m := 2) (.tail _ (.tail _ (.tail _ (.tail _ (.tail _ (.head _)))))) rfl)) fun a hK => ?_
      refine sl hK (by decide) rfl rfl (r_loadA (cs := [v_53]) Try.isAgg24 Try.sizeOf24 rfl hK rfl (hS.cells_of (m := 1) (.tail _ (.tail _ (.tail _ (.head _)))) rfl)) fun a hK => ?_
      refine sl hK (by decide) rfl rfl (r_move hK rfl) fun a hK => ?_
      obtain ⟨y_71, h_72, H⟩ := bind_some H
      refine sl_call Try.call14 hK (by decide) rfl rfl rfl (pred_Where.calls y_4 (⟨y_51⟩ : api_Query) (y_20.1.N.length : Int) (lentOf_sub [] _) hS.sub (hs_9.mono ((hl_15.le.trans (hl_23.le.trans (hl_39.le.trans (hl_50.le.trans hl_60.le)))).trans hS.rLe0)) (hs_11.mono ((hl_15.le.trans (hl_23.le.trans (hl_39.le.trans (hl_50.le.trans hl_60.le)))).trans hS.rLe0)) (hS.lend_row0 (.tail _ (.tail _ (.tail _ (.tail _ (.head _))))) (hq_55.mono hl_60.le) rfl rfl) (GF.mono (hS.raLe0 hRA nil_not) hG) h_72) fun a v_ w hv_ hK => ?_
      obtain ⟨R_73, v_76, cs_77, v_80, cs_81, hv_, hr_, hl_74, hq_78, hq_82, hap_83⟩ := hv_
      have hv_ := hv_.symm
      subst hv_
      obtain ⟨hS, hl_74⟩ := hS.sp0.back hr_ hl_74
      have hS := hS.un2
      have hRL := hRL.trans hl_74
      refine sl_alloc Try.zeroValue28 hS hK (by decide) rfl rfl fun a w b_84 hS hK => ?_
      refine sl_storeA (vs := [v_76, v_80]) (c' := [v_76, v_80]) Try.sizeOf28 hS hK rfl rfl rfl rfl (all_cons (hS.row_one (.tail _ (.head _))) (all_cons (hS.row_one (.tail _ (.tail _ (.head _)))) (all_nil))) (Nat.le_of_ble_eq_true rfl) rfl fun a w hS hK => ?_
      refine wpList_nil ?_
      refine wp_seq ?_
      refine wp_mid (fun a w => ∃ (x_245 : List (List api_Value)) (R_249 : Hp) (v_246 : Value) (cs_247 : List Value) (b_243 : Nat), law15_PredNot.j1 y_2 y_4 y_20 y_51 x_245 = some true ∧ RLe [] w0 R_73 R_249 ∧ Reps (tySl ty_api_Value) R_249 cs_247 x_245 ∧ Kn 111 a [(3, .pointer (some ⟨b_1, 0, none⟩)), (5, .bool y_2), (9, .pointer (some ⟨b_28, 0, none⟩)), (12, .int .i64 (y_20.1.N.length : Int)), (15, .pointer (some ⟨b_243, 0, none⟩))] ∧ St [] w0 w R_249 [.cells b_1 [v_8, v_10] 28, .row 51 19 v_53 y_51.length cs_54, .cells b_28 [v_53] 24, .row 33 1 v_246 x_245.length cs_247, .cells b_243 [v_8, v_246] 28]) ?_ ?_
      · refine treeT_region (C := fun w => St [] w0 w R_73 [.cells b_84 [v_76, v_80] 28, .row 57 2 v_76 y_71.Cols.length cs_77, .cells b_70 [v_62, v_66] 28, .row 57 2 v_62 y_57.Cols.length cs_63, .cells b_28 [v_53] 24, .row 51 19 v_53 y_51.length cs_54, .cells b_1 [v_8, v_10] 28]) 11 (.br [(0, true), (1, true), (3, true), (4, true), (6, true), (7, true)] 2 (.br [] 5 (.br [] 8 (.list [(9, true), (10, false)]) 10 (.list [(8, false), (9, true)])) 10 (.list [(5, false), (8, false), (9, true)])) 10 (.list [(2, false), (5, false), (8, false), (9, true)])) mixed (by kernel_rfl) hS (fun w hS => (hS.pk8.pk8.pk8.pk7.pk7.pk6.pk6.trunc 7)) fun w hS => ?_
        refine tree_fork ?_
        refine sp (k := 0) rfl hK (by decide) rfl rfl (fun w hS => r_fieldAddr Try.underlying28 rfl Try.sizeOf25 hK rfl) fun a hK => ?_
        refine sp (k := 1) rfl hK (by decide) rfl rfl (fun w hS => r_load Try.isAgg25 hK rfl (hS.cell (.tail _ (.tail _ (.tail _ (.tail _ (.tail _ (.tail _ (.head _))))))) rfl)) fun a hK => ?_
        refine sp (k := 3) rfl hK (by decide) rfl rfl (fun w hS => r_fieldAddr Try.underlying28 rfl Try.sizeOf26 hK rfl) fun a hK => ?_
        refine sp (k := 4) rfl hK (by decide) rfl rfl (fun w hS => r_load Try.isAgg26 hK rfl (hS.cell (.tail _ (.tail _ (.head _))) rfl)) fun a hK => ?_
        refine sp (k := 6) rfl hK (by decide) rfl rfl (fun w hS => r_fieldAddr Try.underlying28 rfl Try.sizeOf26 hK rfl) fun a hK => ?_
        refine sp (k := 7) rfl hK (by decide) rfl rfl (fun w hS => r_load Try.isAgg26 hK rfl (hS.cell (.head _) rfl)) fun a hK => ?_
        refine wpPar_nil (tree_br ?_ ?_)
        · refine spwB (k := 2) rfl rfl (hS.pk8.pk8.pk8.pk7.pk7.pk6.pk6.trunc 7) ?_
          refine sl_buildSliceC (zc := [.slice none 0 0]) (zs := []) (ps := []) (c := []) Try.underlying26 Try.sizeOf33 Try.zeroValue33 rfl pc_nil rfl rfl (by decide) (by kernel_rfl) rfl hS hK (by decide) rfl fun a w b_330 hS hK => ?_
          refine parKK_nil (hS.pk9.pk9.pk9.pk8.pk8.pk7.pk7.trunc 7) ?_
          refine tree_fork ?_
          refine wpPar_nil (tree_br ?_ ?_)
          · refine spwB (k := 5) rfl rfl (hS.pk9.pk9.pk9.pk8.pk8.pk7.pk7.trunc 7) ?_
            have hS := hS.row_lit (size := 1) (m := 0) rfl (by decide)
            have hq_332 : Reps (tySl ty_api_Value) R_73 [] ([] : List (List api_Value)) := (Reps.nil _ _)
            have hS := hS.pk6
            obtain ⟨R_333, hS, hl_335, hs_334⟩ := hS.fz_row (hq_68.mono hl_74.le) rfl rfl
            have hRL := hRL.trans hl_335
            obtain ⟨y_336, h_337, H⟩ := bind_some H
            refine sl_append_R elT26 (by decide) rfl (hq_332.mono hl_335.le) rfl hs_334 h_337 hS hK (by decide) rfl rfl rfl fun a w v_338 cs_339 hq_340 hS hK => ?_
            refine parKK_nil ((hS.pk8.pk8.pk8.pk8.pk8.pk7.pk7.trunc 7).lower hl_335.le) ?_
            refine tree_fork ?_
            refine wpPar_nil (tree_br ?_ ?_)
            · refine spwB (k := 8) rfl rfl ((hS.pk8.pk8.pk8.pk8.pk8.pk7.pk7.trunc 7).lower hl_335.le) ?_
              have hS := hS.pk3
              obtain ⟨R_342, hS, hl_344, hs_343⟩ := hS.fz_row (hq_82.mono hl_335.le) rfl rfl
              have hRL := hRL.trans hl_344
              obtain ⟨y_345, h_346, H⟩ := bind_some H
              refine sl_append_R elT26 (by decide) rfl (hq_340.mono hl_344.le) rfl hs_343 h_346 hS hK (by decide) rfl rfl rfl fun a w v_347 cs_348 hq_349 hS hK => ?_
              refine parKK_nil ((hS.pk7.pk7.pk7.pk7.pk7.pk7.pk7.trunc 7).lower (hl_335.le.trans hl_344.le)) ?_
              refine tree_list ?_
              have ho_351 := hS.row_one (.head _)
              refine sp (k := 9) rfl hK (by decide) rfl rfl (fun w hS => r_buildC (ps := [(0, v_8), (1, v_347)]) (c := [v_8, v_347]) Try.underlying28 Try.zeroValue28 places28 hK rfl (pc_cons (cells1 hs_9.one) (pc_cons (cells1 ho_351) pc_nil)) rfl rfl) fun a hK => ?_
              refine spw (k := 10) rfl rfl ((hS.pk7.pk7.pk7.pk7.pk7.pk7.pk7.trunc 7).lower (hl_335.le.trans hl_344.le)) ?_
              refine sl_alloc Try.zeroValue28 hS hK (by decide) rfl rfl fun a w b_352 hS hK => ?_
              refine parK_nil ((hS.pk8.pk8.pk8.pk8.pk8.pk8.pk8.trunc 7).lower (hl_335.le.trans hl_344.le)) ?_
              refine thenL_nil ?_
              refine sl_storeA (vs := [v_8, v_347]) (c' := [v_8, v_347]) Try.sizeOf28 hS hK rfl rfl rfl rfl (all_cons hs_9.one (all_cons (hS.row_one (.tail _ (.head _))) (all_nil))) (Nat.le_of_ble_eq_true rfl) rfl fun a w hS hK => ?_
              refine wpList_nil (NoP_nil ?_)
              have hS := hS.pk1
              have hS := hS.pk6
              have hS := hS.pk7
              have hS := hS.pk8
              exact ⟨y_345, _, _, _, _, H, (hl_335.trans hl_344), hq_349, hK.sub (all_cons rfl (all_cons rfl (all_cons rfl (all_cons rfl (all_cons rfl (all_nil)))))), hS.trunc 5⟩
            · refine spwB (k := 10) rfl rfl ((hS.pk8.pk8.pk8.pk8.pk8.pk7.pk7.trunc 7).lower hl_335.le) ?_
              refine sl_alloc Try.zeroValue28 hS hK (by decide) rfl rfl fun a w b_353 hS hK => ?_
              refine parKK_nil ((hS.pk9.pk9.pk9.pk9.pk9.pk8.pk8.trunc 7).lower hl_335.le) ?_
              refine tree_list ?_
              refine spw (k := 8) rfl rfl ((hS.pk9.pk9.pk9.pk9.pk9.pk8.pk8.trunc 7).lower hl_335.le) ?_
              have hS := hS.pk1
              have hS := hS.pk4
              obtain ⟨R_354, hS, hl_356, hs_355⟩ := hS.fz_row (hq_82.mono hl_335.le) rfl rfl
              have hRL := hRL.trans hl_356
              obtain ⟨y_357, h_358, H⟩ := bind_some H
              refine sl_append_R elT26 (by decide) rfl (hq_340.mono hl_356.le) rfl hs_355 h_358 hS hK (by decide) rfl rfl rfl fun a w v_359 cs_360 hq_361 hS hK => ?_
              refine parK_nil ((hS.pk8.pk8.pk8.pk8.pk8.pk8.pk8.trunc 7).lower (hl_335.le.trans hl_356.le)) ?_
              have ho_363 := hS.row_one (.head _)
              refine sp (k := 9) rfl hK (by decide) rfl rfl (fun w hS => r_buildC (ps := [(0, v_8), (1, v_359)]) (c := [v_8, v_359]) Try.underlying28 Try.zeroValue28 places28 hK rfl (pc_cons (cells1 hs_9.one) (pc_cons (cells1 ho_363) pc_nil)) rfl rfl) fun a hK => ?_
              refine thenL_nil ?_
              have hS := hS.pk1
              refine sl_storeA (vs := [v_8, v_359]) (c' := [v_8, v_359]) Try.sizeOf28 hS hK rfl rfl rfl rfl (all_cons hs_9.one (all_cons (hS.row_one (.tail _ (.head _))) (all_nil))) (Nat.le_of_ble_eq_true rfl) rfl fun a w hS hK => ?_
              refine wpList_nil (NoP_nil ?_)
              have hS := hS.pk1
              have hS := hS.pk6
              have hS := hS.pk7
              have hS := hS.pk8
              exact ⟨y_357, _, _, _, _, H, (hl_335.trans hl_356), hq_361, hK.sub (all_cons rfl (all_cons rfl (all_cons rfl (all_cons rfl (all_cons rfl (all_nil)))))), hS.trunc 5⟩
          · refine spwB (k := 10) rfl rfl (hS.pk9.pk9.pk9.pk8.pk8.pk7.pk7.trunc 7) ?_
            refine sl_alloc Try.zeroValue28 hS hK (by decide) rfl rfl fun a w b_364 hS hK => ?_
            refine parKK_nil (hS.pk10.pk10.pk10.pk9.pk9.pk8.pk8.trunc 7) ?_
            refine tree_list ?_
            refine spw (k := 5) rfl rfl (hS.pk10.pk10.pk10.pk9.pk9.pk8.pk8.trunc 7) ?_
            have hS := hS.pk1
            have hS := hS.row_lit (size := 1) (m := 0) rfl (by decide)
            have hq_366 : Reps (tySl ty_api_Value) R_73 [] ([] : List (List api_Value)) := (Reps.nil _ _)
            have hS := hS.pk7
            obtain ⟨R_367, hS, hl_369, hs_368⟩ := hS.fz_row (hq_68.mono hl_74.le) rfl rfl
            have hRL := hRL.trans hl_369
            obtain ⟨y_370, h_371, H⟩ := bind_some H
            refine sl_append_R elT26 (by decide) rfl (hq_366.mono hl_369.le) rfl hs_368 h_371 hS hK (by decide) rfl rfl rfl fun a w v_372 cs_373 hq_374 hS hK => ?_
            refine parK_nil ((hS.pk9.pk9.pk9.pk9.pk9.pk8.pk8.trunc 7).lower hl_369.le) ?_
            refine spw (k := 8) rfl rfl ((hS.pk9.pk9.pk9.pk9.pk9.pk8.pk8.trunc 7).lower hl_369.le) ?_
            have hS := hS.pk4
            obtain ⟨R_376, hS, hl_378, hs_377⟩ := hS.fz_row (hq_82.mono hl_369.le) rfl rfl
            have hRL := hRL.trans hl_378
            obtain ⟨y_379, h_380, H⟩ := bind_some H
            refine sl_append_R elT26 (by decide) rfl (hq_374.mono hl_378.le) rfl hs_377 h_380 hS hK (by decide) rfl rfl rfl fun a w v_381 cs_382 hq_383 hS hK => ?_
            refine parK_nil ((hS.pk8.pk8.pk8.pk8.pk8.pk8.pk8.trunc 7).lower (hl_369.le.trans hl_378.le)) ?_
            have ho_385 := hS.row_one (.head _)
            refine sp (k := 9) rfl hK (by decide) rfl rfl (fun w hS => r_buildC (ps := [(0, v_8), (1, v_381)]) (c := [v_8, v_381]) Try.underlying28 Try.zeroValue28 places28 hK rfl (pc_cons (cells1 hs_9.one) (pc_cons (cells1 ho_385) pc_nil)) rfl rfl) fun a hK => ?_
            refine thenL_nil ?_
            have hS := hS.pk1
            refine sl_storeA (vs := [v_8, v_381]) (c' := [v_8, v_381]) Try.sizeOf28 hS hK rfl rfl rfl rfl (all_cons hs_9.one (all_cons (hS.row_one (.tail _ (.head _))) (all_nil))) (Nat.le_of_ble_eq_true rfl) rfl fun a w hS hK => ?_
            refine wpList_nil (NoP_nil ?_)
            have hS := hS.pk1
            have hS := hS.pk6
            have hS := hS.pk7
            have hS := hS.pk8
            exact ⟨y_379, _, _, _, _, H, (hl_369.trans hl_378), hq_383, hK.sub (all_cons rfl (all_cons rfl (all_cons rfl (all_cons rfl (all_cons rfl (all_nil)))))), hS.trunc 5⟩
        · refine spwB (k := 10) rfl rfl (hS.pk8.pk8.pk8.pk7.pk7.pk6.pk6.trunc 7) ?_
          refine sl_alloc Try.zeroValue28 hS hK (by decide) rfl rfl fun a w b_386 hS hK => ?_
          refine parKK_nil (hS.pk9.pk9.pk9.pk8.pk8.pk7.pk7.trunc 7) ?_
          refine tree_list ?_
          refine spw (k := 2) rfl rfl (hS.pk9.pk9.pk9.pk8.pk8.pk7.pk7.trunc 7) ?_
          refine sl_buildSliceC (zc := [.slice none 0 0]) (zs := []) (ps := []) (c := []) Try.underlying26 Try.sizeOf33 Try.zeroValue33 rfl pc_nil rfl rfl (by decide) (by kernel_rfl) rfl hS hK (by decide) rfl fun a w b_387 hS hK => ?_
          refine parK_nil (hS.pk10.pk10.pk10.pk9.pk9.pk8.pk8.trunc 7) ?_
          refine spw (k := 5) rfl rfl (hS.pk10.pk10.pk10.pk9.pk9.pk8.pk8.trunc 7) ?_
          have hS := hS.row_lit (size := 1) (m := 0) rfl (by decide)
          have hq_389 : Reps (tySl ty_api_Value) R_73 [] ([] : List (List api_Value)) := (Reps.nil _ _)
          have hS := hS.pk7
          obtain ⟨R_390, hS, hl_392, hs_391⟩ := hS.fz_row (hq_68.mono hl_74.le) rfl rfl
          have hRL := hRL.trans hl_392
          obtain ⟨y_393, h_394, H⟩ := bind_some H
          refine sl_append_R elT26 (by decide) rfl (hq_389.mono hl_392.le) rfl hs_391 h_394 hS hK (by decide) rfl rfl rfl fun a w v_395 cs_396 hq_397 hS hK => ?_
          refine parK_nil ((hS.pk9.pk9.pk9.pk9.pk9.pk8.pk8.trunc 7).lower hl_392.le) ?_
          refine spw (k := 8) rfl rfl ((hS.pk9.pk9.pk9.pk9.pk9.pk8.pk8.trunc 7).lower hl_392.le) ?_
          have hS := hS.pk4
          obtain ⟨R_399, hS, hl_401, hs_400⟩ := hS.fz_row (hq_82.mono hl_392.le) rfl rfl
          have hRL := hRL.trans hl_401
          obtain ⟨y_402, h_403, H⟩ := bind_some H
          refine sl_append_R elT26 (by decide) rfl (hq_397.mono hl_401.le) rfl hs_400 h_403 hS hK (by decide) rfl rfl rfl fun a w v_404 cs_405 hq_406 hS hK => ?_
          refine parK_nil ((hS.pk8.pk8.pk8.pk8.pk8.pk8.pk8.trunc 7).lower (hl_392.le.trans hl_401.le)) ?_
          have ho_408 := hS.row_one (.head _)
          refine sp (k := 9) rfl hK (by decide) rfl rfl (fun w hS => r_buildC (ps := [(0, v_8), (1, v_404)]) (c := [v_8, v_404]) Try.underlying28 Try.zeroValue28 places28 hK rfl (pc_cons (cells1 hs_9.one) (pc_cons (cells1 ho_408) pc_nil)) rfl rfl) fun a hK => ?_
          refine thenL_nil ?_
          have hS := hS.pk1
          refine sl_storeA (vs := [v_8, v_404]) (c' := [v_8, v_404]) Try.sizeOf28 hS hK rfl rfl rfl rfl (all_cons hs_9.one (all_cons (hS.row_one (.tail _ (.head _))) (all_nil))) (Nat.le_of_ble_eq_true rfl) rfl fun a w hS hK => ?_
          refine wpList_nil (NoP_nil ?_)
          have hS := hS.pk1
          have hS := hS.pk6
          have hS := hS.pk7
          have hS := hS.pk8
          exact ⟨y_402, _, _, _, _, H, (hl_392.trans hl_401), hq_406, hK.sub (all_cons rfl (all_cons rfl (all_cons rfl (all_cons rfl (all_cons rfl (all_nil)))))), hS.trunc 5⟩
      · rintro a w ⟨x_245, R_249, v_246, cs_247, b_243, H, hl_250, hq_248, hK, hS⟩
        unfold law15_PredNot.j1 at H
        have hRL := hRL.trans hl_250
        refine wp_seq ?_
        refine parT_region (C := fun w => St [] w0 w R_249 [.cells b_1 [v_8, v_10] 28, .row 51 19 v_53 y_51.length cs_54, .cells b_28 [v_53] 24, .cells b_243 [v_8, v_246] 28]) 3 [(0, true), (2, true), (1, false)] mixed (by kernel_rfl) hS (fun w hS => (hS.pk4.pk3.pk3.pk3.trunc 4)) fun w hS => ?_
        refine sp (k := 0) rfl hK (by decide) rfl rfl (fun w hS => r_loadA (cs := [v_8, v_246]) Try.isAgg28 Try.sizeOf28 rfl hK rfl (hS.cells_of (m := 2) (.tail _ (.tail _ (.tail _ (.head _)))) rfl)) fun a hK => ?_
        refine sp (k := 2) rfl hK (by decide) rfl rfl (fun w hS => r_loadA (cs := [v_8, v_10]) Try.isAgg28 Try.sizeOf28 rfl hK rfl (hS.cells_of (m := 2) (.head _) rfl)) fun a hK => ?_
        refine spw (k := 1) rfl rfl (hS.pk4.pk3.pk3.pk3.trunc 4) ?_
        have hS := hS.pk3
        obtain ⟨R_438, hS, hl_440, hs_439⟩ := hS.fz_row hq_248 rfl rfl
        have hRL := hRL.trans hl_440
        obtain ⟨y_441, h_442, H⟩ := bind_some H
        refine sl_call Try.call19 hK (by decide) rfl rfl rfl (ref02_Canon.calls (⟨y_4.Cols, x_245⟩ : api_Table) hS.sub (hs_9.mono (hl_15.le.trans (hl_23.le.trans (hl_39.le.trans (hl_50.le.trans (hl_60.le.trans (hl_74.le.trans (hl_250.le.trans hl_440.le)))))))) hs_439 h_442) fun a v_ w hv_ hK => ?_
        obtain ⟨R_443, v_446, cs_447, v_450, cs_451, hv_, hr_, hl_444, hq_448, hq_452⟩ := hv_
        have hv_ := hv_.symm
        subst hv_
        obtain ⟨hS, hl_444⟩ := hS.sp0.back hr_ hl_444
        have hS := hS.un2
        have hRL := hRL.trans hl_444
        refine parK_nil ((hS.pk5.pk5.pk5.pk5.trunc 4).lower (hl_440.le.trans hl_444.le)) ?_
        refine thenL_nil ?_
        obtain ⟨y_453, h_454, H⟩ := bind_some H
        refine sl_call Try.call19 hK (by decide) rfl rfl rfl (ref02_Canon.calls y_4 hS.sub (hs_9.mono (hl_15.le.trans (hl_23.le.trans (hl_39.le.trans (hl_50.le.trans (hl_60.le.trans (hl_74.le.trans (hl_250.le.trans (hl_440.le.trans hl_444.le))))))))) (hs_11.mono (hl_15.le.trans (hl_23.le.trans (hl_39.le.trans (hl_50.le.trans (hl_60.le.trans (hl_74.le.trans (hl_250.le.trans (hl_440.le.trans hl_444.le))))))))) h_454) fun a v_ w hv_ hK => ?_
        obtain ⟨R_455, v_458, cs_459, v_462, cs_463, hv_, hr_, hl_456, hq_460, hq_464⟩ := hv_
        have hv_ := hv_.symm
        subst hv_
        obtain ⟨hS, hl_456⟩ := hS.sp0.back hr_ hl_456
        have hS := hS.un2
        have hRL := hRL.trans hl_456
        obtain ⟨y_465, h_466, H⟩ := bind_some H
        refine sl_callV Try.call16 hS hK (by decide) rfl rfl rfl (ref02_Same.calls y_441 y_453 (lentOf_sub [] _) (hS.lend_row0 (.tail _ (.tail _ (.head _))) (hq_448.mono hl_456.le) rfl rfl) (hS.lend_row0 (.tail _ (.tail _ (.tail _ (.head _)))) (hq_452.mono hl_456.le) rfl rfl) (hS.lend_row0 (.head _) hq_460 rfl rfl) (hS.lend_row0 (.tail _ (.head _)) hq_464 rfl rfl) h_466) fun a w hS hK => ?_
        refine sl hK (by decide) rfl rfl (r_assign hK rfl) fun a hK => ?_
        refine wpList_nil (NoP_nil ?_)
        refine wp_seq ?_
        refine wp_seq ?_
        refine wp_region_lit ?_
        refine sl hK (by decide) rfl rfl (r_assign hK rfl) fun a hK => ?_
        refine wpList_nil ?_
        refine wp_block ?_
        refine wp_loop_k (fun k_l2 a w => ∃ (x_522 : Int), law15_PredNot.l2 y_2 y_4 y_20 y_51 y_465 k_l2 x_522 = some true ∧ Kn 111 a [(3, .pointer (some ⟨b_1, 0, none⟩)), (5, .bool y_2), (9, .pointer (some ⟨b_28, 0, none⟩)), (12, .int .i64 (y_20.1.N.length : Int)), (16, .bool y_465), (17, .int .i64 x_522)] ∧ St [] w0 w R_455 [.cells b_1 [v_8, v_10] 28, .row 51 19 v_53 y_51.length cs_54, .cells b_28 [v_53] 24]) (((y_4.Rows.length : Int) - 0).toNat + 1) ?_ ?_
        · have hS := hS.pk6
          have hS := hS.pk6
          have hS := hS.pk6
          exact ⟨0, H, hK.sub (all_cons rfl (all_cons rfl (all_cons rfl (all_cons rfl (all_cons rfl (all_cons rfl (all_nil))))))), hS.trunc 3⟩
        · rintro k_l2 a w ⟨x_522, H, hK, hS⟩
          cases k_l2 with
          | zero => cases H
          | succ k_l2 =>
          rw [law15_PredNot.l2.eq_2] at H
          refine wp_seq ?_
          refine wp_seq ?_
          refine wp_region_lit ?_
          refine sl hK (by decide) rfl rfl (r_move hK rfl) fun a hK => ?_
          refine sl hK (by decide) rfl rfl (r_fieldAddr Try.underlying28 rfl Try.sizeOf26 hK rfl) fun a hK => ?_
          refine sl hK (by decide) rfl rfl (r_load Try.isAgg26 hK rfl (hS.cell (.head _) rfl)) fun a hK => ?_
          refine sl hK (by decide) rfl rfl (r_len_R Try.underlying26 hs_11 hK rfl) fun a hK => ?_
          refine sl hK (by decide) rfl rfl (r_ibin hK rfl rfl rfl) fun a hK => ?_
          refine wpList_nil ?_
          refine wp_cond_split (hK.ev rfl) (fun (hb_578 : (decide (x_522 < (y_4.Rows.length : Int))) = true) => ?_) (fun (hb_578 : (decide (x_522 < (y_4.Rows.length : Int))) = false) => ?_)
          · rw [ifb_t hb_578] at H
            refine wp_skip ?_
            refine wp_seq ?_
            refine wp_block ?_
            refine wp_seq ?_
            refine parT_region (C := fun w => St [] w0 w R_455 [.cells b_1 [v_8, v_10] 28, .row 51 19 v_53 y_51.length cs_54, .cells b_28 [v_53] 24]) 20 [(0, true), (1, true), (2, true), (3, true), (4, true), (5, true), (6, true), (7, true), (8, true), (9, true), (11, true), (12, true), (13, true), (14, true), (15, true), (16, true), (17, true), (18, true), (19, true), (10, false)] mixed (by kernel_rfl) hS (fun w hS => hS) fun w hS => ?_
            refine sp (k := 0) rfl hK (by decide) rfl rfl (fun w hS => r_loadA (cs := [v_53]) Try.isAgg24 Try.sizeOf24 rfl hK rfl (hS.cells_of (m := 1) (.tail _ (.tail _ (.head _))) rfl)) fun a hK => ?_
            refine sp (k := 1) rfl hK (by decide) rfl rfl (fun w hS => r_move hK rfl) fun a hK => ?_
            refine sp (k := 2) rfl hK (by decide) rfl rfl (fun w hS => r_ibin hK rfl rfl rfl) fun a hK => ?_
            refine sp (k := 3) rfl hK (by decide) rfl rfl (fun w hS => r_fieldAddr Try.underlying28 rfl Try.sizeOf25 hK rfl) fun a hK => ?_
            refine sp (k := 4) rfl hK (by decide) rfl rfl (fun w hS => r_load Try.isAgg25 hK rfl (hS.cell (.head _) rfl)) fun a hK => ?_
            refine sp (k := 5) rfl hK (by decide) rfl rfl (fun w hS => r_fieldAddr Try.underlying28 rfl Try.sizeOf26 hK rfl) fun a hK => ?_
            refine sp (k := 6) rfl hK (by decide) rfl rfl (fun w hS => r_load Try.isAgg26 hK rfl (hS.cell (.head _) rfl)) fun a hK => ?_
            refine sp (k := 7) rfl hK (by decide) rfl rfl (fun w hS => r_move hK rfl) fun a hK => ?_
            obtain ⟨y_605, h_606, H⟩ := bind_some H
            obtain ⟨b_607, o_608, c_609, cs_610, hv_611, hr_612, hc_613, h_6060, h_6061⟩ := hs_11.ix h_606
            obtain ⟨v_614, rfl, hs_615⟩ := hr_612
            refine sp (k := 8) rfl hK (by decide) rfl rfl (fun w hS => r_indexAddr_R Try.underlying26 Try.sizeOf33 hv_611 h_6060 h_6061 hK rfl rfl) fun a hK => ?_
            refine sp (k := 9) rfl hK (by decide) rfl rfl (fun w hS => r_load Try.isAgg33 hK rfl ((hS.sub.le (hl_15.le.trans (hl_23.le.trans (hl_39.le.trans (hl_50.le.trans (hl_60.le.trans (hl_74.le.trans (hl_250.le.trans (hl_440.le.trans (hl_444.le.trans hl_456.le)))))))))).cell (hc_613 0 _ rfl))) fun a hK => ?_
            refine sp (k := 11) rfl hK (by decide) rfl rfl (fun w hS => r_loadA (cs := [v_53]) Try.isAgg24 Try.sizeOf24 rfl hK rfl (hS.cells_of (m := 1) (.tail _ (.tail _ (.head _))) rfl)) fun a hK => ?_
            refine sp (k := 12) rfl hK (by decide) rfl rfl (fun w hS => r_move hK rfl) fun a hK => ?_
            refine sp (k := 13) rfl hK (by decide) rfl rfl (fun w hS => r_fieldAddr Try.underlying28 rfl Try.sizeOf25 hK rfl) fun a hK => ?_
            refine sp (k := 14) rfl hK (by decide) rfl rfl (fun w hS => r_load Try.isAgg25 hK rfl (hS.cell (.head _) rfl)) fun a hK => ?_
            refine sp (k := 15) rfl hK (by decide) rfl rfl (fun w hS => r_fieldAddr Try.underlying28 rfl Try.sizeOf26 hK rfl) fun a hK => ?_
            refine sp (k := 16) rfl hK (by decide) rfl rfl (fun w hS => r_load Try.isAgg26 hK rfl (hS.cell (.head _) rfl)) fun a hK => ?_
            refine sp (k := 17) rfl hK (by decide) rfl rfl (fun w hS => r_move hK rfl) fun a hK => ?_
            obtain ⟨y_616, h_617, H⟩ := bind_some H
            obtain ⟨b_618, o_619, c_620, cs_621, hv_622, hr_623, hc_624, h_6170, h_6171⟩ := hs_11.ix h_617
            obtain ⟨v_625, rfl, hs_626⟩ := hr_623
            refine sp (k := 18) rfl hK (by decide) rfl rfl (fun w hS => r_indexAddr_R Try.underlying26 Try.sizeOf33 hv_622 h_6170 h_6171 hK rfl rfl) fun a hK => ?_
            refine sp (k := 19) rfl hK (by decide) rfl rfl (fun w hS => r_load Try.isAgg33 hK rfl ((hS.sub.le (hl_15.le.trans (hl_23.le.trans (hl_39.le.trans (hl_50.le.trans (hl_60.le.trans (hl_74.le.trans (hl_250.le.trans (hl_440.le.trans (hl_444.le.trans hl_456.le)))))))))).cell (hc_624 0 _ rfl))) fun a hK => ?_
            refine spw (k := 10) rfl rfl hS ?_
            obtain ⟨y_627, h_628, H⟩ := bind_some H
            refine sl_callV Try.call12 hS hK (by decide) rfl rfl rfl (pred_Holds.calls (⟨y_51⟩ : api_Query) (IntKind.i64.wrap ((y_20.1.N.length : Int) - 1)) y_4.Cols y_605 (lentOf_sub [] _) (hS.lend_row0 (.tail _ (.head _)) (hq_55.mono (hl_60.le.trans (hl_74.le.trans (hl_250.le.trans (hl_440.le.trans (hl_444.le.trans hl_456.le)))))) rfl rfl) (hs_9.mono ((hl_15.le.trans (hl_23.le.trans (hl_39.le.trans (hl_50.le.trans (hl_60.le.trans (hl_74.le.trans (hl_250.le.trans (hl_440.le.trans (hl_444.le.trans hl_456.le))))))))).trans hS.rLe0)) (hs_615.mono ((hl_15.le.trans (hl_23.le.trans (hl_39.le.trans (hl_50.le.trans (hl_60.le.trans (hl_74.le.trans (hl_250.le.trans (hl_440.le.trans (hl_444.le.trans hl_456.le))))))))).trans hS.rLe0)) (GF.mono (hS.raLe0 hRA nil_not) hG) h_628) fun a w hS hK => ?_
            refine parK_nil hS ?_
            refine thenL_nil ?_
            obtain ⟨y_629, h_630, H⟩ := bind_some H
            refine sl_callV Try.call12 hS hK (by decide) rfl rfl rfl (pred_Holds.calls (⟨y_51⟩ : api_Query) (y_20.1.N.length : Int) y_4.Cols y_616 (lentOf_sub [] _) (hS.lend_row0 (.tail _ (.head _)) (hq_55.mono (hl_60.le.trans (hl_74.le.trans (hl_250.le.trans (hl_440.le.trans (hl_444.le.trans hl_456.le)))))) rfl rfl) (hs_9.mono ((hl_15.le.trans (hl_23.le.trans (hl_39.le.trans (hl_50.le.trans (hl_60.le.trans (hl_74.le.trans (hl_250.le.trans (hl_440.le.trans (hl_444.le.trans hl_456.le))))))))).trans hS.rLe0)) (hs_626.mono ((hl_15.le.trans (hl_23.le.trans (hl_39.le.trans (hl_50.le.trans (hl_60.le.trans (hl_74.le.trans (hl_250.le.trans (hl_440.le.trans (hl_444.le.trans hl_456.le))))))))).trans hS.rLe0)) (GF.mono (hS.raLe0 hRA nil_not) hG) h_630) fun a w hS hK => ?_
            refine sl hK (by decide) rfl rfl (r_beq Try.underlying4 hK rfl rfl) fun a hK => ?_
            refine wpList_nil (NoP_nil ?_)
            refine wp_cond_split (hK.ev rfl) (fun (hb_631 : (y_627 == y_629) = true) => ?_) (fun (hb_631 : (y_627 == y_629) = false) => ?_)
            · rw [ifb_t hb_631] at H
              refine wp_seq ?_
              refine wp_region_lit ?_
              refine sl hK (by decide) rfl rfl (r_assign hK rfl) fun a hK => ?_
              refine wpList_nil ?_
              exact absurd (Option.some.inj H) (by decide)
            · rw [ifb_f hb_631] at H
              refine wp_skip ?_
              refine wp_region_lit ?_
              refine sl hK (by decide) rfl rfl (r_move hK rfl) fun a hK => ?_
              refine sl hK (by decide) rfl rfl (r_ibin hK rfl rfl rfl) fun a hK => ?_
              refine sl hK (by decide) rfl rfl (r_assign hK rfl) fun a hK => ?_
              refine wpList_nil ?_
              have hS := hS.pk2
              have hS := hS.pk2
              have hS := hS.pk2
              exact ⟨_, Nat.lt_succ_self _, (IntKind.i64.wrap (x_522 + 1)), H, hK.sub (all_cons rfl (all_cons rfl (all_cons rfl (all_cons rfl (all_cons rfl (all_cons rfl (all_nil))))))), hS⟩
          · rw [ifb_f hb_578] at H
            refine wp_exit ?_
            refine wp_seq ?_
            refine wp_region_lit ?_
            refine sl hK (by decide) rfl rfl (r_move hK rfl) fun a hK => ?_
            refine sl hK (by decide) rfl rfl (r_move hK rfl) fun a hK => ?_
            rcases or_b y_2 with hb_632 | hb_632
            · rw [ifb_t hb_632] at H
              refine sl hK (by decide) (wtt hb_632) rfl (r_move hK rfl) fun a hK => ?_
              refine sl hK (by decide) rfl rfl (r_pick_t hb_632 hK rfl rfl) fun a hK => ?_
              refine sl hK (by decide) rfl rfl (r_assign hK rfl) fun a hK => ?_
              refine wpList_nil ?_
              have hr_ := Option.some.inj H
              refine wp_ret ?_
              repeat (first | refine ret_then ?_ | refine ret_block ?_ | refine ret_scope ?_)
              exact ret_1 Try.results5 hK (rv_tmp hK rfl) ⟨congrArg (fun b => Ending.returned (Value.bool b)) hr_, hS.bel⟩
            · rw [ifb_f hb_632] at H
              refine sl_skip hK (by decide) (wtf hb_632) rfl fun a hK => ?_
              refine sl hK (by decide) rfl rfl (r_pick_f hb_632 hK rfl rfl) fun a hK => ?_
              refine sl hK (by decide) rfl rfl (r_assign hK rfl) fun a hK => ?_
              refine wpList_nil ?_
              exact absurd (Option.some.inj H) (by decide)

end Go.Proofs.Ytjklfkiaebipnaa.M
