/- Each Go function of the laws answers as its plain Lean function tells, wherever that tells something. Printed by wip/eng/gen.py. -/
import Derived.Test.YtjimddbbpjpgdaaWalk3
namespace Go.Proofs.Ytjimddbbpjpgdaa.M
open Go Go.Eng Go.Proofs Go.RowKit
set_option linter.unusedVariables false
set_option linter.unusedSimpArgs false

/-! ### catchment/catchmentlaw16.RowopsWidths: function 7 -/
set_option maxHeartbeats 4000000 in
set_option maxRecDepth 100000 in
theorem law16_RowopsWidths.calls (a0 : List Int) (a1 : Int) {w0 : World} {RA : Hp} {v0_0 : Value} (hRA : RA.sub w0) (h0_0 : SlR (tyInt .i64) RA v0_0 a0) (H : law16_RowopsWidths a0 a1 = some true) : CallsV Try.prog 7 #[v0_0, .int .i64 a1] w0 (.bool true) := by
  unfold law16_RowopsWidths at H
  refine enter (args := [v0_0, .int .i64 a1]) Try.func7 rfl Try.ntmps7 rfl fun a hK => ?_
  have hS := St.init (R := fun _ => none) (w := w0) (fun _ _ h => by cases h)
  have hRL := RLe.refl (M := []) w0 (fun _ => none)
  refine wp_seq ?_
  refine wp_region_lit ?_
  refine sl hK (by decide) rfl rfl (r_assign hK rfl) fun a hK => ?_
  refine wpList_nil ?_
  refine wp_seq ?_
  refine wp_region_lit ?_
  obtain ⟨y_1, h_2, H⟩ := bind_some H
  refine sl_callV Try.call9 hS hK (by decide) rfl rfl rfl (law16_shown.calls h_2 _) fun a w hS hK => ?_
  refine sl hK (by decide) rfl rfl (r_assign hK rfl) fun a hK => ?_
  refine wpList_nil ?_
  refine wp_seq ?_
  refine wp_seq ?_
  refine wp_region_lit ?_
  refine sl hK (by decide) rfl rfl (r_move hK rfl) fun a hK => ?_
  refine sl hK (by decide) rfl rfl (r_ibin hK rfl rfl rfl) fun a hK => ?_
  refine wpList_nil ?_
  refine wp_cond_split (hK.ev rfl) (fun (hb_3 : (decide (a1 < 1)) = true) => ?_) (fun (hb_3 : (decide (a1 < 1)) = false) => ?_)
  · rw [ifb_t hb_3] at H
    refine wp_seq ?_
    refine wp_region_lit ?_
    refine sl hK (by decide) rfl rfl (r_move hK rfl) fun a hK => ?_
    refine sl hK (by decide) rfl rfl (r_assign hK rfl) fun a hK => ?_
    refine wpList_nil ?_
    have hr_ := Option.some.inj H
    refine wp_ret ?_
    repeat (first | refine ret_then ?_ | refine ret_block ?_ | refine ret_scope ?_)
    exact ret_1 Try.results7 hK (rv_tmp hK rfl) ⟨congrArg (fun b => Ending.returned (Value.bool b)) hr_, hS.bel⟩
  · rw [ifb_f hb_3] at H
    refine wp_skip ?_
    refine wp_seq ?_
    refine wp_seq ?_
    refine wp_region_lit ?_
    refine sl hK (by decide) rfl rfl (r_assign hK rfl) fun a hK => ?_
    refine wpList_nil ?_
    refine wp_block ?_
    refine wp_loop_k (fun k_l0 a w => ∃ (x_320 : Int) (R_321 : Hp), law16_RowopsWidths.l0 a0 a1 y_1 k_l0 x_320 = some true ∧ RLe [] w0 (fun _ => none) R_321 ∧ Kn 92 a [(0, v0_0), (1, .int .i64 a1), (5, .bool y_1), (6, .int .i64 x_320)] ∧ St [] w0 w R_321 []) (((a0.length : Int) - 0).toNat + 1) ?_ ?_
    · exact ⟨0, _, H, (RLe.refl _ _), hK.sub (all_cons rfl (all_cons rfl (all_cons rfl (all_cons rfl (all_nil))))), hS⟩
    · rintro k_l0 a w ⟨x_320, R_321, H, hl_322, hK, hS⟩
      cases k_l0 with
      | zero => cases H
      | succ k_l0 =>
      rw [law16_RowopsWidths.l0.eq_2] at H
      have hRL := hRL.trans hl_322
      refine wp_seq ?_
      refine wp_seq ?_
      refine wp_mid (fun a w => ∃ (x_640 : Bool), law16_RowopsWidths.j1 (law16_RowopsWidths.l0 a0 a1 y_1 k_l0) a0 a1 y_1 x_320 x_640 = some true ∧ Kn 92 a [(0, v0_0), (1, .int .i64 a1), (5, .bool y_1), (6, .int .i64 x_320), (21, .bool x_640)] ∧ St [] w0 w R_321 []) ?_ ?_
      · refine wp_region_lit ?_
        refine sl hK (by decide) rfl rfl (r_move hK rfl) fun a hK => ?_
        refine sl hK (by decide) rfl rfl (r_move hK rfl) fun a hK => ?_
        refine sl hK (by decide) rfl rfl (r_len_R Try.underlying47 h0_0 hK rfl) fun a hK => ?_
        refine sl hK (by decide) rfl rfl (r_ibin hK rfl rfl rfl) fun a hK => ?_
        refine sl hK (by decide) rfl rfl (r_move hK rfl) fun a hK => ?_
        rcases or_b (decide (x_320 < (a0.length : Int))) with hb_642 | hb_642
        · rw [ifb_t hb_642] at H
          refine sl hK (by decide) (wtt hb_642) rfl (r_move hK rfl) fun a hK => ?_
          refine sl hK (by decide) (wtt hb_642) rfl (r_ibin hK rfl rfl rfl) fun a hK => ?_
          refine sl hK (by decide) rfl rfl (r_pick_t hb_642 hK rfl rfl) fun a hK => ?_
          refine wpList_nil ?_
          exact ⟨(decide (x_320 < 100)), H, hK.sub (all_cons rfl (all_cons rfl (all_cons rfl (all_cons rfl (all_cons rfl (all_nil)))))), hS⟩
        · rw [ifb_f hb_642] at H
          refine sl_skip hK (by decide) (wtf hb_642) rfl fun a hK => ?_
          refine sl_skip hK (by decide) (wtf hb_642) rfl fun a hK => ?_
          refine sl hK (by decide) rfl rfl (r_pick_f hb_642 hK rfl rfl) fun a hK => ?_
          refine wpList_nil ?_
          exact ⟨false, H, hK.sub (all_cons rfl (all_cons rfl (all_cons rfl (all_cons rfl (all_cons rfl (all_nil)))))), hS⟩
      · rintro a w ⟨x_640, H, hK, hS⟩
        unfold law16_RowopsWidths.j1 at H
        refine wp_cond_split (hK.ev rfl) (fun (hb_643 : x_640 = true) => ?_) (fun (hb_643 : x_640 = false) => ?_)
        · rw [ifb_t hb_643] at H
          refine wp_skip ?_
          refine wp_seq ?_
          refine wp_mid (fun a w => ∃ (R_798 : Hp), law16_RowopsWidths.j2 (law16_RowopsWidths.l0 a0 a1 y_1 k_l0) a0 x_320 = some true ∧ RLe [] w0 R_321 R_798 ∧ Kn 92 a [(0, v0_0), (1, .int .i64 a1), (5, .bool y_1), (6, .int .i64 x_320)] ∧ St [] w0 w R_798 []) ?_ ?_
          · refine wp_block ?_
            refine wp_seq ?_
            refine wp_seq ?_
            refine wp_region_lit ?_
            refine sl hK (by decide) rfl rfl (r_move hK rfl) fun a hK => ?_
            refine sl hK (by decide) rfl rfl (r_move hK rfl) fun a hK => ?_
            obtain ⟨y_800, h_801, H⟩ := bind_some H
            obtain ⟨b_802, o_803, c_804, cs_805, hv_806, hr_807, hc_808, h_8010, h_8011⟩ := h0_0.ix h_801
            subst hr_807
            refine sl hK (by decide) rfl rfl (r_indexAddr_R Try.underlying47 Try.sizeOf3 hv_806 h_8010 h_8011 hK rfl rfl) fun a hK => ?_
            refine sl hK (by decide) rfl rfl (r_load Try.isAgg3 hK rfl ((hS.ra hRA nil_not).cell (hc_808 0 _ rfl))) fun a hK => ?_
            refine sl hK (by decide) rfl rfl (r_move hK rfl) fun a hK => ?_
            refine sl hK (by decide) rfl rfl (r_ibin hK rfl rfl rfl) fun a hK => ?_
            refine sl hK (by decide) rfl rfl (r_ibin hK rfl rfl rfl) fun a hK => ?_
            refine wpList_nil ?_
            refine wp_cond_split (hK.ev rfl) (fun (hb_809 : (decide (y_800 < (IntKind.i64.wrap ((-9223372036854775808) + a1)))) = true) => ?_) (fun (hb_809 : (decide (y_800 < (IntKind.i64.wrap ((-9223372036854775808) + a1)))) = false) => ?_)
            · rw [ifb_t hb_809] at H
              refine wp_exit ?_
              exact ⟨_, H, (RLe.refl _ _), hK.sub (all_cons rfl (all_cons rfl (all_cons rfl (all_cons rfl (all_nil))))), hS⟩
            · rw [ifb_f hb_809] at H
              refine wp_skip ?_
              refine wp_seq ?_
              refine wp_region_lit ?_
              refine sl hK (by decide) rfl rfl (r_move hK rfl) fun a hK => ?_
              refine sl hK (by decide) rfl rfl (r_move hK rfl) fun a hK => ?_
              obtain ⟨y_810, h_811, H⟩ := bind_some H
              obtain ⟨b_812, o_813, c_814, cs_815, hv_816, hr_817, hc_818, h_8110, h_8111⟩ := h0_0.ix h_811
              subst hr_817
              refine sl hK (by decide) rfl rfl (r_indexAddr_R Try.underlying47 Try.sizeOf3 hv_816 h_8110 h_8111 hK rfl rfl) fun a hK => ?_
              refine sl hK (by decide) rfl rfl (r_load Try.isAgg3 hK rfl ((hS.ra hRA nil_not).cell (hc_818 0 _ rfl))) fun a hK => ?_
              refine sl hK (by decide) rfl rfl (r_move hK rfl) fun a hK => ?_
              refine sl_buildSliceF (zc := [.int .i64 0]) (ps := [(0, .int .i64 y_810), (1, .int .i64 x_320)]) (c := [.int .i64 y_810, .int .i64 x_320]) [[.int .i64 y_810], [.int .i64 x_320]] Try.underlying47 Try.sizeOf3 Try.zeroValue3 rfl (pc_cons rfl (pc_cons rfl pc_nil)) rfl rfl (Nat.le_of_ble_eq_true rfl) rfl (all_cons rfl (all_cons rfl (all_nil))) rfl hS hK (by decide) rfl fun a w b_819 hS hK => ?_
              obtain ⟨y_820, h_821, H⟩ := bind_some H
              refine sl_call Try.call20 hK (by decide) rfl rfl rfl (law16_pairs.calls [y_810, x_320] (lentOf_sub [] _) hS.sub (hS.lend_lit0 (ty := (tyInt .i64)) (xs := [y_810, x_320]) (.head _) (Reps.cons (show Ty.rep (tyInt .i64) _ [.int .i64 y_810] y_810 from rfl) (Reps.cons (show Ty.rep (tyInt .i64) _ [.int .i64 x_320] x_320 from rfl) (Reps.nil _ _))) rfl) h_821) fun a v_ w hv_ hK => ?_
              obtain ⟨R_822, v_825, cs_826, v_829, cs_830, hv_, hr_, hl_823, hq_827, hq_831⟩ := hv_
              have hv_ := hv_.symm
              subst hv_
              obtain ⟨hS, hl_823⟩ := hS.sp0.back hr_ hl_823
              have hS := hS.un2
              have hRL := hRL.trans hl_823
              refine sl hK (by decide) rfl rfl (r_move hK rfl) fun a hK => ?_
              obtain ⟨y_832, h_833, H⟩ := bind_some H
              refine sl_call Try.call12 hK (by decide) rfl rfl rfl (rowops_Align.calls y_820 a1 (lentOf_sub [] _) hS.sub (hS.lend_row0 (.head _) hq_827 rfl rfl) (hS.lend_row0 (.tail _ (.head _)) hq_831 rfl rfl) h_833) fun a v_ w hv_ hK => ?_
              obtain ⟨R_834, v_837, cs_838, v_841, cs_842, hv_, hr_, hl_835, hq_839, hq_843⟩ := hv_
              have hv_ := hv_.symm
              subst hv_
              obtain ⟨hS, hl_835⟩ := hS.sp0.back hr_ hl_835
              have hS := hS.un2
              have hRL := hRL.trans hl_835
              refine sl hK (by decide) rfl rfl (r_move hK rfl) fun a hK => ?_
              refine sl hK (by decide) rfl rfl (r_extract hK rfl rfl) fun a hK => ?_
              refine sl hK (by decide) rfl rfl (r_extract hK rfl rfl) fun a hK => ?_
              refine sl_alloc Try.zeroValue25 hS hK (by decide) rfl rfl fun a w b_844 hS hK => ?_
              refine sl_storeA (vs := [v_837, v_841]) (c' := [v_837, v_841]) Try.sizeOf25 hS hK rfl rfl rfl rfl (all_cons (hS.row_one (.tail _ (.head _))) (all_cons (hS.row_one (.tail _ (.tail _ (.head _)))) (all_nil))) (Nat.le_of_ble_eq_true rfl) rfl fun a w hS hK => ?_
              refine sl hK (by decide) rfl rfl (r_assign hK rfl) fun a hK => ?_
              refine wpList_nil ?_
              refine wp_seq ?_
              refine wp_seq ?_
              refine wp_mid (fun a w => ∃ (x_866 : Bool), law16_RowopsWidths.j3 (law16_RowopsWidths.l0 a0 a1 y_1 k_l0) a0 a1 x_320 y_832 x_866 = some true ∧ Kn 92 a [(0, v0_0), (1, .int .i64 a1), (5, .bool y_1), (6, .int .i64 x_320), (7, .pointer (some ⟨b_844, 0, none⟩)), (61, .bool x_866)] ∧ St [] w0 w R_834 [.row 38 2 v_837 y_832.1.Cols.length cs_838, .row 44 1 v_841 y_832.1.Rows.length cs_842, .cells b_844 [v_837, v_841] 25]) ?_ ?_
              · refine wp_region_lit ?_
                refine sl hK (by decide) rfl rfl (r_move hK rfl) fun a hK => ?_
                refine sl hK (by decide) rfl rfl (r_ibin hK rfl rfl rfl) fun a hK => ?_
                refine sl hK (by decide) rfl rfl (r_move hK rfl) fun a hK => ?_
                rcases or_b (y_832.2 != 0) with hb_868 | hb_868
                · rw [ifb_t hb_868] at H
                  refine sl_skip hK (by decide) (wft hb_868) rfl fun a hK => ?_
                  refine sl_skip hK (by decide) (wft hb_868) rfl fun a hK => ?_
                  refine sl_skip hK (by decide) (wft hb_868) rfl fun a hK => ?_
                  refine sl_skip hK (by decide) (wft hb_868) rfl fun a hK => ?_
                  refine sl hK (by decide) rfl rfl (r_pick_t hb_868 hK rfl rfl) fun a hK => ?_
                  refine sl hK (by decide) rfl rfl (r_move hK rfl) fun a hK => ?_
                  refine sl_skip hK (by decide) rfl rfl fun a hK => ?_
                  refine sl_skip hK (by decide) rfl rfl fun a hK => ?_
                  refine sl_skip hK (by decide) rfl rfl fun a hK => ?_
                  refine sl_skip hK (by decide) rfl rfl fun a hK => ?_
                  refine sl_skip hK (by decide) rfl rfl fun a hK => ?_
                  refine sl_skip hK (by decide) rfl rfl fun a hK => ?_
                  refine sl_skip hK (by decide) rfl rfl fun a hK => ?_
                  refine sl_skip hK (by decide) rfl rfl fun a hK => ?_
                  refine sl_skip hK (by decide) rfl rfl fun a hK => ?_
                  refine sl hK (by decide) rfl rfl (r_pick hK rfl rfl rfl) fun a hK => ?_
                  refine wpList_nil ?_
                  have hS := hS.pk2
                  have hS := hS.pk2
                  exact ⟨true, H, hK.sub (all_cons rfl (all_cons rfl (all_cons rfl (all_cons rfl (all_cons rfl (all_cons rfl (all_nil))))))), hS.trunc 3⟩
                · rw [ifb_f hb_868] at H
                  refine sl hK (by decide) (wff hb_868) rfl (r_fieldAddr Try.underlying25 rfl Try.sizeOf23 hK rfl) fun a hK => ?_
                  refine sl hK (by decide) (wff hb_868) rfl (r_load Try.isAgg23 hK rfl (hS.cell (.head _) rfl)) fun a hK => ?_
                  refine sl hK (by decide) (wff hb_868) rfl (r_len_O Try.underlying23 hS (.tail _ (.tail _ (.head _))) hK rfl) fun a hK => ?_
                  refine sl hK (by decide) (wff hb_868) rfl (r_ibin hK rfl rfl rfl) fun a hK => ?_
                  refine sl hK (by decide) rfl rfl (r_pick_f hb_868 hK rfl rfl) fun a hK => ?_
                  refine sl hK (by decide) rfl rfl (r_move hK rfl) fun a hK => ?_
                  rcases or_b ((y_832.1.Rows.length : Int) != 1) with hb_869 | hb_869
                  · rw [ifb_t hb_869] at H
                    refine sl_skip hK (by decide) (wft hb_869) rfl fun a hK => ?_
                    refine sl_skip hK (by decide) (wft hb_869) rfl fun a hK => ?_
                    refine sl_skip hK (by decide) (wft hb_869) rfl fun a hK => ?_
                    refine sl_skip hK (by decide) (wft hb_869) rfl fun a hK => ?_
                    refine sl_skip hK (by decide) (wft hb_869) rfl fun a hK => ?_
                    refine sl_skip hK (by decide) (wft hb_869) rfl fun a hK => ?_
                    refine sl_skip hK (by decide) (wft hb_869) rfl fun a hK => ?_
                    refine sl_skip hK (by decide) (wft hb_869) rfl fun a hK => ?_
                    refine sl_skip hK (by decide) (wft hb_869) rfl fun a hK => ?_
                    refine sl hK (by decide) rfl rfl (r_pick_t hb_869 hK rfl rfl) fun a hK => ?_
                    refine wpList_nil ?_
                    have hS := hS.pk2
                    have hS := hS.pk2
                    exact ⟨true, H, hK.sub (all_cons rfl (all_cons rfl (all_cons rfl (all_cons rfl (all_cons rfl (all_cons rfl (all_nil))))))), hS.trunc 3⟩
                  · rw [ifb_f hb_869] at H
                    refine sl hK (by decide) (wff hb_869) rfl (r_fieldAddr Try.underlying25 rfl Try.sizeOf23 hK rfl) fun a hK => ?_
                    refine sl hK (by decide) (wff hb_869) rfl (r_load Try.isAgg23 hK rfl (hS.cell (.head _) rfl)) fun a hK => ?_
                    obtain ⟨y_870, h_871, H⟩ := bind_some H
                    obtain ⟨b_873, c_874, cs_875, hv_872, hr_876, hc_877, h_8710, h_8711⟩ := hS.row_ix (.tail _ (.tail _ (.head _))) hq_843 rfl rfl h_871
                    obtain ⟨v_878, rfl, hs_879⟩ := hr_876
                    refine sl hK (by decide) (wff hb_869) rfl (r_indexAddr_R Try.underlying23 Try.sizeOf44 hv_872 h_8710 h_8711 hK rfl rfl) fun a hK => ?_
                    refine sl hK (by decide) (wff hb_869) rfl (r_load Try.isAgg44 hK rfl (hS.row_cell (.tail _ (.tail _ (.head _))) hv_872 (hc_877 0 _ rfl))) fun a hK => ?_
                    obtain ⟨y_880, h_881, H⟩ := bind_some H
                    obtain ⟨b_882, o_883, c_884, cs_885, hv_886, hr_887, hc_888, h_8810, h_8811⟩ := hs_879.ix h_881
                    subst hr_887
                    refine sl hK (by decide) (wff hb_869) rfl (r_indexAddr_R Try.underlying44 Try.sizeOf43 hv_886 h_8810 h_8811 hK rfl rfl) fun a hK => ?_
                    refine sl hK (by decide) (wff hb_869) rfl (r_fieldAddr Try.underlying43 rfl Try.sizeOf3 hK rfl) fun a hK => ?_
                    refine sl hK (by decide) (wff hb_869) rfl (r_load Try.isAgg3 hK rfl (hS.sub.cell (hc_888 1 _ rfl))) fun a hK => ?_
                    refine sl hK (by decide) (wff hb_869) rfl (r_move hK rfl) fun a hK => ?_
                    refine sl hK (by decide) (wff hb_869) rfl (r_ibin hK rfl rfl rfl) fun a hK => ?_
                    refine sl hK (by decide) rfl rfl (r_pick_f hb_869 hK rfl rfl) fun a hK => ?_
                    refine wpList_nil ?_
                    have hS := hS.pk2
                    have hS := hS.pk2
                    exact ⟨(y_880.N != x_320), H, hK.sub (all_cons rfl (all_cons rfl (all_cons rfl (all_cons rfl (all_cons rfl (all_cons rfl (all_nil))))))), hS.trunc 3⟩
              · rintro a w ⟨x_866, H, hK, hS⟩
                unfold law16_RowopsWidths.j3 at H
                refine wp_cond_split (hK.ev rfl) (fun (hb_889 : x_866 = true) => ?_) (fun (hb_889 : x_866 = false) => ?_)
                · rw [ifb_t hb_889] at H
                  refine wp_seq ?_
                  refine wp_region_lit ?_
                  refine sl hK (by decide) rfl rfl (r_assign hK rfl) fun a hK => ?_
                  refine wpList_nil ?_
                  exact absurd (Option.some.inj H) (by decide)
                · rw [ifb_f hb_889] at H
                  refine wp_skip ?_
                  refine wp_seq ?_
                  refine wp_region_lit ?_
                  refine sl hK (by decide) rfl rfl (r_fieldAddr Try.underlying25 rfl Try.sizeOf23 hK rfl) fun a hK => ?_
                  refine sl hK (by decide) rfl rfl (r_load Try.isAgg23 hK rfl (hS.cell (.tail _ (.tail _ (.head _))) rfl)) fun a hK => ?_
                  obtain ⟨y_890, h_891, H⟩ := bind_some H
                  obtain ⟨b_893, c_894, cs_895, hv_892, hr_896, hc_897, h_8910, h_8911⟩ := hS.row_ix (.tail _ (.head _)) hq_843 rfl rfl h_891
                  obtain ⟨v_898, rfl, hs_899⟩ := hr_896
                  refine sl hK (by decide) rfl rfl (r_indexAddr_R Try.underlying23 Try.sizeOf44 hv_892 h_8910 h_8911 hK rfl rfl) fun a hK => ?_
                  refine sl hK (by decide) rfl rfl (r_load Try.isAgg44 hK rfl (hS.row_cell (.tail _ (.head _)) hv_892 (hc_897 0 _ rfl))) fun a hK => ?_
                  obtain ⟨y_900, h_901, H⟩ := bind_some H
                  obtain ⟨b_902, o_903, c_904, cs_905, hv_906, hr_907, hc_908, h_9010, h_9011⟩ := hs_899.ix h_901
                  subst hr_907
                  refine sl hK (by decide) rfl rfl (r_indexAddr_R Try.underlying44 Try.sizeOf43 hv_906 h_9010 h_9011 hK rfl rfl) fun a hK => ?_
                  refine sl hK (by decide) rfl rfl (r_fieldAddr Try.underlying43 rfl Try.sizeOf3 hK rfl) fun a hK => ?_
                  refine sl hK (by decide) rfl rfl (r_load Try.isAgg3 hK rfl (hS.sub.cell (hc_908 1 _ rfl))) fun a hK => ?_
                  refine sl hK (by decide) rfl rfl (r_assign hK rfl) fun a hK => ?_
                  refine wpList_nil ?_
                  refine wp_seq ?_
                  refine wp_mid (fun a w => ∃ (x_930 : Bool), law16_RowopsWidths.j4 (law16_RowopsWidths.l0 a0 a1 y_1 k_l0) a0 x_320 x_930 = some true ∧ Kn 92 a [(0, v0_0), (1, .int .i64 a1), (5, .bool y_1), (6, .int .i64 x_320), (90, .bool x_930)] ∧ St [] w0 w R_834 []) ?_ ?_
                  · refine wp_region_lit ?_
                    refine sl hK (by decide) rfl rfl (r_move hK rfl) fun a hK => ?_
                    refine sl hK (by decide) rfl rfl (r_move hK rfl) fun a hK => ?_
                    rcases or_b (a1 != 0) with hn_932 | hn_932
                    · rw [ifb_t hn_932] at H
                      refine sl hK (by decide) rfl rfl (r_rem hK rfl rfl (ne_of_bne hn_932)) fun a hK => ?_
                      refine sl hK (by decide) rfl rfl (r_ibin hK rfl rfl rfl) fun a hK => ?_
                      refine sl hK (by decide) rfl rfl (r_move hK rfl) fun a hK => ?_
                      rcases or_b ((y_900.N.tmod a1) != 0) with hb_933 | hb_933
                      · rw [ifb_t hb_933] at H
                        refine sl_skip hK (by decide) (wft hb_933) rfl fun a hK => ?_
                        refine sl_skip hK (by decide) (wft hb_933) rfl fun a hK => ?_
                        refine sl_skip hK (by decide) (wft hb_933) rfl fun a hK => ?_
                        refine sl_skip hK (by decide) (wft hb_933) rfl fun a hK => ?_
                        refine sl_skip hK (by decide) (wft hb_933) rfl fun a hK => ?_
                        refine sl_skip hK (by decide) (wft hb_933) rfl fun a hK => ?_
                        refine sl hK (by decide) rfl rfl (r_pick_t hb_933 hK rfl rfl) fun a hK => ?_
                        refine sl hK (by decide) rfl rfl (r_move hK rfl) fun a hK => ?_
                        refine sl_skip hK (by decide) rfl rfl fun a hK => ?_
                        refine sl_skip hK (by decide) rfl rfl fun a hK => ?_
                        refine sl_skip hK (by decide) rfl rfl fun a hK => ?_
                        refine sl_skip hK (by decide) rfl rfl fun a hK => ?_
                        refine sl_skip hK (by decide) rfl rfl fun a hK => ?_
                        refine sl_skip hK (by decide) rfl rfl fun a hK => ?_
                        refine sl_skip hK (by decide) rfl rfl fun a hK => ?_
                        refine sl_skip hK (by decide) rfl rfl fun a hK => ?_
                        refine sl hK (by decide) rfl rfl (r_pick hK rfl rfl rfl) fun a hK => ?_
                        refine wpList_nil ?_
                        exact ⟨true, H, hK.sub (all_cons rfl (all_cons rfl (all_cons rfl (all_cons rfl (all_cons rfl (all_nil)))))), hS.trunc 0⟩
                      · rw [ifb_f hb_933] at H
                        refine sl hK (by decide) (wff hb_933) rfl (r_move hK rfl) fun a hK => ?_
                        refine sl hK (by decide) (wff hb_933) rfl (r_move hK rfl) fun a hK => ?_
                        refine sl hK (by decide) (wff hb_933) rfl (r_move hK rfl) fun a hK => ?_
                        obtain ⟨y_934, h_935, H⟩ := bind_some H
                        obtain ⟨b_936, o_937, c_938, cs_939, hv_940, hr_941, hc_942, h_9350, h_9351⟩ := h0_0.ix h_935
                        subst hr_941
                        refine sl hK (by decide) (wff hb_933) rfl (r_indexAddr_R Try.underlying47 Try.sizeOf3 hv_940 h_9350 h_9351 hK rfl rfl) fun a hK => ?_
                        refine sl hK (by decide) (wff hb_933) rfl (r_load Try.isAgg3 hK rfl ((hS.ra hRA nil_not).cell (hc_942 0 _ rfl))) fun a hK => ?_
                        refine sl hK (by decide) (wff hb_933) rfl (r_ibin hK rfl rfl rfl) fun a hK => ?_
                        refine sl hK (by decide) rfl rfl (r_pick_f hb_933 hK rfl rfl) fun a hK => ?_
                        refine sl hK (by decide) rfl rfl (r_move hK rfl) fun a hK => ?_
                        rcases or_b (decide (y_900.N > y_934)) with hb_943 | hb_943
                        · rw [ifb_t hb_943] at H
                          refine sl_skip hK (by decide) (wft hb_943) rfl fun a hK => ?_
                          refine sl_skip hK (by decide) (wft hb_943) rfl fun a hK => ?_
                          refine sl_skip hK (by decide) (wft hb_943) rfl fun a hK => ?_
                          refine sl_skip hK (by decide) (wft hb_943) rfl fun a hK => ?_
                          refine sl_skip hK (by decide) (wft hb_943) rfl fun a hK => ?_
                          refine sl_skip hK (by decide) (wft hb_943) rfl fun a hK => ?_
                          refine sl_skip hK (by decide) (wft hb_943) rfl fun a hK => ?_
                          refine sl_skip hK (by decide) (wft hb_943) rfl fun a hK => ?_
                          refine sl hK (by decide) rfl rfl (r_pick_t hb_943 hK rfl rfl) fun a hK => ?_
                          refine wpList_nil ?_
                          exact ⟨true, H, hK.sub (all_cons rfl (all_cons rfl (all_cons rfl (all_cons rfl (all_cons rfl (all_nil)))))), hS.trunc 0⟩
                        · rw [ifb_f hb_943] at H
                          refine sl hK (by decide) (wff hb_943) rfl (r_move hK rfl) fun a hK => ?_
                          refine sl hK (by decide) (wff hb_943) rfl (r_move hK rfl) fun a hK => ?_
                          obtain ⟨y_944, h_945, H⟩ := bind_some H
                          obtain ⟨b_946, o_947, c_948, cs_949, hv_950, hr_951, hc_952, h_9450, h_9451⟩ := h0_0.ix h_945
                          subst hr_951
                          refine sl hK (by decide) (wff hb_943) rfl (r_indexAddr_R Try.underlying47 Try.sizeOf3 hv_950 h_9450 h_9451 hK rfl rfl) fun a hK => ?_
                          refine sl hK (by decide) (wff hb_943) rfl (r_load Try.isAgg3 hK rfl ((hS.ra hRA nil_not).cell (hc_952 0 _ rfl))) fun a hK => ?_
                          refine sl hK (by decide) (wff hb_943) rfl (r_move hK rfl) fun a hK => ?_
                          refine sl hK (by decide) (wff hb_943) rfl (r_ibin hK rfl rfl rfl) fun a hK => ?_
                          refine sl hK (by decide) (wff hb_943) rfl (r_move hK rfl) fun a hK => ?_
                          refine sl hK (by decide) (wff hb_943) rfl (r_ibin hK rfl rfl rfl) fun a hK => ?_
                          refine sl hK (by decide) rfl rfl (r_pick_f hb_943 hK rfl rfl) fun a hK => ?_
                          refine wpList_nil ?_
                          exact ⟨(decide ((IntKind.i64.wrap (y_944 - y_900.N)) ≥ a1)), H, hK.sub (all_cons rfl (all_cons rfl (all_cons rfl (all_cons rfl (all_cons rfl (all_nil)))))), hS.trunc 0⟩
                    · rw [ifb_f hn_932] at H
                      cases H
                  · rintro a w ⟨x_930, H, hK, hS⟩
                    unfold law16_RowopsWidths.j4 at H
                    refine wp_cond_split (hK.ev rfl) (fun (hb_953 : x_930 = true) => ?_) (fun (hb_953 : x_930 = false) => ?_)
                    · rw [ifb_t hb_953] at H
                      refine wp_seq ?_
                      refine wp_region_lit ?_
                      refine sl hK (by decide) rfl rfl (r_assign hK rfl) fun a hK => ?_
                      refine wpList_nil ?_
                      exact absurd (Option.some.inj H) (by decide)
                    · rw [ifb_f hb_953] at H
                      refine wp_skip ?_
                      exact ⟨_, H, (hl_823.trans hl_835), hK.sub (all_cons rfl (all_cons rfl (all_cons rfl (all_cons rfl (all_nil))))), hS⟩
          · rintro a w ⟨R_798, H, hl_799, hK, hS⟩
            unfold law16_RowopsWidths.j2 at H
            have hRL := hRL.trans hl_799
            refine wp_region_lit ?_
            refine sl hK (by decide) rfl rfl (r_move hK rfl) fun a hK => ?_
            refine sl hK (by decide) rfl rfl (r_ibin hK rfl rfl rfl) fun a hK => ?_
            refine sl hK (by decide) rfl rfl (r_assign hK rfl) fun a hK => ?_
            refine wpList_nil ?_
            exact ⟨_, Nat.lt_succ_self _, (IntKind.i64.wrap (x_320 + 1)), _, H, (hl_322.trans hl_799), hK.sub (all_cons rfl (all_cons rfl (all_cons rfl (all_cons rfl (all_nil))))), hS⟩
        · rw [ifb_f hb_643] at H
          refine wp_exit ?_
          refine wp_seq ?_
          refine wp_region_lit ?_
          refine sl hK (by decide) rfl rfl (r_move hK rfl) fun a hK => ?_
          refine sl hK (by decide) rfl rfl (r_assign hK rfl) fun a hK => ?_
          refine wpList_nil ?_
          have hr_ := Option.some.inj H
          refine wp_ret ?_
          repeat (first | refine ret_then ?_ | refine ret_block ?_ | refine ret_scope ?_)
          exact ret_1 Try.results7 hK (rv_tmp hK rfl) ⟨congrArg (fun b => Ending.returned (Value.bool b)) hr_, hS.bel⟩

end Go.Proofs.Ytjimddbbpjpgdaa.M
