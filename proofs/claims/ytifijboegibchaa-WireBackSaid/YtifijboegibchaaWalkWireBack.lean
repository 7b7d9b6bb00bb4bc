/- Each Go function of the laws answers as its plain Lean function tells, wherever that tells something. Printed by wip/eng/gen.py. -/
import Derived.Test.YtifijboegibchaaWalk3
namespace Go.Proofs.Ytifijboegibchaa.M
open Go Go.Eng Go.Proofs Go.RowKit
set_option linter.unusedVariables false
set_option linter.unusedSimpArgs false

/-! ### catchment/catchmentlaw04.WireBack: function 4 -/
set_option maxHeartbeats 4000000 in
set_option maxRecDepth 100000 in
theorem law04_WireBack.calls (a0 : api_Value) (a1 : List Int) (a2 : Int) {w0 : World} {R : Hp} {v1_0 : Value} (hR : R.sub w0) (h1_0 : SlR (tyInt .u8) R v1_0 a1) (H : law04_WireBack a0 a1 a2 = some true) : CallsV Try.prog 4 #[.agg #[.int .i64 a0.Kind, .int .i64 a0.N, .string a0.S, .int .i64 a0.H.a0, .int .i64 a0.H.a1, .int .i64 a0.H.a2, .int .i64 a0.H.a3, .int .i64 a0.H.a4, .int .i64 a0.H.a5, .int .i64 a0.H.a6, .int .i64 a0.H.a7], v1_0, .int .i64 a2] w0 (.bool true) := by
  unfold law04_WireBack at H
  refine enter (args := [.agg #[.int .i64 a0.Kind, .int .i64 a0.N, .string a0.S, .int .i64 a0.H.a0, .int .i64 a0.H.a1, .int .i64 a0.H.a2, .int .i64 a0.H.a3, .int .i64 a0.H.a4, .int .i64 a0.H.a5, .int .i64 a0.H.a6, .int .i64 a0.H.a7], v1_0, .int .i64 a2]) Try.func4 rfl Try.ntmps4 rfl fun a hK => ?_
  have hS := St.init hR
  have hRL := RLe.refl (M := []) w0 R
  refine wp_seq ?_
  refine wp_region_lit ?_
  refine sl_box hS hK (by decide) rfl rfl (c := [.int .i64 a0.Kind, .int .i64 a0.N, .string a0.S, .int .i64 a0.H.a0, .int .i64 a0.H.a1, .int .i64 a0.H.a2, .int .i64 a0.H.a3, .int .i64 a0.H.a4, .int .i64 a0.H.a5, .int .i64 a0.H.a6, .int .i64 a0.H.a7]) rfl fun a w b_1 hS hK => ?_
  refine sl hK (by decide) rfl rfl (r_assign hK rfl) fun a hK => ?_
  refine wpList_nil ?_
  refine wp_seq ?_
  refine wp_region_lit ?_
  obtain ⟨y_2, h_3, H⟩ := bind_some H
  refine sl_callV Try.call11 hS hK (by decide) rfl rfl rfl (law04_shown.calls h_3 _) fun a w hS hK => ?_
  refine sl hK (by decide) rfl rfl (r_assign hK rfl) fun a hK => ?_
  refine wpList_nil ?_
  refine wp_seq ?_
  refine wp_region_lit ?_
  refine sl hK (by decide) rfl rfl (r_loadA (cs := [.int .i64 a0.Kind, .int .i64 a0.N, .string a0.S, .int .i64 a0.H.a0, .int .i64 a0.H.a1, .int .i64 a0.H.a2, .int .i64 a0.H.a3, .int .i64 a0.H.a4, .int .i64 a0.H.a5, .int .i64 a0.H.a6, .int .i64 a0.H.a7]) Try.isAgg25 Try.sizeOf25 rfl hK rfl (hS.cells_of (m := 11) (.head _) rfl)) fun a hK => ?_
  obtain ⟨y_4, h_5, H⟩ := bind_some H
  refine sl_call Try.call12 hK (by decide) rfl rfl rfl (wire_Put.calls ([] : List Int) a0 (lentOf_sub [] _) hS.sub (SlR.nil (tyInt .u8) _) h_5) fun a v_ w hv_ hK => ?_
  obtain ⟨R_6, v_9, cs_10, hv_, hr_, hl_7, hq_11⟩ := hv_
  have hv_ := hv_.symm
  subst hv_
  obtain ⟨hS, hl_7⟩ := hS.sp0.back hr_ hl_7
  have hS := hS.un1
  have hRL := hRL.trans hl_7
  refine sl hK (by decide) rfl rfl (r_move hK rfl) fun a hK => ?_
  refine sl hK (by decide) rfl rfl (r_extract hK rfl rfl) fun a hK => ?_
  refine sl hK (by decide) rfl rfl (r_extract hK rfl rfl) fun a hK => ?_
  refine sl hK (by decide) rfl rfl (r_assign hK rfl) fun a hK => ?_
  refine sl hK (by decide) rfl rfl (r_assign hK rfl) fun a hK => ?_
  refine wpList_nil ?_
  refine wp_seq ?_
  refine wp_seq ?_
  refine wp_region_lit ?_
  refine sl hK (by decide) rfl rfl (r_move hK rfl) fun a hK => ?_
  refine sl hK (by decide) rfl rfl (r_ibin hK rfl rfl rfl) fun a hK => ?_
  refine wpList_nil ?_
  refine wp_mid (fun a w => ∃ (R_509 : Hp), law04_WireBack.j0 a1 a2 y_2 = some true ∧ RLe [] w0 R_6 R_509 ∧ Kn 82 a [(1, v1_0), (2, .int .i64 a2), (7, .bool y_2)] ∧ St [] w0 w R_509 []) ?_ ?_
  · refine wp_cond_split (hK.ev rfl) (fun (hb_511 : (y_4.2 == 0) = true) => ?_) (fun (hb_511 : (y_4.2 == 0) = false) => ?_)
    · rw [ifb_t hb_511] at H
      refine wp_seq ?_
      refine wp_mid (fun a w => ∃ (x_751 : Int) (x_752 : Int) (x_753 : ByteArray) (x_754 : Arr8) (x_756 : List Int) (x_760 : Int) (R_761 : Hp) (v_757 : Value) (cs_758 : List Value) (b_750 : Nat), law04_WireBack.j1 a0 a1 a2 y_2 x_751 x_752 x_753 x_754 x_756 x_760 = some true ∧ RLe [] w0 R_6 R_761 ∧ Reps (tyInt .u8) R_761 cs_758 x_756 ∧ Kn 82 a [(1, v1_0), (2, .int .i64 a2), (3, .pointer (some ⟨b_1, 0, none⟩)), (7, .bool y_2), (10, .pointer (some ⟨b_750, 0, none⟩)), (11, v_757), (12, .int .i64 x_760)] ∧ St [] w0 w R_761 [.cells b_1 [.int .i64 a0.Kind, .int .i64 a0.N, .string a0.S, .int .i64 a0.H.a0, .int .i64 a0.H.a1, .int .i64 a0.H.a2, .int .i64 a0.H.a3, .int .i64 a0.H.a4, .int .i64 a0.H.a5, .int .i64 a0.H.a6, .int .i64 a0.H.a7] 25, .cells b_750 [.int .i64 x_751, .int .i64 x_752, .string x_753, .int .i64 x_754.a0, .int .i64 x_754.a1, .int .i64 x_754.a2, .int .i64 x_754.a3, .int .i64 x_754.a4, .int .i64 x_754.a5, .int .i64 x_754.a6, .int .i64 x_754.a7] 25, .row 5 1 v_757 x_756.length cs_758]) ?_ ?_
      · refine treeT_region (C := fun w => St [] w0 w R_6 [.cells b_1 [.int .i64 a0.Kind, .int .i64 a0.N, .string a0.S, .int .i64 a0.H.a0, .int .i64 a0.H.a1, .int .i64 a0.H.a2, .int .i64 a0.H.a3, .int .i64 a0.H.a4, .int .i64 a0.H.a5, .int .i64 a0.H.a6, .int .i64 a0.H.a7] 25]) 15 (.br [(1, true), (3, true), (5, true), (6, true)] 0 (.br [] 2 (.br [] 4 (.br [] 7 (.list [(8, true), (9, true), (10, true), (11, true), (12, false), (13, false), (14, true)]) 12 (.list [(7, false), (8, true), (9, true), (10, true), (11, true), (13, false), (14, true)])) 12 (.list [(4, false), (7, false), (8, true), (9, true), (10, true), (11, true), (13, false), (14, true)])) 12 (.list [(2, false), (4, false), (7, false), (8, true), (9, true), (10, true), (11, true), (13, false), (14, true)])) 12 (.list [(0, false), (2, false), (4, false), (7, false), (8, true), (9, true), (10, true), (11, true), (13, false), (14, true)])) mixed (by kernel_rfl) hS (fun w hS => (hS.pk1.trunc 1)) fun w hS => ?_
        refine tree_fork ?_
        refine sp (k := 1) rfl hK (by decide) rfl rfl (fun w hS => r_move hK rfl) fun a hK => ?_
        refine sp (k := 3) rfl hK (by decide) rfl rfl (fun w hS => r_move hK rfl) fun a hK => ?_
        refine sp (k := 5) rfl hK (by decide) rfl rfl (fun w hS => r_fieldAddr Try.underlying25 rfl Try.sizeOf3 hK rfl) fun a hK => ?_
        refine sp (k := 6) rfl hK (by decide) rfl rfl (fun w hS => r_load Try.isAgg3 hK rfl (hS.cell (.head _) rfl)) fun a hK => ?_
        refine wpPar_nil (tree_br ?_ ?_)
        · refine spwB (k := 0) rfl rfl (hS.pk1.trunc 1) ?_
          refine sl_buildSliceC (zc := [.int .u8 0]) (zs := []) (ps := []) (c := []) Try.underlying22 Try.sizeOf5 Try.zeroValue5 rfl pc_nil rfl rfl (by decide) (by kernel_rfl) rfl hS hK (by decide) rfl fun a w b_882 hS hK => ?_
          refine parKK_nil (hS.pk2.trunc 1) ?_
          refine tree_fork ?_
          refine wpPar_nil (tree_br ?_ ?_)
          · refine spwB (k := 2) rfl rfl (hS.pk2.trunc 1) ?_
            have hS := hS.row_lit (size := 1) (m := 0) rfl (by decide)
            have hq_884 : Reps (tyInt .u8) R_6 [] ([] : List Int) := (Reps.nil _ _)
            have hS := hS.pk1
            obtain ⟨R_885, hS, hl_887, hs_886⟩ := hS.fz_row hq_11 rfl rfl
            have hRL := hRL.trans hl_887
            obtain ⟨y_888, h_889, H⟩ := bind_some H
            refine sl_append_R elT22 (by decide) rfl (hq_884.mono hl_887.le) rfl hs_886 h_889 hS hK (by decide) rfl rfl rfl fun a w v_890 cs_891 hq_892 hS hK => ?_
            refine parKK_nil ((hS.pk1.trunc 1).lower hl_887.le) ?_
            refine tree_fork ?_
            refine wpPar_nil (tree_br ?_ ?_)
            · refine spwB (k := 4) rfl rfl ((hS.pk1.trunc 1).lower hl_887.le) ?_
              obtain ⟨y_894, h_895, H⟩ := bind_some H
              refine sl_append_R elT22 (by decide) rfl hq_892 rfl (h1_0.mono (hl_7.le.trans hl_887.le)) h_895 hS hK (by decide) rfl rfl rfl fun a w v_896 cs_897 hq_898 hS hK => ?_
              refine parKK_nil ((hS.pk1.trunc 1).lower hl_887.le) ?_
              refine tree_fork ?_
              refine wpPar_nil (tree_br ?_ ?_)
              · refine spwB (k := 7) rfl rfl ((hS.pk1.trunc 1).lower hl_887.le) ?_
                obtain ⟨R_900, hS, hl_902, hs_901⟩ := hS.fz_row hq_898 rfl rfl
                have hRL := hRL.trans hl_902
                obtain ⟨y_903, h_904, H⟩ := bind_some H
                refine sl_call Try.call14 hK (by decide) rfl rfl rfl (wire_Take.calls y_894 a0.Kind hS.sub hs_901 h_904) fun a v_ w hv_ hK => ?_
                obtain ⟨R_905, v_908, cs_909, hv_, hr_, hl_906, hq_910⟩ := hv_
                have hv_ := hv_.symm
                subst hv_
                obtain ⟨hS, hl_906⟩ := hS.sp0.back hr_ hl_906
                have hS := hS.un1
                have hRL := hRL.trans hl_906
                refine parKK_nil ((hS.pk1.trunc 1).lower (hl_887.le.trans (hl_902.le.trans hl_906.le))) ?_
                refine tree_list ?_
                refine sp (k := 8) rfl hK (by decide) rfl rfl (fun w hS => r_move hK rfl) fun a hK => ?_
                refine sp (k := 9) rfl hK (by decide) rfl rfl (fun w hS => r_extract hK rfl rfl) fun a hK => ?_
                refine sp (k := 10) rfl hK (by decide) rfl rfl (fun w hS => r_extract hK rfl rfl) fun a hK => ?_
                refine sp (k := 11) rfl hK (by decide) rfl rfl (fun w hS => r_extract hK rfl rfl) fun a hK => ?_
                refine spw (k := 12) rfl rfl ((hS.pk1.trunc 1).lower (hl_887.le.trans (hl_902.le.trans hl_906.le))) ?_
                refine sl_alloc Try.zeroValue25 hS hK (by decide) rfl rfl fun a w b_911 hS hK => ?_
                refine parK_nil ((hS.pk2.trunc 1).lower (hl_887.le.trans (hl_902.le.trans hl_906.le))) ?_
                refine spw (k := 13) rfl rfl ((hS.pk2.trunc 1).lower (hl_887.le.trans (hl_902.le.trans hl_906.le))) ?_
                refine sl_storeA (vs := [.int .i64 y_903.1.Kind, .int .i64 y_903.1.N, .string y_903.1.S, .int .i64 y_903.1.H.a0, .int .i64 y_903.1.H.a1, .int .i64 y_903.1.H.a2, .int .i64 y_903.1.H.a3, .int .i64 y_903.1.H.a4, .int .i64 y_903.1.H.a5, .int .i64 y_903.1.H.a6, .int .i64 y_903.1.H.a7]) (c' := [.int .i64 y_903.1.Kind, .int .i64 y_903.1.N, .string y_903.1.S, .int .i64 y_903.1.H.a0, .int .i64 y_903.1.H.a1, .int .i64 y_903.1.H.a2, .int .i64 y_903.1.H.a3, .int .i64 y_903.1.H.a4, .int .i64 y_903.1.H.a5, .int .i64 y_903.1.H.a6, .int .i64 y_903.1.H.a7]) Try.sizeOf25 hS hK rfl rfl rfl rfl (all_cons rfl (all_cons rfl (all_cons rfl (all_cons rfl (all_cons rfl (all_cons rfl (all_cons rfl (all_cons rfl (all_cons rfl (all_cons rfl (all_cons rfl (all_nil)))))))))))) (Nat.le_of_ble_eq_true rfl) rfl fun a w hS hK => ?_
                refine parK_nil ((hS.pk2.trunc 1).lower (hl_887.le.trans (hl_902.le.trans hl_906.le))) ?_
                refine sp (k := 14) rfl hK (by decide) rfl rfl (fun w hS => r_assign hK rfl) fun a hK => ?_
                refine thenL_nil ?_
                refine sl hK (by decide) rfl rfl (r_assign hK rfl) fun a hK => ?_
                refine wpList_nil (NoP_nil ?_)
                have hS := hS.pk1
                have hS := hS.pk1
                have hS := hS.pk2
                exact ⟨y_903.1.Kind, y_903.1.N, y_903.1.S, y_903.1.H, y_903.2.1, y_903.2.2, _, _, _, _, H, (hl_887.trans (hl_902.trans hl_906)), hq_910, hK.sub (all_cons rfl (all_cons rfl (all_cons rfl (all_cons rfl (all_cons rfl (all_cons rfl (all_cons rfl (all_nil)))))))), hS⟩
              · refine spwB (k := 12) rfl rfl ((hS.pk1.trunc 1).lower hl_887.le) ?_
                refine sl_alloc Try.zeroValue25 hS hK (by decide) rfl rfl fun a w b_912 hS hK => ?_
                refine parKK_nil ((hS.pk2.trunc 1).lower hl_887.le) ?_
                refine tree_list ?_
                refine spw (k := 7) rfl rfl ((hS.pk2.trunc 1).lower hl_887.le) ?_
                have hS := hS.pk1
                obtain ⟨R_913, hS, hl_915, hs_914⟩ := hS.fz_row hq_898 rfl rfl
                have hRL := hRL.trans hl_915
                obtain ⟨y_916, h_917, H⟩ := bind_some H
                refine sl_call Try.call14 hK (by decide) rfl rfl rfl (wire_Take.calls y_894 a0.Kind hS.sub hs_914 h_917) fun a v_ w hv_ hK => ?_
                obtain ⟨R_918, v_921, cs_922, hv_, hr_, hl_919, hq_923⟩ := hv_
                have hv_ := hv_.symm
                subst hv_
                obtain ⟨hS, hl_919⟩ := hS.sp0.back hr_ hl_919
                have hS := hS.un1
                have hRL := hRL.trans hl_919
                refine parK_nil ((hS.pk2.trunc 1).lower (hl_887.le.trans (hl_915.le.trans hl_919.le))) ?_
                refine sp (k := 8) rfl hK (by decide) rfl rfl (fun w hS => r_move hK rfl) fun a hK => ?_
                refine sp (k := 9) rfl hK (by decide) rfl rfl (fun w hS => r_extract hK rfl rfl) fun a hK => ?_
                refine sp (k := 10) rfl hK (by decide) rfl rfl (fun w hS => r_extract hK rfl rfl) fun a hK => ?_
                refine sp (k := 11) rfl hK (by decide) rfl rfl (fun w hS => r_extract hK rfl rfl) fun a hK => ?_
                refine spw (k := 13) rfl rfl ((hS.pk2.trunc 1).lower (hl_887.le.trans (hl_915.le.trans hl_919.le))) ?_
                have hS := hS.pk1
                refine sl_storeA (vs := [.int .i64 y_916.1.Kind, .int .i64 y_916.1.N, .string y_916.1.S, .int .i64 y_916.1.H.a0, .int .i64 y_916.1.H.a1, .int .i64 y_916.1.H.a2, .int .i64 y_916.1.H.a3, .int .i64 y_916.1.H.a4, .int .i64 y_916.1.H.a5, .int .i64 y_916.1.H.a6, .int .i64 y_916.1.H.a7]) (c' := [.int .i64 y_916.1.Kind, .int .i64 y_916.1.N, .string y_916.1.S, .int .i64 y_916.1.H.a0, .int .i64 y_916.1.H.a1, .int .i64 y_916.1.H.a2, .int .i64 y_916.1.H.a3, .int .i64 y_916.1.H.a4, .int .i64 y_916.1.H.a5, .int .i64 y_916.1.H.a6, .int .i64 y_916.1.H.a7]) Try.sizeOf25 hS hK rfl rfl rfl rfl (all_cons rfl (all_cons rfl (all_cons rfl (all_cons rfl (all_cons rfl (all_cons rfl (all_cons rfl (all_cons rfl (all_cons rfl (all_cons rfl (all_cons rfl (all_nil)))))))))))) (Nat.le_of_ble_eq_true rfl) rfl fun a w hS hK => ?_
                refine parK_nil ((hS.pk2.trunc 1).lower (hl_887.le.trans (hl_915.le.trans hl_919.le))) ?_
                refine sp (k := 14) rfl hK (by decide) rfl rfl (fun w hS => r_assign hK rfl) fun a hK => ?_
                refine thenL_nil ?_
                refine sl hK (by decide) rfl rfl (r_assign hK rfl) fun a hK => ?_
                refine wpList_nil (NoP_nil ?_)
                have hS := hS.pk1
                have hS := hS.pk1
                have hS := hS.pk2
                exact ⟨y_916.1.Kind, y_916.1.N, y_916.1.S, y_916.1.H, y_916.2.1, y_916.2.2, _, _, _, _, H, (hl_887.trans (hl_915.trans hl_919)), hq_923, hK.sub (all_cons rfl (all_cons rfl (all_cons rfl (all_cons rfl (all_cons rfl (all_cons rfl (all_cons rfl (all_nil)))))))), hS⟩
            · refine spwB (k := 12) rfl rfl ((hS.pk1.trunc 1).lower hl_887.le) ?_
              refine sl_alloc Try.zeroValue25 hS hK (by decide) rfl rfl fun a w b_924 hS hK => ?_
              refine parKK_nil ((hS.pk2.trunc 1).lower hl_887.le) ?_
              refine tree_list ?_
              refine spw (k := 4) rfl rfl ((hS.pk2.trunc 1).lower hl_887.le) ?_
              obtain ⟨y_925, h_926, H⟩ := bind_some H
              have hS := hS.pk1
              refine sl_append_R elT22 (by decide) rfl hq_892 rfl (h1_0.mono (hl_7.le.trans hl_887.le)) h_926 hS hK (by decide) rfl rfl rfl fun a w v_927 cs_928 hq_929 hS hK => ?_
              refine parK_nil ((hS.pk2.trunc 1).lower hl_887.le) ?_
              refine spw (k := 7) rfl rfl ((hS.pk2.trunc 1).lower hl_887.le) ?_
              obtain ⟨R_931, hS, hl_933, hs_932⟩ := hS.fz_row hq_929 rfl rfl
              have hRL := hRL.trans hl_933
              obtain ⟨y_934, h_935, H⟩ := bind_some H
              refine sl_call Try.call14 hK (by decide) rfl rfl rfl (wire_Take.calls y_925 a0.Kind hS.sub hs_932 h_935) fun a v_ w hv_ hK => ?_
              obtain ⟨R_936, v_939, cs_940, hv_, hr_, hl_937, hq_941⟩ := hv_
              have hv_ := hv_.symm
              subst hv_
              obtain ⟨hS, hl_937⟩ := hS.sp0.back hr_ hl_937
              have hS := hS.un1
              have hRL := hRL.trans hl_937
              refine parK_nil ((hS.pk2.trunc 1).lower (hl_887.le.trans (hl_933.le.trans hl_937.le))) ?_
              refine sp (k := 8) rfl hK (by decide) rfl rfl (fun w hS => r_move hK rfl) fun a hK => ?_
              refine sp (k := 9) rfl hK (by decide) rfl rfl (fun w hS => r_extract hK rfl rfl) fun a hK => ?_
              refine sp (k := 10) rfl hK (by decide) rfl rfl (fun w hS => r_extract hK rfl rfl) fun a hK => ?_
              refine sp (k := 11) rfl hK (by decide) rfl rfl (fun w hS => r_extract hK rfl rfl) fun a hK => ?_
              refine spw (k := 13) rfl rfl ((hS.pk2.trunc 1).lower (hl_887.le.trans (hl_933.le.trans hl_937.le))) ?_
              have hS := hS.pk1
              refine sl_storeA (vs := [.int .i64 y_934.1.Kind, .int .i64 y_934.1.N, .string y_934.1.S, .int .i64 y_934.1.H.a0, .int .i64 y_934.1.H.a1, .int .i64 y_934.1.H.a2, .int .i64 y_934.1.H.a3, .int .i64 y_934.1.H.a4, .int .i64 y_934.1.H.a5, .int .i64 y_934.1.H.a6, .int .i64 y_934.1.H.a7]) (c' := [.int .i64 y_934.1.Kind, .int .i64 y_934.1.N, .string y_934.1.S, .int .i64 y_934.1.H.a0, .int .i64 y_934.1.H.a1, .int .i64 y_934.1.H.a2, .int .i64 y_934.1.H.a3, .int .i64 y_934.1.H.a4, .int .i64 y_934.1.H.a5, .int .i64 y_934.1.H.a6, .int .i64 y_934.1.H.a7]) Try.sizeOf25 hS hK rfl rfl rfl rfl (all_cons rfl (all_cons rfl (all_cons rfl (all_cons rfl (all_cons rfl (all_cons rfl (all_cons rfl (all_cons rfl (all_cons rfl (all_cons rfl (all_cons rfl (all_nil)))))))))))) (Nat.le_of_ble_eq_true rfl) rfl fun a w hS hK => ?_
              refine parK_nil ((hS.pk2.trunc 1).lower (hl_887.le.trans (hl_933.le.trans hl_937.le))) ?_
              refine sp (k := 14) rfl hK (by decide) rfl rfl (fun w hS => r_assign hK rfl) fun a hK => ?_
              refine thenL_nil ?_
              refine sl hK (by decide) rfl rfl (r_assign hK rfl) fun a hK => ?_
              refine wpList_nil (NoP_nil ?_)
              have hS := hS.pk1
              have hS := hS.pk1
              have hS := hS.pk2
              exact ⟨y_934.1.Kind, y_934.1.N, y_934.1.S, y_934.1.H, y_934.2.1, y_934.2.2, _, _, _, _, H, (hl_887.trans (hl_933.trans hl_937)), hq_941, hK.sub (all_cons rfl (all_cons rfl (all_cons rfl (all_cons rfl (all_cons rfl (all_cons rfl (all_cons rfl (all_nil)))))))), hS⟩
          · refine spwB (k := 12) rfl rfl (hS.pk2.trunc 1) ?_
            refine sl_alloc Try.zeroValue25 hS hK (by decide) rfl rfl fun a w b_942 hS hK => ?_
            refine parKK_nil (hS.pk3.trunc 1) ?_
            refine tree_list ?_
            refine spw (k := 2) rfl rfl (hS.pk3.trunc 1) ?_
            have hS := hS.pk1
            have hS := hS.row_lit (size := 1) (m := 0) rfl (by decide)
            have hq_944 : Reps (tyInt .u8) R_6 [] ([] : List Int) := (Reps.nil _ _)
            have hS := hS.pk2
            obtain ⟨R_945, hS, hl_947, hs_946⟩ := hS.fz_row hq_11 rfl rfl
            have hRL := hRL.trans hl_947
            obtain ⟨y_948, h_949, H⟩ := bind_some H
            refine sl_append_R elT22 (by decide) rfl (hq_944.mono hl_947.le) rfl hs_946 h_949 hS hK (by decide) rfl rfl rfl fun a w v_950 cs_951 hq_952 hS hK => ?_
            refine parK_nil ((hS.pk2.trunc 1).lower hl_947.le) ?_
            refine spw (k := 4) rfl rfl ((hS.pk2.trunc 1).lower hl_947.le) ?_
            obtain ⟨y_954, h_955, H⟩ := bind_some H
            refine sl_append_R elT22 (by decide) rfl hq_952 rfl (h1_0.mono (hl_7.le.trans hl_947.le)) h_955 hS hK (by decide) rfl rfl rfl fun a w v_956 cs_957 hq_958 hS hK => ?_
            refine parK_nil ((hS.pk2.trunc 1).lower hl_947.le) ?_
            refine spw (k := 7) rfl rfl ((hS.pk2.trunc 1).lower hl_947.le) ?_
            obtain ⟨R_960, hS, hl_962, hs_961⟩ := hS.fz_row hq_958 rfl rfl
            have hRL := hRL.trans hl_962
            obtain ⟨y_963, h_964, H⟩ := bind_some H
            refine sl_call Try.call14 hK (by decide) rfl rfl rfl (wire_Take.calls y_954 a0.Kind hS.sub hs_961 h_964) fun a v_ w hv_ hK => ?_
            obtain ⟨R_965, v_968, cs_969, hv_, hr_, hl_966, hq_970⟩ := hv_
            have hv_ := hv_.symm
            subst hv_
            obtain ⟨hS, hl_966⟩ := hS.sp0.back hr_ hl_966
            have hS := hS.un1
            have hRL := hRL.trans hl_966
            refine parK_nil ((hS.pk2.trunc 1).lower (hl_947.le.trans (hl_962.le.trans hl_966.le))) ?_
            refine sp (k := 8) rfl hK (by decide) rfl rfl (fun w hS => r_move hK rfl) fun a hK => ?_
            refine sp (k := 9) rfl hK (by decide) rfl rfl (fun w hS => r_extract hK rfl rfl) fun a hK => ?_
            refine sp (k := 10) rfl hK (by decide) rfl rfl (fun w hS => r_extract hK rfl rfl) fun a hK => ?_
            refine sp (k := 11) rfl hK (by decide) rfl rfl (fun w hS => r_extract hK rfl rfl) fun a hK => ?_
            refine spw (k := 13) rfl rfl ((hS.pk2.trunc 1).lower (hl_947.le.trans (hl_962.le.trans hl_966.le))) ?_
            have hS := hS.pk1
            refine sl_storeA (vs := [.int .i64 y_963.1.Kind, .int .i64 y_963.1.N, .string y_963.1.S, .int .i64 y_963.1.H.a0, .int .i64 y_963.1.H.a1, .int .i64 y_963.1.H.a2, .int .i64 y_963.1.H.a3, .int .i64 y_963.1.H.a4, .int .i64 y_963.1.H.a5, .int .i64 y_963.1.H.a6, .int .i64 y_963.1.H.a7]) (c' := [.int .i64 y_963.1.Kind, .int .i64 y_963.1.N, .string y_963.1.S, .int .i64 y_963.1.H.a0, .int .i64 y_963.1.H.a1, .int .i64 y_963.1.H.a2, .int .i64 y_963.1.H.a3, .int .i64 y_963.1.H.a4, .int .i64 y_963.1.H.a5, .int .i64 y_963.1.H.a6, .int .i64 y_963.1.H.a7]) Try.sizeOf25 hS hK rfl rfl rfl rfl (all_cons rfl (all_cons rfl (all_cons rfl (all_cons rfl (all_cons rfl (all_cons rfl (all_cons rfl (all_cons rfl (all_cons rfl (all_cons rfl (all_cons rfl (all_nil)))))))))))) (Nat.le_of_ble_eq_true rfl) rfl fun a w hS hK => ?_
            refine parK_nil ((hS.pk2.trunc 1).lower (hl_947.le.trans (hl_962.le.trans hl_966.le))) ?_
            refine sp (k := 14) rfl hK (by decide) rfl rfl (fun w hS => r_assign hK rfl) fun a hK => ?_
            refine thenL_nil ?_
            refine sl hK (by decide) rfl rfl (r_assign hK rfl) fun a hK => ?_
            refine wpList_nil (NoP_nil ?_)
            have hS := hS.pk1
            have hS := hS.pk1
            have hS := hS.pk2
            exact ⟨y_963.1.Kind, y_963.1.N, y_963.1.S, y_963.1.H, y_963.2.1, y_963.2.2, _, _, _, _, H, (hl_947.trans (hl_962.trans hl_966)), hq_970, hK.sub (all_cons rfl (all_cons rfl (all_cons rfl (all_cons rfl (all_cons rfl (all_cons rfl (all_cons rfl (all_nil)))))))), hS⟩
        · refine spwB (k := 12) rfl rfl (hS.pk1.trunc 1) ?_
          refine sl_alloc Try.zeroValue25 hS hK (by decide) rfl rfl fun a w b_971 hS hK => ?_
          refine parKK_nil (hS.pk2.trunc 1) ?_
          refine tree_list ?_
          refine spw (k := 0) rfl rfl (hS.pk2.trunc 1) ?_
          refine sl_buildSliceC (zc := [.int .u8 0]) (zs := []) (ps := []) (c := []) Try.underlying22 Try.sizeOf5 Try.zeroValue5 rfl pc_nil rfl rfl (by decide) (by kernel_rfl) rfl hS hK (by decide) rfl fun a w b_972 hS hK => ?_
          refine parK_nil (hS.pk3.trunc 1) ?_
          refine spw (k := 2) rfl rfl (hS.pk3.trunc 1) ?_
          have hS := hS.row_lit (size := 1) (m := 0) rfl (by decide)
          have hq_974 : Reps (tyInt .u8) R_6 [] ([] : List Int) := (Reps.nil _ _)
          have hS := hS.pk2
          obtain ⟨R_975, hS, hl_977, hs_976⟩ := hS.fz_row hq_11 rfl rfl
          have hRL := hRL.trans hl_977
          obtain ⟨y_978, h_979, H⟩ := bind_some H
          refine sl_append_R elT22 (by decide) rfl (hq_974.mono hl_977.le) rfl hs_976 h_979 hS hK (by decide) rfl rfl rfl fun a w v_980 cs_981 hq_982 hS hK => ?_
          refine parK_nil ((hS.pk2.trunc 1).lower hl_977.le) ?_
          refine spw (k := 4) rfl rfl ((hS.pk2.trunc 1).lower hl_977.le) ?_
          obtain ⟨y_984, h_985, H⟩ := bind_some H
          refine sl_append_R elT22 (by decide) rfl hq_982 rfl (h1_0.mono (hl_7.le.trans hl_977.le)) h_985 hS hK (by decide) rfl rfl rfl fun a w v_986 cs_987 hq_988 hS hK => ?_
          refine parK_nil ((hS.pk2.trunc 1).lower hl_977.le) ?_
          refine spw (k := 7) rfl rfl ((hS.pk2.trunc 1).lower hl_977.le) ?_
          obtain ⟨R_990, hS, hl_992, hs_991⟩ := hS.fz_row hq_988 rfl rfl
          have hRL := hRL.trans hl_992
          obtain ⟨y_993, h_994, H⟩ := bind_some H
          refine sl_call Try.call14 hK (by decide) rfl rfl rfl (wire_Take.calls y_984 a0.Kind hS.sub hs_991 h_994) fun a v_ w hv_ hK => ?_
          obtain ⟨R_995, v_998, cs_999, hv_, hr_, hl_996, hq_1000⟩ := hv_
          have hv_ := hv_.symm
          subst hv_
          obtain ⟨hS, hl_996⟩ := hS.sp0.back hr_ hl_996
          have hS := hS.un1
          have hRL := hRL.trans hl_996
          refine parK_nil ((hS.pk2.trunc 1).lower (hl_977.le.trans (hl_992.le.trans hl_996.le))) ?_
          refine sp (k := 8) rfl hK (by decide) rfl rfl (fun w hS => r_move hK rfl) fun a hK => ?_
          refine sp (k := 9) rfl hK (by decide) rfl rfl (fun w hS => r_extract hK rfl rfl) fun a hK => ?_
          refine sp (k := 10) rfl hK (by decide) rfl rfl (fun w hS => r_extract hK rfl rfl) fun a hK => ?_
          refine sp (k := 11) rfl hK (by decide) rfl rfl (fun w hS => r_extract hK rfl rfl) fun a hK => ?_
          refine spw (k := 13) rfl rfl ((hS.pk2.trunc 1).lower (hl_977.le.trans (hl_992.le.trans hl_996.le))) ?_
          have hS := hS.pk1
          refine sl_storeA (vs := [.int .i64 y_993.1.Kind, .int .i64 y_993.1.N, .string y_993.1.S, .int .i64 y_993.1.H.a0, .int .i64 y_993.1.H.a1, .int .i64 y_993.1.H.a2, .int .i64 y_993.1.H.a3, .int .i64 y_993.1.H.a4, .int .i64 y_993.1.H.a5, .int .i64 y_993.1.H.a6, .int .i64 y_993.1.H.a7]) (c' := [.int .i64 y_993.1.Kind, .int .i64 y_993.1.N, .string y_993.1.S, .int .i64 y_993.1.H.a0, .int .i64 y_993.1.H.a1, .int .i64 y_993.1.H.a2, .int .i64 y_993.1.H.a3, .int .i64 y_993.1.H.a4, .int .i64 y_993.1.H.a5, .int .i64 y_993.1.H.a6, .int .i64 y_993.1.H.a7]) Try.sizeOf25 hS hK rfl rfl rfl rfl (all_cons rfl (all_cons rfl (all_cons rfl (all_cons rfl (all_cons rfl (all_cons rfl (all_cons rfl (all_cons rfl (all_cons rfl (all_cons rfl (all_cons rfl (all_nil)))))))))))) (Nat.le_of_ble_eq_true rfl) rfl fun a w hS hK => ?_
          refine parK_nil ((hS.pk2.trunc 1).lower (hl_977.le.trans (hl_992.le.trans hl_996.le))) ?_
          refine sp (k := 14) rfl hK (by decide) rfl rfl (fun w hS => r_assign hK rfl) fun a hK => ?_
          refine thenL_nil ?_
          refine sl hK (by decide) rfl rfl (r_assign hK rfl) fun a hK => ?_
          refine wpList_nil (NoP_nil ?_)
          have hS := hS.pk1
          have hS := hS.pk1
          have hS := hS.pk2
          exact ⟨y_993.1.Kind, y_993.1.N, y_993.1.S, y_993.1.H, y_993.2.1, y_993.2.2, _, _, _, _, H, (hl_977.trans (hl_992.trans hl_996)), hq_1000, hK.sub (all_cons rfl (all_cons rfl (all_cons rfl (all_cons rfl (all_cons rfl (all_cons rfl (all_cons rfl (all_nil)))))))), hS⟩
      · rintro a w ⟨x_751, x_752, x_753, x_754, x_756, x_760, R_761, v_757, cs_758, b_750, H, hl_762, hq_759, hK, hS⟩
        unfold law04_WireBack.j1 at H
        have hRL := hRL.trans hl_762
        refine wp_seq ?_
        refine wp_mid (fun a w => ∃ (x_1003 : Bool), law04_WireBack.j2 a1 a2 y_2 x_1003 = some true ∧ Kn 82 a [(1, v1_0), (2, .int .i64 a2), (7, .bool y_2), (51, .bool x_1003)] ∧ St [] w0 w R_761 []) ?_ ?_
        · refine wp_region_lit ?_
          refine sl hK (by decide) rfl rfl (r_move hK rfl) fun a hK => ?_
          refine sl hK (by decide) rfl rfl (r_ibin hK rfl rfl rfl) fun a hK => ?_
          refine sl hK (by decide) rfl rfl (r_move hK rfl) fun a hK => ?_
          rcases or_b (x_760 != 0) with hb_1005 | hb_1005
          · rw [ifb_t hb_1005] at H
            refine sl_skip hK (by decide) (wft hb_1005) rfl fun a hK => ?_
            refine sl_skip hK (by decide) (wft hb_1005) rfl fun a hK => ?_
            refine sl_skip hK (by decide) (wft hb_1005) rfl fun a hK => ?_
            refine sl hK (by decide) rfl rfl (r_pick_t hb_1005 hK rfl rfl) fun a hK => ?_
            refine sl hK (by decide) rfl rfl (r_move hK rfl) fun a hK => ?_
            refine sl_skip hK (by decide) rfl rfl fun a hK => ?_
            refine sl_skip hK (by decide) rfl rfl fun a hK => ?_
            refine sl_skip hK (by decide) rfl rfl fun a hK => ?_
            refine sl_skip hK (by decide) rfl rfl fun a hK => ?_
            refine sl_skip hK (by decide) rfl rfl fun a hK => ?_
            refine sl hK (by decide) rfl rfl (r_pick hK rfl rfl rfl) fun a hK => ?_
            refine wpList_nil ?_
            exact ⟨true, H, hK.sub (all_cons rfl (all_cons rfl (all_cons rfl (all_cons rfl (all_nil))))), hS.trunc 0⟩
          · rw [ifb_f hb_1005] at H
            refine sl hK (by decide) (wff hb_1005) rfl (r_loadA (cs := [.int .i64 x_751, .int .i64 x_752, .string x_753, .int .i64 x_754.a0, .int .i64 x_754.a1, .int .i64 x_754.a2, .int .i64 x_754.a3, .int .i64 x_754.a4, .int .i64 x_754.a5, .int .i64 x_754.a6, .int .i64 x_754.a7]) Try.isAgg25 Try.sizeOf25 rfl hK rfl (hS.cells_of (m := 11) (.tail _ (.head _)) rfl)) fun a hK => ?_
            refine sl hK (by decide) (wff hb_1005) rfl (r_loadA (cs := [.int .i64 a0.Kind, .int .i64 a0.N, .string a0.S, .int .i64 a0.H.a0, .int .i64 a0.H.a1, .int .i64 a0.H.a2, .int .i64 a0.H.a3, .int .i64 a0.H.a4, .int .i64 a0.H.a5, .int .i64 a0.H.a6, .int .i64 a0.H.a7]) Try.isAgg25 Try.sizeOf25 rfl hK rfl (hS.cells_of (m := 11) (.head _) rfl)) fun a hK => ?_
            refine sl hK (by decide) (wff hb_1005) rfl (r_sne (by kernel_rfl) (eqs25 (⟨x_751, x_752, x_753, x_754⟩ : api_Value) a0) hK rfl rfl) fun a hK => ?_
            refine sl hK (by decide) rfl rfl (r_pick_f hb_1005 hK rfl rfl) fun a hK => ?_
            refine sl hK (by decide) rfl rfl (r_move hK rfl) fun a hK => ?_
            rcases or_b (!decide ((⟨x_751, x_752, x_753, x_754⟩ : api_Value) = a0)) with hb_1006 | hb_1006
            · rw [ifb_t hb_1006] at H
              refine sl_skip hK (by decide) (wft hb_1006) rfl fun a hK => ?_
              refine sl_skip hK (by decide) (wft hb_1006) rfl fun a hK => ?_
              refine sl_skip hK (by decide) (wft hb_1006) rfl fun a hK => ?_
              refine sl_skip hK (by decide) (wft hb_1006) rfl fun a hK => ?_
              refine sl_skip hK (by decide) (wft hb_1006) rfl fun a hK => ?_
              refine sl hK (by decide) rfl rfl (r_pick_t hb_1006 hK rfl rfl) fun a hK => ?_
              refine wpList_nil ?_
              exact ⟨true, H, hK.sub (all_cons rfl (all_cons rfl (all_cons rfl (all_cons rfl (all_nil))))), hS.trunc 0⟩
            · rw [ifb_f hb_1006] at H
              refine sl hK (by decide) (wff hb_1006) rfl (r_move hK rfl) fun a hK => ?_
              refine sl hK (by decide) (wff hb_1006) rfl (r_conv_bo Try.underlying22 Try.underlying9 Try.underlying5 hq_759 rfl hS (.tail _ (.tail _ (.head _))) hK rfl) fun a hK => ?_
              refine sl hK (by decide) (wff hb_1006) rfl (r_move hK rfl) fun a hK => ?_
              refine sl hK (by decide) (wff hb_1006) rfl (r_conv_bs Try.underlying22 Try.underlying9 Try.underlying5 h1_0 hK rfl (hS.sub.le (hl_7.le.trans hl_762.le))) fun a hK => ?_
              refine sl hK (by decide) (wff hb_1006) rfl (r_sbin hK rfl rfl rfl) fun a hK => ?_
              refine sl hK (by decide) rfl rfl (r_pick_f hb_1006 hK rfl rfl) fun a hK => ?_
              refine wpList_nil ?_
              exact ⟨(!((bstr x_756).toList == (bstr a1).toList)), H, hK.sub (all_cons rfl (all_cons rfl (all_cons rfl (all_cons rfl (all_nil))))), hS.trunc 0⟩
        · rintro a w ⟨x_1003, H, hK, hS⟩
          unfold law04_WireBack.j2 at H
          refine wp_cond_split (hK.ev rfl) (fun (hb_1007 : x_1003 = true) => ?_) (fun (hb_1007 : x_1003 = false) => ?_)
          · rw [ifb_t hb_1007] at H
            refine wp_seq ?_
            refine wp_region_lit ?_
            refine sl hK (by decide) rfl rfl (r_assign hK rfl) fun a hK => ?_
            refine wpList_nil ?_
            exact absurd (Option.some.inj H) (by decide)
          · rw [ifb_f hb_1007] at H
            refine wp_skip ?_
            exact ⟨_, H, hl_762, hK.sub (all_cons rfl (all_cons rfl (all_cons rfl (all_nil)))), hS⟩
    · rw [ifb_f hb_511] at H
      refine wp_skip ?_
      exact ⟨_, H, (RLe.refl _ _), hK.sub (all_cons rfl (all_cons rfl (all_cons rfl (all_nil)))), hS.trunc 0⟩
  · rintro a w ⟨R_509, H, hl_510, hK, hS⟩
    unfold law04_WireBack.j0 at H
    have hRL := hRL.trans hl_510
    refine wp_seq ?_
    refine wp_region_lit ?_
    refine sl hK (by decide) rfl rfl (r_move hK rfl) fun a hK => ?_
    refine sl hK (by decide) rfl rfl (r_move hK rfl) fun a hK => ?_
    obtain ⟨y_1008, h_1009, H⟩ := bind_some H
    refine sl_call Try.call14 hK (by decide) rfl rfl rfl (wire_Take.calls a1 a2 hS.sub (h1_0.mono (hl_7.le.trans hl_510.le)) h_1009) fun a v_ w hv_ hK => ?_
    obtain ⟨R_1010, v_1013, cs_1014, hv_, hr_, hl_1011, hq_1015⟩ := hv_
    have hv_ := hv_.symm
    subst hv_
    obtain ⟨hS, hl_1011⟩ := hS.sp0.back hr_ hl_1011
    have hS := hS.un1
    have hRL := hRL.trans hl_1011
    refine sl hK (by decide) rfl rfl (r_move hK rfl) fun a hK => ?_
    refine sl hK (by decide) rfl rfl (r_extract hK rfl rfl) fun a hK => ?_
    refine sl hK (by decide) rfl rfl (r_extract hK rfl rfl) fun a hK => ?_
    refine sl hK (by decide) rfl rfl (r_extract hK rfl rfl) fun a hK => ?_
    refine sl_alloc Try.zeroValue25 hS hK (by decide) rfl rfl fun a w b_1016 hS hK => ?_
    refine sl_storeA (vs := [.int .i64 y_1008.1.Kind, .int .i64 y_1008.1.N, .string y_1008.1.S, .int .i64 y_1008.1.H.a0, .int .i64 y_1008.1.H.a1, .int .i64 y_1008.1.H.a2, .int .i64 y_1008.1.H.a3, .int .i64 y_1008.1.H.a4, .int .i64 y_1008.1.H.a5, .int .i64 y_1008.1.H.a6, .int .i64 y_1008.1.H.a7]) (c' := [.int .i64 y_1008.1.Kind, .int .i64 y_1008.1.N, .string y_1008.1.S, .int .i64 y_1008.1.H.a0, .int .i64 y_1008.1.H.a1, .int .i64 y_1008.1.H.a2, .int .i64 y_1008.1.H.a3, .int .i64 y_1008.1.H.a4, .int .i64 y_1008.1.H.a5, .int .i64 y_1008.1.H.a6, .int .i64 y_1008.1.H.a7]) Try.sizeOf25 hS hK rfl rfl rfl rfl (all_cons rfl (all_cons rfl (all_cons rfl (all_cons rfl (all_cons rfl (all_cons rfl (all_cons rfl (all_cons rfl (all_cons rfl (all_cons rfl (all_cons rfl (all_nil)))))))))))) (Nat.le_of_ble_eq_true rfl) rfl fun a w hS hK => ?_
    refine sl hK (by decide) rfl rfl (r_assign hK rfl) fun a hK => ?_
    refine sl hK (by decide) rfl rfl (r_assign hK rfl) fun a hK => ?_
    refine wpList_nil ?_
    refine wp_seq ?_
    refine wp_seq ?_
    refine wp_region_lit ?_
    refine sl hK (by decide) rfl rfl (r_move hK rfl) fun a hK => ?_
    refine sl hK (by decide) rfl rfl (r_ibin hK rfl rfl rfl) fun a hK => ?_
    refine wpList_nil ?_
    refine wp_cond_split (hK.ev rfl) (fun (hb_1017 : (y_1008.2.2 != 0) = true) => ?_) (fun (hb_1017 : (y_1008.2.2 != 0) = false) => ?_)
    · rw [ifb_t hb_1017] at H
      refine wp_seq ?_
      refine wp_region_lit ?_
      refine sl hK (by decide) rfl rfl (r_move hK rfl) fun a hK => ?_
      refine sl hK (by decide) rfl rfl (r_assign hK rfl) fun a hK => ?_
      refine wpList_nil ?_
      have hr_ := Option.some.inj H
      refine wp_ret ?_
      repeat (first | refine ret_then ?_ | refine ret_block ?_ | refine ret_scope ?_)
      exact ret_1 Try.results4 hK (rv_tmp hK rfl) ⟨congrArg (fun b => Ending.returned (Value.bool b)) hr_, hS.bel⟩
    · rw [ifb_f hb_1017] at H
      refine wp_skip ?_
      refine wp_seq ?_
      refine wp_region_lit ?_
      refine sl hK (by decide) rfl rfl (r_loadA (cs := [.int .i64 y_1008.1.Kind, .int .i64 y_1008.1.N, .string y_1008.1.S, .int .i64 y_1008.1.H.a0, .int .i64 y_1008.1.H.a1, .int .i64 y_1008.1.H.a2, .int .i64 y_1008.1.H.a3, .int .i64 y_1008.1.H.a4, .int .i64 y_1008.1.H.a5, .int .i64 y_1008.1.H.a6, .int .i64 y_1008.1.H.a7]) Try.isAgg25 Try.sizeOf25 rfl hK rfl (hS.cells_of (m := 11) (.head _) rfl)) fun a hK => ?_
      obtain ⟨y_1018, h_1019, H⟩ := bind_some H
      refine sl_call Try.call12 hK (by decide) rfl rfl rfl (wire_Put.calls ([] : List Int) y_1008.1 (lentOf_sub [] _) hS.sub (SlR.nil (tyInt .u8) _) h_1019) fun a v_ w hv_ hK => ?_
      obtain ⟨R_1020, v_1023, cs_1024, hv_, hr_, hl_1021, hq_1025⟩ := hv_
      have hv_ := hv_.symm
      subst hv_
      obtain ⟨hS, hl_1021⟩ := hS.sp0.back hr_ hl_1021
      have hS := hS.un1
      have hRL := hRL.trans hl_1021
      refine sl hK (by decide) rfl rfl (r_move hK rfl) fun a hK => ?_
      refine sl hK (by decide) rfl rfl (r_extract hK rfl rfl) fun a hK => ?_
      refine sl hK (by decide) rfl rfl (r_extract hK rfl rfl) fun a hK => ?_
      refine sl hK (by decide) rfl rfl (r_assign hK rfl) fun a hK => ?_
      refine sl hK (by decide) rfl rfl (r_assign hK rfl) fun a hK => ?_
      refine wpList_nil ?_
      refine wp_seq ?_
      refine wp_region_lit ?_
      refine sl hK (by decide) rfl rfl (r_move hK rfl) fun a hK => ?_
      refine sl hK (by decide) rfl rfl (r_move hK rfl) fun a hK => ?_
      rcases or_b y_2 with hb_1026 | hb_1026
      · rw [ifb_t hb_1026] at H
        refine sl hK (by decide) (wtt hb_1026) rfl (r_move hK rfl) fun a hK => ?_
        refine sl hK (by decide) (wtt hb_1026) rfl (r_ibin hK rfl rfl rfl) fun a hK => ?_
        refine sl hK (by decide) rfl rfl (r_pick_t hb_1026 hK rfl rfl) fun a hK => ?_
        refine sl hK (by decide) rfl rfl (r_move hK rfl) fun a hK => ?_
        rcases or_b (y_1018.2 == 0) with hb_1027 | hb_1027
        · rw [ifb_t hb_1027] at H
          refine sl hK (by decide) (wtt hb_1027) rfl (r_move hK rfl) fun a hK => ?_
          refine sl hK (by decide) (wtt hb_1027) rfl (r_conv_bo Try.underlying22 Try.underlying9 Try.underlying5 hq_1025 rfl hS (.head _) hK rfl) fun a hK => ?_
          refine sl hK (by decide) (wtt hb_1027) rfl (r_move hK rfl) fun a hK => ?_
          refine sl hK (by decide) (wtt hb_1027) rfl (r_conv_bo Try.underlying22 Try.underlying9 Try.underlying5 (hq_1015.mono hl_1021.le) rfl hS (.tail _ (.tail _ (.head _))) hK rfl) fun a hK => ?_
          rcases or_b (decide ((bstr y_1018.1).size + (bstr y_1008.2.1).size ≤ 9223372036854775807)) with hn_1028 | hn_1028
          · rw [ifb_t hn_1028] at H
            refine sl hK (by decide) (wtt hb_1027) rfl (r_sadd hK rfl rfl (of_decide_eq_true hn_1028)) fun a hK => ?_
            refine sl hK (by decide) (wtt hb_1027) rfl (r_move hK rfl) fun a hK => ?_
            refine sl hK (by decide) (wtt hb_1027) rfl (r_conv_bs Try.underlying22 Try.underlying9 Try.underlying5 h1_0 hK rfl (hS.sub.le (hl_7.le.trans (hl_510.le.trans (hl_1011.le.trans hl_1021.le))))) fun a hK => ?_
            refine sl hK (by decide) (wtt hb_1027) rfl (r_sbin hK rfl rfl rfl) fun a hK => ?_
            refine sl hK (by decide) rfl rfl (r_pick_t hb_1027 hK rfl rfl) fun a hK => ?_
            refine sl hK (by decide) rfl rfl (r_assign hK rfl) fun a hK => ?_
            refine wpList_nil ?_
            have hr_ := Option.some.inj H
            refine wp_ret ?_
            repeat (first | refine ret_then ?_ | refine ret_block ?_ | refine ret_scope ?_)
            exact ret_1 Try.results4 hK (rv_tmp hK rfl) ⟨congrArg (fun b => Ending.returned (Value.bool b)) hr_, hS.bel⟩
          · rw [ifb_f hn_1028] at H
            cases H
        · rw [ifb_f hb_1027] at H
          refine sl_skip hK (by decide) (wtf hb_1027) rfl fun a hK => ?_
          refine sl_skip hK (by decide) (wtf hb_1027) rfl fun a hK => ?_
          refine sl_skip hK (by decide) (wtf hb_1027) rfl fun a hK => ?_
          refine sl_skip hK (by decide) (wtf hb_1027) rfl fun a hK => ?_
          refine sl_skip hK (by decide) (wtf hb_1027) rfl fun a hK => ?_
          refine sl_skip hK (by decide) (wtf hb_1027) rfl fun a hK => ?_
          refine sl_skip hK (by decide) (wtf hb_1027) rfl fun a hK => ?_
          refine sl_skip hK (by decide) (wtf hb_1027) rfl fun a hK => ?_
          refine sl hK (by decide) rfl rfl (r_pick_f hb_1027 hK rfl rfl) fun a hK => ?_
          refine sl hK (by decide) rfl rfl (r_assign hK rfl) fun a hK => ?_
          refine wpList_nil ?_
          exact absurd (Option.some.inj H) (by decide)
      · rw [ifb_f hb_1026] at H
        refine sl_skip hK (by decide) (wtf hb_1026) rfl fun a hK => ?_
        refine sl_skip hK (by decide) (wtf hb_1026) rfl fun a hK => ?_
        refine sl hK (by decide) rfl rfl (r_pick_f hb_1026 hK rfl rfl) fun a hK => ?_
        refine sl hK (by decide) rfl rfl (r_move hK rfl) fun a hK => ?_
        refine sl_skip hK (by decide) rfl rfl fun a hK => ?_
        refine sl_skip hK (by decide) rfl rfl fun a hK => ?_
        refine sl_skip hK (by decide) rfl rfl fun a hK => ?_
        refine sl_skip hK (by decide) rfl rfl fun a hK => ?_
        refine sl_skip hK (by decide) rfl rfl fun a hK => ?_
        refine sl_skip hK (by decide) rfl rfl fun a hK => ?_
        refine sl_skip hK (by decide) rfl rfl fun a hK => ?_
        refine sl_skip hK (by decide) rfl rfl fun a hK => ?_
        refine sl hK (by decide) rfl rfl (r_pick hK rfl rfl rfl) fun a hK => ?_
        refine sl hK (by decide) rfl rfl (r_assign hK rfl) fun a hK => ?_
        refine wpList_nil ?_
        exact absurd (Option.some.inj H) (by decide)

end Go.Proofs.Ytifijboegibchaa.M
