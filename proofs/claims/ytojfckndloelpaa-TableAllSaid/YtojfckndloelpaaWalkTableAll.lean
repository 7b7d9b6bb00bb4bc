/- Each Go function of the laws answers as its plain Lean function tells, wherever that tells something. Printed by wip/eng/gen.py. -/
import Derived.Test.YtojfckndloelpaaWalk2
namespace Go.Proofs.Ytojfckndloelpaa.M
open Go Go.Eng Go.Proofs Go.RowKit
set_option linter.unusedVariables false
set_option linter.unusedSimpArgs false

/-! ### catchment/catchmentlaw02.TableAll: function 9 -/
set_option maxHeartbeats 4000000 in
set_option maxRecDepth 100000 in
theorem law02_TableAll.calls (a0 : api_Table) (a1 : Int) {w0 : World} {R : Hp} {v0_0 : Value} {v0_1 : Value} (hR : R.sub w0) (h0_0 : SlR ty_api_Col R v0_0 a0.Cols) (h0_1 : SlR (tySl ty_api_Value) R v0_1 a0.Rows) (H : law02_TableAll a0 a1 = some true) : CallsV Try.prog 9 #[.agg #[v0_0, v0_1], .int .i64 a1] w0 (.bool true) := by
  unfold law02_TableAll at H
  refine enter (args := [.agg #[v0_0, v0_1], .int .i64 a1]) Try.func9 rfl Try.ntmps9 rfl fun a hK => ?_
  have hS := St.init hR
  have hRL := RLe.refl (M := []) w0 R
  refine wp_seq ?_
  refine wp_region_lit ?_
  refine sl_box hS hK (by decide) rfl rfl (c := [v0_0, v0_1]) rfl fun a w b_1 hS hK => ?_
  refine sl hK (by decide) rfl rfl (r_assign hK rfl) fun a hK => ?_
  refine wpList_nil ?_
  refine wp_seq ?_
  refine wp_region_lit ?_
  obtain ⟨y_2, h_3, H⟩ := bind_some H
  refine sl_callV Try.call11 hS hK (by decide) rfl rfl rfl (law02_shown.calls h_3 _) fun a w hS hK => ?_
  refine sl hK (by decide) rfl rfl (r_assign hK rfl) fun a hK => ?_
  refine wpList_nil ?_
  refine wp_seq ?_
  refine wp_region_lit ?_
  refine sl hK (by decide) rfl rfl (r_loadA (cs := [v0_0, v0_1]) Try.isAgg25 Try.sizeOf25 rfl hK rfl (hS.cells_of (m := 2) (.head _) rfl)) fun a hK => ?_
  obtain ⟨y_4, h_5, H⟩ := bind_some H
  refine sl_call Try.call12 hK (by decide) rfl rfl rfl (law02_cut.calls a0 hS.sub h0_0 h0_1 h_5) fun a v_ w hv_ hK => ?_
  obtain ⟨R_6, v_8, v_10, hv_, hr_, hl_7, hs_9, hs_11⟩ := hv_
  have hv_ := hv_.symm
  subst hv_
  obtain ⟨hS, hl_7⟩ := hS.sp0.back hr_ hl_7
  have hS := hS.un0
  have hRL := hRL.trans hl_7
  refine sl_storeA (vs := [v_8, v_10]) (c' := [v_8, v_10]) Try.sizeOf25 hS hK rfl rfl rfl rfl (all_cons hs_9.one (all_cons hs_11.one (all_nil))) (Nat.le_of_ble_eq_true rfl) rfl fun a w hS hK => ?_
  refine wpList_nil ?_
  refine wp_seq ?_
  refine wp_seq ?_
  refine wp_region_lit ?_
  refine sl hK (by decide) rfl rfl (r_loadA (cs := [v_8, v_10]) Try.isAgg25 Try.sizeOf25 rfl hK rfl (hS.cells_of (m := 2) (.head _) rfl)) fun a hK => ?_
  obtain ⟨y_12, h_13, H⟩ := bind_some H
  refine sl_callV Try.call14 hS hK (by decide) rfl rfl rfl (ref02_Check.calls y_4 (lentOf_sub [] _) (hs_9.mono hS.rLe0) (hs_11.mono hS.rLe0) h_13) fun a w hS hK => ?_
  refine sl hK (by decide) rfl rfl (r_ibin hK rfl rfl rfl) fun a hK => ?_
  refine wpList_nil ?_
  refine wp_cond_split (hK.ev rfl) (fun (hb_14 : (y_12 != 0) = true) => ?_) (fun (hb_14 : (y_12 != 0) = false) => ?_)
  · rw [ifb_t hb_14] at H
    refine wp_seq ?_
    refine wp_region_lit ?_
    refine sl hK (by decide) rfl rfl (r_move hK rfl) fun a hK => ?_
    refine sl hK (by decide) rfl rfl (r_assign hK rfl) fun a hK => ?_
    refine wpList_nil ?_
    have hr_ := Option.some.inj H
    refine wp_ret ?_
    repeat (first | refine ret_then ?_ | refine ret_block ?_ | refine ret_scope ?_)
    exact ret_1 Try.results9 hK (rv_tmp hK rfl) ⟨congrArg (fun b => Ending.returned (Value.bool b)) hr_, hS.bel⟩
  · rw [ifb_f hb_14] at H
    refine wp_skip ?_
    refine wp_seq ?_
    refine wp_region_lit ?_
    refine sl_buildSliceC (zc := [.string (⟨#[]⟩ : ByteArray)]) (zs := []) (ps := []) (c := []) Try.underlying39 Try.sizeOf9 Try.zeroValue9 rfl pc_nil rfl rfl (by decide) (by kernel_rfl) rfl hS hK (by decide) rfl fun a w b_15 hS hK => ?_
    refine sl hK (by decide) rfl rfl (r_assign hK rfl) fun a hK => ?_
    refine wpList_nil ?_
    refine wp_seq ?_
    refine wp_seq ?_
    refine wp_region_lit ?_
    refine sl hK (by decide) rfl rfl (r_assign hK rfl) fun a hK => ?_
    refine wpList_nil ?_
    refine wp_block ?_
    refine wp_loop_k (fun k_l0 a w => ∃ (x_40 : List ByteArray) (x_44 : Int) (v_41 : Value) (cs_42 : List Value), law02_TableAll.l0 a1 y_2 y_4 k_l0 x_40 x_44 = some true ∧ Reps tyStr R_6 cs_42 x_40 ∧ Kn 105 a [(1, .int .i64 a1), (2, .pointer (some ⟨b_1, 0, none⟩)), (5, .bool y_2), (6, v_41), (7, .int .i64 x_44)] ∧ St [] w0 w R_6 [.cells b_1 [v_8, v_10] 25, .row 9 1 v_41 x_40.length cs_42]) (((y_4.Cols.length : Int) - 0).toNat + 1) ?_ ?_
    · have hS := hS.row_lit (size := 1) (m := 0) rfl (by decide)
      have hq_64 : Reps tyStr R_6 [] ([] : List ByteArray) := (Reps.nil _ _)
      have hS := hS.pk1
      exact ⟨[], 0, _, _, H, hq_64, hK.sub (all_cons rfl (all_cons rfl (all_cons rfl (all_cons rfl (all_cons rfl (all_nil)))))), hS⟩
    · rintro k_l0 a w ⟨x_40, x_44, v_41, cs_42, H, hq_43, hK, hS⟩
      cases k_l0 with
      | zero => cases H
      | succ k_l0 =>
      rw [law02_TableAll.l0.eq_2] at H
      refine wp_seq ?_
      refine wp_seq ?_
      refine wp_region_lit ?_
      refine sl hK (by decide) rfl rfl (r_move hK rfl) fun a hK => ?_
      refine sl hK (by decide) rfl rfl (r_fieldAddr Try.underlying25 rfl Try.sizeOf22 hK rfl) fun a hK => ?_
      refine sl hK (by decide) rfl rfl (r_load Try.isAgg22 hK rfl (hS.cell (.head _) rfl)) fun a hK => ?_
      refine sl hK (by decide) rfl rfl (r_len_R Try.underlying22 hs_9 hK rfl) fun a hK => ?_
      refine sl hK (by decide) rfl rfl (r_ibin hK rfl rfl rfl) fun a hK => ?_
      refine wpList_nil ?_
      refine wp_cond_split (hK.ev rfl) (fun (hb_65 : (decide (x_44 < (y_4.Cols.length : Int))) = true) => ?_) (fun (hb_65 : (decide (x_44 < (y_4.Cols.length : Int))) = false) => ?_)
      · rw [ifb_t hb_65] at H
        refine wp_skip ?_
        refine wp_seq ?_
        refine wp_block ?_
        refine wp_region_lit ?_
        refine sl hK (by decide) rfl rfl (r_move hK rfl) fun a hK => ?_
        refine sl hK (by decide) rfl rfl (r_fieldAddr Try.underlying25 rfl Try.sizeOf22 hK rfl) fun a hK => ?_
        refine sl hK (by decide) rfl rfl (r_load Try.isAgg22 hK rfl (hS.cell (.head _) rfl)) fun a hK => ?_
        refine sl hK (by decide) rfl rfl (r_move hK rfl) fun a hK => ?_
        obtain ⟨y_66, h_67, H⟩ := bind_some H
        obtain ⟨b_68, o_69, c_70, cs_71, hv_72, hr_73, hc_74, h_670, h_671⟩ := hs_9.ix h_67
        subst hr_73
        refine sl hK (by decide) rfl rfl (r_indexAddr_R Try.underlying22 Try.sizeOf43 hv_72 h_670 h_671 hK rfl rfl) fun a hK => ?_
        refine sl hK (by decide) rfl rfl (r_fieldAddr Try.underlying43 rfl Try.sizeOf9 hK rfl) fun a hK => ?_
        refine sl hK (by decide) rfl rfl (r_load Try.isAgg9 hK rfl (hS.sub.cell (hc_74 0 _ rfl))) fun a hK => ?_
        refine sl_buildSliceF (zc := [.string (⟨#[]⟩ : ByteArray)]) (ps := [(0, .string y_66.Name)]) (c := [.string y_66.Name]) [[.string y_66.Name]] Try.underlying39 Try.sizeOf9 Try.zeroValue9 rfl (pc_cons rfl pc_nil) rfl rfl (Nat.le_of_ble_eq_true rfl) rfl (all_cons rfl (all_nil)) rfl hS hK (by decide) rfl fun a w b_75 hS hK => ?_
        obtain ⟨y_76, h_77, H⟩ := bind_some H
        have hS := hS.pk2
        refine sl_append_L (ty := tyStr) (ys := [y_66.Name]) elT39 (by decide) rfl hq_43 rfl (Reps.cons (show Ty.rep tyStr _ [.string y_66.Name] y_66.Name from rfl) (Reps.nil _ _)) rfl h_77 hS hK (by decide) rfl rfl rfl fun a w v_78 cs_79 hq_80 hS hK => ?_
        refine sl hK (by decide) rfl rfl (r_assign hK rfl) fun a hK => ?_
        refine wpList_nil ?_
        refine wp_region_lit ?_
        refine sl hK (by decide) rfl rfl (r_move hK rfl) fun a hK => ?_
        refine sl hK (by decide) rfl rfl (r_ibin hK rfl rfl rfl) fun a hK => ?_
        refine sl hK (by decide) rfl rfl (r_assign hK rfl) fun a hK => ?_
        refine wpList_nil ?_
        have hS := hS.pk1
        exact ⟨_, Nat.lt_succ_self _, y_76, (IntKind.i64.wrap (x_44 + 1)), _, _, H, hq_80, hK.sub (all_cons rfl (all_cons rfl (all_cons rfl (all_cons rfl (all_cons rfl (all_nil)))))), hS⟩
      · rw [ifb_f hb_65] at H
        refine wp_exit ?_
        refine wp_seq ?_
        refine wp_region_lit ?_
        refine sl hK (by decide) rfl rfl (r_loadA (cs := [v_8, v_10]) Try.isAgg25 Try.sizeOf25 rfl hK rfl (hS.cells_of (m := 2) (.head _) rfl)) fun a hK => ?_
        refine sl hK (by decide) rfl rfl (r_move hK rfl) fun a hK => ?_
        obtain ⟨y_82, h_83, H⟩ := bind_some H
        refine sl_call Try.call26 hK (by decide) rfl rfl rfl (table_Keep.calls y_4 x_40 (lentOf_sub [] _) hS.sub (hs_9.mono hS.rLe0) (hs_11.mono hS.rLe0) (hS.lend_row0 (.tail _ (.head _)) hq_43 rfl rfl) h_83) fun a v_ w hv_ hK => ?_
        obtain ⟨R_84, v_87, cs_88, v_91, cs_92, hv_, hr_, hl_85, hq_89, hq_93⟩ := hv_
        have hv_ := hv_.symm
        subst hv_
        obtain ⟨hS, hl_85⟩ := hS.sp0.back hr_ hl_85
        have hS := hS.un2
        have hRL := hRL.trans hl_85
        refine sl hK (by decide) rfl rfl (r_move hK rfl) fun a hK => ?_
        refine sl hK (by decide) rfl rfl (r_extract hK rfl rfl) fun a hK => ?_
        refine sl hK (by decide) rfl rfl (r_extract hK rfl rfl) fun a hK => ?_
        refine sl_alloc Try.zeroValue25 hS hK (by decide) rfl rfl fun a w b_94 hS hK => ?_
        refine sl_storeA (vs := [v_87, v_91]) (c' := [v_87, v_91]) Try.sizeOf25 hS hK rfl rfl rfl rfl (all_cons (hS.row_one (.tail _ (.head _))) (all_cons (hS.row_one (.tail _ (.tail _ (.head _)))) (all_nil))) (Nat.le_of_ble_eq_true rfl) rfl fun a w hS hK => ?_
        refine sl hK (by decide) rfl rfl (r_assign hK rfl) fun a hK => ?_
        refine wpList_nil ?_
        refine wp_seq ?_
        refine parT_region (C := fun w => St [] w0 w R_84 [.cells b_94 [v_87, v_91] 25, .row 43 2 v_87 y_82.1.Cols.length cs_88, .row 35 1 v_91 y_82.1.Rows.length cs_92, .cells b_1 [v_8, v_10] 25, .row 9 1 v_41 x_40.length cs_42]) 3 [(0, true), (1, true), (2, false)] mixed (by kernel_rfl) hS (fun w hS => hS) fun w hS => ?_
        refine sp (k := 0) rfl hK (by decide) rfl rfl (fun w hS => r_loadA (cs := [v_87, v_91]) Try.isAgg25 Try.sizeOf25 rfl hK rfl (hS.cells_of (m := 2) (.head _) rfl)) fun a hK => ?_
        refine sp (k := 1) rfl hK (by decide) rfl rfl (fun w hS => r_loadA (cs := [v_8, v_10]) Try.isAgg25 Try.sizeOf25 rfl hK rfl (hS.cells_of (m := 2) (.tail _ (.tail _ (.tail _ (.head _)))) rfl)) fun a hK => ?_
        refine spw (k := 2) rfl rfl hS ?_
        obtain ⟨y_109, h_110, H⟩ := bind_some H
        refine sl_call Try.call21 hK (by decide) rfl rfl rfl (ref02_Canon.calls y_4 hS.sub (hs_9.mono hl_85.le) (hs_11.mono hl_85.le) h_110) fun a v_ w hv_ hK => ?_
        obtain ⟨R_111, v_114, cs_115, v_118, cs_119, hv_, hr_, hl_112, hq_116, hq_120⟩ := hv_
        have hv_ := hv_.symm
        subst hv_
        obtain ⟨hS, hl_112⟩ := hS.sp0.back hr_ hl_112
        have hS := hS.un2
        have hRL := hRL.trans hl_112
        refine parK_nil ((hS.pk6.pk6.pk6.pk6.pk6.trunc 5).lower hl_112.le) ?_
        refine thenL_nil ?_
        obtain ⟨y_121, h_122, H⟩ := bind_some H
        refine sl_callV Try.call22 hS hK (by decide) rfl rfl rfl (ref02_Same.calls y_82.1 y_109 (lentOf_sub [] _) (hS.lend_row0 (.tail _ (.tail _ (.tail _ (.head _)))) (hq_89.mono hl_112.le) rfl rfl) (hS.lend_row0 (.tail _ (.tail _ (.tail _ (.tail _ (.head _))))) (hq_93.mono hl_112.le) rfl rfl) (hS.lend_row0 (.head _) hq_116 rfl rfl) (hS.lend_row0 (.tail _ (.head _)) hq_120 rfl rfl) h_122) fun a w hS hK => ?_
        refine sl hK (by decide) rfl rfl (r_assign hK rfl) fun a hK => ?_
        refine wpList_nil (NoP_nil ?_)
        refine wp_seq ?_
        refine wp_seq ?_
        refine wp_region_lit ?_
        refine sl hK (by decide) rfl rfl (r_move hK rfl) fun a hK => ?_
        refine sl hK (by decide) rfl rfl (r_ibin hK rfl rfl rfl) fun a hK => ?_
        refine wpList_nil ?_
        refine wp_mid (fun a w => ∃ (x_124 : Int), law02_TableAll.j1 y_2 y_4 x_40 y_82 y_121 x_124 = some true ∧ Kn 105 a [(1, .int .i64 x_124), (2, .pointer (some ⟨b_1, 0, none⟩)), (5, .bool y_2), (6, v_41), (8, .pointer (some ⟨b_94, 0, none⟩)), (9, .int .i64 y_82.2), (10, .bool y_121)] ∧ St [] w0 w R_111 [.cells b_1 [v_8, v_10] 25, .row 9 1 v_41 x_40.length cs_42, .row 43 2 v_87 y_82.1.Cols.length cs_88, .row 35 1 v_91 y_82.1.Rows.length cs_92, .cells b_94 [v_87, v_91] 25]) ?_ ?_
        · refine wp_cond_split (hK.ev rfl) (fun (hb_126 : (decide (a1 < 0)) = true) => ?_) (fun (hb_126 : (decide (a1 < 0)) = false) => ?_)
          · rw [ifb_t hb_126] at H
            refine wp_region_lit ?_
            refine sl hK (by decide) rfl rfl (r_move hK rfl) fun a hK => ?_
            refine sl hK (by decide) rfl rfl (r_ibin hK rfl rfl rfl) fun a hK => ?_
            refine sl hK (by decide) rfl rfl (r_un hK rfl (u_neg _ _)) fun a hK => ?_
            refine sl hK (by decide) rfl rfl (r_assign hK rfl) fun a hK => ?_
            refine wpList_nil ?_
            have hS := hS.pk2
            have hS := hS.pk4
            have hS := hS.pk4
            have hS := hS.pk6
            have hS := hS.pk6
            exact ⟨(IntKind.i64.wrap (0 - (IntKind.i64.wrap (a1 + 1)))), H, hK.sub (all_cons rfl (all_cons rfl (all_cons rfl (all_cons rfl (all_cons rfl (all_cons rfl (all_cons rfl (all_nil)))))))), hS.trunc 5⟩
          · rw [ifb_f hb_126] at H
            refine wp_skip ?_
            have hS := hS.pk2
            have hS := hS.pk4
            have hS := hS.pk4
            have hS := hS.pk6
            have hS := hS.pk6
            exact ⟨a1, H, hK.sub (all_cons rfl (all_cons rfl (all_cons rfl (all_cons rfl (all_cons rfl (all_cons rfl (all_cons rfl (all_nil)))))))), hS.trunc 5⟩
        · rintro a w ⟨x_124, H, hK, hS⟩
          unfold law02_TableAll.j1 at H
          refine wp_seq ?_
          refine wp_region_lit ?_
          refine sl hK (by decide) rfl rfl (r_move hK rfl) fun a hK => ?_
          refine sl hK (by decide) rfl rfl (r_move hK rfl) fun a hK => ?_
          refine sl hK (by decide) rfl rfl (r_move hK rfl) fun a hK => ?_
          refine sl hK (by decide) rfl rfl (r_len_O Try.underlying39 hS (.tail _ (.head _)) hK rfl) fun a hK => ?_
          rcases or_b ((x_40.length : Int) != 0) with hn_127 | hn_127
          · rw [ifb_t hn_127] at H
            refine sl hK (by decide) rfl rfl (r_rem hK rfl rfl (ne_of_bne hn_127)) fun a hK => ?_
            have hS := hS.pk1
            obtain ⟨R_128, hS, hl_130, hs_129⟩ := hS.fz_row (hq_43.mono (hl_85.le.trans hl_112.le)) rfl rfl
            have hRL := hRL.trans hl_130
            obtain ⟨y_131, h_132, H⟩ := bind_some H
            obtain ⟨v_133, hs_134, hr_135⟩ := r_slice_R (x := .tmp 56) (lo := some (.tmp 60)) (hi := none) Try.underlying39 Try.sizeOf9 hs_129 h_132 hK rfl ⟨_, rfl⟩ rfl
            refine sl hK (by decide) rfl rfl (hr_135 _ _ _ _ _ _ _ hK) fun a hK => ?_
            refine sl hK (by decide) rfl rfl (r_assign hK rfl) fun a hK => ?_
            refine wpList_nil ?_
            refine wp_seq ?_
            refine wp_region_lit ?_
            refine sl hK (by decide) rfl rfl (r_loadA (cs := [v_87, v_91]) Try.isAgg25 Try.sizeOf25 rfl hK rfl (hS.cells_of (m := 2) (.tail _ (.tail _ (.tail _ (.head _)))) rfl)) fun a hK => ?_
            refine sl hK (by decide) rfl rfl (r_move hK rfl) fun a hK => ?_
            obtain ⟨y_136, h_137, H⟩ := bind_some H
            refine sl_call Try.call26 hK (by decide) rfl rfl rfl (table_Keep.calls y_82.1 y_131 (lentOf_sub [] _) hS.sub (hS.lend_row0 (.tail _ (.head _)) (hq_89.mono (hl_112.le.trans hl_130.le)) rfl rfl) (hS.lend_row0 (.tail _ (.tail _ (.head _))) (hq_93.mono (hl_112.le.trans hl_130.le)) rfl rfl) (hs_134.mono hS.rLe0) h_137) fun a v_ w hv_ hK => ?_
            obtain ⟨R_138, v_141, cs_142, v_145, cs_146, hv_, hr_, hl_139, hq_143, hq_147⟩ := hv_
            have hv_ := hv_.symm
            subst hv_
            obtain ⟨hS, hl_139⟩ := hS.sp0.back hr_ hl_139
            have hS := hS.un2
            have hRL := hRL.trans hl_139
            refine sl hK (by decide) rfl rfl (r_move hK rfl) fun a hK => ?_
            refine sl hK (by decide) rfl rfl (r_extract hK rfl rfl) fun a hK => ?_
            refine sl hK (by decide) rfl rfl (r_extract hK rfl rfl) fun a hK => ?_
            refine sl_alloc Try.zeroValue25 hS hK (by decide) rfl rfl fun a w b_148 hS hK => ?_
            refine sl_storeA (vs := [v_141, v_145]) (c' := [v_141, v_145]) Try.sizeOf25 hS hK rfl rfl rfl rfl (all_cons (hS.row_one (.tail _ (.head _))) (all_cons (hS.row_one (.tail _ (.tail _ (.head _)))) (all_nil))) (Nat.le_of_ble_eq_true rfl) rfl fun a w hS hK => ?_
            refine sl hK (by decide) rfl rfl (r_assign hK rfl) fun a hK => ?_
            refine wpList_nil ?_
            refine wp_seq ?_
            refine wp_region_lit ?_
            refine sl hK (by decide) rfl rfl (r_loadA (cs := [v_8, v_10]) Try.isAgg25 Try.sizeOf25 rfl hK rfl (hS.cells_of (m := 2) (.tail _ (.tail _ (.tail _ (.head _)))) rfl)) fun a hK => ?_
            refine sl hK (by decide) rfl rfl (r_move hK rfl) fun a hK => ?_
            obtain ⟨y_149, h_150, H⟩ := bind_some H
            refine sl_call Try.call26 hK (by decide) rfl rfl rfl (table_Keep.calls y_4 y_131 (lentOf_sub [] _) hS.sub (hs_9.mono ((hl_85.le.trans (hl_112.le.trans (hl_130.le.trans hl_139.le))).trans hS.rLe0)) (hs_11.mono ((hl_85.le.trans (hl_112.le.trans (hl_130.le.trans hl_139.le))).trans hS.rLe0)) (hs_134.mono (hl_139.le.trans hS.rLe0)) h_150) fun a v_ w hv_ hK => ?_
            obtain ⟨R_151, v_154, cs_155, v_158, cs_159, hv_, hr_, hl_152, hq_156, hq_160⟩ := hv_
            have hv_ := hv_.symm
            subst hv_
            obtain ⟨hS, hl_152⟩ := hS.sp0.back hr_ hl_152
            have hS := hS.un2
            have hRL := hRL.trans hl_152
            refine sl hK (by decide) rfl rfl (r_move hK rfl) fun a hK => ?_
            refine sl hK (by decide) rfl rfl (r_extract hK rfl rfl) fun a hK => ?_
            refine sl hK (by decide) rfl rfl (r_extract hK rfl rfl) fun a hK => ?_
            refine sl_alloc Try.zeroValue25 hS hK (by decide) rfl rfl fun a w b_161 hS hK => ?_
            refine sl_storeA (vs := [v_154, v_158]) (c' := [v_154, v_158]) Try.sizeOf25 hS hK rfl rfl rfl rfl (all_cons (hS.row_one (.tail _ (.head _))) (all_cons (hS.row_one (.tail _ (.tail _ (.head _)))) (all_nil))) (Nat.le_of_ble_eq_true rfl) rfl fun a w hS hK => ?_
            refine sl hK (by decide) rfl rfl (r_assign hK rfl) fun a hK => ?_
            refine wpList_nil ?_
            refine wp_seq ?_
            refine wp_region_lit ?_
            refine sl hK (by decide) rfl rfl (r_loadA (cs := [v_141, v_145]) Try.isAgg25 Try.sizeOf25 rfl hK rfl (hS.cells_of (m := 2) (.tail _ (.tail _ (.tail _ (.head _)))) rfl)) fun a hK => ?_
            refine sl hK (by decide) rfl rfl (r_loadA (cs := [v_154, v_158]) Try.isAgg25 Try.sizeOf25 rfl hK rfl (hS.cells_of (m := 2) (.head _) rfl)) fun a hK => ?_
            obtain ⟨y_162, h_163, H⟩ := bind_some H
            refine sl_callV Try.call22 hS hK (by decide) rfl rfl rfl (ref02_Same.calls y_136.1 y_149.1 (lentOf_sub [] _) (hS.lend_row0 (.tail _ (.tail _ (.tail _ (.tail _ (.head _))))) (hq_143.mono hl_152.le) rfl rfl) (hS.lend_row0 (.tail _ (.tail _ (.tail _ (.tail _ (.tail _ (.head _)))))) (hq_147.mono hl_152.le) rfl rfl) (hS.lend_row0 (.tail _ (.head _)) hq_156 rfl rfl) (hS.lend_row0 (.tail _ (.tail _ (.head _))) hq_160 rfl rfl) h_163) fun a w hS hK => ?_
            refine sl hK (by decide) rfl rfl (r_assign hK rfl) fun a hK => ?_
            refine wpList_nil ?_
            refine wp_seq ?_
            refine wp_region_lit ?_
            refine sl hK (by decide) rfl rfl (r_move hK rfl) fun a hK => ?_
            refine sl hK (by decide) rfl rfl (r_move hK rfl) fun a hK => ?_
            rcases or_b y_2 with hb_164 | hb_164
            · rw [ifb_t hb_164] at H
              refine sl hK (by decide) (wtt hb_164) rfl (r_move hK rfl) fun a hK => ?_
              refine sl hK (by decide) (wtt hb_164) rfl (r_ibin hK rfl rfl rfl) fun a hK => ?_
              refine sl hK (by decide) rfl rfl (r_pick_t hb_164 hK rfl rfl) fun a hK => ?_
              refine sl hK (by decide) rfl rfl (r_move hK rfl) fun a hK => ?_
              rcases or_b (y_82.2 == 0) with hb_165 | hb_165
              · rw [ifb_t hb_165] at H
                refine sl hK (by decide) (wtt hb_165) rfl (r_move hK rfl) fun a hK => ?_
                refine sl hK (by decide) (wtt hb_165) rfl (r_ibin hK rfl rfl rfl) fun a hK => ?_
                refine sl hK (by decide) rfl rfl (r_pick_t hb_165 hK rfl rfl) fun a hK => ?_
                refine sl hK (by decide) rfl rfl (r_move hK rfl) fun a hK => ?_
                rcases or_b (y_136.2 == 0) with hb_166 | hb_166
                · rw [ifb_t hb_166] at H
                  refine sl hK (by decide) (wtt hb_166) rfl (r_move hK rfl) fun a hK => ?_
                  refine sl hK (by decide) (wtt hb_166) rfl (r_ibin hK rfl rfl rfl) fun a hK => ?_
                  refine sl hK (by decide) rfl rfl (r_pick_t hb_166 hK rfl rfl) fun a hK => ?_
                  refine sl hK (by decide) rfl rfl (r_move hK rfl) fun a hK => ?_
                  rcases or_b (y_149.2 == 0) with hb_167 | hb_167
                  · rw [ifb_t hb_167] at H
                    refine sl hK (by decide) (wtt hb_167) rfl (r_move hK rfl) fun a hK => ?_
                    refine sl hK (by decide) rfl rfl (r_pick_t hb_167 hK rfl rfl) fun a hK => ?_
                    refine sl hK (by decide) rfl rfl (r_move hK rfl) fun a hK => ?_
                    rcases or_b y_121 with hb_168 | hb_168
                    · rw [ifb_t hb_168] at H
                      refine sl hK (by decide) (wtt hb_168) rfl (r_move hK rfl) fun a hK => ?_
                      refine sl hK (by decide) rfl rfl (r_pick_t hb_168 hK rfl rfl) fun a hK => ?_
                      refine sl hK (by decide) rfl rfl (r_move hK rfl) fun a hK => ?_
                      rcases or_b y_162 with hb_169 | hb_169
                      · rw [ifb_t hb_169] at H
                        refine sl hK (by decide) (wtt hb_169) rfl (r_fieldAddr Try.underlying25 rfl Try.sizeOf23 hK rfl) fun a hK => ?_
                        refine sl hK (by decide) (wtt hb_169) rfl (r_load Try.isAgg23 hK rfl (hS.cell (.tail _ (.tail _ (.tail _ (.head _)))) rfl)) fun a hK => ?_
                        refine sl hK (by decide) (wtt hb_169) rfl (r_len_O Try.underlying23 hS (.tail _ (.tail _ (.tail _ (.tail _ (.tail _ (.head _)))))) hK rfl) fun a hK => ?_
                        refine sl hK (by decide) (wtt hb_169) rfl (r_fieldAddr Try.underlying25 rfl Try.sizeOf23 hK rfl) fun a hK => ?_
                        refine sl hK (by decide) (wtt hb_169) rfl (r_load Try.isAgg23 hK rfl (hS.cell (.tail _ (.tail _ (.tail _ (.tail _ (.tail _ (.tail _ (.head _))))))) rfl)) fun a hK => ?_
                        refine sl hK (by decide) (wtt hb_169) rfl (r_len_R Try.underlying23 hs_11 hK rfl) fun a hK => ?_
                        refine sl hK (by decide) (wtt hb_169) rfl (r_ibin hK rfl rfl rfl) fun a hK => ?_
                        refine sl hK (by decide) rfl rfl (r_pick_t hb_169 hK rfl rfl) fun a hK => ?_
                        refine sl hK (by decide) rfl rfl (r_assign hK rfl) fun a hK => ?_
                        refine wpList_nil ?_
                        have hr_ := Option.some.inj H
                        refine wp_ret ?_
                        repeat (first | refine ret_then ?_ | refine ret_block ?_ | refine ret_scope ?_)
                        exact ret_1 Try.results9 hK (rv_tmp hK rfl) ⟨congrArg (fun b => Ending.returned (Value.bool b)) hr_, hS.bel⟩
                      · rw [ifb_f hb_169] at H
                        refine sl_skip hK (by decide) (wtf hb_169) rfl fun a hK => ?_
                        refine sl_skip hK (by decide) (wtf hb_169) rfl fun a hK => ?_
                        refine sl_skip hK (by decide) (wtf hb_169) rfl fun a hK => ?_
                        refine sl_skip hK (by decide) (wtf hb_169) rfl fun a hK => ?_
                        refine sl_skip hK (by decide) (wtf hb_169) rfl fun a hK => ?_
                        refine sl_skip hK (by decide) (wtf hb_169) rfl fun a hK => ?_
                        refine sl_skip hK (by decide) (wtf hb_169) rfl fun a hK => ?_
                        refine sl hK (by decide) rfl rfl (r_pick_f hb_169 hK rfl rfl) fun a hK => ?_
                        refine sl hK (by decide) rfl rfl (r_assign hK rfl) fun a hK => ?_
                        refine wpList_nil ?_
                        exact absurd (Option.some.inj H) (by decide)
                    · rw [ifb_f hb_168] at H
                      refine sl_skip hK (by decide) (wtf hb_168) rfl fun a hK => ?_
                      refine sl hK (by decide) rfl rfl (r_pick_f hb_168 hK rfl rfl) fun a hK => ?_
                      refine sl hK (by decide) rfl rfl (r_move hK rfl) fun a hK => ?_
                      refine sl_skip hK (by decide) rfl rfl fun a hK => ?_
                      refine sl_skip hK (by decide) rfl rfl fun a hK => ?_
                      refine sl_skip hK (by decide) rfl rfl fun a hK => ?_
                      refine sl_skip hK (by decide) rfl rfl fun a hK => ?_
                      refine sl_skip hK (by decide) rfl rfl fun a hK => ?_
                      refine sl_skip hK (by decide) rfl rfl fun a hK => ?_
                      refine sl_skip hK (by decide) rfl rfl fun a hK => ?_
                      refine sl hK (by decide) rfl rfl (r_pick hK rfl rfl rfl) fun a hK => ?_
                      refine sl hK (by decide) rfl rfl (r_assign hK rfl) fun a hK => ?_
                      refine wpList_nil ?_
                      exact absurd (Option.some.inj H) (by decide)
                  · rw [ifb_f hb_167] at H
                    refine sl_skip hK (by decide) (wtf hb_167) rfl fun a hK => ?_
                    refine sl hK (by decide) rfl rfl (r_pick_f hb_167 hK rfl rfl) fun a hK => ?_
                    refine sl hK (by decide) rfl rfl (r_move hK rfl) fun a hK => ?_
                    refine sl_skip hK (by decide) rfl rfl fun a hK => ?_
                    refine sl hK (by decide) rfl rfl (r_pick hK rfl rfl rfl) fun a hK => ?_
                    refine sl hK (by decide) rfl rfl (r_move hK rfl) fun a hK => ?_
                    refine sl_skip hK (by decide) rfl rfl fun a hK => ?_
                    refine sl_skip hK (by decide) rfl rfl fun a hK => ?_
                    refine sl_skip hK (by decide) rfl rfl fun a hK => ?_
                    refine sl_skip hK (by decide) rfl rfl fun a hK => ?_
                    refine sl_skip hK (by decide) rfl rfl fun a hK => ?_
                    refine sl_skip hK (by decide) rfl rfl fun a hK => ?_
                    refine sl_skip hK (by decide) rfl rfl fun a hK => ?_
                    refine sl hK (by decide) rfl rfl (r_pick hK rfl rfl rfl) fun a hK => ?_
                    refine sl hK (by decide) rfl rfl (r_assign hK rfl) fun a hK => ?_
                    refine wpList_nil ?_
                    exact absurd (Option.some.inj H) (by decide)
                · rw [ifb_f hb_166] at H
                  refine sl_skip hK (by decide) (wtf hb_166) rfl fun a hK => ?_
                  refine sl_skip hK (by decide) (wtf hb_166) rfl fun a hK => ?_
                  refine sl hK (by decide) rfl rfl (r_pick_f hb_166 hK rfl rfl) fun a hK => ?_
                  refine sl hK (by decide) rfl rfl (r_move hK rfl) fun a hK => ?_
                  refine sl_skip hK (by decide) rfl rfl fun a hK => ?_
                  refine sl hK (by decide) rfl rfl (r_pick hK rfl rfl rfl) fun a hK => ?_
                  refine sl hK (by decide) rfl rfl (r_move hK rfl) fun a hK => ?_
                  refine sl_skip hK (by decide) rfl rfl fun a hK => ?_
                  refine sl hK (by decide) rfl rfl (r_pick hK rfl rfl rfl) fun a hK => ?_
                  refine sl hK (by decide) rfl rfl (r_move hK rfl) fun a hK => ?_
                  refine sl_skip hK (by decide) rfl rfl fun a hK => ?_
                  refine sl_skip hK (by decide) rfl rfl fun a hK => ?_
                  refine sl_skip hK (by decide) rfl rfl fun a hK => ?_
                  refine sl_skip hK (by decide) rfl rfl fun a hK => ?_
                  refine sl_skip hK (by decide) rfl rfl fun a hK => ?_
                  refine sl_skip hK (by decide) rfl rfl fun a hK => ?_
                  refine sl_skip hK (by decide) rfl rfl fun a hK => ?_
                  refine sl hK (by decide) rfl rfl (r_pick hK rfl rfl rfl) fun a hK => ?_
                  refine sl hK (by decide) rfl rfl (r_assign hK rfl) fun a hK => ?_
                  refine wpList_nil ?_
                  exact absurd (Option.some.inj H) (by decide)
              · rw [ifb_f hb_165] at H
                refine sl_skip hK (by decide) (wtf hb_165) rfl fun a hK => ?_
                refine sl_skip hK (by decide) (wtf hb_165) rfl fun a hK => ?_
                refine sl hK (by decide) rfl rfl (r_pick_f hb_165 hK rfl rfl) fun a hK => ?_
                refine sl hK (by decide) rfl rfl (r_move hK rfl) fun a hK => ?_
                refine sl_skip hK (by decide) rfl rfl fun a hK => ?_
                refine sl_skip hK (by decide) rfl rfl fun a hK => ?_
                refine sl hK (by decide) rfl rfl (r_pick hK rfl rfl rfl) fun a hK => ?_
                refine sl hK (by decide) rfl rfl (r_move hK rfl) fun a hK => ?_
                refine sl_skip hK (by decide) rfl rfl fun a hK => ?_
                refine sl hK (by decide) rfl rfl (r_pick hK rfl rfl rfl) fun a hK => ?_
                refine sl hK (by decide) rfl rfl (r_move hK rfl) fun a hK => ?_
                refine sl_skip hK (by decide) rfl rfl fun a hK => ?_
                refine sl hK (by decide) rfl rfl (r_pick hK rfl rfl rfl) fun a hK => ?_
                refine sl hK (by decide) rfl rfl (r_move hK rfl) fun a hK => ?_
                refine sl_skip hK (by decide) rfl rfl fun a hK => ?_
                refine sl_skip hK (by decide) rfl rfl fun a hK => ?_
                refine sl_skip hK (by decide) rfl rfl fun a hK => ?_
                refine sl_skip hK (by decide) rfl rfl fun a hK => ?_
                refine sl_skip hK (by decide) rfl rfl fun a hK => ?_
                refine sl_skip hK (by decide) rfl rfl fun a hK => ?_
                refine sl_skip hK (by decide) rfl rfl fun a hK => ?_
                refine sl hK (by decide) rfl rfl (r_pick hK rfl rfl rfl) fun a hK => ?_
                refine sl hK (by decide) rfl rfl (r_assign hK rfl) fun a hK => ?_
                refine wpList_nil ?_
                exact absurd (Option.some.inj H) (by decide)
            · rw [ifb_f hb_164] at H
              refine sl_skip hK (by decide) (wtf hb_164) rfl fun a hK => ?_
              refine sl_skip hK (by decide) (wtf hb_164) rfl fun a hK => ?_
              refine sl hK (by decide) rfl rfl (r_pick_f hb_164 hK rfl rfl) fun a hK => ?_
              refine sl hK (by decide) rfl rfl (r_move hK rfl) fun a hK => ?_
              refine sl_skip hK (by decide) rfl rfl fun a hK => ?_
              refine sl_skip hK (by decide) rfl rfl fun a hK => ?_
              refine sl hK (by decide) rfl rfl (r_pick hK rfl rfl rfl) fun a hK => ?_
              refine sl hK (by decide) rfl rfl (r_move hK rfl) fun a hK => ?_
              refine sl_skip hK (by decide) rfl rfl fun a hK => ?_
              refine sl_skip hK (by decide) rfl rfl fun a hK => ?_
              refine sl hK (by decide) rfl rfl (r_pick hK rfl rfl rfl) fun a hK => ?_
              refine sl hK (by decide) rfl rfl (r_move hK rfl) fun a hK => ?_
              refine sl_skip hK (by decide) rfl rfl fun a hK => ?_
              refine sl hK (by decide) rfl rfl (r_pick hK rfl rfl rfl) fun a hK => ?_
              refine sl hK (by decide) rfl rfl (r_move hK rfl) fun a hK => ?_
              refine sl_skip hK (by decide) rfl rfl fun a hK => ?_
              refine sl hK (by decide) rfl rfl (r_pick hK rfl rfl rfl) fun a hK => ?_
              refine sl hK (by decide) rfl rfl (r_move hK rfl) fun a hK => ?_
              refine sl_skip hK (by decide) rfl rfl fun a hK => ?_
              refine sl_skip hK (by decide) rfl rfl fun a hK => ?_
              refine sl_skip hK (by decide) rfl rfl fun a hK => ?_
              refine sl_skip hK (by decide) rfl rfl fun a hK => ?_
              refine sl_skip hK (by decide) rfl rfl fun a hK => ?_
              refine sl_skip hK (by decide) rfl rfl fun a hK => ?_
              refine sl_skip hK (by decide) rfl rfl fun a hK => ?_
              refine sl hK (by decide) rfl rfl (r_pick hK rfl rfl rfl) fun a hK => ?_
              refine sl hK (by decide) rfl rfl (r_assign hK rfl) fun a hK => ?_
              refine wpList_nil ?_
              exact absurd (Option.some.inj H) (by decide)
          · rw [ifb_f hn_127] at H
            cases H

end Go.Proofs.Ytojfckndloelpaa.M
