/- Each Go function of the laws answers as its plain Lean function tells, wherever that tells something. Printed by wip/eng/gen.py. -/
import Derived.Test.YtojfckndloelpaaWalk2
namespace Go.Proofs.Ytojfckndloelpaa.M
open Go Go.Eng Go.Proofs Go.RowKit
set_option linter.unusedVariables false
set_option linter.unusedSimpArgs false

/-! ### catchment/catchmentlaw02.lent: function 19 -/
set_option maxHeartbeats 4000000 in
set_option maxRecDepth 100000 in
theorem law02_lent.calls (a0 : api_Table) {w0 : World} {R : Hp} {RA : Hp} {v0_0 : Value} {v0_1 : Value} (hRA : RA.sub w0) (hR : R.sub w0) (h0_0 : SlR ty_api_Col RA v0_0 a0.Cols) (h0_1 : SlR (tySl ty_api_Value) RA v0_1 a0.Rows) {r : api_Table} (H : law02_lent a0 = some r) : Calls Try.prog 19 #[.agg #[v0_0, v0_1]] w0 (Rets fun v w' => ∃ (R' : Hp) (u0 : Value) (cu0 : List Value) (u1 : Value) (cu1 : List Value), v = .agg #[u0, u1] ∧ St [] w0 w' R' [.row 43 2 u0 r.Cols.length cu0, .row 35 1 u1 r.Rows.length cu1] ∧ RLe [] w0 R R' ∧ Reps ty_api_Col R' cu0 r.Cols ∧ Reps (tySl ty_api_Value) R' cu1 r.Rows) := by
  unfold law02_lent at H
  refine enter (args := [.agg #[v0_0, v0_1]]) Try.func19 rfl Try.ntmps19 rfl fun a hK => ?_
  have hS := St.init hR
  have hRL := RLe.refl (M := []) w0 R
  refine wp_seq ?_
  refine wp_region_lit ?_
  refine sl_box hS hK (by decide) rfl rfl (c := [v0_0, v0_1]) rfl fun a w b_1 hS hK => ?_
  refine sl_alloc Try.zeroValue25 hS hK (by decide) rfl rfl fun a w b_2 hS hK => ?_
  refine wpList_nil ?_
  refine wp_seq ?_
  refine wp_region_lit ?_
  refine sl_buildSliceC (zc := [.string (⟨#[]⟩ : ByteArray), .int .i64 0]) (zs := []) (ps := []) (c := []) Try.underlying22 Try.sizeOf43 Try.zeroValue43 rfl pc_nil rfl rfl (by decide) (by kernel_rfl) rfl hS hK (by decide) rfl fun a w b_3 hS hK => ?_
  refine sl hK (by decide) rfl rfl (r_fieldAddr Try.underlying25 rfl Try.sizeOf22 hK rfl) fun a hK => ?_
  refine sl hK (by decide) rfl rfl (r_load Try.isAgg22 hK rfl (hS.cell (.tail _ (.tail _ (.head _))) rfl)) fun a hK => ?_
  obtain ⟨y_6, h_7, H⟩ := bind_some H
  have hS := hS.row_lit (size := 2) (m := 0) rfl (by decide)
  have hq_5 : Reps ty_api_Col R [] ([] : List api_Col) := (Reps.nil _ _)
  refine sl_append_A elT22 (by decide) rfl (fun _ _ _ _ h => h) (hS.ra hRA nil_not) hq_5 rfl h0_0 h_7 hS hK (by decide) rfl rfl rfl fun a w v_8 cs_9 hq_10 hS hK => ?_
  have ho_12 := hS.row_one (.head _)
  refine sl hK (by decide) rfl rfl (r_buildC (ps := [(0, v_8)]) (c := [v_8, .slice none 0 0]) Try.underlying25 Try.zeroValue25 places25 hK rfl (pc_cons (cells1 ho_12) pc_nil) rfl rfl) fun a hK => ?_
  refine sl_alloc Try.zeroValue25 hS hK (by decide) rfl rfl fun a w b_13 hS hK => ?_
  refine sl_storeA (vs := [v_8, .slice none 0 0]) (c' := [v_8, .slice none 0 0]) Try.sizeOf25 hS hK rfl rfl rfl rfl (all_cons (hS.row_one (.tail _ (.head _))) (all_cons rfl (all_nil))) (Nat.le_of_ble_eq_true rfl) rfl fun a w hS hK => ?_
  refine wpList_nil ?_
  refine wp_seq ?_
  refine wp_seq ?_
  refine wp_region_lit ?_
  refine sl hK (by decide) rfl rfl (r_assign hK rfl) fun a hK => ?_
  refine wpList_nil ?_
  refine wp_block ?_
  refine wp_loop_k (fun k_l0 a w => ∃ (x_87 : List (List api_Value)) (x_91 : Int) (R_92 : Hp) (v_88 : Value) (cs_89 : List Value), law02_lent.l0 a0 y_6 k_l0 x_87 x_91 = some r ∧ RLe [] w0 R R_92 ∧ Reps (tySl ty_api_Value) R_92 cs_89 x_87 ∧ Kn 30 a [(1, .pointer (some ⟨b_1, 0, none⟩)), (2, .pointer (some ⟨b_2, 0, none⟩)), (3, .pointer (some ⟨b_13, 0, none⟩)), (4, .int .i64 x_91)] ∧ St [] w0 w R_92 [.cells b_1 [v0_0, v0_1] 25, .cells b_2 [.slice none 0 0, .slice none 0 0] 25, .row 43 2 v_8 y_6.length cs_9, .row 35 1 v_88 x_87.length cs_89, .cells b_13 [v_8, v_88] 25]) (((a0.Rows.length : Int) - 0).toNat + 1) ?_ ?_
  · have hS := hS.row_nil 35 1
    have hq_158 : Reps (tySl ty_api_Value) R [] ([] : List (List api_Value)) := Reps.nil _ _
    have hS := hS.pk1
    have hS := hS.pk1
    have hS := hS.pk2
    have hS := hS.pk3
    have hS := hS.pk4
    exact ⟨[], 0, _, _, _, H, (RLe.refl _ _), hq_158, hK.sub (all_cons rfl (all_cons rfl (all_cons rfl (all_cons rfl (all_nil))))), hS⟩
  · rintro k_l0 a w ⟨x_87, x_91, R_92, v_88, cs_89, H, hl_93, hq_90, hK, hS⟩
    cases k_l0 with
    | zero => cases H
    | succ k_l0 =>
    rw [law02_lent.l0.eq_2] at H
    have hRL := hRL.trans hl_93
    refine wp_seq ?_
    refine wp_seq ?_
    refine wp_region_lit ?_
    refine sl hK (by decide) rfl rfl (r_move hK rfl) fun a hK => ?_
    refine sl hK (by decide) rfl rfl (r_fieldAddr Try.underlying25 rfl Try.sizeOf23 hK rfl) fun a hK => ?_
    refine sl hK (by decide) rfl rfl (r_load Try.isAgg23 hK rfl (hS.cell (.head _) rfl)) fun a hK => ?_
    refine sl hK (by decide) rfl rfl (r_len_R Try.underlying23 h0_1 hK rfl) fun a hK => ?_
    refine sl hK (by decide) rfl rfl (r_ibin hK rfl rfl rfl) fun a hK => ?_
    refine wpList_nil ?_
    refine wp_cond_split (hK.ev rfl) (fun (hb_159 : (decide (x_91 < (a0.Rows.length : Int))) = true) => ?_) (fun (hb_159 : (decide (x_91 < (a0.Rows.length : Int))) = false) => ?_)
    · rw [ifb_t hb_159] at H
      refine wp_skip ?_
      refine wp_seq ?_
      refine wp_block ?_
      refine parT_region (C := fun w => St [] w0 w R_92 [.cells b_1 [v0_0, v0_1] 25, .cells b_2 [.slice none 0 0, .slice none 0 0] 25, .row 43 2 v_8 y_6.length cs_9, .row 35 1 v_88 x_87.length cs_89, .cells b_13 [v_8, v_88] 25]) 10 [(0, true), (1, true), (3, true), (4, true), (5, true), (6, true), (7, true), (2, false), (8, false), (9, false)] mixed (by kernel_rfl) hS (fun w hS => hS) fun w hS => ?_
      refine sp (k := 0) rfl hK (by decide) rfl rfl (fun w hS => r_fieldAddr Try.underlying25 rfl Try.sizeOf23 hK rfl) fun a hK => ?_
      refine sp (k := 1) rfl hK (by decide) rfl rfl (fun w hS => r_load Try.isAgg23 hK rfl (hS.cell (.tail _ (.tail _ (.tail _ (.tail _ (.head _))))) rfl)) fun a hK => ?_
      refine sp (k := 3) rfl hK (by decide) rfl rfl (fun w hS => r_fieldAddr Try.underlying25 rfl Try.sizeOf23 hK rfl) fun a hK => ?_
      refine sp (k := 4) rfl hK (by decide) rfl rfl (fun w hS => r_load Try.isAgg23 hK rfl (hS.cell (.head _) rfl)) fun a hK => ?_
      refine sp (k := 5) rfl hK (by decide) rfl rfl (fun w hS => r_move hK rfl) fun a hK => ?_
      obtain ⟨y_191, h_192, H⟩ := bind_some H
      obtain ⟨b_193, o_194, c_195, cs_196, hv_197, hr_198, hc_199, h_1920, h_1921⟩ := h0_1.ix h_192
      obtain ⟨v_200, rfl, hs_201⟩ := hr_198
      refine sp (k := 6) rfl hK (by decide) rfl rfl (fun w hS => r_indexAddr_R Try.underlying23 Try.sizeOf35 hv_197 h_1920 h_1921 hK rfl rfl) fun a hK => ?_
      refine sp (k := 7) rfl hK (by decide) rfl rfl (fun w hS => r_load Try.isAgg35 hK rfl ((hS.ra hRA nil_not).cell (hc_199 0 _ rfl))) fun a hK => ?_
      refine spw (k := 2) rfl rfl hS ?_
      refine sl_buildSliceC (zc := [.int .i64 0, .int .i64 0, .string (⟨#[]⟩ : ByteArray), .int .i64 0, .int .i64 0, .int .i64 0, .int .i64 0, .int .i64 0, .int .i64 0, .int .i64 0, .int .i64 0]) (zs := []) (ps := []) (c := []) Try.underlying35 Try.sizeOf50 Try.zeroValue50 rfl pc_nil rfl rfl (by decide) (by kernel_rfl) rfl hS hK (by decide) rfl fun a w b_202 hS hK => ?_
      refine parK_nil (hS.pk5.pk5.pk5.pk5.pk5.trunc 5) ?_
      refine spw (k := 8) rfl rfl (hS.pk5.pk5.pk5.pk5.pk5.trunc 5) ?_
      obtain ⟨y_205, h_206, H⟩ := bind_some H
      have hS := hS.row_lit (size := 11) (m := 0) rfl (by decide)
      have hq_204 : Reps ty_api_Value R_92 [] ([] : List api_Value) := (Reps.nil _ _)
      refine sl_append_A elT35 (by decide) rfl (fun _ _ _ _ h => h) (hS.ra hRA nil_not) hq_204 rfl hs_201 h_206 hS hK (by decide) rfl rfl rfl fun a w v_207 cs_208 hq_209 hS hK => ?_
      refine parK_nil (hS.pk5.pk5.pk5.pk5.pk5.trunc 5) ?_
      refine spw (k := 9) rfl rfl (hS.pk5.pk5.pk5.pk5.pk5.trunc 5) ?_
      have ho_211 := hS.row_one (.head _)
      refine sl_buildSliceF (zc := [.slice none 0 0]) (ps := [(0, v_207)]) (c := [v_207]) [[v_207]] Try.underlying23 Try.sizeOf35 Try.zeroValue35 rfl (pc_cons (cells1 ho_211) pc_nil) rfl rfl (Nat.le_of_ble_eq_true rfl) rfl (all_cons rfl (all_nil)) rfl hS hK (by decide) rfl fun a w b_212 hS hK => ?_
      refine parK_nil (hS.pk6.pk6.pk6.pk6.pk6.trunc 5) ?_
      refine thenL_nil ?_
      have hS := hS.pk5
      have hS := hS.pk2
      obtain ⟨R_213, hS, hl_215, hs_214⟩ := hS.fz_row hq_209 rfl rfl
      have hRL := hRL.trans hl_215
      obtain ⟨y_216, h_217, H⟩ := bind_some H
      refine sl_append_L (ty := (tySl ty_api_Value)) (ys := [y_205]) elT23 (by decide) rfl (hq_90.mono hl_215.le) rfl (Reps.cons (show Ty.rep (tySl ty_api_Value) _ [v_207] y_205 from ⟨_, rfl, hs_214⟩) (Reps.nil _ _)) rfl h_217 hS hK (by decide) rfl rfl rfl fun a w v_218 cs_219 hq_220 hS hK => ?_
      refine sl hK (by decide) rfl rfl (r_fieldAddr Try.underlying25 rfl Try.sizeOf23 hK rfl) fun a hK => ?_
      have hS := hS.pk4
      refine sl_store1 (c' := [v_8, v_218]) Try.sizeOf23 hS hK rfl rfl rfl (hS.row_one (.tail _ (.head _))) (Nat.le_of_ble_eq_true rfl) rfl fun a w hS hK => ?_
      refine wpList_nil (NoP_nil ?_)
      refine wp_region_lit ?_
      refine sl hK (by decide) rfl rfl (r_move hK rfl) fun a hK => ?_
      refine sl hK (by decide) rfl rfl (r_ibin hK rfl rfl rfl) fun a hK => ?_
      refine sl hK (by decide) rfl rfl (r_assign hK rfl) fun a hK => ?_
      refine wpList_nil ?_
      have hS := hS.pk1
      have hS := hS.pk4
      have hS := hS.pk4
      have hS := hS.pk4
      exact ⟨_, Nat.lt_succ_self _, y_216, (IntKind.i64.wrap (x_91 + 1)), _, _, _, H, (hl_93.trans hl_215), hq_220, hK.sub (all_cons rfl (all_cons rfl (all_cons rfl (all_cons rfl (all_nil))))), hS⟩
    · rw [ifb_f hb_159] at H
      refine wp_exit ?_
      refine wp_seq ?_
      refine wp_region_lit ?_
      refine sl hK (by decide) rfl rfl (r_loadA (cs := [v_8, v_88]) Try.isAgg25 Try.sizeOf25 rfl hK rfl (hS.cells_of (m := 2) (.tail _ (.tail _ (.tail _ (.tail _ (.head _))))) rfl)) fun a hK => ?_
      have hS := hS.pk1
      refine sl_storeA (vs := [v_8, v_88]) (c' := [v_8, v_88]) Try.sizeOf25 hS hK rfl rfl rfl rfl (all_cons (hS.row_one (.tail _ (.tail _ (.head _)))) (all_cons (hS.row_one (.tail _ (.tail _ (.tail _ (.head _))))) (all_nil))) (Nat.le_of_ble_eq_true rfl) rfl fun a w hS hK => ?_
      refine wpList_nil ?_
      obtain rfl := Option.some.inj H
      refine wp_ret ?_
      repeat (first | refine ret_then ?_ | refine ret_block ?_ | refine ret_scope ?_)
      exact ret_1 Try.results19 hK (rv_cell (c := [v_8, v_88]) Try.isAgg25 Try.sizeOf25 hS (.head _) rfl hK rfl) ⟨_, rfl, _, _, _, _, _, rfl, (hS.pk3.pk3.trunc 2), hRL, (hq_10.mono hl_93.le), hq_90⟩

/-! ### catchment/catchmentlaw02.TableCanon: function 4 -/
set_option maxHeartbeats 4000000 in
set_option maxRecDepth 100000 in
theorem law02_TableCanon.calls (a0 : api_Table) {w0 : World} {R : Hp} {v0_0 : Value} {v0_1 : Value} (hR : R.sub w0) (h0_0 : SlR ty_api_Col R v0_0 a0.Cols) (h0_1 : SlR (tySl ty_api_Value) R v0_1 a0.Rows) (H : law02_TableCanon a0 = some true) : CallsV Try.prog 4 #[.agg #[v0_0, v0_1]] w0 (.bool true) := by
  unfold law02_TableCanon at H
  refine enter (args := [.agg #[v0_0, v0_1]]) Try.func4 rfl Try.ntmps4 rfl fun a hK => ?_
  have hS := St.init hR
  have hRL := RLe.refl (M := []) w0 R
  refine wp_seq ?_
  refine wp_region_lit ?_
  refine sl_box hS hK (by decide) rfl rfl (c := [v0_0, v0_1]) rfl fun a w b_1 hS hK => ?_
  refine sl hK (by decide) rfl rfl (r_assign hK rfl) fun a hK => ?_
  refine wpList_nil ?_
  refine wp_seq ?_
  refine wp_region_lit ?_
  obtain ⟨y_2, h_3, H⟩ := bind_some H
  refine sl_callV Try.call11 hS hK (by decide) rfl rfl rfl (law02_shown.calls h_3 _) fun a w hS hK => ?_
  refine sl hK (by decide) rfl rfl (r_assign hK rfl) fun a hK => ?_
  refine wpList_nil ?_
  refine wp_seq ?_
  refine wp_region_lit ?_
  refine sl hK (by decide) rfl rfl (r_loadA (cs := [v0_0, v0_1]) Try.isAgg25 Try.sizeOf25 rfl hK rfl (hS.cells_of (m := 2) (.head _) rfl)) fun a hK => ?_
  obtain ⟨y_4, h_5, H⟩ := bind_some H
  refine sl_call Try.call12 hK (by decide) rfl rfl rfl (law02_cut.calls a0 hS.sub h0_0 h0_1 h_5) fun a v_ w hv_ hK => ?_
  obtain ⟨R_6, v_8, v_10, hv_, hr_, hl_7, hs_9, hs_11⟩ := hv_
  have hv_ := hv_.symm
  subst hv_
  obtain ⟨hS, hl_7⟩ := hS.sp0.back hr_ hl_7
  have hS := hS.un0
  have hRL := hRL.trans hl_7
  refine sl_storeA (vs := [v_8, v_10]) (c' := [v_8, v_10]) Try.sizeOf25 hS hK rfl rfl rfl rfl (all_cons hs_9.one (all_cons hs_11.one (all_nil))) (Nat.le_of_ble_eq_true rfl) rfl fun a w hS hK => ?_
  refine wpList_nil ?_
  refine wp_seq ?_
  refine wp_region_lit ?_
  refine sl hK (by decide) rfl rfl (r_loadA (cs := [v_8, v_10]) Try.isAgg25 Try.sizeOf25 rfl hK rfl (hS.cells_of (m := 2) (.head _) rfl)) fun a hK => ?_
  obtain ⟨y_12, h_13, H⟩ := bind_some H
  refine sl_call Try.call19 hK (by decide) rfl rfl rfl (law02_lent.calls y_4 (lentOf_sub [] _) hS.sub (hs_9.mono hS.rLe0) (hs_11.mono hS.rLe0) h_13) fun a v_ w hv_ hK => ?_
  obtain ⟨R_14, v_17, cs_18, v_21, cs_22, hv_, hr_, hl_15, hq_19, hq_23⟩ := hv_
  have hv_ := hv_.symm
  subst hv_
  obtain ⟨hS, hl_15⟩ := hS.sp0.back hr_ hl_15
  have hS := hS.un2
  have hRL := hRL.trans hl_15
  refine sl_alloc Try.zeroValue25 hS hK (by decide) rfl rfl fun a w b_24 hS hK => ?_
  refine sl_storeA (vs := [v_17, v_21]) (c' := [v_17, v_21]) Try.sizeOf25 hS hK rfl rfl rfl rfl (all_cons (hS.row_one (.tail _ (.head _))) (all_cons (hS.row_one (.tail _ (.tail _ (.head _)))) (all_nil))) (Nat.le_of_ble_eq_true rfl) rfl fun a w hS hK => ?_
  refine wpList_nil ?_
  refine wp_seq ?_
  refine wp_region_lit ?_
  refine sl hK (by decide) rfl rfl (r_loadA (cs := [v_17, v_21]) Try.isAgg25 Try.sizeOf25 rfl hK rfl (hS.cells_of (m := 2) (.head _) rfl)) fun a hK => ?_
  obtain ⟨y_25, h_26, H⟩ := bind_some H
  refine sl_call Try.call20 hK (by decide) rfl rfl rfl (table_Canon.calls y_12 (lentOf_sub [] _) hS.sub (hS.lend_row0 (.tail _ (.head _)) hq_19 rfl rfl) (hS.lend_row0 (.tail _ (.tail _ (.head _))) hq_23 rfl rfl) h_26) fun a v_ w hv_ hK => ?_
  obtain ⟨R_27, v_30, cs_31, v_34, cs_35, hv_, hr_, hl_28, hq_32, hq_36⟩ := hv_
  have hv_ := hv_.symm
  subst hv_
  obtain ⟨hS, hl_28⟩ := hS.sp0.back hr_ hl_28
  have hS := hS.un2
  have hRL := hRL.trans hl_28
  refine sl_alloc Try.zeroValue25 hS hK (by decide) rfl rfl fun a w b_37 hS hK => ?_
  refine sl_storeA (vs := [v_30, v_34]) (c' := [v_30, v_34]) Try.sizeOf25 hS hK rfl rfl rfl rfl (all_cons (hS.row_one (.tail _ (.head _))) (all_cons (hS.row_one (.tail _ (.tail _ (.head _)))) (all_nil))) (Nat.le_of_ble_eq_true rfl) rfl fun a w hS hK => ?_
  refine wpList_nil ?_
  refine wp_seq ?_
  refine wp_region_lit ?_
  refine sl hK (by decide) rfl rfl (r_loadA (cs := [v_8, v_10]) Try.isAgg25 Try.sizeOf25 rfl hK rfl (hS.cells_of (m := 2) (.tail _ (.tail _ (.tail _ (.tail _ (.tail _ (.tail _ (.head _))))))) rfl)) fun a hK => ?_
  obtain ⟨y_38, h_39, H⟩ := bind_some H
  refine sl_call Try.call21 hK (by decide) rfl rfl rfl (ref02_Canon.calls y_4 hS.sub (hs_9.mono (hl_15.le.trans hl_28.le)) (hs_11.mono (hl_15.le.trans hl_28.le)) h_39) fun a v_ w hv_ hK => ?_
  obtain ⟨R_40, v_43, cs_44, v_47, cs_48, hv_, hr_, hl_41, hq_45, hq_49⟩ := hv_
  have hv_ := hv_.symm
  subst hv_
  obtain ⟨hS, hl_41⟩ := hS.sp0.back hr_ hl_41
  have hS := hS.un2
  have hRL := hRL.trans hl_41
  refine sl_alloc Try.zeroValue25 hS hK (by decide) rfl rfl fun a w b_50 hS hK => ?_
  refine sl_storeA (vs := [v_43, v_47]) (c' := [v_43, v_47]) Try.sizeOf25 hS hK rfl rfl rfl rfl (all_cons (hS.row_one (.tail _ (.head _))) (all_cons (hS.row_one (.tail _ (.tail _ (.head _)))) (all_nil))) (Nat.le_of_ble_eq_true rfl) rfl fun a w hS hK => ?_
  refine wpList_nil ?_
  refine wp_seq ?_
  refine wp_region_lit ?_
  refine sl hK (by decide) rfl rfl (r_loadA (cs := [v_17, v_21]) Try.isAgg25 Try.sizeOf25 rfl hK rfl (hS.cells_of (m := 2) (.tail _ (.tail _ (.tail _ (.tail _ (.tail _ (.tail _ (.head _))))))) rfl)) fun a hK => ?_
  refine sl hK (by decide) rfl rfl (r_loadA (cs := [v_8, v_10]) Try.isAgg25 Try.sizeOf25 rfl hK rfl (hS.cells_of (m := 2) (.tail _ (.tail _ (.tail _ (.tail _ (.tail _ (.tail _ (.tail _ (.tail _ (.tail _ (.head _)))))))))) rfl)) fun a hK => ?_
  obtain ⟨y_51, h_52, H⟩ := bind_some H
  refine sl_callV Try.call22 hS hK (by decide) rfl rfl rfl (ref02_Same.calls y_12 y_4 (lentOf_sub [] _) (hS.lend_row0 (.tail _ (.tail _ (.tail _ (.tail _ (.tail _ (.tail _ (.tail _ (.head _)))))))) (hq_19.mono (hl_28.le.trans hl_41.le)) rfl rfl) (hS.lend_row0 (.tail _ (.tail _ (.tail _ (.tail _ (.tail _ (.tail _ (.tail _ (.tail _ (.head _))))))))) (hq_23.mono (hl_28.le.trans hl_41.le)) rfl rfl) (hs_9.mono ((hl_15.le.trans (hl_28.le.trans hl_41.le)).trans hS.rLe0)) (hs_11.mono ((hl_15.le.trans (hl_28.le.trans hl_41.le)).trans hS.rLe0)) h_52) fun a w hS hK => ?_
  refine sl hK (by decide) rfl rfl (r_assign hK rfl) fun a hK => ?_
  refine wpList_nil ?_
  refine wp_seq ?_
  refine wp_region_lit ?_
  refine sl hK (by decide) rfl rfl (r_loadA (cs := [v_30, v_34]) Try.isAgg25 Try.sizeOf25 rfl hK rfl (hS.cells_of (m := 2) (.tail _ (.tail _ (.tail _ (.head _)))) rfl)) fun a hK => ?_
  refine sl hK (by decide) rfl rfl (r_loadA (cs := [v_43, v_47]) Try.isAgg25 Try.sizeOf25 rfl hK rfl (hS.cells_of (m := 2) (.head _) rfl)) fun a hK => ?_
  obtain ⟨y_53, h_54, H⟩ := bind_some H
  refine sl_callV Try.call22 hS hK (by decide) rfl rfl rfl (ref02_Same.calls y_25 y_38 (lentOf_sub [] _) (hS.lend_row0 (.tail _ (.tail _ (.tail _ (.tail _ (.head _))))) (hq_32.mono hl_41.le) rfl rfl) (hS.lend_row0 (.tail _ (.tail _ (.tail _ (.tail _ (.tail _ (.head _)))))) (hq_36.mono hl_41.le) rfl rfl) (hS.lend_row0 (.tail _ (.head _)) hq_45 rfl rfl) (hS.lend_row0 (.tail _ (.tail _ (.head _))) hq_49 rfl rfl) h_54) fun a w hS hK => ?_
  refine sl hK (by decide) rfl rfl (r_assign hK rfl) fun a hK => ?_
  refine wpList_nil ?_
  refine wp_seq ?_
  refine parT_region (C := fun w => St [] w0 w R_40 [.cells b_50 [v_43, v_47] 25, .row 43 2 v_43 y_38.Cols.length cs_44, .row 35 1 v_47 y_38.Rows.length cs_48, .cells b_37 [v_30, v_34] 25, .row 43 2 v_30 y_25.Cols.length cs_31, .row 35 1 v_34 y_25.Rows.length cs_35, .cells b_24 [v_17, v_21] 25, .row 43 2 v_17 y_12.Cols.length cs_18, .row 35 1 v_21 y_12.Rows.length cs_22, .cells b_1 [v_8, v_10] 25]) 3 [(0, true), (2, true), (1, false)] mixed (by kernel_rfl) hS (fun w hS => hS) fun w hS => ?_
  refine sp (k := 0) rfl hK (by decide) rfl rfl (fun w hS => r_loadA (cs := [v_30, v_34]) Try.isAgg25 Try.sizeOf25 rfl hK rfl (hS.cells_of (m := 2) (.tail _ (.tail _ (.tail _ (.head _)))) rfl)) fun a hK => ?_
  refine sp (k := 2) rfl hK (by decide) rfl rfl (fun w hS => r_loadA (cs := [v_43, v_47]) Try.isAgg25 Try.sizeOf25 rfl hK rfl (hS.cells_of (m := 2) (.head _) rfl)) fun a hK => ?_
  refine spw (k := 1) rfl rfl hS ?_
  obtain ⟨y_69, h_70, H⟩ := bind_some H
  refine sl_call Try.call20 hK (by decide) rfl rfl rfl (table_Canon.calls y_25 (lentOf_sub [] _) hS.sub (hS.lend_row0 (.tail _ (.tail _ (.tail _ (.tail _ (.head _))))) (hq_32.mono hl_41.le) rfl rfl) (hS.lend_row0 (.tail _ (.tail _ (.tail _ (.tail _ (.tail _ (.head _)))))) (hq_36.mono hl_41.le) rfl rfl) h_70) fun a v_ w hv_ hK => ?_
  obtain ⟨R_71, v_74, cs_75, v_78, cs_79, hv_, hr_, hl_72, hq_76, hq_80⟩ := hv_
  have hv_ := hv_.symm
  subst hv_
  obtain ⟨hS, hl_72⟩ := hS.sp0.back hr_ hl_72
  have hS := hS.un2
  have hRL := hRL.trans hl_72
  refine parK_nil ((hS.pk11.pk11.pk11.pk11.pk11.pk11.pk11.pk11.pk11.pk11.trunc 10).lower hl_72.le) ?_
  refine thenL_nil ?_
  obtain ⟨y_81, h_82, H⟩ := bind_some H
  refine sl_callV Try.call22 hS hK (by decide) rfl rfl rfl (ref02_Same.calls y_69 y_38 (lentOf_sub [] _) (hS.lend_row0 (.head _) hq_76 rfl rfl) (hS.lend_row0 (.tail _ (.head _)) hq_80 rfl rfl) (hS.lend_row0 (.tail _ (.tail _ (.tail _ (.head _)))) (hq_45.mono hl_72.le) rfl rfl) (hS.lend_row0 (.tail _ (.tail _ (.tail _ (.tail _ (.head _))))) (hq_49.mono hl_72.le) rfl rfl) h_82) fun a w hS hK => ?_
  refine sl hK (by decide) rfl rfl (r_assign hK rfl) fun a hK => ?_
  refine wpList_nil (NoP_nil ?_)
  refine wp_seq ?_
  refine wp_region_lit ?_
  refine sl hK (by decide) rfl rfl (r_move hK rfl) fun a hK => ?_
  refine sl hK (by decide) rfl rfl (r_move hK rfl) fun a hK => ?_
  rcases or_b y_2 with hb_83 | hb_83
  · rw [ifb_t hb_83] at H
    refine sl hK (by decide) (wtt hb_83) rfl (r_move hK rfl) fun a hK => ?_
    refine sl hK (by decide) rfl rfl (r_pick_t hb_83 hK rfl rfl) fun a hK => ?_
    refine sl hK (by decide) rfl rfl (r_move hK rfl) fun a hK => ?_
    rcases or_b y_53 with hb_84 | hb_84
    · rw [ifb_t hb_84] at H
      refine sl hK (by decide) (wtt hb_84) rfl (r_move hK rfl) fun a hK => ?_
      refine sl hK (by decide) rfl rfl (r_pick_t hb_84 hK rfl rfl) fun a hK => ?_
      refine sl hK (by decide) rfl rfl (r_move hK rfl) fun a hK => ?_
      rcases or_b y_51 with hb_85 | hb_85
      · rw [ifb_t hb_85] at H
        refine sl hK (by decide) (wtt hb_85) rfl (r_move hK rfl) fun a hK => ?_
        refine sl hK (by decide) rfl rfl (r_pick_t hb_85 hK rfl rfl) fun a hK => ?_
        refine sl hK (by decide) rfl rfl (r_assign hK rfl) fun a hK => ?_
        refine wpList_nil ?_
        have hr_ := Option.some.inj H
        refine wp_ret ?_
        repeat (first | refine ret_then ?_ | refine ret_block ?_ | refine ret_scope ?_)
        exact ret_1 Try.results4 hK (rv_tmp hK rfl) ⟨congrArg (fun b => Ending.returned (Value.bool b)) hr_, hS.bel⟩
      · rw [ifb_f hb_85] at H
        refine sl_skip hK (by decide) (wtf hb_85) rfl fun a hK => ?_
        refine sl hK (by decide) rfl rfl (r_pick_f hb_85 hK rfl rfl) fun a hK => ?_
        refine sl hK (by decide) rfl rfl (r_assign hK rfl) fun a hK => ?_
        refine wpList_nil ?_
        exact absurd (Option.some.inj H) (by decide)
    · rw [ifb_f hb_84] at H
      refine sl_skip hK (by decide) (wtf hb_84) rfl fun a hK => ?_
      refine sl hK (by decide) rfl rfl (r_pick_f hb_84 hK rfl rfl) fun a hK => ?_
      refine sl hK (by decide) rfl rfl (r_move hK rfl) fun a hK => ?_
      refine sl_skip hK (by decide) rfl rfl fun a hK => ?_
      refine sl hK (by decide) rfl rfl (r_pick hK rfl rfl rfl) fun a hK => ?_
      refine sl hK (by decide) rfl rfl (r_assign hK rfl) fun a hK => ?_
      refine wpList_nil ?_
      exact absurd (Option.some.inj H) (by decide)
  · rw [ifb_f hb_83] at H
    refine sl_skip hK (by decide) (wtf hb_83) rfl fun a hK => ?_
    refine sl hK (by decide) rfl rfl (r_pick_f hb_83 hK rfl rfl) fun a hK => ?_
    refine sl hK (by decide) rfl rfl (r_move hK rfl) fun a hK => ?_
    refine sl_skip hK (by decide) rfl rfl fun a hK => ?_
    refine sl hK (by decide) rfl rfl (r_pick hK rfl rfl rfl) fun a hK => ?_
    refine sl hK (by decide) rfl rfl (r_move hK rfl) fun a hK => ?_
    refine sl_skip hK (by decide) rfl rfl fun a hK => ?_
    refine sl hK (by decide) rfl rfl (r_pick hK rfl rfl rfl) fun a hK => ?_
    refine sl hK (by decide) rfl rfl (r_assign hK rfl) fun a hK => ?_
    refine wpList_nil ?_
    exact absurd (Option.some.inj H) (by decide)

end Go.Proofs.Ytojfckndloelpaa.M
