/- Each Go function of the laws answers as its plain Lean function tells, wherever that tells something. Printed by wip/eng/gen.py. -/
import Derived.Test.YtojfckndloelpaaWalk2
namespace Go.Proofs.Ytojfckndloelpaa.M
open Go Go.Eng Go.Proofs Go.RowKit
set_option linter.unusedVariables false
set_option linter.unusedSimpArgs false

/-! ### catchment/catchmentref02.Union: function 25 -/
set_option maxHeartbeats 4000000 in
set_option maxRecDepth 100000 in
theorem ref02_Union.calls (a0 : api_Table) (a1 : api_Table) {w0 : World} {R : Hp} {v0_0 : Value} {v0_1 : Value} {v1_0 : Value} {v1_1 : Value} (hR : R.sub w0) (h0_0 : SlR ty_api_Col R v0_0 a0.Cols) (h0_1 : SlR (tySl ty_api_Value) R v0_1 a0.Rows) (h1_0 : SlR ty_api_Col R v1_0 a1.Cols) (h1_1 : SlR (tySl ty_api_Value) R v1_1 a1.Rows) {r : api_Table × Int} (H : ref02_Union a0 a1 = some r) : Calls Try.prog 25 #[.agg #[v0_0, v0_1], .agg #[v1_0, v1_1]] w0 (Rets fun v w' => ∃ (R' : Hp) (u0 : Value) (cu0 : List Value) (u1 : Value) (cu1 : List Value), v = .tuple #[.agg #[u0, u1], .int .i64 r.2] ∧ St [] w0 w' R' [.row 43 2 u0 r.1.Cols.length cu0, .row 35 1 u1 r.1.Rows.length cu1] ∧ RLe [] w0 R R' ∧ Reps ty_api_Col R' cu0 r.1.Cols ∧ Reps (tySl ty_api_Value) R' cu1 r.1.Rows) := by
  unfold ref02_Union at H
  refine enter (args := [.agg #[v0_0, v0_1], .agg #[v1_0, v1_1]]) Try.func25 rfl Try.ntmps25 rfl fun a hK => ?_
  have hS := St.init hR
  have hRL := RLe.refl (M := []) w0 R
  refine wp_seq ?_
  refine wp_region_lit ?_
  refine sl_box hS hK (by decide) rfl rfl (c := [v0_0, v0_1]) rfl fun a w b_1 hS hK => ?_
  refine sl_box hS hK (by decide) rfl rfl (c := [v1_0, v1_1]) rfl fun a w b_2 hS hK => ?_
  refine sl_alloc Try.zeroValue25 hS hK (by decide) rfl rfl fun a w b_3 hS hK => ?_
  refine sl hK (by decide) rfl rfl (r_assign hK rfl) fun a hK => ?_
  refine wpList_nil ?_
  refine wp_seq ?_
  refine wp_region_lit ?_
  refine sl hK (by decide) rfl rfl (r_loadA (cs := [v0_0, v0_1]) Try.isAgg25 Try.sizeOf25 rfl hK rfl (hS.cells_of (m := 2) (.tail _ (.tail _ (.head _))) rfl)) fun a hK => ?_
  obtain ⟨y_4, h_5, H⟩ := bind_some H
  refine sl_callV Try.call14 hS hK (by decide) rfl rfl rfl (ref02_Check.calls a0 (lentOf_sub [] _) (h0_0.mono hS.rLe0) (h0_1.mono hS.rLe0) h_5) fun a w hS hK => ?_
  refine sl hK (by decide) rfl rfl (r_assign hK rfl) fun a hK => ?_
  refine wpList_nil ?_
  refine wp_seq ?_
  refine wp_seq ?_
  refine wp_region_lit ?_
  refine sl hK (by decide) rfl rfl (r_move hK rfl) fun a hK => ?_
  refine sl hK (by decide) rfl rfl (r_ibin hK rfl rfl rfl) fun a hK => ?_
  refine wpList_nil ?_
  refine wp_mid (fun a w => ∃ (x_9 : Int), ref02_Union.j0 a0 a1 x_9 = some r ∧ Kn 35 a [(2, .pointer (some ⟨b_1, 0, none⟩)), (3, .pointer (some ⟨b_2, 0, none⟩)), (4, .pointer (some ⟨b_3, 0, none⟩)), (6, .int .i64 x_9)] ∧ St [] w0 w R [.cells b_1 [v0_0, v0_1] 25, .cells b_2 [v1_0, v1_1] 25, .cells b_3 [.slice none 0 0, .slice none 0 0] 25]) ?_ ?_
  · refine wp_cond_split (hK.ev rfl) (fun (hb_11 : (y_4 == 0) = true) => ?_) (fun (hb_11 : (y_4 == 0) = false) => ?_)
    · rw [ifb_t hb_11] at H
      refine wp_region_lit ?_
      refine sl hK (by decide) rfl rfl (r_loadA (cs := [v1_0, v1_1]) Try.isAgg25 Try.sizeOf25 rfl hK rfl (hS.cells_of (m := 2) (.tail _ (.head _)) rfl)) fun a hK => ?_
      obtain ⟨y_12, h_13, H⟩ := bind_some H
      refine sl_callV Try.call14 hS hK (by decide) rfl rfl rfl (ref02_Check.calls a1 (lentOf_sub [] _) (h1_0.mono hS.rLe0) (h1_1.mono hS.rLe0) h_13) fun a w hS hK => ?_
      refine sl hK (by decide) rfl rfl (r_assign hK rfl) fun a hK => ?_
      refine wpList_nil ?_
      have hS := hS.pk1
      have hS := hS.pk2
      exact ⟨y_12, H, hK.sub (all_cons rfl (all_cons rfl (all_cons rfl (all_cons rfl (all_nil))))), hS⟩
    · rw [ifb_f hb_11] at H
      refine wp_skip ?_
      have hS := hS.pk1
      have hS := hS.pk2
      exact ⟨y_4, H, hK.sub (all_cons rfl (all_cons rfl (all_cons rfl (all_cons rfl (all_nil))))), hS⟩
  · rintro a w ⟨x_9, H, hK, hS⟩
    unfold ref02_Union.j0 at H
    refine wp_seq ?_
    refine wp_seq ?_
    refine wp_region_lit ?_
    refine sl hK (by decide) rfl rfl (r_move hK rfl) fun a hK => ?_
    refine sl hK (by decide) rfl rfl (r_ibin hK rfl rfl rfl) fun a hK => ?_
    refine wpList_nil ?_
    refine wp_cond_split (hK.ev rfl) (fun (hb_14 : (x_9 != 0) = true) => ?_) (fun (hb_14 : (x_9 != 0) = false) => ?_)
    · rw [ifb_t hb_14] at H
      refine wp_seq ?_
      refine wp_region_lit ?_
      refine sl hK (by decide) rfl rfl (r_buildC (ps := []) (c := [.slice none 0 0, .slice none 0 0]) Try.underlying25 Try.zeroValue25 places25 hK rfl pc_nil rfl rfl) fun a hK => ?_
      refine sl hK (by decide) rfl rfl (r_move hK rfl) fun a hK => ?_
      have hS := hS.pk2
      refine sl_storeA (vs := [.slice none 0 0, .slice none 0 0]) (c' := [.slice none 0 0, .slice none 0 0]) Try.sizeOf25 hS hK rfl rfl rfl rfl (all_cons rfl (all_cons rfl (all_nil))) (Nat.le_of_ble_eq_true rfl) rfl fun a w hS hK => ?_
      refine sl hK (by decide) rfl rfl (r_assign hK rfl) fun a hK => ?_
      refine wpList_nil ?_
      have hS := hS.row_nil 43 2
      have hq_16 : Reps ty_api_Col R [] ([] : List api_Col) := Reps.nil _ _
      have hS := hS.row_nil 35 1
      have hq_18 : Reps (tySl ty_api_Value) R [] ([] : List (List api_Value)) := Reps.nil _ _
      obtain rfl := Option.some.inj H
      refine wp_ret ?_
      repeat (first | refine ret_then ?_ | refine ret_block ?_ | refine ret_scope ?_)
      exact ret_2 Try.results25 hK (rv_cell (c := [(.slice none 0 0), (.slice none 0 0)]) Try.isAgg25 Try.sizeOf25 hS (.tail _ (.tail _ (.head _))) rfl hK rfl) (rv_tmp hK rfl) ⟨_, rfl, _, _, _, _, _, rfl, (hS.pk1.trunc 2), hRL, hq_16, hq_18⟩
    · rw [ifb_f hb_14] at H
      refine wp_skip ?_
      refine wp_seq ?_
      refine wp_seq ?_
      refine wp_region_lit ?_
      refine sl hK (by decide) rfl rfl (r_fieldAddr Try.underlying25 rfl Try.sizeOf22 hK rfl) fun a hK => ?_
      refine sl hK (by decide) rfl rfl (r_load Try.isAgg22 hK rfl (hS.cell (.head _) rfl)) fun a hK => ?_
      refine sl hK (by decide) rfl rfl (r_fieldAddr Try.underlying25 rfl Try.sizeOf22 hK rfl) fun a hK => ?_
      refine sl hK (by decide) rfl rfl (r_load Try.isAgg22 hK rfl (hS.cell (.tail _ (.head _)) rfl)) fun a hK => ?_
      obtain ⟨y_19, h_20, H⟩ := bind_some H
      refine sl_callV Try.call40 hS hK (by decide) rfl rfl rfl (ref02_SameCols.calls a0.Cols a1.Cols (lentOf_sub [] _) (h0_0.mono hS.rLe0) (h1_0.mono hS.rLe0) h_20) fun a w hS hK => ?_
      refine sl hK (by decide) rfl rfl (r_un hK rfl (u_not _)) fun a hK => ?_
      refine wpList_nil ?_
      refine wp_cond_split (hK.ev rfl) (fun (hb_21 : (!y_19) = true) => ?_) (fun (hb_21 : (!y_19) = false) => ?_)
      · rw [ifb_t hb_21] at H
        refine wp_seq ?_
        refine wp_region_lit ?_
        refine sl hK (by decide) rfl rfl (r_buildC (ps := []) (c := [.slice none 0 0, .slice none 0 0]) Try.underlying25 Try.zeroValue25 places25 hK rfl pc_nil rfl rfl) fun a hK => ?_
        have hS := hS.pk2
        refine sl_storeA (vs := [.slice none 0 0, .slice none 0 0]) (c' := [.slice none 0 0, .slice none 0 0]) Try.sizeOf25 hS hK rfl rfl rfl rfl (all_cons rfl (all_cons rfl (all_nil))) (Nat.le_of_ble_eq_true rfl) rfl fun a w hS hK => ?_
        refine sl hK (by decide) rfl rfl (r_assign hK rfl) fun a hK => ?_
        refine wpList_nil ?_
        have hS := hS.row_nil 43 2
        have hq_23 : Reps ty_api_Col R [] ([] : List api_Col) := Reps.nil _ _
        have hS := hS.row_nil 35 1
        have hq_25 : Reps (tySl ty_api_Value) R [] ([] : List (List api_Value)) := Reps.nil _ _
        obtain rfl := Option.some.inj H
        refine wp_ret ?_
        repeat (first | refine ret_then ?_ | refine ret_block ?_ | refine ret_scope ?_)
        exact ret_2 Try.results25 hK (rv_cell (c := [(.slice none 0 0), (.slice none 0 0)]) Try.isAgg25 Try.sizeOf25 hS (.tail _ (.tail _ (.head _))) rfl hK rfl) (rv_tmp hK rfl) ⟨_, rfl, _, _, _, _, _, rfl, (hS.pk1.trunc 2), hRL, hq_23, hq_25⟩
      · rw [ifb_f hb_21] at H
        refine wp_skip ?_
        refine wp_seq ?_
        refine parT_region (C := fun w => St [] w0 w R [.cells b_1 [v0_0, v0_1] 25, .cells b_2 [v1_0, v1_1] 25, .cells b_3 [.slice none 0 0, .slice none 0 0] 25]) 9 [(0, true), (1, true), (3, true), (4, true), (6, true), (7, true), (2, false), (5, false), (8, false)] mixed (by kernel_rfl) hS (fun w hS => hS) fun w hS => ?_
        refine sp (k := 0) rfl hK (by decide) rfl rfl (fun w hS => r_fieldAddr Try.underlying25 rfl Try.sizeOf22 hK rfl) fun a hK => ?_
        refine sp (k := 1) rfl hK (by decide) rfl rfl (fun w hS => r_load Try.isAgg22 hK rfl (hS.cell (.head _) rfl)) fun a hK => ?_
        refine sp (k := 3) rfl hK (by decide) rfl rfl (fun w hS => r_fieldAddr Try.underlying25 rfl Try.sizeOf23 hK rfl) fun a hK => ?_
        refine sp (k := 4) rfl hK (by decide) rfl rfl (fun w hS => r_load Try.isAgg23 hK rfl (hS.cell (.head _) rfl)) fun a hK => ?_
        refine sp (k := 6) rfl hK (by decide) rfl rfl (fun w hS => r_fieldAddr Try.underlying25 rfl Try.sizeOf23 hK rfl) fun a hK => ?_
        refine sp (k := 7) rfl hK (by decide) rfl rfl (fun w hS => r_load Try.isAgg23 hK rfl (hS.cell (.tail _ (.head _)) rfl)) fun a hK => ?_
        refine spw (k := 2) rfl rfl hS ?_
        refine sl_buildSliceC (zc := [.slice none 0 0]) (zs := []) (ps := []) (c := []) Try.underlying23 Try.sizeOf35 Try.zeroValue35 rfl pc_nil rfl rfl (by decide) (by kernel_rfl) rfl hS hK (by decide) rfl fun a w b_57 hS hK => ?_
        refine parK_nil (hS.pk3.pk3.pk3.trunc 3) ?_
        refine spw (k := 5) rfl rfl (hS.pk3.pk3.pk3.trunc 3) ?_
        obtain ⟨y_60, h_61, H⟩ := bind_some H
        have hS := hS.row_lit (size := 1) (m := 0) rfl (by decide)
        have hq_59 : Reps (tySl ty_api_Value) R [] ([] : List (List api_Value)) := (Reps.nil _ _)
        refine sl_append_R elT23 (by decide) rfl hq_59 rfl h0_1 h_61 hS hK (by decide) rfl rfl rfl fun a w v_62 cs_63 hq_64 hS hK => ?_
        refine parK_nil (hS.pk3.pk3.pk3.trunc 3) ?_
        refine spw (k := 8) rfl rfl (hS.pk3.pk3.pk3.trunc 3) ?_
        obtain ⟨y_66, h_67, H⟩ := bind_some H
        refine sl_append_R elT23 (by decide) rfl hq_64 rfl h1_1 h_67 hS hK (by decide) rfl rfl rfl fun a w v_68 cs_69 hq_70 hS hK => ?_
        refine parK_nil (hS.pk3.pk3.pk3.trunc 3) ?_
        refine thenL_nil ?_
        have ho_72 := hS.row_one (.head _)
        refine sl hK (by decide) rfl rfl (r_buildC (ps := [(0, v0_0), (1, v_68)]) (c := [v0_0, v_68]) Try.underlying25 Try.zeroValue25 places25 hK rfl (pc_cons (cells1 h0_0.one) (pc_cons (cells1 ho_72) pc_nil)) rfl rfl) fun a hK => ?_
        obtain ⟨R_73, hS, hl_75, hs_74⟩ := hS.fz_row hq_70 rfl rfl
        have hRL := hRL.trans hl_75
        obtain ⟨y_76, h_77, H⟩ := bind_some H
        refine sl_call Try.call21 hK (by decide) rfl rfl rfl (ref02_Canon.calls (⟨a0.Cols, y_66⟩ : api_Table) hS.sub (h0_0.mono hl_75.le) hs_74 h_77) fun a v_ w hv_ hK => ?_
        obtain ⟨R_78, v_81, cs_82, v_85, cs_86, hv_, hr_, hl_79, hq_83, hq_87⟩ := hv_
        have hv_ := hv_.symm
        subst hv_
        obtain ⟨hS, hl_79⟩ := hS.sp0.back hr_ hl_79
        have hS := hS.un2
        have hRL := hRL.trans hl_79
        have hS := hS.pk4
        refine sl_storeA (vs := [v_81, v_85]) (c' := [v_81, v_85]) Try.sizeOf25 hS hK rfl rfl rfl rfl (all_cons (hS.row_one (.tail _ (.head _))) (all_cons (hS.row_one (.tail _ (.tail _ (.head _)))) (all_nil))) (Nat.le_of_ble_eq_true rfl) rfl fun a w hS hK => ?_
        refine sl hK (by decide) rfl rfl (r_assign hK rfl) fun a hK => ?_
        refine wpList_nil (NoP_nil ?_)
        obtain rfl := Option.some.inj H
        refine wp_ret ?_
        repeat (first | refine ret_then ?_ | refine ret_block ?_ | refine ret_scope ?_)
        exact ret_2 Try.results25 hK (rv_cell (c := [v_81, v_85]) Try.isAgg25 Try.sizeOf25 hS (.head _) rfl hK rfl) (rv_tmp hK rfl) ⟨_, rfl, _, _, _, _, _, rfl, (hS.pk2.pk2.trunc 2), hRL, hq_83, hq_87⟩

/-! ### catchment/catchmentlaw02.TableUnions: function 7 -/
set_option maxHeartbeats 4000000 in
set_option maxRecDepth 100000 in
theorem law02_TableUnions.calls (a0 : api_Table) (a1 : api_Table) {w0 : World} {R : Hp} {v0_0 : Value} {v0_1 : Value} {v1_0 : Value} {v1_1 : Value} (hR : R.sub w0) (h0_0 : SlR ty_api_Col R v0_0 a0.Cols) (h0_1 : SlR (tySl ty_api_Value) R v0_1 a0.Rows) (h1_0 : SlR ty_api_Col R v1_0 a1.Cols) (h1_1 : SlR (tySl ty_api_Value) R v1_1 a1.Rows) (H : law02_TableUnions a0 a1 = some true) : CallsV Try.prog 7 #[.agg #[v0_0, v0_1], .agg #[v1_0, v1_1]] w0 (.bool true) := by
  unfold law02_TableUnions at H
  refine enter (args := [.agg #[v0_0, v0_1], .agg #[v1_0, v1_1]]) Try.func7 rfl Try.ntmps7 rfl fun a hK => ?_
  have hS := St.init hR
  have hRL := RLe.refl (M := []) w0 R
  refine wp_seq ?_
  refine wp_region_lit ?_
  refine sl_box hS hK (by decide) rfl rfl (c := [v0_0, v0_1]) rfl fun a w b_1 hS hK => ?_
  refine sl_box hS hK (by decide) rfl rfl (c := [v1_0, v1_1]) rfl fun a w b_2 hS hK => ?_
  refine sl hK (by decide) rfl rfl (r_assign hK rfl) fun a hK => ?_
  refine wpList_nil ?_
  refine wp_seq ?_
  refine wp_region_lit ?_
  obtain ⟨y_3, h_4, H⟩ := bind_some H
  refine sl_callV Try.call11 hS hK (by decide) rfl rfl rfl (law02_shown.calls h_4 _) fun a w hS hK => ?_
  refine sl hK (by decide) rfl rfl (r_assign hK rfl) fun a hK => ?_
  refine wpList_nil ?_
  refine wp_seq ?_
  refine wp_region_lit ?_
  refine sl hK (by decide) rfl rfl (r_loadA (cs := [v0_0, v0_1]) Try.isAgg25 Try.sizeOf25 rfl hK rfl (hS.cells_of (m := 2) (.tail _ (.head _)) rfl)) fun a hK => ?_
  obtain ⟨y_5, h_6, H⟩ := bind_some H
  refine sl_call Try.call12 hK (by decide) rfl rfl rfl (law02_cut.calls a0 hS.sub h0_0 h0_1 h_6) fun a v_ w hv_ hK => ?_
  obtain ⟨R_7, v_9, v_11, hv_, hr_, hl_8, hs_10, hs_12⟩ := hv_
  have hv_ := hv_.symm
  subst hv_
  obtain ⟨hS, hl_8⟩ := hS.sp0.back hr_ hl_8
  have hS := hS.un0
  have hRL := hRL.trans hl_8
  have hS := hS.pk1
  refine sl_storeA (vs := [v_9, v_11]) (c' := [v_9, v_11]) Try.sizeOf25 hS hK rfl rfl rfl rfl (all_cons hs_10.one (all_cons hs_12.one (all_nil))) (Nat.le_of_ble_eq_true rfl) rfl fun a w hS hK => ?_
  refine wpList_nil ?_
  refine wp_seq ?_
  refine wp_region_lit ?_
  refine sl hK (by decide) rfl rfl (r_loadA (cs := [v1_0, v1_1]) Try.isAgg25 Try.sizeOf25 rfl hK rfl (hS.cells_of (m := 2) (.tail _ (.head _)) rfl)) fun a hK => ?_
  obtain ⟨y_13, h_14, H⟩ := bind_some H
  refine sl_call Try.call12 hK (by decide) rfl rfl rfl (law02_cut.calls a1 hS.sub (h1_0.mono hl_8.le) (h1_1.mono hl_8.le) h_14) fun a v_ w hv_ hK => ?_
  obtain ⟨R_15, v_17, v_19, hv_, hr_, hl_16, hs_18, hs_20⟩ := hv_
  have hv_ := hv_.symm
  subst hv_
  obtain ⟨hS, hl_16⟩ := hS.sp0.back hr_ hl_16
  have hS := hS.un0
  have hRL := hRL.trans hl_16
  have hS := hS.pk1
  refine sl_storeA (vs := [v_17, v_19]) (c' := [v_17, v_19]) Try.sizeOf25 hS hK rfl rfl rfl rfl (all_cons hs_18.one (all_cons hs_20.one (all_nil))) (Nat.le_of_ble_eq_true rfl) rfl fun a w hS hK => ?_
  refine wpList_nil ?_
  refine wp_seq ?_
  refine wp_region_lit ?_
  refine sl hK (by decide) rfl rfl (r_loadA (cs := [v_9, v_11]) Try.isAgg25 Try.sizeOf25 rfl hK rfl (hS.cells_of (m := 2) (.tail _ (.head _)) rfl)) fun a hK => ?_
  refine sl hK (by decide) rfl rfl (r_loadA (cs := [v_17, v_19]) Try.isAgg25 Try.sizeOf25 rfl hK rfl (hS.cells_of (m := 2) (.head _) rfl)) fun a hK => ?_
  obtain ⟨y_21, h_22, H⟩ := bind_some H
  refine sl_call Try.call24 hK (by decide) rfl rfl rfl (table_Union.calls y_5 y_13 hS.sub (hs_10.mono hl_16.le) (hs_12.mono hl_16.le) hs_18 hs_20 h_22) fun a v_ w hv_ hK => ?_
  obtain ⟨R_23, v_26, cs_27, v_30, cs_31, hv_, hr_, hl_24, hq_28, hq_32⟩ := hv_
  have hv_ := hv_.symm
  subst hv_
  obtain ⟨hS, hl_24⟩ := hS.sp0.back hr_ hl_24
  have hS := hS.un2
  have hRL := hRL.trans hl_24
  refine sl hK (by decide) rfl rfl (r_move hK rfl) fun a hK => ?_
  refine sl hK (by decide) rfl rfl (r_extract hK rfl rfl) fun a hK => ?_
  refine sl hK (by decide) rfl rfl (r_extract hK rfl rfl) fun a hK => ?_
  refine sl_alloc Try.zeroValue25 hS hK (by decide) rfl rfl fun a w b_33 hS hK => ?_
  refine sl_storeA (vs := [v_26, v_30]) (c' := [v_26, v_30]) Try.sizeOf25 hS hK rfl rfl rfl rfl (all_cons (hS.row_one (.tail _ (.head _))) (all_cons (hS.row_one (.tail _ (.tail _ (.head _)))) (all_nil))) (Nat.le_of_ble_eq_true rfl) rfl fun a w hS hK => ?_
  refine sl hK (by decide) rfl rfl (r_assign hK rfl) fun a hK => ?_
  refine wpList_nil ?_
  refine wp_seq ?_
  refine wp_region_lit ?_
  refine sl hK (by decide) rfl rfl (r_loadA (cs := [v_9, v_11]) Try.isAgg25 Try.sizeOf25 rfl hK rfl (hS.cells_of (m := 2) (.tail _ (.tail _ (.tail _ (.tail _ (.head _))))) rfl)) fun a hK => ?_
  refine sl hK (by decide) rfl rfl (r_loadA (cs := [v_17, v_19]) Try.isAgg25 Try.sizeOf25 rfl hK rfl (hS.cells_of (m := 2) (.tail _ (.tail _ (.tail _ (.head _)))) rfl)) fun a hK => ?_
  obtain ⟨y_34, h_35, H⟩ := bind_some H
  refine sl_call Try.call25 hK (by decide) rfl rfl rfl (ref02_Union.calls y_5 y_13 hS.sub (hs_10.mono (hl_16.le.trans hl_24.le)) (hs_12.mono (hl_16.le.trans hl_24.le)) (hs_18.mono hl_24.le) (hs_20.mono hl_24.le) h_35) fun a v_ w hv_ hK => ?_
  obtain ⟨R_36, v_39, cs_40, v_43, cs_44, hv_, hr_, hl_37, hq_41, hq_45⟩ := hv_
  have hv_ := hv_.symm
  subst hv_
  obtain ⟨hS, hl_37⟩ := hS.sp0.back hr_ hl_37
  have hS := hS.un2
  have hRL := hRL.trans hl_37
  refine sl hK (by decide) rfl rfl (r_move hK rfl) fun a hK => ?_
  refine sl hK (by decide) rfl rfl (r_extract hK rfl rfl) fun a hK => ?_
  refine sl hK (by decide) rfl rfl (r_extract hK rfl rfl) fun a hK => ?_
  refine sl_alloc Try.zeroValue25 hS hK (by decide) rfl rfl fun a w b_46 hS hK => ?_
  refine sl_storeA (vs := [v_39, v_43]) (c' := [v_39, v_43]) Try.sizeOf25 hS hK rfl rfl rfl rfl (all_cons (hS.row_one (.tail _ (.head _))) (all_cons (hS.row_one (.tail _ (.tail _ (.head _)))) (all_nil))) (Nat.le_of_ble_eq_true rfl) rfl fun a w hS hK => ?_
  refine sl hK (by decide) rfl rfl (r_assign hK rfl) fun a hK => ?_
  refine wpList_nil ?_
  refine wp_seq ?_
  refine wp_region_lit ?_
  refine sl hK (by decide) rfl rfl (r_loadA (cs := [v_26, v_30]) Try.isAgg25 Try.sizeOf25 rfl hK rfl (hS.cells_of (m := 2) (.tail _ (.tail _ (.tail _ (.head _)))) rfl)) fun a hK => ?_
  refine sl hK (by decide) rfl rfl (r_loadA (cs := [v_39, v_43]) Try.isAgg25 Try.sizeOf25 rfl hK rfl (hS.cells_of (m := 2) (.head _) rfl)) fun a hK => ?_
  obtain ⟨y_47, h_48, H⟩ := bind_some H
  refine sl_callV Try.call22 hS hK (by decide) rfl rfl rfl (ref02_Same.calls y_21.1 y_34.1 (lentOf_sub [] _) (hS.lend_row0 (.tail _ (.tail _ (.tail _ (.tail _ (.head _))))) (hq_28.mono hl_37.le) rfl rfl) (hS.lend_row0 (.tail _ (.tail _ (.tail _ (.tail _ (.tail _ (.head _)))))) (hq_32.mono hl_37.le) rfl rfl) (hS.lend_row0 (.tail _ (.head _)) hq_41 rfl rfl) (hS.lend_row0 (.tail _ (.tail _ (.head _))) hq_45 rfl rfl) h_48) fun a w hS hK => ?_
  refine sl hK (by decide) rfl rfl (r_assign hK rfl) fun a hK => ?_
  refine wpList_nil ?_
  refine wp_seq ?_
  refine wp_seq ?_
  refine wp_region_lit ?_
  refine sl hK (by decide) rfl rfl (r_move hK rfl) fun a hK => ?_
  refine sl hK (by decide) rfl rfl (r_ibin hK rfl rfl rfl) fun a hK => ?_
  refine wpList_nil ?_
  refine wp_mid (fun a w => ∃ (R_70 : Hp), law02_TableUnions.j0 y_3 y_21 y_34 y_47 = some true ∧ RLe [] w0 R_36 R_70 ∧ Kn 60 a [(5, .bool y_3), (7, .int .i64 y_21.2), (9, .int .i64 y_34.2), (10, .bool y_47)] ∧ St [] w0 w R_70 []) ?_ ?_
  · refine wp_cond_split (hK.ev rfl) (fun (hb_72 : (y_21.2 == 0) = true) => ?_) (fun (hb_72 : (y_21.2 == 0) = false) => ?_)
    · rw [ifb_t hb_72] at H
      refine wp_seq ?_
      refine wp_region_lit ?_
      refine sl hK (by decide) rfl rfl (r_loadA (cs := [v_17, v_19]) Try.isAgg25 Try.sizeOf25 rfl hK rfl (hS.cells_of (m := 2) (.tail _ (.tail _ (.tail _ (.tail _ (.tail _ (.tail _ (.head _))))))) rfl)) fun a hK => ?_
      refine sl hK (by decide) rfl rfl (r_loadA (cs := [v_9, v_11]) Try.isAgg25 Try.sizeOf25 rfl hK rfl (hS.cells_of (m := 2) (.tail _ (.tail _ (.tail _ (.tail _ (.tail _ (.tail _ (.tail _ (.head _)))))))) rfl)) fun a hK => ?_
      obtain ⟨y_73, h_74, H⟩ := bind_some H
      refine sl_call Try.call24 hK (by decide) rfl rfl rfl (table_Union.calls y_13 y_5 hS.sub (hs_18.mono (hl_24.le.trans hl_37.le)) (hs_20.mono (hl_24.le.trans hl_37.le)) (hs_10.mono (hl_16.le.trans (hl_24.le.trans hl_37.le))) (hs_12.mono (hl_16.le.trans (hl_24.le.trans hl_37.le))) h_74) fun a v_ w hv_ hK => ?_
      obtain ⟨R_75, v_78, cs_79, v_82, cs_83, hv_, hr_, hl_76, hq_80, hq_84⟩ := hv_
      have hv_ := hv_.symm
      subst hv_
      obtain ⟨hS, hl_76⟩ := hS.sp0.back hr_ hl_76
      have hS := hS.un2
      have hRL := hRL.trans hl_76
      refine sl hK (by decide) rfl rfl (r_move hK rfl) fun a hK => ?_
      refine sl hK (by decide) rfl rfl (r_extract hK rfl rfl) fun a hK => ?_
      refine sl hK (by decide) rfl rfl (r_extract hK rfl rfl) fun a hK => ?_
      refine sl_alloc Try.zeroValue25 hS hK (by decide) rfl rfl fun a w b_85 hS hK => ?_
      refine sl_storeA (vs := [v_78, v_82]) (c' := [v_78, v_82]) Try.sizeOf25 hS hK rfl rfl rfl rfl (all_cons (hS.row_one (.tail _ (.head _))) (all_cons (hS.row_one (.tail _ (.tail _ (.head _)))) (all_nil))) (Nat.le_of_ble_eq_true rfl) rfl fun a w hS hK => ?_
      refine sl hK (by decide) rfl rfl (r_assign hK rfl) fun a hK => ?_
      refine wpList_nil ?_
      refine wp_seq ?_
      refine wp_region_lit ?_
      refine sl hK (by decide) rfl rfl (r_loadA (cs := [v_26, v_30]) Try.isAgg25 Try.sizeOf25 rfl hK rfl (hS.cells_of (m := 2) (.tail _ (.tail _ (.tail _ (.tail _ (.tail _ (.tail _ (.head _))))))) rfl)) fun a hK => ?_
      refine sl hK (by decide) rfl rfl (r_loadA (cs := [v_78, v_82]) Try.isAgg25 Try.sizeOf25 rfl hK rfl (hS.cells_of (m := 2) (.head _) rfl)) fun a hK => ?_
      obtain ⟨y_86, h_87, H⟩ := bind_some H
      refine sl_callV Try.call22 hS hK (by decide) rfl rfl rfl (ref02_Same.calls y_21.1 y_73.1 (lentOf_sub [] _) (hS.lend_row0 (.tail _ (.tail _ (.tail _ (.tail _ (.tail _ (.tail _ (.tail _ (.head _)))))))) (hq_28.mono (hl_37.le.trans hl_76.le)) rfl rfl) (hS.lend_row0 (.tail _ (.tail _ (.tail _ (.tail _ (.tail _ (.tail _ (.tail _ (.tail _ (.head _))))))))) (hq_32.mono (hl_37.le.trans hl_76.le)) rfl rfl) (hS.lend_row0 (.tail _ (.head _)) hq_80 rfl rfl) (hS.lend_row0 (.tail _ (.tail _ (.head _))) hq_84 rfl rfl) h_87) fun a w hS hK => ?_
      refine sl hK (by decide) rfl rfl (r_assign hK rfl) fun a hK => ?_
      refine wpList_nil ?_
      refine wp_seq ?_
      refine wp_mid (fun a w => ∃ (x_89 : Bool), law02_TableUnions.j1 y_3 y_21 y_34 y_47 x_89 = some true ∧ Kn 60 a [(5, .bool y_3), (7, .int .i64 y_21.2), (9, .int .i64 y_34.2), (10, .bool y_47), (50, .bool x_89)] ∧ St [] w0 w R_75 []) ?_ ?_
      · refine wp_region_lit ?_
        refine sl hK (by decide) rfl rfl (r_move hK rfl) fun a hK => ?_
        refine sl hK (by decide) rfl rfl (r_ibin hK rfl rfl rfl) fun a hK => ?_
        refine sl hK (by decide) rfl rfl (r_move hK rfl) fun a hK => ?_
        rcases or_b (y_73.2 != 0) with hb_91 | hb_91
        · rw [ifb_t hb_91] at H
          refine sl_skip hK (by decide) (wft hb_91) rfl fun a hK => ?_
          refine sl_skip hK (by decide) (wft hb_91) rfl fun a hK => ?_
          refine sl hK (by decide) rfl rfl (r_pick_t hb_91 hK rfl rfl) fun a hK => ?_
          refine wpList_nil ?_
          exact ⟨true, H, hK.sub (all_cons rfl (all_cons rfl (all_cons rfl (all_cons rfl (all_cons rfl (all_nil)))))), hS.trunc 0⟩
        · rw [ifb_f hb_91] at H
          refine sl hK (by decide) (wff hb_91) rfl (r_move hK rfl) fun a hK => ?_
          refine sl hK (by decide) (wff hb_91) rfl (r_un hK rfl (u_not _)) fun a hK => ?_
          refine sl hK (by decide) rfl rfl (r_pick_f hb_91 hK rfl rfl) fun a hK => ?_
          refine wpList_nil ?_
          exact ⟨(!y_86), H, hK.sub (all_cons rfl (all_cons rfl (all_cons rfl (all_cons rfl (all_cons rfl (all_nil)))))), hS.trunc 0⟩
      · rintro a w ⟨x_89, H, hK, hS⟩
        unfold law02_TableUnions.j1 at H
        refine wp_cond_split (hK.ev rfl) (fun (hb_92 : x_89 = true) => ?_) (fun (hb_92 : x_89 = false) => ?_)
        · rw [ifb_t hb_92] at H
          refine wp_seq ?_
          refine wp_region_lit ?_
          refine sl hK (by decide) rfl rfl (r_assign hK rfl) fun a hK => ?_
          refine wpList_nil ?_
          exact absurd (Option.some.inj H) (by decide)
        · rw [ifb_f hb_92] at H
          refine wp_skip ?_
          exact ⟨_, H, hl_76, hK.sub (all_cons rfl (all_cons rfl (all_cons rfl (all_cons rfl (all_nil))))), hS⟩
    · rw [ifb_f hb_72] at H
      refine wp_skip ?_
      exact ⟨_, H, (RLe.refl _ _), hK.sub (all_cons rfl (all_cons rfl (all_cons rfl (all_cons rfl (all_nil))))), hS.trunc 0⟩
  · rintro a w ⟨R_70, H, hl_71, hK, hS⟩
    unfold law02_TableUnions.j0 at H
    have hRL := hRL.trans hl_71
    refine wp_seq ?_
    refine wp_region_lit ?_
    refine sl hK (by decide) rfl rfl (r_move hK rfl) fun a hK => ?_
    refine sl hK (by decide) rfl rfl (r_move hK rfl) fun a hK => ?_
    rcases or_b y_3 with hb_93 | hb_93
    · rw [ifb_t hb_93] at H
      refine sl hK (by decide) (wtt hb_93) rfl (r_move hK rfl) fun a hK => ?_
      refine sl hK (by decide) rfl rfl (r_pick_t hb_93 hK rfl rfl) fun a hK => ?_
      refine sl hK (by decide) rfl rfl (r_move hK rfl) fun a hK => ?_
      rcases or_b y_47 with hb_94 | hb_94
      · rw [ifb_t hb_94] at H
        refine sl hK (by decide) (wtt hb_94) rfl (r_move hK rfl) fun a hK => ?_
        refine sl hK (by decide) (wtt hb_94) rfl (r_move hK rfl) fun a hK => ?_
        refine sl hK (by decide) (wtt hb_94) rfl (r_ibin hK rfl rfl rfl) fun a hK => ?_
        refine sl hK (by decide) rfl rfl (r_pick_t hb_94 hK rfl rfl) fun a hK => ?_
        refine sl hK (by decide) rfl rfl (r_assign hK rfl) fun a hK => ?_
        refine wpList_nil ?_
        have hr_ := Option.some.inj H
        refine wp_ret ?_
        repeat (first | refine ret_then ?_ | refine ret_block ?_ | refine ret_scope ?_)
        exact ret_1 Try.results7 hK (rv_tmp hK rfl) ⟨congrArg (fun b => Ending.returned (Value.bool b)) hr_, hS.bel⟩
      · rw [ifb_f hb_94] at H
        refine sl_skip hK (by decide) (wtf hb_94) rfl fun a hK => ?_
        refine sl_skip hK (by decide) (wtf hb_94) rfl fun a hK => ?_
        refine sl_skip hK (by decide) (wtf hb_94) rfl fun a hK => ?_
        refine sl hK (by decide) rfl rfl (r_pick_f hb_94 hK rfl rfl) fun a hK => ?_
        refine sl hK (by decide) rfl rfl (r_assign hK rfl) fun a hK => ?_
        refine wpList_nil ?_
        exact absurd (Option.some.inj H) (by decide)
    · rw [ifb_f hb_93] at H
      refine sl_skip hK (by decide) (wtf hb_93) rfl fun a hK => ?_
      refine sl hK (by decide) rfl rfl (r_pick_f hb_93 hK rfl rfl) fun a hK => ?_
      refine sl hK (by decide) rfl rfl (r_move hK rfl) fun a hK => ?_
      refine sl_skip hK (by decide) rfl rfl fun a hK => ?_
      refine sl_skip hK (by decide) rfl rfl fun a hK => ?_
      refine sl_skip hK (by decide) rfl rfl fun a hK => ?_
      refine sl hK (by decide) rfl rfl (r_pick hK rfl rfl rfl) fun a hK => ?_
      refine sl hK (by decide) rfl rfl (r_assign hK rfl) fun a hK => ?_
      refine wpList_nil ?_
      exact absurd (Option.some.inj H) (by decide)

end Go.Proofs.Ytojfckndloelpaa.M
