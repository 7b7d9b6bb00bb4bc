/- Each Go function of the laws answers as its plain Lean function tells, wherever that tells something. Printed by wip/eng/gen.py. -/
import Derived.Test.YtjimddbbpjpgdaaWalk3
namespace Go.Proofs.Ytjimddbbpjpgdaa.M
open Go Go.Eng Go.Proofs Go.RowKit
set_option linter.unusedVariables false
set_option linter.unusedSimpArgs false

/-! ### catchment/catchmentref02.Union: function 18 -/
set_option maxHeartbeats 4000000 in
set_option maxRecDepth 100000 in
theorem ref02_Union.calls (a0 : api_Table) (a1 : api_Table) {w0 : World} {R : Hp} {v0_0 : Value} {v0_1 : Value} {v1_0 : Value} {v1_1 : Value} (hR : R.sub w0) (h0_0 : SlR ty_api_Col R v0_0 a0.Cols) (h0_1 : SlR (tySl ty_api_Value) R v0_1 a0.Rows) (h1_0 : SlR ty_api_Col R v1_0 a1.Cols) (h1_1 : SlR (tySl ty_api_Value) R v1_1 a1.Rows) {r : api_Table × Int} (H : ref02_Union a0 a1 = some r) : Calls Try.prog 18 #[.agg #[v0_0, v0_1], .agg #[v1_0, v1_1]] w0 (Rets fun v w' => ∃ (R' : Hp) (u0 : Value) (cu0 : List Value) (u1 : Value) (cu1 : List Value), v = .tuple #[.agg #[u0, u1], .int .i64 r.2] ∧ St [] w0 w' R' [.row 38 2 u0 r.1.Cols.length cu0, .row 44 1 u1 r.1.Rows.length cu1] ∧ RLe [] w0 R R' ∧ Reps ty_api_Col R' cu0 r.1.Cols ∧ Reps (tySl ty_api_Value) R' cu1 r.1.Rows) := by
  unfold ref02_Union at H
  refine enter (args := [.agg #[v0_0, v0_1], .agg #[v1_0, v1_1]]) Try.func18 rfl Try.ntmps18 rfl fun a hK => ?_
  have hS := St.init hR
  have hRL := RLe.refl (M := []) w0 R
  refine wp_seq ?_
  refine wp_region_lit ?_
  refine sl_box hS hK (by decide) rfl rfl (c := [v0_0, v0_1]) rfl fun a w b_1 hS hK => ?_
  refine sl_box hS hK (by decide) rfl rfl (c := [v1_0, v1_1]) rfl fun a w b_2 hS hK => ?_
  refine sl_alloc Try.zeroValue25 hS hK (by decide) rfl rfl fun a w b_3 hS hK => ?_
  refine sl hK (by decide) rfl rfl (r_assign hK rfl) fun a hK => ?_
  refine wpList_nil ?_
  refine wp_seq ?_
  refine wp_region_lit ?_
  refine sl hK (by decide) rfl rfl (r_loadA (cs := [v0_0, v0_1]) Try.isAgg25 Try.sizeOf25 rfl hK rfl (hS.cells_of (m := 2) (.tail _ (.tail _ (.head _))) rfl)) fun a hK => ?_
  obtain ⟨y_4, h_5, H⟩ := bind_some H
  refine sl_callV Try.call17 hS hK (by decide) rfl rfl rfl (ref02_Check.calls a0 (lentOf_sub [] _) (h0_0.mono hS.rLe0) (h0_1.mono hS.rLe0) h_5) fun a w hS hK => ?_
  refine sl hK (by decide) rfl rfl (r_assign hK rfl) fun a hK => ?_
  refine wpList_nil ?_
  refine wp_seq ?_
  refine wp_seq ?_
  refine wp_region_lit ?_
  refine sl hK (by decide) rfl rfl (r_move hK rfl) fun a hK => ?_
  refine sl hK (by decide) rfl rfl (r_ibin hK rfl rfl rfl) fun a hK => ?_
  refine wpList_nil ?_
  refine wp_mid (fun a w => ∃ (x_9 : Int), ref02_Union.j0 a0 a1 x_9 = some r ∧ Kn 35 a [(2, .pointer (some ⟨b_1, 0, none⟩)), (3, .pointer (some ⟨b_2, 0, none⟩)), (4, .pointer (some ⟨b_3, 0, none⟩)), (6, .int .i64 x_9)] ∧ St [] w0 w R [.cells b_1 [v0_0, v0_1] 25, .cells b_2 [v1_0, v1_1] 25, .cells b_3 [.slice none 0 0, .slice none 0 0] 25]) ?_ ?_
  · refine wp_cond_split (hK.ev rfl) (fun (hb_11 : (y_4 == 0) = true) => ?_) (fun (hb_11 : (y_4 == 0) = false) => ?_)
    · rw [ifb_t hb_11] at H
      refine wp_region_lit ?_
      refine sl hK (by decide) rfl rfl (r_loadA (cs := [v1_0, v1_1]) Try.isAgg25 Try.sizeOf25 rfl hK rfl (hS.cells_of (m := 2) (.tail _ (.head _)) rfl)) fun a hK => ?_
      obtain ⟨y_12, h_13, H⟩ := bind_some H
      refine sl_callV Try.call17 hS hK (by decide) rfl rfl rfl (ref02_Check.calls a1 (lentOf_sub [] _) (h1_0.mono hS.rLe0) (h1_1.mono hS.rLe0) h_13) fun a w hS hK => ?_
      refine sl hK (by decide) rfl rfl (r_assign hK rfl) fun a hK => ?_
      refine wpList_nil ?_
      have hS := hS.pk1
      have hS := hS.pk2
      exact ⟨y_12, H, hK.sub (all_cons rfl (all_cons rfl (all_cons rfl (all_cons rfl (all_nil))))), hS⟩
    · rw [ifb_f hb_11] at H
      refine wp_skip ?_
      have hS := hS.pk1
      have hS := hS.pk2
      exact ⟨y_4, H, hK.sub (all_cons rfl (all_cons rfl (all_cons rfl (all_cons rfl (all_nil))))), hS⟩
  · rintro a w ⟨x_9, H, hK, hS⟩
    unfold ref02_Union.j0 at H
    refine wp_seq ?_
    refine wp_seq ?_
    refine wp_region_lit ?_
    refine sl hK (by decide) rfl rfl (r_move hK rfl) fun a hK => ?_
    refine sl hK (by decide) rfl rfl (r_ibin hK rfl rfl rfl) fun a hK => ?_
    refine wpList_nil ?_
    refine wp_cond_split (hK.ev rfl) (fun (hb_14 : (x_9 != 0) = true) => ?_) (fun (hb_14 : (x_9 != 0) = false) => ?_)
    · rw [ifb_t hb_14] at H
      refine wp_seq ?_
      refine wp_region_lit ?_
      refine sl hK (by decide) rfl rfl (r_buildC (ps := []) (c := [.slice none 0 0, .slice none 0 0]) Try.underlying25 Try.zeroValue25 places25 hK rfl pc_nil rfl rfl) fun a hK => ?_
      refine sl hK (by decide) rfl rfl (r_move hK rfl) fun a hK => ?_
      have hS := hS.pk2
      refine sl_storeA (vs := [.slice none 0 0, .slice none 0 0]) (c' := [.slice none 0 0, .slice none 0 0]) Try.sizeOf25 hS hK rfl rfl rfl rfl (all_cons rfl (all_cons rfl (all_nil))) (Nat.le_of_ble_eq_true rfl) rfl fun a w hS hK => ?_
      refine sl hK (by decide) rfl rfl (r_assign hK rfl) fun a hK => ?_
      refine wpList_nil ?_
      have hS := hS.row_nil 38 2
      have hq_16 : Reps ty_api_Col R [] ([] : List api_Col) := Reps.nil _ _
      have hS := hS.row_nil 44 1
      have hq_18 : Reps (tySl ty_api_Value) R [] ([] : List (List api_Value)) := Reps.nil _ _
      obtain rfl := Option.some.inj H
      refine wp_ret ?_
      repeat (first | refine ret_then ?_ | refine ret_block ?_ | refine ret_scope ?_)
      exact ret_2 Try.results18 hK (rv_cell (c := [(.slice none 0 0), (.slice none 0 0)]) Try.isAgg25 Try.sizeOf25 hS (.tail _ (.tail _ (.head _))) rfl hK rfl) (rv_tmp hK rfl) ⟨_, rfl, _, _, _, _, _, rfl, (hS.pk1.trunc 2), hRL, hq_16, hq_18⟩
    · rw [ifb_f hb_14] at H
      refine wp_skip ?_
      refine wp_seq ?_
      refine wp_seq ?_
      refine wp_region_lit ?_
      refine sl hK (by decide) rfl rfl (r_fieldAddr Try.underlying25 rfl Try.sizeOf22 hK rfl) fun a hK => ?_
      refine sl hK (by decide) rfl rfl (r_load Try.isAgg22 hK rfl (hS.cell (.head _) rfl)) fun a hK => ?_
      refine sl hK (by decide) rfl rfl (r_fieldAddr Try.underlying25 rfl Try.sizeOf22 hK rfl) fun a hK => ?_
      refine sl hK (by decide) rfl rfl (r_load Try.isAgg22 hK rfl (hS.cell (.tail _ (.head _)) rfl)) fun a hK => ?_
      obtain ⟨y_19, h_20, H⟩ := bind_some H
      refine sl_callV Try.call30 hS hK (by decide) rfl rfl rfl (ref02_SameCols.calls a0.Cols a1.Cols (lentOf_sub [] _) (h0_0.mono hS.rLe0) (h1_0.mono hS.rLe0) h_20) fun a w hS hK => ?_
      refine sl hK (by decide) rfl rfl (r_un hK rfl (u_not _)) fun a hK => ?_
      refine wpList_nil ?_
      refine wp_cond_split (hK.ev rfl) (fun (hb_21 : (!y_19) = true) => ?_) (fun (hb_21 : (!y_19) = false) => ?_)
      · rw [ifb_t hb_21] at H
        refine wp_seq ?_
        refine wp_region_lit ?_
        refine sl hK (by decide) rfl rfl (r_buildC (ps := []) (c := [.slice none 0 0, .slice none 0 0]) Try.underlying25 Try.zeroValue25 places25 hK rfl pc_nil rfl rfl) fun a hK => ?_
        have hS := hS.pk2
        refine sl_storeA (vs := [.slice none 0 0, .slice none 0 0]) (c' := [.slice none 0 0, .slice none 0 0]) Try.sizeOf25 hS hK rfl rfl rfl rfl (all_cons rfl (all_cons rfl (all_nil))) (Nat.le_of_ble_eq_true rfl) rfl fun a w hS hK => ?_
        refine sl hK (by decide) rfl rfl (r_assign hK rfl) fun a hK => ?_
        refine wpList_nil ?_
        have hS := hS.row_nil 38 2
        have hq_23 : Reps ty_api_Col R [] ([] : List api_Col) := Reps.nil _ _
        have hS := hS.row_nil 44 1
        have hq_25 : Reps (tySl ty_api_Value) R [] ([] : List (List api_Value)) := Reps.nil _ _
        obtain rfl := Option.some.inj H
        refine wp_ret ?_
        repeat (first | refine ret_then ?_ | refine ret_block ?_ | refine ret_scope ?_)
        exact ret_2 Try.results18 hK (rv_cell (c := [(.slice none 0 0), (.slice none 0 0)]) Try.isAgg25 Try.sizeOf25 hS (.tail _ (.tail _ (.head _))) rfl hK rfl) (rv_tmp hK rfl) ⟨_, rfl, _, _, _, _, _, rfl, (hS.pk1.trunc 2), hRL, hq_23, hq_25⟩
      · rw [ifb_f hb_21] at H
        refine wp_skip ?_
        refine wp_seq ?_
        refine parT_region (C := fun w => St [] w0 w R [.cells b_1 [v0_0, v0_1] 25, .cells b_2 [v1_0, v1_1] 25, .cells b_3 [.slice none 0 0, .slice none 0 0] 25]) 9 [(0, true), (1, true), (3, true), (4, true), (6, true), (7, true), (2, false), (5, false), (8, false)] mixed (by kernel_rfl) hS (fun w hS => hS) fun w hS => ?_
        refine sp (k := 0) rfl hK (by decide) rfl rfl (fun w hS => r_fieldAddr Try.underlying25 rfl Try.sizeOf22 hK rfl) fun a hK => ?_
        refine sp (k := 1) rfl hK (by decide) rfl rfl (fun w hS => r_load Try.isAgg22 hK rfl (hS.cell (.head _) rfl)) fun a hK => ?_
        refine sp (k := 3) rfl hK (by decide) rfl rfl (fun w hS => r_fieldAddr Try.underlying25 rfl Try.sizeOf23 hK rfl) fun a hK => ?_
        refine sp (k := 4) rfl hK (by decide) rfl rfl (fun w hS => r_load Try.isAgg23 hK rfl (hS.cell (.head _) rfl)) fun a hK => ?_
        refine sp (k := 6) rfl hK (by decide) rfl rfl (fun w hS => r_fieldAddr Try.underlying25 rfl Try.sizeOf23 hK rfl) fun a hK => ?_
        refine sp (k := 7) rfl hK (by decide) rfl rfl (fun w hS => r_load Try.isAgg23 hK rfl (hS.cell (.tail _ (.head _)) rfl)) fun a hK => ?_
        refine spw (k := 2) rfl rfl hS ?_
        refine sl_buildSliceC (zc := [.slice none 0 0]) (zs := []) (ps := []) (c := []) Try.underlying23 Try.sizeOf44 Try.zeroValue44 rfl pc_nil rfl rfl (by decide) (by kernel_rfl) rfl hS hK (by decide) rfl fun a w b_57 hS hK => ?_
        refine parK_nil (hS.pk3.pk3.pk3.trunc 3) ?_
        refine spw (k := 5) rfl rfl (hS.pk3.pk3.pk3.trunc 3) ?_
        obtain ⟨y_60, h_61, H⟩ := bind_some H
        have hS := hS.row_lit (size := 1) (m := 0) rfl (by decide)
        have hq_59 : Reps (tySl ty_api_Value) R [] ([] : List (List api_Value)) := (Reps.nil _ _)
        refine sl_append_R elT23 (by decide) rfl hq_59 rfl h0_1 h_61 hS hK (by decide) rfl rfl rfl fun a w v_62 cs_63 hq_64 hS hK => ?_
        refine parK_nil (hS.pk3.pk3.pk3.trunc 3) ?_
        refine spw (k := 8) rfl rfl (hS.pk3.pk3.pk3.trunc 3) ?_
        obtain ⟨y_66, h_67, H⟩ := bind_some H
        refine sl_append_R elT23 (by decide) rfl hq_64 rfl h1_1 h_67 hS hK (by decide) rfl rfl rfl fun a w v_68 cs_69 hq_70 hS hK => ?_
        refine parK_nil (hS.pk3.pk3.pk3.trunc 3) ?_
        refine thenL_nil ?_
        have ho_72 := hS.row_one (.head _)
        refine sl hK (by decide) rfl rfl (r_buildC (ps := [(0, v0_0), (1, v_68)]) (c := [v0_0, v_68]) Try.underlying25 Try.zeroValue25 places25 hK rfl (pc_cons (cells1 h0_0.one) (pc_cons (cells1 ho_72) pc_nil)) rfl rfl) fun a hK => ?_
        obtain ⟨R_73, hS, hl_75, hs_74⟩ := hS.fz_row hq_70 rfl rfl
        have hRL := hRL.trans hl_75
        obtain ⟨y_76, h_77, H⟩ := bind_some H
        refine sl_call Try.call11 hK (by decide) rfl rfl rfl (ref02_Canon.calls (⟨a0.Cols, y_66⟩ : api_Table) hS.sub (h0_0.mono hl_75.le) hs_74 h_77) fun a v_ w hv_ hK => ?_
        obtain ⟨R_78, v_81, cs_82, v_85, cs_86, hv_, hr_, hl_79, hq_83, hq_87⟩ := hv_
        have hv_ := hv_.symm
        subst hv_
        obtain ⟨hS, hl_79⟩ := hS.sp0.back hr_ hl_79
        have hS := hS.un2
        have hRL := hRL.trans hl_79
        have hS := hS.pk4
        refine sl_storeA (vs := [v_81, v_85]) (c' := [v_81, v_85]) Try.sizeOf25 hS hK rfl rfl rfl rfl (all_cons (hS.row_one (.tail _ (.head _))) (all_cons (hS.row_one (.tail _ (.tail _ (.head _)))) (all_nil))) (Nat.le_of_ble_eq_true rfl) rfl fun a w hS hK => ?_
        refine sl hK (by decide) rfl rfl (r_assign hK rfl) fun a hK => ?_
        refine wpList_nil (NoP_nil ?_)
        obtain rfl := Option.some.inj H
        refine wp_ret ?_
        repeat (first | refine ret_then ?_ | refine ret_block ?_ | refine ret_scope ?_)
        exact ret_2 Try.results18 hK (rv_cell (c := [v_81, v_85]) Try.isAgg25 Try.sizeOf25 hS (.head _) rfl hK rfl) (rv_tmp hK rfl) ⟨_, rfl, _, _, _, _, _, rfl, (hS.pk2.pk2.trunc 2), hRL, hq_83, hq_87⟩

/-! ### catchment/catchmentlaw16.RowopsParts: function 5 -/
set_option maxHeartbeats 4000000 in
set_option maxRecDepth 100000 in
theorem law16_RowopsParts.calls (a0 : api_Table) (a1 : Arr2) (a2 : Int) {w0 : World} {R : Hp} {v0_0 : Value} {v0_1 : Value} (hR : R.sub w0) (h0_0 : SlR ty_api_Col R v0_0 a0.Cols) (h0_1 : SlR (tySl ty_api_Value) R v0_1 a0.Rows) (H : law16_RowopsParts a0 a1 a2 = some true) : CallsV Try.prog 5 #[.agg #[v0_0, v0_1], .agg #[.int .i64 a1.a0, .int .i64 a1.a1], .int .i64 a2] w0 (.bool true) := by
  unfold law16_RowopsParts at H
  refine enter (args := [.agg #[v0_0, v0_1], .agg #[.int .i64 a1.a0, .int .i64 a1.a1], .int .i64 a2]) Try.func5 rfl Try.ntmps5 rfl fun a hK => ?_
  have hS := St.init hR
  have hRL := RLe.refl (M := []) w0 R
  refine wp_seq ?_
  refine wp_region_lit ?_
  refine sl_box hS hK (by decide) rfl rfl (c := [v0_0, v0_1]) rfl fun a w b_1 hS hK => ?_
  refine sl_box hS hK (by decide) rfl rfl (c := [.int .i64 a1.a0, .int .i64 a1.a1]) rfl fun a w b_2 hS hK => ?_
  refine sl hK (by decide) rfl rfl (r_assign hK rfl) fun a hK => ?_
  refine wpList_nil ?_
  refine wp_seq ?_
  refine wp_region_lit ?_
  obtain ⟨y_3, h_4, H⟩ := bind_some H
  refine sl_callV Try.call9 hS hK (by decide) rfl rfl rfl (law16_shown.calls h_4 _) fun a w hS hK => ?_
  refine sl hK (by decide) rfl rfl (r_assign hK rfl) fun a hK => ?_
  refine wpList_nil ?_
  refine wp_seq ?_
  refine wp_region_lit ?_
  refine sl hK (by decide) rfl rfl (r_loadA (cs := [v0_0, v0_1]) Try.isAgg25 Try.sizeOf25 rfl hK rfl (hS.cells_of (m := 2) (.tail _ (.head _)) rfl)) fun a hK => ?_
  obtain ⟨y_5, h_6, H⟩ := bind_some H
  refine sl_call Try.call10 hK (by decide) rfl rfl rfl (law16_cut.calls a0 hS.sub h0_0 h0_1 h_6) fun a v_ w hv_ hK => ?_
  obtain ⟨R_7, v_9, v_11, hv_, hr_, hl_8, hs_10, hs_12⟩ := hv_
  have hv_ := hv_.symm
  subst hv_
  obtain ⟨hS, hl_8⟩ := hS.sp0.back hr_ hl_8
  have hS := hS.un0
  have hRL := hRL.trans hl_8
  have hS := hS.pk1
  refine sl_storeA (vs := [v_9, v_11]) (c' := [v_9, v_11]) Try.sizeOf25 hS hK rfl rfl rfl rfl (all_cons hs_10.one (all_cons hs_12.one (all_nil))) (Nat.le_of_ble_eq_true rfl) rfl fun a w hS hK => ?_
  refine wpList_nil ?_
  refine wp_seq ?_
  refine wp_seq ?_
  refine wp_region_lit ?_
  refine sl hK (by decide) rfl rfl (r_loadA (cs := [v_9, v_11]) Try.isAgg25 Try.sizeOf25 rfl hK rfl (hS.cells_of (m := 2) (.head _) rfl)) fun a hK => ?_
  obtain ⟨y_13, h_14, H⟩ := bind_some H
  refine sl_callV Try.call17 hS hK (by decide) rfl rfl rfl (ref02_Check.calls y_5 (lentOf_sub [] _) (hs_10.mono hS.rLe0) (hs_12.mono hS.rLe0) h_14) fun a w hS hK => ?_
  refine sl hK (by decide) rfl rfl (r_ibin hK rfl rfl rfl) fun a hK => ?_
  refine wpList_nil ?_
  refine wp_cond_split (hK.ev rfl) (fun (hb_15 : (y_13 != 0) = true) => ?_) (fun (hb_15 : (y_13 != 0) = false) => ?_)
  · rw [ifb_t hb_15] at H
    refine wp_seq ?_
    refine wp_region_lit ?_
    refine sl hK (by decide) rfl rfl (r_move hK rfl) fun a hK => ?_
    refine sl hK (by decide) rfl rfl (r_assign hK rfl) fun a hK => ?_
    refine wpList_nil ?_
    have hr_ := Option.some.inj H
    refine wp_ret ?_
    repeat (first | refine ret_then ?_ | refine ret_block ?_ | refine ret_scope ?_)
    exact ret_1 Try.results5 hK (rv_tmp hK rfl) ⟨congrArg (fun b => Ending.returned (Value.bool b)) hr_, hS.bel⟩
  · rw [ifb_f hb_15] at H
    refine wp_skip ?_
    refine wp_seq ?_
    refine wp_seq ?_
    refine wp_region_lit ?_
    refine sl hK (by decide) rfl rfl (r_move hK rfl) fun a hK => ?_
    refine sl hK (by decide) rfl rfl (r_ibin hK rfl rfl rfl) fun a hK => ?_
    refine wpList_nil ?_
    refine wp_mid (fun a w => ∃ (x_17 : Int), law16_RowopsParts.j0 a0 a1 y_3 y_5 x_17 = some true ∧ Kn 192 a [(2, .int .i64 x_17), (3, .pointer (some ⟨b_1, 0, none⟩)), (4, .pointer (some ⟨b_2, 0, none⟩)), (7, .bool y_3)] ∧ St [] w0 w R_7 [.cells b_1 [v_9, v_11] 25, .cells b_2 [.int .i64 a1.a0, .int .i64 a1.a1] 35]) ?_ ?_
    · refine wp_cond_split (hK.ev rfl) (fun (hb_19 : (decide (a2 < 0)) = true) => ?_) (fun (hb_19 : (decide (a2 < 0)) = false) => ?_)
      · rw [ifb_t hb_19] at H
        refine wp_region_lit ?_
        refine sl hK (by decide) rfl rfl (r_move hK rfl) fun a hK => ?_
        refine sl hK (by decide) rfl rfl (r_ibin hK rfl rfl rfl) fun a hK => ?_
        refine sl hK (by decide) rfl rfl (r_un hK rfl (u_neg _ _)) fun a hK => ?_
        refine sl hK (by decide) rfl rfl (r_assign hK rfl) fun a hK => ?_
        refine wpList_nil ?_
        have hS := hS.pk1
        have hS := hS.pk1
        exact ⟨(IntKind.i64.wrap (0 - (IntKind.i64.wrap (a2 + 1)))), H, hK.sub (all_cons rfl (all_cons rfl (all_cons rfl (all_cons rfl (all_nil))))), hS⟩
      · rw [ifb_f hb_19] at H
        refine wp_skip ?_
        have hS := hS.pk1
        have hS := hS.pk1
        exact ⟨a2, H, hK.sub (all_cons rfl (all_cons rfl (all_cons rfl (all_cons rfl (all_nil))))), hS⟩
    · rintro a w ⟨x_17, H, hK, hS⟩
      unfold law16_RowopsParts.j0 at H
      refine wp_seq ?_
      refine parT_region (C := fun w => St [] w0 w R_7 [.cells b_1 [v_9, v_11] 25, .cells b_2 [.int .i64 a1.a0, .int .i64 a1.a1] 35]) 10 [(0, true), (1, true), (2, true), (3, true), (4, true), (5, true), (6, true), (7, true), (8, true), (9, false)] mixed (by kernel_rfl) hS (fun w hS => hS) fun w hS => ?_
      refine sp (k := 0) rfl hK (by decide) rfl rfl (fun w hS => r_fieldAddr Try.underlying25 rfl Try.sizeOf22 hK rfl) fun a hK => ?_
      refine sp (k := 1) rfl hK (by decide) rfl rfl (fun w hS => r_load Try.isAgg22 hK rfl (hS.cell (.head _) rfl)) fun a hK => ?_
      refine sp (k := 2) rfl hK (by decide) rfl rfl (fun w hS => r_move hK rfl) fun a hK => ?_
      refine sp (k := 3) rfl hK (by decide) rfl rfl (fun w hS => r_fieldAddr Try.underlying25 rfl Try.sizeOf22 hK rfl) fun a hK => ?_
      refine sp (k := 4) rfl hK (by decide) rfl rfl (fun w hS => r_load Try.isAgg22 hK rfl (hS.cell (.head _) rfl)) fun a hK => ?_
      refine sp (k := 5) rfl hK (by decide) rfl rfl (fun w hS => r_len_R Try.underlying22 hs_10 hK rfl) fun a hK => ?_
      rcases or_b ((y_5.Cols.length : Int) != 0) with hn_31 | hn_31
      · rw [ifb_t hn_31] at H
        refine sp (k := 6) rfl hK (by decide) rfl rfl (fun w hS => r_rem hK rfl rfl (ne_of_bne hn_31)) fun a hK => ?_
        obtain ⟨y_32, h_33, H⟩ := bind_some H
        obtain ⟨b_34, o_35, c_36, cs_37, hv_38, hr_39, hc_40, h_330, h_331⟩ := hs_10.ix h_33
        subst hr_39
        refine sp (k := 7) rfl hK (by decide) rfl rfl (fun w hS => r_indexAddr_R Try.underlying22 Try.sizeOf38 hv_38 h_330 h_331 hK rfl rfl) fun a hK => ?_
        refine sp (k := 8) rfl hK (by decide) rfl rfl (fun w hS => r_loadA (cs := [.string y_32.Name, .int .i64 y_32.Kind]) Try.isAgg38 Try.sizeOf38 rfl hK rfl (fun j v hv => hS.sub.cell (hc_40 j v hv))) fun a hK => ?_
        refine spw (k := 9) rfl rfl hS ?_
        refine sl_alloc Try.zeroValue38 hS hK (by decide) rfl rfl fun a w b_41 hS hK => ?_
        refine parK_nil (hS.pk2.pk2.trunc 2) ?_
        refine thenL_nil ?_
        refine sl_storeA (vs := [.string y_32.Name, .int .i64 y_32.Kind]) (c' := [.string y_32.Name, .int .i64 y_32.Kind]) Try.sizeOf38 hS hK rfl rfl rfl rfl (all_cons rfl (all_cons rfl (all_nil))) (Nat.le_of_ble_eq_true rfl) rfl fun a w hS hK => ?_
        refine wpList_nil (NoP_nil ?_)
        refine wp_seq ?_
        refine wp_region_lit ?_
        refine sl hK (by decide) rfl rfl (r_indexAddr_arr Try.underlying35 Try.sizeOf3 hK rfl rfl (by decide) (by decide)) fun a hK => ?_
        refine sl hK (by decide) rfl rfl (r_load Try.isAgg3 hK rfl (hS.cell (.tail _ (.tail _ (.head _))) rfl)) fun a hK => ?_
        refine sl hK (by decide) rfl rfl (r_rem hK rfl rfl (by decide)) fun a hK => ?_
        refine sl hK (by decide) rfl rfl (r_assign hK rfl) fun a hK => ?_
        refine wpList_nil ?_
        refine wp_seq ?_
        refine wp_seq ?_
        refine wp_region_lit ?_
        refine sl hK (by decide) rfl rfl (r_move hK rfl) fun a hK => ?_
        refine sl hK (by decide) rfl rfl (r_ibin hK rfl rfl rfl) fun a hK => ?_
        refine wpList_nil ?_
        refine wp_mid (fun a w => ∃ (x_43 : Int), law16_RowopsParts.j1 a1 y_3 y_5 y_32 x_43 = some true ∧ Kn 192 a [(3, .pointer (some ⟨b_1, 0, none⟩)), (4, .pointer (some ⟨b_2, 0, none⟩)), (7, .bool y_3), (8, .pointer (some ⟨b_41, 0, none⟩)), (9, .int .i64 x_43)] ∧ St [] w0 w R_7 [.cells b_1 [v_9, v_11] 25, .cells b_2 [.int .i64 a1.a0, .int .i64 a1.a1] 35, .cells b_41 [.string y_32.Name, .int .i64 y_32.Kind] 38]) ?_ ?_
        · refine wp_cond_split (hK.ev rfl) (fun (hb_45 : (decide ((a1.a0.tmod 30) < 0)) = true) => ?_) (fun (hb_45 : (decide ((a1.a0.tmod 30) < 0)) = false) => ?_)
          · rw [ifb_t hb_45] at H
            refine wp_region_lit ?_
            refine sl hK (by decide) rfl rfl (r_move hK rfl) fun a hK => ?_
            refine sl hK (by decide) rfl rfl (r_un hK rfl (u_neg _ _)) fun a hK => ?_
            refine sl hK (by decide) rfl rfl (r_assign hK rfl) fun a hK => ?_
            refine wpList_nil ?_
            have hS := hS.pk2
            have hS := hS.pk2
            exact ⟨(IntKind.i64.wrap (0 - (a1.a0.tmod 30))), H, hK.sub (all_cons rfl (all_cons rfl (all_cons rfl (all_cons rfl (all_cons rfl (all_nil)))))), hS⟩
          · rw [ifb_f hb_45] at H
            refine wp_skip ?_
            have hS := hS.pk2
            have hS := hS.pk2
            exact ⟨(a1.a0.tmod 30), H, hK.sub (all_cons rfl (all_cons rfl (all_cons rfl (all_cons rfl (all_cons rfl (all_nil)))))), hS⟩
        · rintro a w ⟨x_43, H, hK, hS⟩
          unfold law16_RowopsParts.j1 at H
          refine wp_seq ?_
          refine wp_region_lit ?_
          refine sl hK (by decide) rfl rfl (r_move hK rfl) fun a hK => ?_
          refine sl hK (by decide) rfl rfl (r_ibin hK rfl rfl rfl) fun a hK => ?_
          refine sl hK (by decide) rfl rfl (r_assign hK rfl) fun a hK => ?_
          refine wpList_nil ?_
          refine wp_seq ?_
          refine wp_region_lit ?_
          refine sl hK (by decide) rfl rfl (r_indexAddr_arr Try.underlying35 Try.sizeOf3 hK rfl rfl (by decide) (by decide)) fun a hK => ?_
          refine sl hK (by decide) rfl rfl (r_load Try.isAgg3 hK rfl (hS.cell (.tail _ (.head _)) rfl)) fun a hK => ?_
          refine sl hK (by decide) rfl rfl (r_fieldAddr Try.underlying25 rfl Try.sizeOf23 hK rfl) fun a hK => ?_
          refine sl hK (by decide) rfl rfl (r_load Try.isAgg23 hK rfl (hS.cell (.head _) rfl)) fun a hK => ?_
          refine sl hK (by decide) rfl rfl (r_len_R Try.underlying23 hs_12 hK rfl) fun a hK => ?_
          refine sl hK (by decide) rfl rfl (r_ibin hK rfl rfl rfl) fun a hK => ?_
          rcases or_b ((IntKind.i64.wrap ((y_5.Rows.length : Int) + 1)) != 0) with hn_46 | hn_46
          · rw [ifb_t hn_46] at H
            refine sl hK (by decide) rfl rfl (r_rem hK rfl rfl (ne_of_bne hn_46)) fun a hK => ?_
            refine sl hK (by decide) rfl rfl (r_assign hK rfl) fun a hK => ?_
            refine wpList_nil ?_
            refine wp_seq ?_
            refine wp_seq ?_
            refine wp_region_lit ?_
            refine sl hK (by decide) rfl rfl (r_move hK rfl) fun a hK => ?_
            refine sl hK (by decide) rfl rfl (r_ibin hK rfl rfl rfl) fun a hK => ?_
            refine wpList_nil ?_
            refine wp_mid (fun a w => ∃ (x_48 : Int), law16_RowopsParts.j2 y_3 y_5 y_32 x_43 x_48 = some true ∧ Kn 192 a [(3, .pointer (some ⟨b_1, 0, none⟩)), (7, .bool y_3), (8, .pointer (some ⟨b_41, 0, none⟩)), (9, .int .i64 (IntKind.i64.wrap (x_43 + 1))), (10, .int .i64 x_48)] ∧ St [] w0 w R_7 [.cells b_1 [v_9, v_11] 25, .cells b_41 [.string y_32.Name, .int .i64 y_32.Kind] 38]) ?_ ?_
            · refine wp_cond_split (hK.ev rfl) (fun (hb_50 : (decide ((a1.a1.tmod (IntKind.i64.wrap ((y_5.Rows.length : Int) + 1))) < 0)) = true) => ?_) (fun (hb_50 : (decide ((a1.a1.tmod (IntKind.i64.wrap ((y_5.Rows.length : Int) + 1))) < 0)) = false) => ?_)
              · rw [ifb_t hb_50] at H
                refine wp_region_lit ?_
                refine sl hK (by decide) rfl rfl (r_move hK rfl) fun a hK => ?_
                refine sl hK (by decide) rfl rfl (r_un hK rfl (u_neg _ _)) fun a hK => ?_
                refine sl hK (by decide) rfl rfl (r_assign hK rfl) fun a hK => ?_
                refine wpList_nil ?_
                have hS := hS.pk2
                have hS := hS.pk1
                exact ⟨(IntKind.i64.wrap (0 - (a1.a1.tmod (IntKind.i64.wrap ((y_5.Rows.length : Int) + 1))))), H, hK.sub (all_cons rfl (all_cons rfl (all_cons rfl (all_cons rfl (all_cons rfl (all_nil)))))), hS.trunc 2⟩
              · rw [ifb_f hb_50] at H
                refine wp_skip ?_
                have hS := hS.pk2
                have hS := hS.pk1
                exact ⟨(a1.a1.tmod (IntKind.i64.wrap ((y_5.Rows.length : Int) + 1))), H, hK.sub (all_cons rfl (all_cons rfl (all_cons rfl (all_cons rfl (all_cons rfl (all_nil)))))), hS.trunc 2⟩
            · rintro a w ⟨x_48, H, hK, hS⟩
              unfold law16_RowopsParts.j2 at H
              refine wp_seq ?_
              refine wp_region_lit ?_
              refine sl hK (by decide) rfl rfl (r_loadA (cs := [v_9, v_11]) Try.isAgg25 Try.sizeOf25 rfl hK rfl (hS.cells_of (m := 2) (.head _) rfl)) fun a hK => ?_
              refine sl hK (by decide) rfl rfl (r_move hK rfl) fun a hK => ?_
              refine sl hK (by decide) rfl rfl (r_fieldAddr Try.underlying38 rfl Try.sizeOf9 hK rfl) fun a hK => ?_
              refine sl hK (by decide) rfl rfl (r_load Try.isAgg9 hK rfl (hS.cell (.tail _ (.head _)) rfl)) fun a hK => ?_
              obtain ⟨y_51, h_52, H⟩ := bind_some H
              refine sl_call Try.call15 hK (by decide) rfl rfl rfl (rowops_Top.calls y_5 (IntKind.i64.wrap (x_43 + 1)) y_32.Name (lentOf_sub [] _) hS.sub (hs_10.mono hS.rLe0) (hs_12.mono hS.rLe0) h_52) fun a v_ w hv_ hK => ?_
              obtain ⟨R_53, v_56, cs_57, v_60, cs_61, hv_, hr_, hl_54, hq_58, hq_62⟩ := hv_
              have hv_ := hv_.symm
              subst hv_
              obtain ⟨hS, hl_54⟩ := hS.sp0.back hr_ hl_54
              have hS := hS.un2
              have hRL := hRL.trans hl_54
              refine sl hK (by decide) rfl rfl (r_move hK rfl) fun a hK => ?_
              refine sl hK (by decide) rfl rfl (r_extract hK rfl rfl) fun a hK => ?_
              refine sl hK (by decide) rfl rfl (r_extract hK rfl rfl) fun a hK => ?_
              refine sl_alloc Try.zeroValue25 hS hK (by decide) rfl rfl fun a w b_63 hS hK => ?_
              refine sl_storeA (vs := [v_56, v_60]) (c' := [v_56, v_60]) Try.sizeOf25 hS hK rfl rfl rfl rfl (all_cons (hS.row_one (.tail _ (.head _))) (all_cons (hS.row_one (.tail _ (.tail _ (.head _)))) (all_nil))) (Nat.le_of_ble_eq_true rfl) rfl fun a w hS hK => ?_
              refine sl hK (by decide) rfl rfl (r_assign hK rfl) fun a hK => ?_
              refine wpList_nil ?_
              refine wp_seq ?_
              refine wp_seq ?_
              refine wp_region_lit ?_
              refine sl hK (by decide) rfl rfl (r_fieldAddr Try.underlying38 rfl Try.sizeOf3 hK rfl) fun a hK => ?_
              refine sl hK (by decide) rfl rfl (r_load Try.isAgg3 hK rfl (hS.cell (.tail _ (.tail _ (.tail _ (.tail _ (.head _))))) rfl)) fun a hK => ?_
              refine sl hK (by decide) rfl rfl (r_ibin hK rfl rfl rfl) fun a hK => ?_
              refine wpList_nil ?_
              refine wp_cond_split (hK.ev rfl) (fun (hb_64 : (y_32.Kind == 4) = true) => ?_) (fun (hb_64 : (y_32.Kind == 4) = false) => ?_)
              · rw [ifb_t hb_64] at H
                refine wp_seq ?_
                refine wp_mid (fun a w => ∃ (x_66 : Bool), law16_RowopsParts.j3 x_66 = some true ∧ Kn 192 a [(6, .bool x_66)] ∧ St [] w0 w R_53 []) ?_ ?_
                · refine wp_region_lit ?_
                  refine sl hK (by decide) rfl rfl (r_move hK rfl) fun a hK => ?_
                  refine sl hK (by decide) rfl rfl (r_move hK rfl) fun a hK => ?_
                  rcases or_b y_3 with hb_68 | hb_68
                  · rw [ifb_t hb_68] at H
                    refine sl hK (by decide) (wtt hb_68) rfl (r_move hK rfl) fun a hK => ?_
                    refine sl hK (by decide) (wtt hb_68) rfl (r_ibin hK rfl rfl rfl) fun a hK => ?_
                    refine sl hK (by decide) rfl rfl (r_pick_t hb_68 hK rfl rfl) fun a hK => ?_
                    refine sl hK (by decide) rfl rfl (r_assign hK rfl) fun a hK => ?_
                    refine wpList_nil ?_
                    exact ⟨(y_51.2 == 1), H, hK.sub (all_cons rfl (all_nil)), hS.trunc 0⟩
                  · rw [ifb_f hb_68] at H
                    refine sl_skip hK (by decide) (wtf hb_68) rfl fun a hK => ?_
                    refine sl_skip hK (by decide) (wtf hb_68) rfl fun a hK => ?_
                    refine sl hK (by decide) rfl rfl (r_pick_f hb_68 hK rfl rfl) fun a hK => ?_
                    refine sl hK (by decide) rfl rfl (r_assign hK rfl) fun a hK => ?_
                    refine wpList_nil ?_
                    exact ⟨false, H, hK.sub (all_cons rfl (all_nil)), hS.trunc 0⟩
                · rintro a w ⟨x_66, H, hK, hS⟩
                  unfold law16_RowopsParts.j3 at H
                  have hr_ := Option.some.inj H
                  refine wp_ret ?_
                  repeat (first | refine ret_then ?_ | refine ret_block ?_ | refine ret_scope ?_)
                  exact ret_1 Try.results5 hK (rv_tmp hK rfl) ⟨congrArg (fun b => Ending.returned (Value.bool b)) hr_, hS.bel⟩
              · rw [ifb_f hb_64] at H
                refine wp_skip ?_
                refine wp_seq ?_
                refine wp_mid (fun a w => ∃ (x_133 : List api_Col) (x_138 : List (List api_Value)) (x_142 : Int) (R_143 : Hp) (v_134 : Value) (cs_135 : List Value) (v_139 : Value) (cs_140 : List Value) (b_131 : Nat), law16_RowopsParts.j4 y_3 y_5 y_32 x_43 x_48 y_51 x_133 x_138 x_142 = some true ∧ RLe [] w0 R_53 R_143 ∧ Reps ty_api_Col R_143 cs_135 x_133 ∧ Reps (tySl ty_api_Value) R_143 cs_140 x_138 ∧ Kn 192 a [(3, .pointer (some ⟨b_1, 0, none⟩)), (7, .bool y_3), (8, .pointer (some ⟨b_41, 0, none⟩)), (9, .int .i64 (IntKind.i64.wrap (x_43 + 1))), (10, .int .i64 x_48), (11, .pointer (some ⟨b_63, 0, none⟩)), (12, .int .i64 y_51.2), (13, .pointer (some ⟨b_131, 0, none⟩)), (14, .int .i64 x_142)] ∧ St [] w0 w R_143 [.cells b_1 [v_9, v_11] 25, .cells b_41 [.string y_32.Name, .int .i64 y_32.Kind] 38, .row 38 2 v_56 y_51.1.Cols.length cs_57, .row 44 1 v_60 y_51.1.Rows.length cs_61, .cells b_63 [v_56, v_60] 25, .row 38 2 v_134 x_133.length cs_135, .row 44 1 v_139 x_138.length cs_140, .cells b_131 [v_134, v_139] 25]) ?_ ?_
                · refine treeT_region (C := fun w => St [] w0 w R_53 [.cells b_63 [v_56, v_60] 25, .row 38 2 v_56 y_51.1.Cols.length cs_57, .row 44 1 v_60 y_51.1.Rows.length cs_61, .cells b_1 [v_9, v_11] 25, .cells b_41 [.string y_32.Name, .int .i64 y_32.Kind] 38]) 16 (.br [(0, true), (1, true), (2, true), (3, true), (4, true), (5, true), (6, true), (7, true), (8, true), (9, true)] 10 (.list [(11, true), (12, true), (13, true), (14, false), (15, false)]) 14 (.list [(10, false), (11, true), (12, true), (13, true), (15, false)])) mixed (by kernel_rfl) hS (fun w hS => hS) fun w hS => ?_
                  refine tree_fork ?_
                  refine sp (k := 0) rfl hK (by decide) rfl rfl (fun w hS => r_fieldAddr Try.underlying25 rfl Try.sizeOf22 hK rfl) fun a hK => ?_
                  refine sp (k := 1) rfl hK (by decide) rfl rfl (fun w hS => r_load Try.isAgg22 hK rfl (hS.cell (.tail _ (.tail _ (.tail _ (.head _)))) rfl)) fun a hK => ?_
                  refine sp (k := 2) rfl hK (by decide) rfl rfl (fun w hS => r_fieldAddr Try.underlying25 rfl Try.sizeOf23 hK rfl) fun a hK => ?_
                  refine sp (k := 3) rfl hK (by decide) rfl rfl (fun w hS => r_load Try.isAgg23 hK rfl (hS.cell (.tail _ (.tail _ (.tail _ (.head _)))) rfl)) fun a hK => ?_
                  refine sp (k := 4) rfl hK (by decide) rfl rfl (fun w hS => r_move hK rfl) fun a hK => ?_
                  obtain ⟨y_176, h_177, H⟩ := bind_some H
                  obtain ⟨v_178, hs_179, hr_180⟩ := r_slice_R (x := .tmp 88) (lo := none) (hi := some (.tmp 89)) Try.underlying23 Try.sizeOf44 hs_12 h_177 hK rfl rfl ⟨_, rfl⟩
                  refine sp (k := 5) rfl hK (by decide) rfl rfl (fun w hS => hr_180 _ _ _ _ _ _ _ hK) fun a hK => ?_
                  refine sp (k := 6) rfl hK (by decide) rfl rfl (fun w hS => r_buildC (ps := [(0, v_9), (1, v_178)]) (c := [v_9, v_178]) Try.underlying25 Try.zeroValue25 places25 hK rfl (pc_cons (cells1 hs_10.one) (pc_cons (cells1 hs_179.one) pc_nil)) rfl rfl) fun a hK => ?_
                  refine sp (k := 7) rfl hK (by decide) rfl rfl (fun w hS => r_move hK rfl) fun a hK => ?_
                  refine sp (k := 8) rfl hK (by decide) rfl rfl (fun w hS => r_fieldAddr Try.underlying38 rfl Try.sizeOf9 hK rfl) fun a hK => ?_
                  refine sp (k := 9) rfl hK (by decide) rfl rfl (fun w hS => r_load Try.isAgg9 hK rfl (hS.cell (.tail _ (.tail _ (.tail _ (.tail _ (.head _))))) rfl)) fun a hK => ?_
                  refine wpPar_nil (tree_br ?_ ?_)
                  · refine spwB (k := 10) rfl rfl hS ?_
                    obtain ⟨y_181, h_182, H⟩ := bind_some H
                    refine sl_call Try.call15 hK (by decide) rfl rfl rfl (rowops_Top.calls (⟨y_5.Cols, y_176⟩ : api_Table) (IntKind.i64.wrap (x_43 + 1)) y_32.Name (lentOf_sub [] _) hS.sub (hs_10.mono (hl_54.le.trans hS.rLe0)) (hs_179.mono (hl_54.le.trans hS.rLe0)) h_182) fun a v_ w hv_ hK => ?_
                    obtain ⟨R_183, v_186, cs_187, v_190, cs_191, hv_, hr_, hl_184, hq_188, hq_192⟩ := hv_
                    have hv_ := hv_.symm
                    subst hv_
                    obtain ⟨hS, hl_184⟩ := hS.sp0.back hr_ hl_184
                    have hS := hS.un2
                    have hRL := hRL.trans hl_184
                    refine parKK_nil ((hS.pk6.pk6.pk6.pk6.pk6.trunc 5).lower hl_184.le) ?_
                    refine tree_list ?_
                    refine sp (k := 11) rfl hK (by decide) rfl rfl (fun w hS => r_move hK rfl) fun a hK => ?_
                    refine sp (k := 12) rfl hK (by decide) rfl rfl (fun w hS => r_extract hK rfl rfl) fun a hK => ?_
                    refine sp (k := 13) rfl hK (by decide) rfl rfl (fun w hS => r_extract hK rfl rfl) fun a hK => ?_
                    refine spw (k := 14) rfl rfl ((hS.pk6.pk6.pk6.pk6.pk6.trunc 5).lower hl_184.le) ?_
                    refine sl_alloc Try.zeroValue25 hS hK (by decide) rfl rfl fun a w b_193 hS hK => ?_
                    refine parK_nil ((hS.pk7.pk7.pk7.pk7.pk7.trunc 5).lower hl_184.le) ?_
                    refine spw (k := 15) rfl rfl ((hS.pk7.pk7.pk7.pk7.pk7.trunc 5).lower hl_184.le) ?_
                    refine sl_storeA (vs := [v_186, v_190]) (c' := [v_186, v_190]) Try.sizeOf25 hS hK rfl rfl rfl rfl (all_cons (hS.row_one (.tail _ (.head _))) (all_cons (hS.row_one (.tail _ (.tail _ (.head _)))) (all_nil))) (Nat.le_of_ble_eq_true rfl) rfl fun a w hS hK => ?_
                    refine parK_nil ((hS.pk7.pk7.pk7.pk7.pk7.trunc 5).lower hl_184.le) ?_
                    refine thenL_nil ?_
                    refine sl hK (by decide) rfl rfl (r_assign hK rfl) fun a hK => ?_
                    refine wpList_nil (NoP_nil ?_)
                    have hS := hS.pk2
                    have hS := hS.pk2
                    have hS := hS.pk3
                    have hS := hS.pk5
                    have hS := hS.pk5
                    have hS := hS.pk7
                    have hS := hS.pk7
                    exact ⟨y_181.1.Cols, y_181.1.Rows, y_181.2, _, _, _, _, _, _, H, hl_184, hq_188, hq_192, hK.sub (all_cons rfl (all_cons rfl (all_cons rfl (all_cons rfl (all_cons rfl (all_cons rfl (all_cons rfl (all_cons rfl (all_cons rfl (all_nil)))))))))), hS⟩
                  · refine spwB (k := 14) rfl rfl hS ?_
                    refine sl_alloc Try.zeroValue25 hS hK (by decide) rfl rfl fun a w b_194 hS hK => ?_
                    refine parKK_nil (hS.pk5.pk5.pk5.pk5.pk5.trunc 5) ?_
                    refine tree_list ?_
                    refine spw (k := 10) rfl rfl (hS.pk5.pk5.pk5.pk5.pk5.trunc 5) ?_
                    obtain ⟨y_195, h_196, H⟩ := bind_some H
                    refine sl_call Try.call15 hK (by decide) rfl rfl rfl (rowops_Top.calls (⟨y_5.Cols, y_176⟩ : api_Table) (IntKind.i64.wrap (x_43 + 1)) y_32.Name (lentOf_sub [] _) hS.sub (hs_10.mono (hl_54.le.trans hS.rLe0)) (hs_179.mono (hl_54.le.trans hS.rLe0)) h_196) fun a v_ w hv_ hK => ?_
                    obtain ⟨R_197, v_200, cs_201, v_204, cs_205, hv_, hr_, hl_198, hq_202, hq_206⟩ := hv_
                    have hv_ := hv_.symm
                    subst hv_
                    obtain ⟨hS, hl_198⟩ := hS.sp0.back hr_ hl_198
                    have hS := hS.un2
                    have hRL := hRL.trans hl_198
                    refine parK_nil ((hS.pk7.pk7.pk7.pk7.pk7.trunc 5).lower hl_198.le) ?_
                    refine sp (k := 11) rfl hK (by decide) rfl rfl (fun w hS => r_move hK rfl) fun a hK => ?_
                    refine sp (k := 12) rfl hK (by decide) rfl rfl (fun w hS => r_extract hK rfl rfl) fun a hK => ?_
                    refine sp (k := 13) rfl hK (by decide) rfl rfl (fun w hS => r_extract hK rfl rfl) fun a hK => ?_
                    refine spw (k := 15) rfl rfl ((hS.pk7.pk7.pk7.pk7.pk7.trunc 5).lower hl_198.le) ?_
                    have hS := hS.pk2
                    refine sl_storeA (vs := [v_200, v_204]) (c' := [v_200, v_204]) Try.sizeOf25 hS hK rfl rfl rfl rfl (all_cons (hS.row_one (.tail _ (.head _))) (all_cons (hS.row_one (.tail _ (.tail _ (.head _)))) (all_nil))) (Nat.le_of_ble_eq_true rfl) rfl fun a w hS hK => ?_
                    refine parK_nil ((hS.pk7.pk7.pk7.pk7.pk7.trunc 5).lower hl_198.le) ?_
                    refine thenL_nil ?_
                    refine sl hK (by decide) rfl rfl (r_assign hK rfl) fun a hK => ?_
                    refine wpList_nil (NoP_nil ?_)
                    have hS := hS.pk2
                    have hS := hS.pk2
                    have hS := hS.pk3
                    have hS := hS.pk5
                    have hS := hS.pk5
                    have hS := hS.pk7
                    have hS := hS.pk7
                    exact ⟨y_195.1.Cols, y_195.1.Rows, y_195.2, _, _, _, _, _, _, H, hl_198, hq_202, hq_206, hK.sub (all_cons rfl (all_cons rfl (all_cons rfl (all_cons rfl (all_cons rfl (all_cons rfl (all_cons rfl (all_cons rfl (all_cons rfl (all_nil)))))))))), hS⟩
                · rintro a w ⟨x_133, x_138, x_142, R_143, v_134, cs_135, v_139, cs_140, b_131, H, hl_144, hq_136, hq_141, hK, hS⟩
                  unfold law16_RowopsParts.j4 at H
                  have hRL := hRL.trans hl_144
                  refine wp_seq ?_
                  refine wp_mid (fun a w => ∃ (x_271 : List api_Col) (x_276 : List (List api_Value)) (x_280 : Int) (R_281 : Hp) (v_272 : Value) (cs_273 : List Value) (v_277 : Value) (cs_278 : List Value) (b_269 : Nat), law16_RowopsParts.j5 y_3 y_5 y_32 x_43 y_51 x_133 x_138 x_142 x_271 x_276 x_280 = some true ∧ RLe [] w0 R_143 R_281 ∧ Reps ty_api_Col R_281 cs_273 x_271 ∧ Reps (tySl ty_api_Value) R_281 cs_278 x_276 ∧ Kn 192 a [(3, .pointer (some ⟨b_1, 0, none⟩)), (7, .bool y_3), (8, .pointer (some ⟨b_41, 0, none⟩)), (9, .int .i64 (IntKind.i64.wrap (x_43 + 1))), (11, .pointer (some ⟨b_63, 0, none⟩)), (12, .int .i64 y_51.2), (13, .pointer (some ⟨b_131, 0, none⟩)), (14, .int .i64 x_142), (15, .pointer (some ⟨b_269, 0, none⟩)), (16, .int .i64 x_280)] ∧ St [] w0 w R_281 [.cells b_1 [v_9, v_11] 25, .cells b_41 [.string y_32.Name, .int .i64 y_32.Kind] 38, .row 38 2 v_56 y_51.1.Cols.length cs_57, .row 44 1 v_60 y_51.1.Rows.length cs_61, .cells b_63 [v_56, v_60] 25, .row 38 2 v_134 x_133.length cs_135, .row 44 1 v_139 x_138.length cs_140, .cells b_131 [v_134, v_139] 25, .row 38 2 v_272 x_271.length cs_273, .row 44 1 v_277 x_276.length cs_278, .cells b_269 [v_272, v_277] 25]) ?_ ?_
                  · refine treeT_region (C := fun w => St [] w0 w R_143 [.cells b_1 [v_9, v_11] 25, .cells b_41 [.string y_32.Name, .int .i64 y_32.Kind] 38, .row 38 2 v_56 y_51.1.Cols.length cs_57, .row 44 1 v_60 y_51.1.Rows.length cs_61, .cells b_63 [v_56, v_60] 25, .row 38 2 v_134 x_133.length cs_135, .row 44 1 v_139 x_138.length cs_140, .cells b_131 [v_134, v_139] 25]) 16 (.br [(0, true), (1, true), (2, true), (3, true), (4, true), (5, true), (6, true), (7, true), (8, true), (9, true)] 10 (.list [(11, true), (12, true), (13, true), (14, false), (15, false)]) 14 (.list [(10, false), (11, true), (12, true), (13, true), (15, false)])) mixed (by kernel_rfl) hS (fun w hS => hS) fun w hS => ?_
                    refine tree_fork ?_
                    refine sp (k := 0) rfl hK (by decide) rfl rfl (fun w hS => r_fieldAddr Try.underlying25 rfl Try.sizeOf22 hK rfl) fun a hK => ?_
                    refine sp (k := 1) rfl hK (by decide) rfl rfl (fun w hS => r_load Try.isAgg22 hK rfl (hS.cell (.head _) rfl)) fun a hK => ?_
                    refine sp (k := 2) rfl hK (by decide) rfl rfl (fun w hS => r_fieldAddr Try.underlying25 rfl Try.sizeOf23 hK rfl) fun a hK => ?_
                    refine sp (k := 3) rfl hK (by decide) rfl rfl (fun w hS => r_load Try.isAgg23 hK rfl (hS.cell (.head _) rfl)) fun a hK => ?_
                    refine sp (k := 4) rfl hK (by decide) rfl rfl (fun w hS => r_move hK rfl) fun a hK => ?_
                    obtain ⟨y_314, h_315, H⟩ := bind_some H
                    obtain ⟨v_316, hs_317, hr_318⟩ := r_slice_R (x := .tmp 102) (lo := some (.tmp 103)) (hi := none) Try.underlying23 Try.sizeOf44 hs_12 h_315 hK rfl ⟨_, rfl⟩ rfl
                    refine sp (k := 5) rfl hK (by decide) rfl rfl (fun w hS => hr_318 _ _ _ _ _ _ _ hK) fun a hK => ?_
                    refine sp (k := 6) rfl hK (by decide) rfl rfl (fun w hS => r_buildC (ps := [(0, v_9), (1, v_316)]) (c := [v_9, v_316]) Try.underlying25 Try.zeroValue25 places25 hK rfl (pc_cons (cells1 hs_10.one) (pc_cons (cells1 hs_317.one) pc_nil)) rfl rfl) fun a hK => ?_
                    refine sp (k := 7) rfl hK (by decide) rfl rfl (fun w hS => r_move hK rfl) fun a hK => ?_
                    refine sp (k := 8) rfl hK (by decide) rfl rfl (fun w hS => r_fieldAddr Try.underlying38 rfl Try.sizeOf9 hK rfl) fun a hK => ?_
                    refine sp (k := 9) rfl hK (by decide) rfl rfl (fun w hS => r_load Try.isAgg9 hK rfl (hS.cell (.tail _ (.head _)) rfl)) fun a hK => ?_
                    refine wpPar_nil (tree_br ?_ ?_)
                    · refine spwB (k := 10) rfl rfl hS ?_
                      obtain ⟨y_319, h_320, H⟩ := bind_some H
                      refine sl_call Try.call15 hK (by decide) rfl rfl rfl (rowops_Top.calls (⟨y_5.Cols, y_314⟩ : api_Table) (IntKind.i64.wrap (x_43 + 1)) y_32.Name (lentOf_sub [] _) hS.sub (hs_10.mono ((hl_54.le.trans hl_144.le).trans hS.rLe0)) (hs_317.mono ((hl_54.le.trans hl_144.le).trans hS.rLe0)) h_320) fun a v_ w hv_ hK => ?_
                      obtain ⟨R_321, v_324, cs_325, v_328, cs_329, hv_, hr_, hl_322, hq_326, hq_330⟩ := hv_
                      have hv_ := hv_.symm
                      subst hv_
                      obtain ⟨hS, hl_322⟩ := hS.sp0.back hr_ hl_322
                      have hS := hS.un2
                      have hRL := hRL.trans hl_322
                      refine parKK_nil ((hS.pk9.pk9.pk9.pk9.pk9.pk9.pk9.pk9.trunc 8).lower hl_322.le) ?_
                      refine tree_list ?_
                      refine sp (k := 11) rfl hK (by decide) rfl rfl (fun w hS => r_move hK rfl) fun a hK => ?_
                      refine sp (k := 12) rfl hK (by decide) rfl rfl (fun w hS => r_extract hK rfl rfl) fun a hK => ?_
                      refine sp (k := 13) rfl hK (by decide) rfl rfl (fun w hS => r_extract hK rfl rfl) fun a hK => ?_
                      refine spw (k := 14) rfl rfl ((hS.pk9.pk9.pk9.pk9.pk9.pk9.pk9.pk9.trunc 8).lower hl_322.le) ?_
                      refine sl_alloc Try.zeroValue25 hS hK (by decide) rfl rfl fun a w b_331 hS hK => ?_
                      refine parK_nil ((hS.pk10.pk10.pk10.pk10.pk10.pk10.pk10.pk10.trunc 8).lower hl_322.le) ?_
                      refine spw (k := 15) rfl rfl ((hS.pk10.pk10.pk10.pk10.pk10.pk10.pk10.pk10.trunc 8).lower hl_322.le) ?_
                      refine sl_storeA (vs := [v_324, v_328]) (c' := [v_324, v_328]) Try.sizeOf25 hS hK rfl rfl rfl rfl (all_cons (hS.row_one (.tail _ (.head _))) (all_cons (hS.row_one (.tail _ (.tail _ (.head _)))) (all_nil))) (Nat.le_of_ble_eq_true rfl) rfl fun a w hS hK => ?_
                      refine parK_nil ((hS.pk10.pk10.pk10.pk10.pk10.pk10.pk10.pk10.trunc 8).lower hl_322.le) ?_
                      refine thenL_nil ?_
                      refine sl hK (by decide) rfl rfl (r_assign hK rfl) fun a hK => ?_
                      refine wpList_nil (NoP_nil ?_)
                      have hS := hS.pk2
                      have hS := hS.pk2
                      have hS := hS.pk10
                      have hS := hS.pk10
                      have hS := hS.pk10
                      have hS := hS.pk10
                      have hS := hS.pk10
                      have hS := hS.pk10
                      have hS := hS.pk10
                      have hS := hS.pk10
                      exact ⟨y_319.1.Cols, y_319.1.Rows, y_319.2, _, _, _, _, _, _, H, hl_322, hq_326, hq_330, hK.sub (all_cons rfl (all_cons rfl (all_cons rfl (all_cons rfl (all_cons rfl (all_cons rfl (all_cons rfl (all_cons rfl (all_cons rfl (all_cons rfl (all_nil))))))))))), hS⟩
                    · refine spwB (k := 14) rfl rfl hS ?_
                      refine sl_alloc Try.zeroValue25 hS hK (by decide) rfl rfl fun a w b_332 hS hK => ?_
                      refine parKK_nil (hS.pk8.pk8.pk8.pk8.pk8.pk8.pk8.pk8.trunc 8) ?_
                      refine tree_list ?_
                      refine spw (k := 10) rfl rfl (hS.pk8.pk8.pk8.pk8.pk8.pk8.pk8.pk8.trunc 8) ?_
                      obtain ⟨y_333, h_334, H⟩ := bind_some H
                      refine sl_call Try.call15 hK (by decide) rfl rfl rfl (rowops_Top.calls (⟨y_5.Cols, y_314⟩ : api_Table) (IntKind.i64.wrap (x_43 + 1)) y_32.Name (lentOf_sub [] _) hS.sub (hs_10.mono ((hl_54.le.trans hl_144.le).trans hS.rLe0)) (hs_317.mono ((hl_54.le.trans hl_144.le).trans hS.rLe0)) h_334) fun a v_ w hv_ hK => ?_
                      obtain ⟨R_335, v_338, cs_339, v_342, cs_343, hv_, hr_, hl_336, hq_340, hq_344⟩ := hv_
                      have hv_ := hv_.symm
                      subst hv_
                      obtain ⟨hS, hl_336⟩ := hS.sp0.back hr_ hl_336
                      have hS := hS.un2
                      have hRL := hRL.trans hl_336
                      refine parK_nil ((hS.pk10.pk10.pk10.pk10.pk10.pk10.pk10.pk10.trunc 8).lower hl_336.le) ?_
                      refine sp (k := 11) rfl hK (by decide) rfl rfl (fun w hS => r_move hK rfl) fun a hK => ?_
                      refine sp (k := 12) rfl hK (by decide) rfl rfl (fun w hS => r_extract hK rfl rfl) fun a hK => ?_
                      refine sp (k := 13) rfl hK (by decide) rfl rfl (fun w hS => r_extract hK rfl rfl) fun a hK => ?_
                      refine spw (k := 15) rfl rfl ((hS.pk10.pk10.pk10.pk10.pk10.pk10.pk10.pk10.trunc 8).lower hl_336.le) ?_
                      have hS := hS.pk2
                      refine sl_storeA (vs := [v_338, v_342]) (c' := [v_338, v_342]) Try.sizeOf25 hS hK rfl rfl rfl rfl (all_cons (hS.row_one (.tail _ (.head _))) (all_cons (hS.row_one (.tail _ (.tail _ (.head _)))) (all_nil))) (Nat.le_of_ble_eq_true rfl) rfl fun a w hS hK => ?_
                      refine parK_nil ((hS.pk10.pk10.pk10.pk10.pk10.pk10.pk10.pk10.trunc 8).lower hl_336.le) ?_
                      refine thenL_nil ?_
                      refine sl hK (by decide) rfl rfl (r_assign hK rfl) fun a hK => ?_
                      refine wpList_nil (NoP_nil ?_)
                      have hS := hS.pk2
                      have hS := hS.pk2
                      have hS := hS.pk10
                      have hS := hS.pk10
                      have hS := hS.pk10
                      have hS := hS.pk10
                      have hS := hS.pk10
                      have hS := hS.pk10
                      have hS := hS.pk10
                      have hS := hS.pk10
                      exact ⟨y_333.1.Cols, y_333.1.Rows, y_333.2, _, _, _, _, _, _, H, hl_336, hq_340, hq_344, hK.sub (all_cons rfl (all_cons rfl (all_cons rfl (all_cons rfl (all_cons rfl (all_cons rfl (all_cons rfl (all_cons rfl (all_cons rfl (all_cons rfl (all_nil))))))))))), hS⟩
                  · rintro a w ⟨x_271, x_276, x_280, R_281, v_272, cs_273, v_277, cs_278, b_269, H, hl_282, hq_274, hq_279, hK, hS⟩
                    unfold law16_RowopsParts.j5 at H
                    have hRL := hRL.trans hl_282
                    refine wp_seq ?_
                    refine wp_region_lit ?_
                    refine sl hK (by decide) rfl rfl (r_loadA (cs := [v_134, v_139]) Try.isAgg25 Try.sizeOf25 rfl hK rfl (hS.cells_of (m := 2) (.tail _ (.tail _ (.tail _ (.tail _ (.tail _ (.tail _ (.tail _ (.head _)))))))) rfl)) fun a hK => ?_
                    refine sl hK (by decide) rfl rfl (r_loadA (cs := [v_272, v_277]) Try.isAgg25 Try.sizeOf25 rfl hK rfl (hS.cells_of (m := 2) (.tail _ (.tail _ (.tail _ (.tail _ (.tail _ (.tail _ (.tail _ (.tail _ (.tail _ (.tail _ (.head _))))))))))) rfl)) fun a hK => ?_
                    have hS := hS.pk5
                    obtain ⟨R_345, hS, hl_347, hs_346⟩ := hS.fz_row (hq_136.mono hl_282.le) rfl rfl
                    have hRL := hRL.trans hl_347
                    have hS := hS.pk5
                    obtain ⟨R_348, hS, hl_350, hs_349⟩ := hS.fz_row (hq_141.mono (hl_282.le.trans hl_347.le)) rfl rfl
                    have hRL := hRL.trans hl_350
                    have hS := hS.pk6
                    obtain ⟨R_351, hS, hl_353, hs_352⟩ := hS.fz_row (hq_274.mono (hl_347.le.trans hl_350.le)) rfl rfl
                    have hRL := hRL.trans hl_353
                    have hS := hS.pk6
                    obtain ⟨R_354, hS, hl_356, hs_355⟩ := hS.fz_row (hq_279.mono (hl_347.le.trans (hl_350.le.trans hl_353.le))) rfl rfl
                    have hRL := hRL.trans hl_356
                    obtain ⟨y_357, h_358, H⟩ := bind_some H
                    refine sl_call Try.call18 hK (by decide) rfl rfl rfl (ref02_Union.calls (⟨x_133, x_138⟩ : api_Table) (⟨x_271, x_276⟩ : api_Table) hS.sub (hs_346.mono (hl_350.le.trans (hl_353.le.trans hl_356.le))) (hs_349.mono (hl_353.le.trans hl_356.le)) (hs_352.mono hl_356.le) hs_355 h_358) fun a v_ w hv_ hK => ?_
                    obtain ⟨R_359, v_362, cs_363, v_366, cs_367, hv_, hr_, hl_360, hq_364, hq_368⟩ := hv_
                    have hv_ := hv_.symm
                    subst hv_
                    obtain ⟨hS, hl_360⟩ := hS.sp0.back hr_ hl_360
                    have hS := hS.un2
                    have hRL := hRL.trans hl_360
                    refine sl hK (by decide) rfl rfl (r_move hK rfl) fun a hK => ?_
                    refine sl hK (by decide) rfl rfl (r_extract hK rfl rfl) fun a hK => ?_
                    refine sl hK (by decide) rfl rfl (r_extract hK rfl rfl) fun a hK => ?_
                    refine sl_alloc Try.zeroValue25 hS hK (by decide) rfl rfl fun a w b_369 hS hK => ?_
                    refine sl_storeA (vs := [v_362, v_366]) (c' := [v_362, v_366]) Try.sizeOf25 hS hK rfl rfl rfl rfl (all_cons (hS.row_one (.tail _ (.head _))) (all_cons (hS.row_one (.tail _ (.tail _ (.head _)))) (all_nil))) (Nat.le_of_ble_eq_true rfl) rfl fun a w hS hK => ?_
                    refine sl hK (by decide) rfl rfl (r_assign hK rfl) fun a hK => ?_
                    refine wpList_nil ?_
                    refine wp_seq ?_
                    refine wp_region_lit ?_
                    refine sl hK (by decide) rfl rfl (r_loadA (cs := [v_362, v_366]) Try.isAgg25 Try.sizeOf25 rfl hK rfl (hS.cells_of (m := 2) (.head _) rfl)) fun a hK => ?_
                    refine sl hK (by decide) rfl rfl (r_move hK rfl) fun a hK => ?_
                    refine sl hK (by decide) rfl rfl (r_fieldAddr Try.underlying38 rfl Try.sizeOf9 hK rfl) fun a hK => ?_
                    refine sl hK (by decide) rfl rfl (r_load Try.isAgg9 hK rfl (hS.cell (.tail _ (.tail _ (.tail _ (.tail _ (.head _))))) rfl)) fun a hK => ?_
                    obtain ⟨y_370, h_371, H⟩ := bind_some H
                    refine sl_call Try.call15 hK (by decide) rfl rfl rfl (rowops_Top.calls y_357.1 (IntKind.i64.wrap (x_43 + 1)) y_32.Name (lentOf_sub [] _) hS.sub (hS.lend_row0 (.tail _ (.head _)) hq_364 rfl rfl) (hS.lend_row0 (.tail _ (.tail _ (.head _))) hq_368 rfl rfl) h_371) fun a v_ w hv_ hK => ?_
                    obtain ⟨R_372, v_375, cs_376, v_379, cs_380, hv_, hr_, hl_373, hq_377, hq_381⟩ := hv_
                    have hv_ := hv_.symm
                    subst hv_
                    obtain ⟨hS, hl_373⟩ := hS.sp0.back hr_ hl_373
                    have hS := hS.un2
                    have hRL := hRL.trans hl_373
                    refine sl hK (by decide) rfl rfl (r_move hK rfl) fun a hK => ?_
                    refine sl hK (by decide) rfl rfl (r_extract hK rfl rfl) fun a hK => ?_
                    refine sl hK (by decide) rfl rfl (r_extract hK rfl rfl) fun a hK => ?_
                    refine sl_alloc Try.zeroValue25 hS hK (by decide) rfl rfl fun a w b_382 hS hK => ?_
                    refine sl_storeA (vs := [v_375, v_379]) (c' := [v_375, v_379]) Try.sizeOf25 hS hK rfl rfl rfl rfl (all_cons (hS.row_one (.tail _ (.head _))) (all_cons (hS.row_one (.tail _ (.tail _ (.head _)))) (all_nil))) (Nat.le_of_ble_eq_true rfl) rfl fun a w hS hK => ?_
                    refine sl hK (by decide) rfl rfl (r_assign hK rfl) fun a hK => ?_
                    refine wpList_nil ?_
                    refine wp_seq ?_
                    refine wp_region_lit ?_
                    refine sl hK (by decide) rfl rfl (r_loadA (cs := [v_56, v_60]) Try.isAgg25 Try.sizeOf25 rfl hK rfl (hS.cells_of (m := 2) (.tail _ (.tail _ (.tail _ (.tail _ (.tail _ (.tail _ (.tail _ (.tail _ (.tail _ (.tail _ (.head _))))))))))) rfl)) fun a hK => ?_
                    refine sl hK (by decide) rfl rfl (r_fieldAddr Try.underlying38 rfl Try.sizeOf9 hK rfl) fun a hK => ?_
                    refine sl hK (by decide) rfl rfl (r_load Try.isAgg9 hK rfl (hS.cell (.tail _ (.tail _ (.tail _ (.tail _ (.tail _ (.tail _ (.tail _ (.head _)))))))) rfl)) fun a hK => ?_
                    obtain ⟨y_383, h_384, H⟩ := bind_some H
                    refine sl_call Try.call15 hK (by decide) rfl rfl rfl (rowops_Top.calls y_51.1 1 y_32.Name (lentOf_sub [] _) hS.sub (hS.lend_row0 (.tail _ (.tail _ (.tail _ (.tail _ (.tail _ (.tail _ (.tail _ (.tail _ (.head _))))))))) (hq_58.mono (hl_144.le.trans (hl_282.le.trans (hl_347.le.trans (hl_350.le.trans (hl_353.le.trans (hl_356.le.trans (hl_360.le.trans hl_373.le)))))))) rfl rfl) (hS.lend_row0 (.tail _ (.tail _ (.tail _ (.tail _ (.tail _ (.tail _ (.tail _ (.tail _ (.tail _ (.head _)))))))))) (hq_62.mono (hl_144.le.trans (hl_282.le.trans (hl_347.le.trans (hl_350.le.trans (hl_353.le.trans (hl_356.le.trans (hl_360.le.trans hl_373.le)))))))) rfl rfl) h_384) fun a v_ w hv_ hK => ?_
                    obtain ⟨R_385, v_388, cs_389, v_392, cs_393, hv_, hr_, hl_386, hq_390, hq_394⟩ := hv_
                    have hv_ := hv_.symm
                    subst hv_
                    obtain ⟨hS, hl_386⟩ := hS.sp0.back hr_ hl_386
                    have hS := hS.un2
                    have hRL := hRL.trans hl_386
                    refine sl hK (by decide) rfl rfl (r_move hK rfl) fun a hK => ?_
                    refine sl hK (by decide) rfl rfl (r_extract hK rfl rfl) fun a hK => ?_
                    refine sl hK (by decide) rfl rfl (r_extract hK rfl rfl) fun a hK => ?_
                    refine sl_alloc Try.zeroValue25 hS hK (by decide) rfl rfl fun a w b_395 hS hK => ?_
                    refine sl_storeA (vs := [v_388, v_392]) (c' := [v_388, v_392]) Try.sizeOf25 hS hK rfl rfl rfl rfl (all_cons (hS.row_one (.tail _ (.head _))) (all_cons (hS.row_one (.tail _ (.tail _ (.head _)))) (all_nil))) (Nat.le_of_ble_eq_true rfl) rfl fun a w hS hK => ?_
                    refine sl hK (by decide) rfl rfl (r_assign hK rfl) fun a hK => ?_
                    refine wpList_nil ?_
                    refine wp_seq ?_
                    refine wp_region_lit ?_
                    refine sl hK (by decide) rfl rfl (r_loadA (cs := [v_9, v_11]) Try.isAgg25 Try.sizeOf25 rfl hK rfl (hS.cells_of (m := 2) (.tail _ (.tail _ (.tail _ (.tail _ (.tail _ (.tail _ (.tail _ (.tail _ (.tail _ (.head _)))))))))) rfl)) fun a hK => ?_
                    refine sl hK (by decide) rfl rfl (r_fieldAddr Try.underlying38 rfl Try.sizeOf9 hK rfl) fun a hK => ?_
                    refine sl hK (by decide) rfl rfl (r_load Try.isAgg9 hK rfl (hS.cell (.tail _ (.tail _ (.tail _ (.tail _ (.tail _ (.tail _ (.tail _ (.tail _ (.tail _ (.tail _ (.head _))))))))))) rfl)) fun a hK => ?_
                    obtain ⟨y_396, h_397, H⟩ := bind_some H
                    refine sl_call Try.call15 hK (by decide) rfl rfl rfl (rowops_Top.calls y_5 1 y_32.Name (lentOf_sub [] _) hS.sub (hs_10.mono ((hl_54.le.trans (hl_144.le.trans (hl_282.le.trans (hl_347.le.trans (hl_350.le.trans (hl_353.le.trans (hl_356.le.trans (hl_360.le.trans (hl_373.le.trans hl_386.le))))))))).trans hS.rLe0)) (hs_12.mono ((hl_54.le.trans (hl_144.le.trans (hl_282.le.trans (hl_347.le.trans (hl_350.le.trans (hl_353.le.trans (hl_356.le.trans (hl_360.le.trans (hl_373.le.trans hl_386.le))))))))).trans hS.rLe0)) h_397) fun a v_ w hv_ hK => ?_
                    obtain ⟨R_398, v_401, cs_402, v_405, cs_406, hv_, hr_, hl_399, hq_403, hq_407⟩ := hv_
                    have hv_ := hv_.symm
                    subst hv_
                    obtain ⟨hS, hl_399⟩ := hS.sp0.back hr_ hl_399
                    have hS := hS.un2
                    have hRL := hRL.trans hl_399
                    refine sl hK (by decide) rfl rfl (r_move hK rfl) fun a hK => ?_
                    refine sl hK (by decide) rfl rfl (r_extract hK rfl rfl) fun a hK => ?_
                    refine sl hK (by decide) rfl rfl (r_extract hK rfl rfl) fun a hK => ?_
                    refine sl_alloc Try.zeroValue25 hS hK (by decide) rfl rfl fun a w b_408 hS hK => ?_
                    refine sl_storeA (vs := [v_401, v_405]) (c' := [v_401, v_405]) Try.sizeOf25 hS hK rfl rfl rfl rfl (all_cons (hS.row_one (.tail _ (.head _))) (all_cons (hS.row_one (.tail _ (.tail _ (.head _)))) (all_nil))) (Nat.le_of_ble_eq_true rfl) rfl fun a w hS hK => ?_
                    refine sl hK (by decide) rfl rfl (r_assign hK rfl) fun a hK => ?_
                    refine wpList_nil ?_
                    refine wp_seq ?_
                    refine wp_region_lit ?_
                    refine sl hK (by decide) rfl rfl (r_loadA (cs := [v_56, v_60]) Try.isAgg25 Try.sizeOf25 rfl hK rfl (hS.cells_of (m := 2) (.tail _ (.tail _ (.tail _ (.tail _ (.tail _ (.tail _ (.tail _ (.tail _ (.tail _ (.tail _ (.tail _ (.tail _ (.tail _ (.tail _ (.tail _ (.tail _ (.head _))))))))))))))))) rfl)) fun a hK => ?_
                    refine sl hK (by decide) rfl rfl (r_loadA (cs := [v_375, v_379]) Try.isAgg25 Try.sizeOf25 rfl hK rfl (hS.cells_of (m := 2) (.tail _ (.tail _ (.tail _ (.tail _ (.tail _ (.tail _ (.head _))))))) rfl)) fun a hK => ?_
                    obtain ⟨y_409, h_410, H⟩ := bind_some H
                    refine sl_callV Try.call14 hS hK (by decide) rfl rfl rfl (ref02_Same.calls y_51.1 y_370.1 (lentOf_sub [] _) (hS.lend_row0 (.tail _ (.tail _ (.tail _ (.tail _ (.tail _ (.tail _ (.tail _ (.tail _ (.tail _ (.tail _ (.tail _ (.tail _ (.tail _ (.tail _ (.head _))))))))))))))) (hq_58.mono (hl_144.le.trans (hl_282.le.trans (hl_347.le.trans (hl_350.le.trans (hl_353.le.trans (hl_356.le.trans (hl_360.le.trans (hl_373.le.trans (hl_386.le.trans hl_399.le)))))))))) rfl rfl) (hS.lend_row0 (.tail _ (.tail _ (.tail _ (.tail _ (.tail _ (.tail _ (.tail _ (.tail _ (.tail _ (.tail _ (.tail _ (.tail _ (.tail _ (.tail _ (.tail _ (.head _)))))))))))))))) (hq_62.mono (hl_144.le.trans (hl_282.le.trans (hl_347.le.trans (hl_350.le.trans (hl_353.le.trans (hl_356.le.trans (hl_360.le.trans (hl_373.le.trans (hl_386.le.trans hl_399.le)))))))))) rfl rfl) (hS.lend_row0 (.tail _ (.tail _ (.tail _ (.tail _ (.tail _ (.tail _ (.tail _ (.head _)))))))) (hq_377.mono (hl_386.le.trans hl_399.le)) rfl rfl) (hS.lend_row0 (.tail _ (.tail _ (.tail _ (.tail _ (.tail _ (.tail _ (.tail _ (.tail _ (.head _))))))))) (hq_381.mono (hl_386.le.trans hl_399.le)) rfl rfl) h_410) fun a w hS hK => ?_
                    refine sl hK (by decide) rfl rfl (r_assign hK rfl) fun a hK => ?_
                    refine wpList_nil ?_
                    refine wp_seq ?_
                    refine wp_region_lit ?_
                    refine sl hK (by decide) rfl rfl (r_loadA (cs := [v_388, v_392]) Try.isAgg25 Try.sizeOf25 rfl hK rfl (hS.cells_of (m := 2) (.tail _ (.tail _ (.tail _ (.head _)))) rfl)) fun a hK => ?_
                    refine sl hK (by decide) rfl rfl (r_loadA (cs := [v_401, v_405]) Try.isAgg25 Try.sizeOf25 rfl hK rfl (hS.cells_of (m := 2) (.head _) rfl)) fun a hK => ?_
                    obtain ⟨y_411, h_412, H⟩ := bind_some H
                    refine sl_callV Try.call14 hS hK (by decide) rfl rfl rfl (ref02_Same.calls y_383.1 y_396.1 (lentOf_sub [] _) (hS.lend_row0 (.tail _ (.tail _ (.tail _ (.tail _ (.head _))))) (hq_390.mono hl_399.le) rfl rfl) (hS.lend_row0 (.tail _ (.tail _ (.tail _ (.tail _ (.tail _ (.head _)))))) (hq_394.mono hl_399.le) rfl rfl) (hS.lend_row0 (.tail _ (.head _)) hq_403 rfl rfl) (hS.lend_row0 (.tail _ (.tail _ (.head _))) hq_407 rfl rfl) h_412) fun a w hS hK => ?_
                    refine sl hK (by decide) rfl rfl (r_assign hK rfl) fun a hK => ?_
                    refine wpList_nil ?_
                    refine wp_seq ?_
                    refine wp_region_lit ?_
                    refine sl hK (by decide) rfl rfl (r_move hK rfl) fun a hK => ?_
                    refine sl hK (by decide) rfl rfl (r_move hK rfl) fun a hK => ?_
                    rcases or_b y_3 with hb_413 | hb_413
                    · rw [ifb_t hb_413] at H
                      refine sl hK (by decide) (wtt hb_413) rfl (r_move hK rfl) fun a hK => ?_
                      refine sl hK (by decide) (wtt hb_413) rfl (r_ibin hK rfl rfl rfl) fun a hK => ?_
                      refine sl hK (by decide) rfl rfl (r_pick_t hb_413 hK rfl rfl) fun a hK => ?_
                      refine sl hK (by decide) rfl rfl (r_move hK rfl) fun a hK => ?_
                      rcases or_b (y_51.2 == 0) with hb_414 | hb_414
                      · rw [ifb_t hb_414] at H
                        refine sl hK (by decide) (wtt hb_414) rfl (r_move hK rfl) fun a hK => ?_
                        refine sl hK (by decide) (wtt hb_414) rfl (r_ibin hK rfl rfl rfl) fun a hK => ?_
                        refine sl hK (by decide) rfl rfl (r_pick_t hb_414 hK rfl rfl) fun a hK => ?_
                        refine sl hK (by decide) rfl rfl (r_move hK rfl) fun a hK => ?_
                        rcases or_b (x_142 == 0) with hb_415 | hb_415
                        · rw [ifb_t hb_415] at H
                          refine sl hK (by decide) (wtt hb_415) rfl (r_move hK rfl) fun a hK => ?_
                          refine sl hK (by decide) (wtt hb_415) rfl (r_ibin hK rfl rfl rfl) fun a hK => ?_
                          refine sl hK (by decide) rfl rfl (r_pick_t hb_415 hK rfl rfl) fun a hK => ?_
                          refine sl hK (by decide) rfl rfl (r_move hK rfl) fun a hK => ?_
                          rcases or_b (x_280 == 0) with hb_416 | hb_416
                          · rw [ifb_t hb_416] at H
                            refine sl hK (by decide) (wtt hb_416) rfl (r_move hK rfl) fun a hK => ?_
                            refine sl hK (by decide) (wtt hb_416) rfl (r_ibin hK rfl rfl rfl) fun a hK => ?_
                            refine sl hK (by decide) rfl rfl (r_pick_t hb_416 hK rfl rfl) fun a hK => ?_
                            refine sl hK (by decide) rfl rfl (r_move hK rfl) fun a hK => ?_
                            rcases or_b (y_357.2 == 0) with hb_417 | hb_417
                            · rw [ifb_t hb_417] at H
                              refine sl hK (by decide) (wtt hb_417) rfl (r_move hK rfl) fun a hK => ?_
                              refine sl hK (by decide) (wtt hb_417) rfl (r_ibin hK rfl rfl rfl) fun a hK => ?_
                              refine sl hK (by decide) rfl rfl (r_pick_t hb_417 hK rfl rfl) fun a hK => ?_
                              refine sl hK (by decide) rfl rfl (r_move hK rfl) fun a hK => ?_
                              rcases or_b (y_370.2 == 0) with hb_418 | hb_418
                              · rw [ifb_t hb_418] at H
                                refine sl hK (by decide) (wtt hb_418) rfl (r_move hK rfl) fun a hK => ?_
                                refine sl hK (by decide) (wtt hb_418) rfl (r_ibin hK rfl rfl rfl) fun a hK => ?_
                                refine sl hK (by decide) rfl rfl (r_pick_t hb_418 hK rfl rfl) fun a hK => ?_
                                refine sl hK (by decide) rfl rfl (r_move hK rfl) fun a hK => ?_
                                rcases or_b (y_383.2 == 0) with hb_419 | hb_419
                                · rw [ifb_t hb_419] at H
                                  refine sl hK (by decide) (wtt hb_419) rfl (r_move hK rfl) fun a hK => ?_
                                  refine sl hK (by decide) (wtt hb_419) rfl (r_ibin hK rfl rfl rfl) fun a hK => ?_
                                  refine sl hK (by decide) rfl rfl (r_pick_t hb_419 hK rfl rfl) fun a hK => ?_
                                  refine sl hK (by decide) rfl rfl (r_move hK rfl) fun a hK => ?_
                                  rcases or_b (y_396.2 == 0) with hb_420 | hb_420
                                  · rw [ifb_t hb_420] at H
                                    refine sl hK (by decide) (wtt hb_420) rfl (r_move hK rfl) fun a hK => ?_
                                    refine sl hK (by decide) rfl rfl (r_pick_t hb_420 hK rfl rfl) fun a hK => ?_
                                    refine sl hK (by decide) rfl rfl (r_move hK rfl) fun a hK => ?_
                                    rcases or_b y_409 with hb_421 | hb_421
                                    · rw [ifb_t hb_421] at H
                                      refine sl hK (by decide) (wtt hb_421) rfl (r_move hK rfl) fun a hK => ?_
                                      refine sl hK (by decide) rfl rfl (r_pick_t hb_421 hK rfl rfl) fun a hK => ?_
                                      refine sl hK (by decide) rfl rfl (r_move hK rfl) fun a hK => ?_
                                      rcases or_b y_411 with hb_422 | hb_422
                                      · rw [ifb_t hb_422] at H
                                        refine sl hK (by decide) (wtt hb_422) rfl (r_fieldAddr Try.underlying25 rfl Try.sizeOf23 hK rfl) fun a hK => ?_
                                        refine sl hK (by decide) (wtt hb_422) rfl (r_load Try.isAgg23 hK rfl (hS.cell (.tail _ (.tail _ (.tail _ (.tail _ (.tail _ (.tail _ (.tail _ (.tail _ (.tail _ (.tail _ (.tail _ (.tail _ (.tail _ (.tail _ (.tail _ (.tail _ (.head _))))))))))))))))) rfl)) fun a hK => ?_
                                        refine sl hK (by decide) (wtt hb_422) rfl (r_len_O Try.underlying23 hS (.tail _ (.tail _ (.tail _ (.tail _ (.tail _ (.tail _ (.tail _ (.tail _ (.tail _ (.tail _ (.tail _ (.tail _ (.tail _ (.tail _ (.tail _ (.head _)))))))))))))))) hK rfl) fun a hK => ?_
                                        refine sl hK (by decide) (wtt hb_422) rfl (r_move hK rfl) fun a hK => ?_
                                        refine sl hK (by decide) (wtt hb_422) rfl (r_fieldAddr Try.underlying25 rfl Try.sizeOf23 hK rfl) fun a hK => ?_
                                        refine sl hK (by decide) (wtt hb_422) rfl (r_load Try.isAgg23 hK rfl (hS.cell (.tail _ (.tail _ (.tail _ (.tail _ (.tail _ (.tail _ (.tail _ (.tail _ (.tail _ (.tail _ (.tail _ (.tail _ (.head _))))))))))))) rfl)) fun a hK => ?_
                                        refine sl hK (by decide) (wtt hb_422) rfl (r_len_R Try.underlying23 hs_12 hK rfl) fun a hK => ?_
                                        refine sl hK (by decide) (wtt hb_422) rfl (r_min2 hK rfl rfl) fun a hK => ?_
                                        refine sl hK (by decide) (wtt hb_422) rfl (r_ibin hK rfl rfl rfl) fun a hK => ?_
                                        refine sl hK (by decide) rfl rfl (r_pick_t hb_422 hK rfl rfl) fun a hK => ?_
                                        refine sl hK (by decide) rfl rfl (r_assign hK rfl) fun a hK => ?_
                                        refine wpList_nil ?_
                                        have hr_ := Option.some.inj H
                                        refine wp_ret ?_
                                        repeat (first | refine ret_then ?_ | refine ret_block ?_ | refine ret_scope ?_)
                                        exact ret_1 Try.results5 hK (rv_tmp hK rfl) ⟨congrArg (fun b => Ending.returned (Value.bool b)) hr_, hS.bel⟩
                                      · rw [ifb_f hb_422] at H
                                        refine sl_skip hK (by decide) (wtf hb_422) rfl fun a hK => ?_
                                        refine sl_skip hK (by decide) (wtf hb_422) rfl fun a hK => ?_
                                        refine sl_skip hK (by decide) (wtf hb_422) rfl fun a hK => ?_
                                        refine sl_skip hK (by decide) (wtf hb_422) rfl fun a hK => ?_
                                        refine sl_skip hK (by decide) (wtf hb_422) rfl fun a hK => ?_
                                        refine sl_skip hK (by decide) (wtf hb_422) rfl fun a hK => ?_
                                        refine sl_skip hK (by decide) (wtf hb_422) rfl fun a hK => ?_
                                        refine sl_skip hK (by decide) (wtf hb_422) rfl fun a hK => ?_
                                        refine sl_skip hK (by decide) (wtf hb_422) rfl fun a hK => ?_
                                        refine sl hK (by decide) rfl rfl (r_pick_f hb_422 hK rfl rfl) fun a hK => ?_
                                        refine sl hK (by decide) rfl rfl (r_assign hK rfl) fun a hK => ?_
                                        refine wpList_nil ?_
                                        exact absurd (Option.some.inj H) (by decide)
                                    · rw [ifb_f hb_421] at H
                                      refine sl_skip hK (by decide) (wtf hb_421) rfl fun a hK => ?_
                                      refine sl hK (by decide) rfl rfl (r_pick_f hb_421 hK rfl rfl) fun a hK => ?_
                                      refine sl hK (by decide) rfl rfl (r_move hK rfl) fun a hK => ?_
                                      refine sl_skip hK (by decide) rfl rfl fun a hK => ?_
                                      refine sl_skip hK (by decide) rfl rfl fun a hK => ?_
                                      refine sl_skip hK (by decide) rfl rfl fun a hK => ?_
                                      refine sl_skip hK (by decide) rfl rfl fun a hK => ?_
                                      refine sl_skip hK (by decide) rfl rfl fun a hK => ?_
                                      refine sl_skip hK (by decide) rfl rfl fun a hK => ?_
                                      refine sl_skip hK (by decide) rfl rfl fun a hK => ?_
                                      refine sl_skip hK (by decide) rfl rfl fun a hK => ?_
                                      refine sl_skip hK (by decide) rfl rfl fun a hK => ?_
                                      refine sl hK (by decide) rfl rfl (r_pick hK rfl rfl rfl) fun a hK => ?_
                                      refine sl hK (by decide) rfl rfl (r_assign hK rfl) fun a hK => ?_
                                      refine wpList_nil ?_
                                      exact absurd (Option.some.inj H) (by decide)
                                  · rw [ifb_f hb_420] at H
                                    refine sl_skip hK (by decide) (wtf hb_420) rfl fun a hK => ?_
                                    refine sl hK (by decide) rfl rfl (r_pick_f hb_420 hK rfl rfl) fun a hK => ?_
                                    refine sl hK (by decide) rfl rfl (r_move hK rfl) fun a hK => ?_
                                    refine sl_skip hK (by decide) rfl rfl fun a hK => ?_
                                    refine sl hK (by decide) rfl rfl (r_pick hK rfl rfl rfl) fun a hK => ?_
                                    refine sl hK (by decide) rfl rfl (r_move hK rfl) fun a hK => ?_
                                    refine sl_skip hK (by decide) rfl rfl fun a hK => ?_
                                    refine sl_skip hK (by decide) rfl rfl fun a hK => ?_
                                    refine sl_skip hK (by decide) rfl rfl fun a hK => ?_
                                    refine sl_skip hK (by decide) rfl rfl fun a hK => ?_
                                    refine sl_skip hK (by decide) rfl rfl fun a hK => ?_
                                    refine sl_skip hK (by decide) rfl rfl fun a hK => ?_
                                    refine sl_skip hK (by decide) rfl rfl fun a hK => ?_
                                    refine sl_skip hK (by decide) rfl rfl fun a hK => ?_
                                    refine sl_skip hK (by decide) rfl rfl fun a hK => ?_
                                    refine sl hK (by decide) rfl rfl (r_pick hK rfl rfl rfl) fun a hK => ?_
                                    refine sl hK (by decide) rfl rfl (r_assign hK rfl) fun a hK => ?_
                                    refine wpList_nil ?_
                                    exact absurd (Option.some.inj H) (by decide)
                                · rw [ifb_f hb_419] at H
                                  refine sl_skip hK (by decide) (wtf hb_419) rfl fun a hK => ?_
                                  refine sl_skip hK (by decide) (wtf hb_419) rfl fun a hK => ?_
                                  refine sl hK (by decide) rfl rfl (r_pick_f hb_419 hK rfl rfl) fun a hK => ?_
                                  refine sl hK (by decide) rfl rfl (r_move hK rfl) fun a hK => ?_
                                  refine sl_skip hK (by decide) rfl rfl fun a hK => ?_
                                  refine sl hK (by decide) rfl rfl (r_pick hK rfl rfl rfl) fun a hK => ?_
                                  refine sl hK (by decide) rfl rfl (r_move hK rfl) fun a hK => ?_
                                  refine sl_skip hK (by decide) rfl rfl fun a hK => ?_
                                  refine sl hK (by decide) rfl rfl (r_pick hK rfl rfl rfl) fun a hK => ?_
                                  refine sl hK (by decide) rfl rfl (r_move hK rfl) fun a hK => ?_
                                  refine sl_skip hK (by decide) rfl rfl fun a hK => ?_
                                  refine sl_skip hK (by decide) rfl rfl fun a hK => ?_
                                  refine sl_skip hK (by decide) rfl rfl fun a hK => ?_
                                  refine sl_skip hK (by decide) rfl rfl fun a hK => ?_
                                  refine sl_skip hK (by decide) rfl rfl fun a hK => ?_
                                  refine sl_skip hK (by decide) rfl rfl fun a hK => ?_
                                  refine sl_skip hK (by decide) rfl rfl fun a hK => ?_
                                  refine sl_skip hK (by decide) rfl rfl fun a hK => ?_
                                  refine sl_skip hK (by decide) rfl rfl fun a hK => ?_
                                  refine sl hK (by decide) rfl rfl (r_pick hK rfl rfl rfl) fun a hK => ?_
                                  refine sl hK (by decide) rfl rfl (r_assign hK rfl) fun a hK => ?_
                                  refine wpList_nil ?_
                                  exact absurd (Option.some.inj H) (by decide)
                              · rw [ifb_f hb_418] at H
                                refine sl_skip hK (by decide) (wtf hb_418) rfl fun a hK => ?_
                                refine sl_skip hK (by decide) (wtf hb_418) rfl fun a hK => ?_
                                refine sl hK (by decide) rfl rfl (r_pick_f hb_418 hK rfl rfl) fun a hK => ?_
                                refine sl hK (by decide) rfl rfl (r_move hK rfl) fun a hK => ?_
                                refine sl_skip hK (by decide) rfl rfl fun a hK => ?_
                                refine sl_skip hK (by decide) rfl rfl fun a hK => ?_
                                refine sl hK (by decide) rfl rfl (r_pick hK rfl rfl rfl) fun a hK => ?_
                                refine sl hK (by decide) rfl rfl (r_move hK rfl) fun a hK => ?_
                                refine sl_skip hK (by decide) rfl rfl fun a hK => ?_
                                refine sl hK (by decide) rfl rfl (r_pick hK rfl rfl rfl) fun a hK => ?_
                                refine sl hK (by decide) rfl rfl (r_move hK rfl) fun a hK => ?_
                                refine sl_skip hK (by decide) rfl rfl fun a hK => ?_
                                refine sl hK (by decide) rfl rfl (r_pick hK rfl rfl rfl) fun a hK => ?_
                                refine sl hK (by decide) rfl rfl (r_move hK rfl) fun a hK => ?_
                                refine sl_skip hK (by decide) rfl rfl fun a hK => ?_
                                refine sl_skip hK (by decide) rfl rfl fun a hK => ?_
                                refine sl_skip hK (by decide) rfl rfl fun a hK => ?_
                                refine sl_skip hK (by decide) rfl rfl fun a hK => ?_
                                refine sl_skip hK (by decide) rfl rfl fun a hK => ?_
                                refine sl_skip hK (by decide) rfl rfl fun a hK => ?_
                                refine sl_skip hK (by decide) rfl rfl fun a hK => ?_
                                refine sl_skip hK (by decide) rfl rfl fun a hK => ?_
                                refine sl_skip hK (by decide) rfl rfl fun a hK => ?_
                                refine sl hK (by decide) rfl rfl (r_pick hK rfl rfl rfl) fun a hK => ?_
                                refine sl hK (by decide) rfl rfl (r_assign hK rfl) fun a hK => ?_
                                refine wpList_nil ?_
                                exact absurd (Option.some.inj H) (by decide)
                            · rw [ifb_f hb_417] at H
                              refine sl_skip hK (by decide) (wtf hb_417) rfl fun a hK => ?_
                              refine sl_skip hK (by decide) (wtf hb_417) rfl fun a hK => ?_
                              refine sl hK (by decide) rfl rfl (r_pick_f hb_417 hK rfl rfl) fun a hK => ?_
                              refine sl hK (by decide) rfl rfl (r_move hK rfl) fun a hK => ?_
                              refine sl_skip hK (by decide) rfl rfl fun a hK => ?_
                              refine sl_skip hK (by decide) rfl rfl fun a hK => ?_
                              refine sl hK (by decide) rfl rfl (r_pick hK rfl rfl rfl) fun a hK => ?_
                              refine sl hK (by decide) rfl rfl (r_move hK rfl) fun a hK => ?_
                              refine sl_skip hK (by decide) rfl rfl fun a hK => ?_
                              refine sl_skip hK (by decide) rfl rfl fun a hK => ?_
                              refine sl hK (by decide) rfl rfl (r_pick hK rfl rfl rfl) fun a hK => ?_
                              refine sl hK (by decide) rfl rfl (r_move hK rfl) fun a hK => ?_
                              refine sl_skip hK (by decide) rfl rfl fun a hK => ?_
                              refine sl hK (by decide) rfl rfl (r_pick hK rfl rfl rfl) fun a hK => ?_
                              refine sl hK (by decide) rfl rfl (r_move hK rfl) fun a hK => ?_
                              refine sl_skip hK (by decide) rfl rfl fun a hK => ?_
                              refine sl hK (by decide) rfl rfl (r_pick hK rfl rfl rfl) fun a hK => ?_
                              refine sl hK (by decide) rfl rfl (r_move hK rfl) fun a hK => ?_
                              refine sl_skip hK (by decide) rfl rfl fun a hK => ?_
                              refine sl_skip hK (by decide) rfl rfl fun a hK => ?_
                              refine sl_skip hK (by decide) rfl rfl fun a hK => ?_
                              refine sl_skip hK (by decide) rfl rfl fun a hK => ?_
                              refine sl_skip hK (by decide) rfl rfl fun a hK => ?_
                              refine sl_skip hK (by decide) rfl rfl fun a hK => ?_
                              refine sl_skip hK (by decide) rfl rfl fun a hK => ?_
                              refine sl_skip hK (by decide) rfl rfl fun a hK => ?_
                              refine sl_skip hK (by decide) rfl rfl fun a hK => ?_
                              refine sl hK (by decide) rfl rfl (r_pick hK rfl rfl rfl) fun a hK => ?_
                              refine sl hK (by decide) rfl rfl (r_assign hK rfl) fun a hK => ?_
                              refine wpList_nil ?_
                              exact absurd (Option.some.inj H) (by decide)
                          · rw [ifb_f hb_416] at H
                            refine sl_skip hK (by decide) (wtf hb_416) rfl fun a hK => ?_
                            refine sl_skip hK (by decide) (wtf hb_416) rfl fun a hK => ?_
                            refine sl hK (by decide) rfl rfl (r_pick_f hb_416 hK rfl rfl) fun a hK => ?_
                            refine sl hK (by decide) rfl rfl (r_move hK rfl) fun a hK => ?_
                            refine sl_skip hK (by decide) rfl rfl fun a hK => ?_
                            refine sl_skip hK (by decide) rfl rfl fun a hK => ?_
                            refine sl hK (by decide) rfl rfl (r_pick hK rfl rfl rfl) fun a hK => ?_
                            refine sl hK (by decide) rfl rfl (r_move hK rfl) fun a hK => ?_
                            refine sl_skip hK (by decide) rfl rfl fun a hK => ?_
                            refine sl_skip hK (by decide) rfl rfl fun a hK => ?_
                            refine sl hK (by decide) rfl rfl (r_pick hK rfl rfl rfl) fun a hK => ?_
                            refine sl hK (by decide) rfl rfl (r_move hK rfl) fun a hK => ?_
                            refine sl_skip hK (by decide) rfl rfl fun a hK => ?_
                            refine sl_skip hK (by decide) rfl rfl fun a hK => ?_
                            refine sl hK (by decide) rfl rfl (r_pick hK rfl rfl rfl) fun a hK => ?_
                            refine sl hK (by decide) rfl rfl (r_move hK rfl) fun a hK => ?_
                            refine sl_skip hK (by decide) rfl rfl fun a hK => ?_
                            refine sl hK (by decide) rfl rfl (r_pick hK rfl rfl rfl) fun a hK => ?_
                            refine sl hK (by decide) rfl rfl (r_move hK rfl) fun a hK => ?_
                            refine sl_skip hK (by decide) rfl rfl fun a hK => ?_
                            refine sl hK (by decide) rfl rfl (r_pick hK rfl rfl rfl) fun a hK => ?_
                            refine sl hK (by decide) rfl rfl (r_move hK rfl) fun a hK => ?_
                            refine sl_skip hK (by decide) rfl rfl fun a hK => ?_
                            refine sl_skip hK (by decide) rfl rfl fun a hK => ?_
                            refine sl_skip hK (by decide) rfl rfl fun a hK => ?_
                            refine sl_skip hK (by decide) rfl rfl fun a hK => ?_
                            refine sl_skip hK (by decide) rfl rfl fun a hK => ?_
                            refine sl_skip hK (by decide) rfl rfl fun a hK => ?_
                            refine sl_skip hK (by decide) rfl rfl fun a hK => ?_
                            refine sl_skip hK (by decide) rfl rfl fun a hK => ?_
                            refine sl_skip hK (by decide) rfl rfl fun a hK => ?_
                            refine sl hK (by decide) rfl rfl (r_pick hK rfl rfl rfl) fun a hK => ?_
                            refine sl hK (by decide) rfl rfl (r_assign hK rfl) fun a hK => ?_
                            refine wpList_nil ?_
                            exact absurd (Option.some.inj H) (by decide)
                        · rw [ifb_f hb_415] at H
                          refine sl_skip hK (by decide) (wtf hb_415) rfl fun a hK => ?_
                          refine sl_skip hK (by decide) (wtf hb_415) rfl fun a hK => ?_
                          refine sl hK (by decide) rfl rfl (r_pick_f hb_415 hK rfl rfl) fun a hK => ?_
                          refine sl hK (by decide) rfl rfl (r_move hK rfl) fun a hK => ?_
                          refine sl_skip hK (by decide) rfl rfl fun a hK => ?_
                          refine sl_skip hK (by decide) rfl rfl fun a hK => ?_
                          refine sl hK (by decide) rfl rfl (r_pick hK rfl rfl rfl) fun a hK => ?_
                          refine sl hK (by decide) rfl rfl (r_move hK rfl) fun a hK => ?_
                          refine sl_skip hK (by decide) rfl rfl fun a hK => ?_
                          refine sl_skip hK (by decide) rfl rfl fun a hK => ?_
                          refine sl hK (by decide) rfl rfl (r_pick hK rfl rfl rfl) fun a hK => ?_
                          refine sl hK (by decide) rfl rfl (r_move hK rfl) fun a hK => ?_
                          refine sl_skip hK (by decide) rfl rfl fun a hK => ?_
                          refine sl_skip hK (by decide) rfl rfl fun a hK => ?_
                          refine sl hK (by decide) rfl rfl (r_pick hK rfl rfl rfl) fun a hK => ?_
                          refine sl hK (by decide) rfl rfl (r_move hK rfl) fun a hK => ?_
                          refine sl_skip hK (by decide) rfl rfl fun a hK => ?_
                          refine sl_skip hK (by decide) rfl rfl fun a hK => ?_
                          refine sl hK (by decide) rfl rfl (r_pick hK rfl rfl rfl) fun a hK => ?_
                          refine sl hK (by decide) rfl rfl (r_move hK rfl) fun a hK => ?_
                          refine sl_skip hK (by decide) rfl rfl fun a hK => ?_
                          refine sl hK (by decide) rfl rfl (r_pick hK rfl rfl rfl) fun a hK => ?_
                          refine sl hK (by decide) rfl rfl (r_move hK rfl) fun a hK => ?_
                          refine sl_skip hK (by decide) rfl rfl fun a hK => ?_
                          refine sl hK (by decide) rfl rfl (r_pick hK rfl rfl rfl) fun a hK => ?_
                          refine sl hK (by decide) rfl rfl (r_move hK rfl) fun a hK => ?_
                          refine sl_skip hK (by decide) rfl rfl fun a hK => ?_
                          refine sl_skip hK (by decide) rfl rfl fun a hK => ?_
                          refine sl_skip hK (by decide) rfl rfl fun a hK => ?_
                          refine sl_skip hK (by decide) rfl rfl fun a hK => ?_
                          refine sl_skip hK (by decide) rfl rfl fun a hK => ?_
                          refine sl_skip hK (by decide) rfl rfl fun a hK => ?_
                          refine sl_skip hK (by decide) rfl rfl fun a hK => ?_
                          refine sl_skip hK (by decide) rfl rfl fun a hK => ?_
                          refine sl_skip hK (by decide) rfl rfl fun a hK => ?_
                          refine sl hK (by decide) rfl rfl (r_pick hK rfl rfl rfl) fun a hK => ?_
                          refine sl hK (by decide) rfl rfl (r_assign hK rfl) fun a hK => ?_
                          refine wpList_nil ?_
                          exact absurd (Option.some.inj H) (by decide)
                      · rw [ifb_f hb_414] at H
                        refine sl_skip hK (by decide) (wtf hb_414) rfl fun a hK => ?_
                        refine sl_skip hK (by decide) (wtf hb_414) rfl fun a hK => ?_
                        refine sl hK (by decide) rfl rfl (r_pick_f hb_414 hK rfl rfl) fun a hK => ?_
                        refine sl hK (by decide) rfl rfl (r_move hK rfl) fun a hK => ?_
                        refine sl_skip hK (by decide) rfl rfl fun a hK => ?_
                        refine sl_skip hK (by decide) rfl rfl fun a hK => ?_
                        refine sl hK (by decide) rfl rfl (r_pick hK rfl rfl rfl) fun a hK => ?_
                        refine sl hK (by decide) rfl rfl (r_move hK rfl) fun a hK => ?_
                        refine sl_skip hK (by decide) rfl rfl fun a hK => ?_
                        refine sl_skip hK (by decide) rfl rfl fun a hK => ?_
                        refine sl hK (by decide) rfl rfl (r_pick hK rfl rfl rfl) fun a hK => ?_
                        refine sl hK (by decide) rfl rfl (r_move hK rfl) fun a hK => ?_
                        refine sl_skip hK (by decide) rfl rfl fun a hK => ?_
                        refine sl_skip hK (by decide) rfl rfl fun a hK => ?_
                        refine sl hK (by decide) rfl rfl (r_pick hK rfl rfl rfl) fun a hK => ?_
                        refine sl hK (by decide) rfl rfl (r_move hK rfl) fun a hK => ?_
                        refine sl_skip hK (by decide) rfl rfl fun a hK => ?_
                        refine sl_skip hK (by decide) rfl rfl fun a hK => ?_
                        refine sl hK (by decide) rfl rfl (r_pick hK rfl rfl rfl) fun a hK => ?_
                        refine sl hK (by decide) rfl rfl (r_move hK rfl) fun a hK => ?_
                        refine sl_skip hK (by decide) rfl rfl fun a hK => ?_
                        refine sl_skip hK (by decide) rfl rfl fun a hK => ?_
                        refine sl hK (by decide) rfl rfl (r_pick hK rfl rfl rfl) fun a hK => ?_
                        refine sl hK (by decide) rfl rfl (r_move hK rfl) fun a hK => ?_
                        refine sl_skip hK (by decide) rfl rfl fun a hK => ?_
                        refine sl hK (by decide) rfl rfl (r_pick hK rfl rfl rfl) fun a hK => ?_
                        refine sl hK (by decide) rfl rfl (r_move hK rfl) fun a hK => ?_
                        refine sl_skip hK (by decide) rfl rfl fun a hK => ?_
                        refine sl hK (by decide) rfl rfl (r_pick hK rfl rfl rfl) fun a hK => ?_
                        refine sl hK (by decide) rfl rfl (r_move hK rfl) fun a hK => ?_
                        refine sl_skip hK (by decide) rfl rfl fun a hK => ?_
                        refine sl_skip hK (by decide) rfl rfl fun a hK => ?_
                        refine sl_skip hK (by decide) rfl rfl fun a hK => ?_
                        refine sl_skip hK (by decide) rfl rfl fun a hK => ?_
                        refine sl_skip hK (by decide) rfl rfl fun a hK => ?_
                        refine sl_skip hK (by decide) rfl rfl fun a hK => ?_
                        refine sl_skip hK (by decide) rfl rfl fun a hK => ?_
                        refine sl_skip hK (by decide) rfl rfl fun a hK => ?_
                        refine sl_skip hK (by decide) rfl rfl fun a hK => ?_
                        refine sl hK (by decide) rfl rfl (r_pick hK rfl rfl rfl) fun a hK => ?_
                        refine sl hK (by decide) rfl rfl (r_assign hK rfl) fun a hK => ?_
                        refine wpList_nil ?_
                        exact absurd (Option.some.inj H) (by decide)
                    · rw [ifb_f hb_413] at H
                      refine sl_skip hK (by decide) (wtf hb_413) rfl fun a hK => ?_
                      refine sl_skip hK (by decide) (wtf hb_413) rfl fun a hK => ?_
                      refine sl hK (by decide) rfl rfl (r_pick_f hb_413 hK rfl rfl) fun a hK => ?_
                      refine sl hK (by decide) rfl rfl (r_move hK rfl) fun a hK => ?_
                      refine sl_skip hK (by decide) rfl rfl fun a hK => ?_
                      refine sl_skip hK (by decide) rfl rfl fun a hK => ?_
                      refine sl hK (by decide) rfl rfl (r_pick hK rfl rfl rfl) fun a hK => ?_
                      refine sl hK (by decide) rfl rfl (r_move hK rfl) fun a hK => ?_
                      refine sl_skip hK (by decide) rfl rfl fun a hK => ?_
                      refine sl_skip hK (by decide) rfl rfl fun a hK => ?_
                      refine sl hK (by decide) rfl rfl (r_pick hK rfl rfl rfl) fun a hK => ?_
                      refine sl hK (by decide) rfl rfl (r_move hK rfl) fun a hK => ?_
                      refine sl_skip hK (by decide) rfl rfl fun a hK => ?_
                      refine sl_skip hK (by decide) rfl rfl fun a hK => ?_
                      refine sl hK (by decide) rfl rfl (r_pick hK rfl rfl rfl) fun a hK => ?_
                      refine sl hK (by decide) rfl rfl (r_move hK rfl) fun a hK => ?_
                      refine sl_skip hK (by decide) rfl rfl fun a hK => ?_
                      refine sl_skip hK (by decide) rfl rfl fun a hK => ?_
                      refine sl hK (by decide) rfl rfl (r_pick hK rfl rfl rfl) fun a hK => ?_
                      refine sl hK (by decide) rfl rfl (r_move hK rfl) fun a hK => ?_
                      refine sl_skip hK (by decide) rfl rfl fun a hK => ?_
                      refine sl_skip hK (by decide) rfl rfl fun a hK => ?_
                      refine sl hK (by decide) rfl rfl (r_pick hK rfl rfl rfl) fun a hK => ?_
                      refine sl hK (by decide) rfl rfl (r_move hK rfl) fun a hK => ?_
                      refine sl_skip hK (by decide) rfl rfl fun a hK => ?_
                      refine sl_skip hK (by decide) rfl rfl fun a hK => ?_
                      refine sl hK (by decide) rfl rfl (r_pick hK rfl rfl rfl) fun a hK => ?_
                      refine sl hK (by decide) rfl rfl (r_move hK rfl) fun a hK => ?_
                      refine sl_skip hK (by decide) rfl rfl fun a hK => ?_
                      refine sl hK (by decide) rfl rfl (r_pick hK rfl rfl rfl) fun a hK => ?_
                      refine sl hK (by decide) rfl rfl (r_move hK rfl) fun a hK => ?_
                      refine sl_skip hK (by decide) rfl rfl fun a hK => ?_
                      refine sl hK (by decide) rfl rfl (r_pick hK rfl rfl rfl) fun a hK => ?_
                      refine sl hK (by decide) rfl rfl (r_move hK rfl) fun a hK => ?_
                      refine sl_skip hK (by decide) rfl rfl fun a hK => ?_
                      refine sl_skip hK (by decide) rfl rfl fun a hK => ?_
                      refine sl_skip hK (by decide) rfl rfl fun a hK => ?_
                      refine sl_skip hK (by decide) rfl rfl fun a hK => ?_
                      refine sl_skip hK (by decide) rfl rfl fun a hK => ?_
                      refine sl_skip hK (by decide) rfl rfl fun a hK => ?_
                      refine sl_skip hK (by decide) rfl rfl fun a hK => ?_
                      refine sl_skip hK (by decide) rfl rfl fun a hK => ?_
                      refine sl_skip hK (by decide) rfl rfl fun a hK => ?_
                      refine sl hK (by decide) rfl rfl (r_pick hK rfl rfl rfl) fun a hK => ?_
                      refine sl hK (by decide) rfl rfl (r_assign hK rfl) fun a hK => ?_
                      refine wpList_nil ?_
                      exact absurd (Option.some.inj H) (by decide)
          · rw [ifb_f hn_46] at H
            cases H
      · rw [ifb_f hn_31] at H
        cases H

end Go.Proofs.Ytjimddbbpjpgdaa.M
