/- Each Go function of the laws answers as its plain Lean function tells, wherever that tells something. Printed by wip/eng/gen.py. -/
import Derived.Test.YtabdokppkcgdlaaWalk2
namespace Go.Proofs.Ytabdokppkcgdlaa.M
open Go Go.Eng Go.Proofs Go.RowKit
set_option linter.unusedVariables false
set_option linter.unusedSimpArgs false

/-! ### catchment/catchmentref02.Union: function 13 -/
set_option maxHeartbeats 4000000 in
set_option maxRecDepth 100000 in
theorem ref02_Union.calls (a0 : api_Table) (a1 : api_Table) {w0 : World} {R : Hp} {v0_0 : Value} {v0_1 : Value} {v1_0 : Value} {v1_1 : Value} (hR : R.sub w0) (h0_0 : SlR ty_api_Col R v0_0 a0.Cols) (h0_1 : SlR (tySl ty_api_Value) R v0_1 a0.Rows) (h1_0 : SlR ty_api_Col R v1_0 a1.Cols) (h1_1 : SlR (tySl ty_api_Value) R v1_1 a1.Rows) {r : api_Table × Int} (H : ref02_Union a0 a1 = some r) : Calls Try.prog 13 #[.agg #[v0_0, v0_1], .agg #[v1_0, v1_1]] w0 (Rets fun v w' => ∃ (R' : Hp) (u0 : Value) (cu0 : List Value) (u1 : Value) (cu1 : List Value), v = .tuple #[.agg #[u0, u1], .int .i64 r.2] ∧ St [] w0 w' R' [.row 34 2 u0 r.1.Cols.length cu0, .row 40 1 u1 r.1.Rows.length cu1] ∧ RLe [] w0 R R' ∧ Reps ty_api_Col R' cu0 r.1.Cols ∧ Reps (tySl ty_api_Value) R' cu1 r.1.Rows) := by
  unfold ref02_Union at H
  refine enter (args := [.agg #[v0_0, v0_1], .agg #[v1_0, v1_1]]) Try.func13 rfl Try.ntmps13 rfl fun a hK => ?_
  have hS := St.init hR
  have hRL := RLe.refl (M := []) w0 R
  refine wp_seq ?_
  refine wp_region_lit ?_
  refine sl_box hS hK (by decide) rfl rfl (c := [v0_0, v0_1]) rfl fun a w b_1 hS hK => ?_
  refine sl_box hS hK (by decide) rfl rfl (c := [v1_0, v1_1]) rfl fun a w b_2 hS hK => ?_
  refine sl_alloc Try.zeroValue25 hS hK (by decide) rfl rfl fun a w b_3 hS hK => ?_
  refine sl hK (by decide) rfl rfl (r_assign hK rfl) fun a hK => ?_
  refine wpList_nil ?_
  refine wp_seq ?_
  refine wp_region_lit ?_
  refine sl hK (by decide) rfl rfl (r_loadA (cs := [v0_0, v0_1]) Try.isAgg25 Try.sizeOf25 rfl hK rfl (hS.cells_of (m := 2) (.tail _ (.tail _ (.head _))) rfl)) fun a hK => ?_
  obtain ⟨y_4, h_5, H⟩ := bind_some H
  refine sl_callV Try.call10 hS hK (by decide) rfl rfl rfl (ref02_Check.calls a0 (lentOf_sub [] _) (h0_0.mono hS.rLe0) (h0_1.mono hS.rLe0) h_5) fun a w hS hK => ?_
  refine sl hK (by decide) rfl rfl (r_assign hK rfl) fun a hK => ?_
  refine wpList_nil ?_
  refine wp_seq ?_
  refine wp_seq ?_
  refine wp_region_lit ?_
  refine sl hK (by decide) rfl rfl (r_move hK rfl) fun a hK => ?_
  refine sl hK (by decide) rfl rfl (r_ibin hK rfl rfl rfl) fun a hK => ?_
  refine wpList_nil ?_
  refine wp_mid (fun a w => ∃ (x_9 : Int), ref02_Union.j0 a0 a1 x_9 = some r ∧ Kn 35 a [(2, .pointer (some ⟨b_1, 0, none⟩)), (3, .pointer (some ⟨b_2, 0, none⟩)), (4, .pointer (some ⟨b_3, 0, none⟩)), (6, .int .i64 x_9)] ∧ St [] w0 w R [.cells b_1 [v0_0, v0_1] 25, .cells b_2 [v1_0, v1_1] 25, .cells b_3 [.slice none 0 0, .slice none 0 0] 25]) ?_ ?_
  · refine wp_cond_split (hK.ev rfl) (fun (hb_11 : (y_4 == 0) = true) => ?_) (fun (hb_11 : (y_4 == 0) = false) => ?_)
    · rw [ifb_t hb_11] at H
      refine wp_region_lit ?_
      refine sl hK (by decide) rfl rfl (r_loadA (cs := [v1_0, v1_1]) Try.isAgg25 Try.sizeOf25 rfl hK rfl (hS.cells_of (m := 2) (.tail _ (.head _)) rfl)) fun a hK => ?_
      obtain ⟨y_12, h_13, H⟩ := bind_some H
      refine sl_callV Try.call10 hS hK (by decide) rfl rfl rfl (ref02_Check.calls a1 (lentOf_sub [] _) (h1_0.mono hS.rLe0) (h1_1.mono hS.rLe0) h_13) fun a w hS hK => ?_
      refine sl hK (by decide) rfl rfl (r_assign hK rfl) fun a hK => ?_
      refine wpList_nil ?_
      have hS := hS.pk1
      have hS := hS.pk2
      exact ⟨y_12, H, hK.sub (all_cons rfl (all_cons rfl (all_cons rfl (all_cons rfl (all_nil))))), hS⟩
    · rw [ifb_f hb_11] at H
      refine wp_skip ?_
      have hS := hS.pk1
      have hS := hS.pk2
      exact ⟨y_4, H, hK.sub (all_cons rfl (all_cons rfl (all_cons rfl (all_cons rfl (all_nil))))), hS⟩
  · rintro a w ⟨x_9, H, hK, hS⟩
    unfold ref02_Union.j0 at H
    refine wp_seq ?_
    refine wp_seq ?_
    refine wp_region_lit ?_
    refine sl hK (by decide) rfl rfl (r_move hK rfl) fun a hK => ?_
    refine sl hK (by decide) rfl rfl (r_ibin hK rfl rfl rfl) fun a hK => ?_
    refine wpList_nil ?_
    refine wp_cond_split (hK.ev rfl) (fun (hb_14 : (x_9 != 0) = true) => ?_) (fun (hb_14 : (x_9 != 0) = false) => ?_)
    · rw [ifb_t hb_14] at H
      refine wp_seq ?_
      refine wp_region_lit ?_
      refine sl hK (by decide) rfl rfl (r_buildC (ps := []) (c := [.slice none 0 0, .slice none 0 0]) Try.underlying25 Try.zeroValue25 places25 hK rfl pc_nil rfl rfl) fun a hK => ?_
      refine sl hK (by decide) rfl rfl (r_move hK rfl) fun a hK => ?_
      have hS := hS.pk2
      refine sl_storeA (vs := [.slice none 0 0, .slice none 0 0]) (c' := [.slice none 0 0, .slice none 0 0]) Try.sizeOf25 hS hK rfl rfl rfl rfl (all_cons rfl (all_cons rfl (all_nil))) (Nat.le_of_ble_eq_true rfl) rfl fun a w hS hK => ?_
      refine sl hK (by decide) rfl rfl (r_assign hK rfl) fun a hK => ?_
      refine wpList_nil ?_
      have hS := hS.row_nil 34 2
      have hq_16 : Reps ty_api_Col R [] ([] : List api_Col) := Reps.nil _ _
      have hS := hS.row_nil 40 1
      have hq_18 : Reps (tySl ty_api_Value) R [] ([] : List (List api_Value)) := Reps.nil _ _
      obtain rfl := Option.some.inj H
      refine wp_ret ?_
      repeat (first | refine ret_then ?_ | refine ret_block ?_ | refine ret_scope ?_)
      exact ret_2 Try.results13 hK (rv_cell (c := [(.slice none 0 0), (.slice none 0 0)]) Try.isAgg25 Try.sizeOf25 hS (.tail _ (.tail _ (.head _))) rfl hK rfl) (rv_tmp hK rfl) ⟨_, rfl, _, _, _, _, _, rfl, (hS.pk1.trunc 2), hRL, hq_16, hq_18⟩
    · rw [ifb_f hb_14] at H
      refine wp_skip ?_
      refine wp_seq ?_
      refine wp_seq ?_
      refine wp_region_lit ?_
      refine sl hK (by decide) rfl rfl (r_fieldAddr Try.underlying25 rfl Try.sizeOf22 hK rfl) fun a hK => ?_
      refine sl hK (by decide) rfl rfl (r_load Try.isAgg22 hK rfl (hS.cell (.head _) rfl)) fun a hK => ?_
      refine sl hK (by decide) rfl rfl (r_fieldAddr Try.underlying25 rfl Try.sizeOf22 hK rfl) fun a hK => ?_
      refine sl hK (by decide) rfl rfl (r_load Try.isAgg22 hK rfl (hS.cell (.tail _ (.head _)) rfl)) fun a hK => ?_
      obtain ⟨y_19, h_20, H⟩ := bind_some H
      refine sl_callV Try.call15 hS hK (by decide) rfl rfl rfl (ref02_SameCols.calls a0.Cols a1.Cols (lentOf_sub [] _) (h0_0.mono hS.rLe0) (h1_0.mono hS.rLe0) h_20) fun a w hS hK => ?_
      refine sl hK (by decide) rfl rfl (r_un hK rfl (u_not _)) fun a hK => ?_
      refine wpList_nil ?_
      refine wp_cond_split (hK.ev rfl) (fun (hb_21 : (!y_19) = true) => ?_) (fun (hb_21 : (!y_19) = false) => ?_)
      · rw [ifb_t hb_21] at H
        refine wp_seq ?_
        refine wp_region_lit ?_
        refine sl hK (by decide) rfl rfl (r_buildC (ps := []) (c := [.slice none 0 0, .slice none 0 0]) Try.underlying25 Try.zeroValue25 places25 hK rfl pc_nil rfl rfl) fun a hK => ?_
        have hS := hS.pk2
        refine sl_storeA (vs := [.slice none 0 0, .slice none 0 0]) (c' := [.slice none 0 0, .slice none 0 0]) Try.sizeOf25 hS hK rfl rfl rfl rfl (all_cons rfl (all_cons rfl (all_nil))) (Nat.le_of_ble_eq_true rfl) rfl fun a w hS hK => ?_
        refine sl hK (by decide) rfl rfl (r_assign hK rfl) fun a hK => ?_
        refine wpList_nil ?_
        have hS := hS.row_nil 34 2
        have hq_23 : Reps ty_api_Col R [] ([] : List api_Col) := Reps.nil _ _
        have hS := hS.row_nil 40 1
        have hq_25 : Reps (tySl ty_api_Value) R [] ([] : List (List api_Value)) := Reps.nil _ _
        obtain rfl := Option.some.inj H
        refine wp_ret ?_
        repeat (first | refine ret_then ?_ | refine ret_block ?_ | refine ret_scope ?_)
        exact ret_2 Try.results13 hK (rv_cell (c := [(.slice none 0 0), (.slice none 0 0)]) Try.isAgg25 Try.sizeOf25 hS (.tail _ (.tail _ (.head _))) rfl hK rfl) (rv_tmp hK rfl) ⟨_, rfl, _, _, _, _, _, rfl, (hS.pk1.trunc 2), hRL, hq_23, hq_25⟩
      · rw [ifb_f hb_21] at H
        refine wp_skip ?_
        refine wp_seq ?_
        refine parT_region (C := fun w => St [] w0 w R [.cells b_1 [v0_0, v0_1] 25, .cells b_2 [v1_0, v1_1] 25, .cells b_3 [.slice none 0 0, .slice none 0 0] 25]) 9 [(0, true), (1, true), (3, true), (4, true), (6, true), (7, true), (2, false), (5, false), (8, false)] mixed (by kernel_rfl) hS (fun w hS => hS) fun w hS => ?_
        refine sp (k := 0) rfl hK (by decide) rfl rfl (fun w hS => r_fieldAddr Try.underlying25 rfl Try.sizeOf22 hK rfl) fun a hK => ?_
        refine sp (k := 1) rfl hK (by decide) rfl rfl (fun w hS => r_load Try.isAgg22 hK rfl (hS.cell (.head _) rfl)) fun a hK => ?_
        refine sp (k := 3) rfl hK (by decide) rfl rfl (fun w hS => r_fieldAddr Try.underlying25 rfl Try.sizeOf23 hK rfl) fun a hK => ?_
        refine sp (k := 4) rfl hK (by decide) rfl rfl (fun w hS => r_load Try.isAgg23 hK rfl (hS.cell (.head _) rfl)) fun a hK => ?_
        refine sp (k := 6) rfl hK (by decide) rfl rfl (fun w hS => r_fieldAddr Try.underlying25 rfl Try.sizeOf23 hK rfl) fun a hK => ?_
        refine sp (k := 7) rfl hK (by decide) rfl rfl (fun w hS => r_load Try.isAgg23 hK rfl (hS.cell (.tail _ (.head _)) rfl)) fun a hK => ?_
        refine spw (k := 2) rfl rfl hS ?_
        refine sl_buildSliceC (zc := [.slice none 0 0]) (zs := []) (ps := []) (c := []) Try.underlying23 Try.sizeOf40 Try.zeroValue40 rfl pc_nil rfl rfl (by decide) (by kernel_rfl) rfl hS hK (by decide) rfl fun a w b_57 hS hK => ?_
        refine parK_nil (hS.pk3.pk3.pk3.trunc 3) ?_
        refine spw (k := 5) rfl rfl (hS.pk3.pk3.pk3.trunc 3) ?_
        obtain ⟨y_60, h_61, H⟩ := bind_some H
        have hS := hS.row_lit (size := 1) (m := 0) rfl (by decide)
        have hq_59 : Reps (tySl ty_api_Value) R [] ([] : List (List api_Value)) := (Reps.nil _ _)
        refine sl_append_R elT23 (by decide) rfl hq_59 rfl h0_1 h_61 hS hK (by decide) rfl rfl rfl fun a w v_62 cs_63 hq_64 hS hK => ?_
        refine parK_nil (hS.pk3.pk3.pk3.trunc 3) ?_
        refine spw (k := 8) rfl rfl (hS.pk3.pk3.pk3.trunc 3) ?_
        obtain ⟨y_66, h_67, H⟩ := bind_some H
        refine sl_append_R elT23 (by decide) rfl hq_64 rfl h1_1 h_67 hS hK (by decide) rfl rfl rfl fun a w v_68 cs_69 hq_70 hS hK => ?_
        refine parK_nil (hS.pk3.pk3.pk3.trunc 3) ?_
        refine thenL_nil ?_
        have ho_72 := hS.row_one (.head _)
        refine sl hK (by decide) rfl rfl (r_buildC (ps := [(0, v0_0), (1, v_68)]) (c := [v0_0, v_68]) Try.underlying25 Try.zeroValue25 places25 hK rfl (pc_cons (cells1 h0_0.one) (pc_cons (cells1 ho_72) pc_nil)) rfl rfl) fun a hK => ?_
        obtain ⟨R_73, hS, hl_75, hs_74⟩ := hS.fz_row hq_70 rfl rfl
        have hRL := hRL.trans hl_75
        obtain ⟨y_76, h_77, H⟩ := bind_some H
        refine sl_call Try.call30 hK (by decide) rfl rfl rfl (ref02_Canon.calls (⟨a0.Cols, y_66⟩ : api_Table) hS.sub (h0_0.mono hl_75.le) hs_74 h_77) fun a v_ w hv_ hK => ?_
        obtain ⟨R_78, v_81, cs_82, v_85, cs_86, hv_, hr_, hl_79, hq_83, hq_87⟩ := hv_
        have hv_ := hv_.symm
        subst hv_
        obtain ⟨hS, hl_79⟩ := hS.sp0.back hr_ hl_79
        have hS := hS.un2
        have hRL := hRL.trans hl_79
        have hS := hS.pk4
        refine sl_storeA (vs := [v_81, v_85]) (c' := [v_81, v_85]) Try.sizeOf25 hS hK rfl rfl rfl rfl (all_cons (hS.row_one (.tail _ (.head _))) (all_cons (hS.row_one (.tail _ (.tail _ (.head _)))) (all_nil))) (Nat.le_of_ble_eq_true rfl) rfl fun a w hS hK => ?_
        refine sl hK (by decide) rfl rfl (r_assign hK rfl) fun a hK => ?_
        refine wpList_nil (NoP_nil ?_)
        obtain rfl := Option.some.inj H
        refine wp_ret ?_
        repeat (first | refine ret_then ?_ | refine ret_block ?_ | refine ret_scope ?_)
        exact ret_2 Try.results13 hK (rv_cell (c := [v_81, v_85]) Try.isAgg25 Try.sizeOf25 hS (.head _) rfl hK rfl) (rv_tmp hK rfl) ⟨_, rfl, _, _, _, _, _, rfl, (hS.pk2.pk2.trunc 2), hRL, hq_83, hq_87⟩

/-! ### catchment/catchmentlaw17.JoinParts: function 4 -/
set_option maxHeartbeats 4000000 in
set_option maxRecDepth 100000 in
theorem law17_JoinParts.calls (a0 : api_Table) (a1 : api_Table) (a2 : Int) {w0 : World} {R : Hp} {v0_0 : Value} {v0_1 : Value} {v1_0 : Value} {v1_1 : Value} (hR : R.sub w0) (h0_0 : SlR ty_api_Col R v0_0 a0.Cols) (h0_1 : SlR (tySl ty_api_Value) R v0_1 a0.Rows) (h1_0 : SlR ty_api_Col R v1_0 a1.Cols) (h1_1 : SlR (tySl ty_api_Value) R v1_1 a1.Rows) (H : law17_JoinParts a0 a1 a2 = some true) : CallsV Try.prog 4 #[.agg #[v0_0, v0_1], .agg #[v1_0, v1_1], .int .i64 a2] w0 (.bool true) := by
  unfold law17_JoinParts at H
  refine enter (args := [.agg #[v0_0, v0_1], .agg #[v1_0, v1_1], .int .i64 a2]) Try.func4 rfl Try.ntmps4 rfl fun a hK => ?_
  have hS := St.init hR
  have hRL := RLe.refl (M := []) w0 R
  refine wp_seq ?_
  refine wp_region_lit ?_
  refine sl_box hS hK (by decide) rfl rfl (c := [v0_0, v0_1]) rfl fun a w b_1 hS hK => ?_
  refine sl_box hS hK (by decide) rfl rfl (c := [v1_0, v1_1]) rfl fun a w b_2 hS hK => ?_
  refine sl hK (by decide) rfl rfl (r_assign hK rfl) fun a hK => ?_
  refine wpList_nil ?_
  refine wp_seq ?_
  refine wp_region_lit ?_
  obtain ⟨y_3, h_4, H⟩ := bind_some H
  refine sl_callV Try.call7 hS hK (by decide) rfl rfl rfl (law17_shown.calls h_4 _) fun a w hS hK => ?_
  refine sl hK (by decide) rfl rfl (r_assign hK rfl) fun a hK => ?_
  refine wpList_nil ?_
  refine wp_seq ?_
  refine wp_region_lit ?_
  refine sl hK (by decide) rfl rfl (r_loadA (cs := [v0_0, v0_1]) Try.isAgg25 Try.sizeOf25 rfl hK rfl (hS.cells_of (m := 2) (.tail _ (.head _)) rfl)) fun a hK => ?_
  obtain ⟨y_5, h_6, H⟩ := bind_some H
  refine sl_call Try.call8 hK (by decide) rfl rfl rfl (law17_cut.calls a0 40 hS.sub h0_0 h0_1 h_6) fun a v_ w hv_ hK => ?_
  obtain ⟨R_7, v_9, v_11, hv_, hr_, hl_8, hs_10, hs_12⟩ := hv_
  have hv_ := hv_.symm
  subst hv_
  obtain ⟨hS, hl_8⟩ := hS.sp0.back hr_ hl_8
  have hS := hS.un0
  have hRL := hRL.trans hl_8
  have hS := hS.pk1
  refine sl_storeA (vs := [v_9, v_11]) (c' := [v_9, v_11]) Try.sizeOf25 hS hK rfl rfl rfl rfl (all_cons hs_10.one (all_cons hs_12.one (all_nil))) (Nat.le_of_ble_eq_true rfl) rfl fun a w hS hK => ?_
  refine wpList_nil ?_
  refine wp_seq ?_
  refine wp_region_lit ?_
  refine sl hK (by decide) rfl rfl (r_loadA (cs := [v1_0, v1_1]) Try.isAgg25 Try.sizeOf25 rfl hK rfl (hS.cells_of (m := 2) (.tail _ (.head _)) rfl)) fun a hK => ?_
  obtain ⟨y_13, h_14, H⟩ := bind_some H
  refine sl_call Try.call8 hK (by decide) rfl rfl rfl (law17_cut.calls a1 40 hS.sub (h1_0.mono hl_8.le) (h1_1.mono hl_8.le) h_14) fun a v_ w hv_ hK => ?_
  obtain ⟨R_15, v_17, v_19, hv_, hr_, hl_16, hs_18, hs_20⟩ := hv_
  have hv_ := hv_.symm
  subst hv_
  obtain ⟨hS, hl_16⟩ := hS.sp0.back hr_ hl_16
  have hS := hS.un0
  have hRL := hRL.trans hl_16
  have hS := hS.pk1
  refine sl_storeA (vs := [v_17, v_19]) (c' := [v_17, v_19]) Try.sizeOf25 hS hK rfl rfl rfl rfl (all_cons hs_18.one (all_cons hs_20.one (all_nil))) (Nat.le_of_ble_eq_true rfl) rfl fun a w hS hK => ?_
  refine wpList_nil ?_
  refine wp_seq ?_
  refine wp_seq ?_
  refine wp_region_lit ?_
  refine sl hK (by decide) rfl rfl (r_move hK rfl) fun a hK => ?_
  refine sl hK (by decide) rfl rfl (r_ibin hK rfl rfl rfl) fun a hK => ?_
  refine wpList_nil ?_
  refine wp_mid (fun a w => ∃ (x_22 : Int), law17_JoinParts.j0 y_3 y_5 y_13 x_22 = some true ∧ Kn 92 a [(2, .int .i64 x_22), (3, .pointer (some ⟨b_1, 0, none⟩)), (4, .pointer (some ⟨b_2, 0, none⟩)), (7, .bool y_3)] ∧ St [] w0 w R_15 [.cells b_1 [v_9, v_11] 25, .cells b_2 [v_17, v_19] 25]) ?_ ?_
  · refine wp_cond_split (hK.ev rfl) (fun (hb_24 : (decide (a2 < 0)) = true) => ?_) (fun (hb_24 : (decide (a2 < 0)) = false) => ?_)
    · rw [ifb_t hb_24] at H
      refine wp_region_lit ?_
      refine sl hK (by decide) rfl rfl (r_move hK rfl) fun a hK => ?_
      refine sl hK (by decide) rfl rfl (r_ibin hK rfl rfl rfl) fun a hK => ?_
      refine sl hK (by decide) rfl rfl (r_un hK rfl (u_neg _ _)) fun a hK => ?_
      refine sl hK (by decide) rfl rfl (r_assign hK rfl) fun a hK => ?_
      refine wpList_nil ?_
      have hS := hS.pk1
      exact ⟨(IntKind.i64.wrap (0 - (IntKind.i64.wrap (a2 + 1)))), H, hK.sub (all_cons rfl (all_cons rfl (all_cons rfl (all_cons rfl (all_nil))))), hS⟩
    · rw [ifb_f hb_24] at H
      refine wp_skip ?_
      have hS := hS.pk1
      exact ⟨a2, H, hK.sub (all_cons rfl (all_cons rfl (all_cons rfl (all_cons rfl (all_nil))))), hS⟩
  · rintro a w ⟨x_22, H, hK, hS⟩
    unfold law17_JoinParts.j0 at H
    refine wp_seq ?_
    refine wp_region_lit ?_
    refine sl hK (by decide) rfl rfl (r_move hK rfl) fun a hK => ?_
    refine sl hK (by decide) rfl rfl (r_fieldAddr Try.underlying25 rfl Try.sizeOf23 hK rfl) fun a hK => ?_
    refine sl hK (by decide) rfl rfl (r_load Try.isAgg23 hK rfl (hS.cell (.head _) rfl)) fun a hK => ?_
    refine sl hK (by decide) rfl rfl (r_len_R Try.underlying23 hs_12 hK rfl) fun a hK => ?_
    refine sl hK (by decide) rfl rfl (r_ibin hK rfl rfl rfl) fun a hK => ?_
    rcases or_b ((IntKind.i64.wrap ((y_5.Rows.length : Int) + 1)) != 0) with hn_25 | hn_25
    · rw [ifb_t hn_25] at H
      refine sl hK (by decide) rfl rfl (r_rem hK rfl rfl (ne_of_bne hn_25)) fun a hK => ?_
      refine sl hK (by decide) rfl rfl (r_assign hK rfl) fun a hK => ?_
      refine wpList_nil ?_
      refine wp_seq ?_
      refine wp_region_lit ?_
      refine sl hK (by decide) rfl rfl (r_loadA (cs := [v_9, v_11]) Try.isAgg25 Try.sizeOf25 rfl hK rfl (hS.cells_of (m := 2) (.head _) rfl)) fun a hK => ?_
      refine sl hK (by decide) rfl rfl (r_loadA (cs := [v_17, v_19]) Try.isAgg25 Try.sizeOf25 rfl hK rfl (hS.cells_of (m := 2) (.tail _ (.head _)) rfl)) fun a hK => ?_
      obtain ⟨y_26, h_27, H⟩ := bind_some H
      refine sl_call Try.call9 hK (by decide) rfl rfl rfl (join_Join.calls y_5 y_13 1600 hS.sub (hs_10.mono hl_16.le) (hs_12.mono hl_16.le) hs_18 hs_20 h_27) fun a v_ w hv_ hK => ?_
      obtain ⟨R_28, v_31, cs_32, v_35, cs_36, hv_, hr_, hl_29, hq_33, hq_37⟩ := hv_
      have hv_ := hv_.symm
      subst hv_
      obtain ⟨hS, hl_29⟩ := hS.sp0.back hr_ hl_29
      have hS := hS.un2
      have hRL := hRL.trans hl_29
      refine sl hK (by decide) rfl rfl (r_move hK rfl) fun a hK => ?_
      refine sl hK (by decide) rfl rfl (r_extract hK rfl rfl) fun a hK => ?_
      refine sl hK (by decide) rfl rfl (r_extract hK rfl rfl) fun a hK => ?_
      refine sl_alloc Try.zeroValue25 hS hK (by decide) rfl rfl fun a w b_38 hS hK => ?_
      refine sl_storeA (vs := [v_31, v_35]) (c' := [v_31, v_35]) Try.sizeOf25 hS hK rfl rfl rfl rfl (all_cons (hS.row_one (.tail _ (.head _))) (all_cons (hS.row_one (.tail _ (.tail _ (.head _)))) (all_nil))) (Nat.le_of_ble_eq_true rfl) rfl fun a w hS hK => ?_
      refine sl hK (by decide) rfl rfl (r_assign hK rfl) fun a hK => ?_
      refine wpList_nil ?_
      refine wp_seq ?_
      refine wp_mid (fun a w => ∃ (x_103 : List api_Col) (x_108 : List (List api_Value)) (x_112 : Int) (R_113 : Hp) (v_104 : Value) (cs_105 : List Value) (v_109 : Value) (cs_110 : List Value) (b_101 : Nat), law17_JoinParts.j1 y_3 y_5 y_13 x_22 y_26 x_103 x_108 x_112 = some true ∧ RLe [] w0 R_28 R_113 ∧ Reps ty_api_Col R_113 cs_105 x_103 ∧ Reps (tySl ty_api_Value) R_113 cs_110 x_108 ∧ Kn 92 a [(3, .pointer (some ⟨b_1, 0, none⟩)), (4, .pointer (some ⟨b_2, 0, none⟩)), (7, .bool y_3), (8, .int .i64 (x_22.tmod (IntKind.i64.wrap ((y_5.Rows.length : Int) + 1)))), (9, .pointer (some ⟨b_38, 0, none⟩)), (10, .int .i64 y_26.2), (11, .pointer (some ⟨b_101, 0, none⟩)), (12, .int .i64 x_112)] ∧ St [] w0 w R_113 [.cells b_1 [v_9, v_11] 25, .cells b_2 [v_17, v_19] 25, .row 34 2 v_31 y_26.1.Cols.length cs_32, .row 40 1 v_35 y_26.1.Rows.length cs_36, .cells b_38 [v_31, v_35] 25, .row 34 2 v_104 x_103.length cs_105, .row 40 1 v_109 x_108.length cs_110, .cells b_101 [v_104, v_109] 25]) ?_ ?_
      · refine treeT_region (C := fun w => St [] w0 w R_28 [.cells b_38 [v_31, v_35] 25, .row 34 2 v_31 y_26.1.Cols.length cs_32, .row 40 1 v_35 y_26.1.Rows.length cs_36, .cells b_1 [v_9, v_11] 25, .cells b_2 [v_17, v_19] 25]) 14 (.br [(0, true), (1, true), (2, true), (3, true), (4, true), (5, true), (6, true), (7, true)] 8 (.list [(9, true), (10, true), (11, true), (12, false), (13, false)]) 12 (.list [(8, false), (9, true), (10, true), (11, true), (13, false)])) mixed (by kernel_rfl) hS (fun w hS => hS) fun w hS => ?_
        refine tree_fork ?_
        refine sp (k := 0) rfl hK (by decide) rfl rfl (fun w hS => r_fieldAddr Try.underlying25 rfl Try.sizeOf22 hK rfl) fun a hK => ?_
        refine sp (k := 1) rfl hK (by decide) rfl rfl (fun w hS => r_load Try.isAgg22 hK rfl (hS.cell (.tail _ (.tail _ (.tail _ (.head _)))) rfl)) fun a hK => ?_
        refine sp (k := 2) rfl hK (by decide) rfl rfl (fun w hS => r_fieldAddr Try.underlying25 rfl Try.sizeOf23 hK rfl) fun a hK => ?_
        refine sp (k := 3) rfl hK (by decide) rfl rfl (fun w hS => r_load Try.isAgg23 hK rfl (hS.cell (.tail _ (.tail _ (.tail _ (.head _)))) rfl)) fun a hK => ?_
        refine sp (k := 4) rfl hK (by decide) rfl rfl (fun w hS => r_move hK rfl) fun a hK => ?_
        obtain ⟨y_146, h_147, H⟩ := bind_some H
        obtain ⟨v_148, hs_149, hr_150⟩ := r_slice_R (x := .tmp 44) (lo := none) (hi := some (.tmp 45)) Try.underlying23 Try.sizeOf40 hs_12 h_147 hK rfl rfl ⟨_, rfl⟩
        refine sp (k := 5) rfl hK (by decide) rfl rfl (fun w hS => hr_150 _ _ _ _ _ _ _ hK) fun a hK => ?_
        refine sp (k := 6) rfl hK (by decide) rfl rfl (fun w hS => r_buildC (ps := [(0, v_9), (1, v_148)]) (c := [v_9, v_148]) Try.underlying25 Try.zeroValue25 places25 hK rfl (pc_cons (cells1 hs_10.one) (pc_cons (cells1 hs_149.one) pc_nil)) rfl rfl) fun a hK => ?_
        refine sp (k := 7) rfl hK (by decide) rfl rfl (fun w hS => r_loadA (cs := [v_17, v_19]) Try.isAgg25 Try.sizeOf25 rfl hK rfl (hS.cells_of (m := 2) (.tail _ (.tail _ (.tail _ (.tail _ (.head _))))) rfl)) fun a hK => ?_
        refine wpPar_nil (tree_br ?_ ?_)
        · refine spwB (k := 8) rfl rfl hS ?_
          obtain ⟨y_151, h_152, H⟩ := bind_some H
          refine sl_call Try.call9 hK (by decide) rfl rfl rfl (join_Join.calls (⟨y_5.Cols, y_146⟩ : api_Table) y_13 1600 hS.sub (hs_10.mono (hl_16.le.trans hl_29.le)) (hs_149.mono (hl_16.le.trans hl_29.le)) (hs_18.mono hl_29.le) (hs_20.mono hl_29.le) h_152) fun a v_ w hv_ hK => ?_
          obtain ⟨R_153, v_156, cs_157, v_160, cs_161, hv_, hr_, hl_154, hq_158, hq_162⟩ := hv_
          have hv_ := hv_.symm
          subst hv_
          obtain ⟨hS, hl_154⟩ := hS.sp0.back hr_ hl_154
          have hS := hS.un2
          have hRL := hRL.trans hl_154
          refine parKK_nil ((hS.pk6.pk6.pk6.pk6.pk6.trunc 5).lower hl_154.le) ?_
          refine tree_list ?_
          refine sp (k := 9) rfl hK (by decide) rfl rfl (fun w hS => r_move hK rfl) fun a hK => ?_
          refine sp (k := 10) rfl hK (by decide) rfl rfl (fun w hS => r_extract hK rfl rfl) fun a hK => ?_
          refine sp (k := 11) rfl hK (by decide) rfl rfl (fun w hS => r_extract hK rfl rfl) fun a hK => ?_
          refine spw (k := 12) rfl rfl ((hS.pk6.pk6.pk6.pk6.pk6.trunc 5).lower hl_154.le) ?_
          refine sl_alloc Try.zeroValue25 hS hK (by decide) rfl rfl fun a w b_163 hS hK => ?_
          refine parK_nil ((hS.pk7.pk7.pk7.pk7.pk7.trunc 5).lower hl_154.le) ?_
          refine spw (k := 13) rfl rfl ((hS.pk7.pk7.pk7.pk7.pk7.trunc 5).lower hl_154.le) ?_
          refine sl_storeA (vs := [v_156, v_160]) (c' := [v_156, v_160]) Try.sizeOf25 hS hK rfl rfl rfl rfl (all_cons (hS.row_one (.tail _ (.head _))) (all_cons (hS.row_one (.tail _ (.tail _ (.head _)))) (all_nil))) (Nat.le_of_ble_eq_true rfl) rfl fun a w hS hK => ?_
          refine parK_nil ((hS.pk7.pk7.pk7.pk7.pk7.trunc 5).lower hl_154.le) ?_
          refine thenL_nil ?_
          refine sl hK (by decide) rfl rfl (r_assign hK rfl) fun a hK => ?_
          refine wpList_nil (NoP_nil ?_)
          have hS := hS.pk2
          have hS := hS.pk2
          have hS := hS.pk3
          have hS := hS.pk5
          have hS := hS.pk5
          have hS := hS.pk7
          have hS := hS.pk7
          exact ⟨y_151.1.Cols, y_151.1.Rows, y_151.2, _, _, _, _, _, _, H, hl_154, hq_158, hq_162, hK.sub (all_cons rfl (all_cons rfl (all_cons rfl (all_cons rfl (all_cons rfl (all_cons rfl (all_cons rfl (all_cons rfl (all_nil))))))))), hS⟩
        · refine spwB (k := 12) rfl rfl hS ?_
          refine sl_alloc Try.zeroValue25 hS hK (by decide) rfl rfl fun a w b_164 hS hK => ?_
          refine parKK_nil (hS.pk5.pk5.pk5.pk5.pk5.trunc 5) ?_
          refine tree_list ?_
          refine spw (k := 8) rfl rfl (hS.pk5.pk5.pk5.pk5.pk5.trunc 5) ?_
          obtain ⟨y_165, h_166, H⟩ := bind_some H
          refine sl_call Try.call9 hK (by decide) rfl rfl rfl (join_Join.calls (⟨y_5.Cols, y_146⟩ : api_Table) y_13 1600 hS.sub (hs_10.mono (hl_16.le.trans hl_29.le)) (hs_149.mono (hl_16.le.trans hl_29.le)) (hs_18.mono hl_29.le) (hs_20.mono hl_29.le) h_166) fun a v_ w hv_ hK => ?_
          obtain ⟨R_167, v_170, cs_171, v_174, cs_175, hv_, hr_, hl_168, hq_172, hq_176⟩ := hv_
          have hv_ := hv_.symm
          subst hv_
          obtain ⟨hS, hl_168⟩ := hS.sp0.back hr_ hl_168
          have hS := hS.un2
          have hRL := hRL.trans hl_168
          refine parK_nil ((hS.pk7.pk7.pk7.pk7.pk7.trunc 5).lower hl_168.le) ?_
          refine sp (k := 9) rfl hK (by decide) rfl rfl (fun w hS => r_move hK rfl) fun a hK => ?_
          refine sp (k := 10) rfl hK (by decide) rfl rfl (fun w hS => r_extract hK rfl rfl) fun a hK => ?_
          refine sp (k := 11) rfl hK (by decide) rfl rfl (fun w hS => r_extract hK rfl rfl) fun a hK => ?_
          refine spw (k := 13) rfl rfl ((hS.pk7.pk7.pk7.pk7.pk7.trunc 5).lower hl_168.le) ?_
          have hS := hS.pk2
          refine sl_storeA (vs := [v_170, v_174]) (c' := [v_170, v_174]) Try.sizeOf25 hS hK rfl rfl rfl rfl (all_cons (hS.row_one (.tail _ (.head _))) (all_cons (hS.row_one (.tail _ (.tail _ (.head _)))) (all_nil))) (Nat.le_of_ble_eq_true rfl) rfl fun a w hS hK => ?_
          refine parK_nil ((hS.pk7.pk7.pk7.pk7.pk7.trunc 5).lower hl_168.le) ?_
          refine thenL_nil ?_
          refine sl hK (by decide) rfl rfl (r_assign hK rfl) fun a hK => ?_
          refine wpList_nil (NoP_nil ?_)
          have hS := hS.pk2
          have hS := hS.pk2
          have hS := hS.pk3
          have hS := hS.pk5
          have hS := hS.pk5
          have hS := hS.pk7
          have hS := hS.pk7
          exact ⟨y_165.1.Cols, y_165.1.Rows, y_165.2, _, _, _, _, _, _, H, hl_168, hq_172, hq_176, hK.sub (all_cons rfl (all_cons rfl (all_cons rfl (all_cons rfl (all_cons rfl (all_cons rfl (all_cons rfl (all_cons rfl (all_nil))))))))), hS⟩
      · rintro a w ⟨x_103, x_108, x_112, R_113, v_104, cs_105, v_109, cs_110, b_101, H, hl_114, hq_106, hq_111, hK, hS⟩
        unfold law17_JoinParts.j1 at H
        have hRL := hRL.trans hl_114
        refine wp_seq ?_
        refine wp_mid (fun a w => ∃ (x_241 : List api_Col) (x_246 : List (List api_Value)) (x_250 : Int) (R_251 : Hp) (v_242 : Value) (cs_243 : List Value) (v_247 : Value) (cs_248 : List Value) (b_239 : Nat), law17_JoinParts.j2 y_3 y_26 x_103 x_108 x_112 x_241 x_246 x_250 = some true ∧ RLe [] w0 R_113 R_251 ∧ Reps ty_api_Col R_251 cs_243 x_241 ∧ Reps (tySl ty_api_Value) R_251 cs_248 x_246 ∧ Kn 92 a [(7, .bool y_3), (9, .pointer (some ⟨b_38, 0, none⟩)), (10, .int .i64 y_26.2), (11, .pointer (some ⟨b_101, 0, none⟩)), (12, .int .i64 x_112), (13, .pointer (some ⟨b_239, 0, none⟩)), (14, .int .i64 x_250)] ∧ St [] w0 w R_251 [.row 34 2 v_31 y_26.1.Cols.length cs_32, .row 40 1 v_35 y_26.1.Rows.length cs_36, .cells b_38 [v_31, v_35] 25, .row 34 2 v_104 x_103.length cs_105, .row 40 1 v_109 x_108.length cs_110, .cells b_101 [v_104, v_109] 25, .row 34 2 v_242 x_241.length cs_243, .row 40 1 v_247 x_246.length cs_248, .cells b_239 [v_242, v_247] 25]) ?_ ?_
        · refine treeT_region (C := fun w => St [] w0 w R_113 [.cells b_1 [v_9, v_11] 25, .cells b_2 [v_17, v_19] 25, .row 34 2 v_31 y_26.1.Cols.length cs_32, .row 40 1 v_35 y_26.1.Rows.length cs_36, .cells b_38 [v_31, v_35] 25, .row 34 2 v_104 x_103.length cs_105, .row 40 1 v_109 x_108.length cs_110, .cells b_101 [v_104, v_109] 25]) 14 (.br [(0, true), (1, true), (2, true), (3, true), (4, true), (5, true), (6, true), (7, true)] 8 (.list [(9, true), (10, true), (11, true), (12, false), (13, false)]) 12 (.list [(8, false), (9, true), (10, true), (11, true), (13, false)])) mixed (by kernel_rfl) hS (fun w hS => hS) fun w hS => ?_
          refine tree_fork ?_
          refine sp (k := 0) rfl hK (by decide) rfl rfl (fun w hS => r_fieldAddr Try.underlying25 rfl Try.sizeOf22 hK rfl) fun a hK => ?_
          refine sp (k := 1) rfl hK (by decide) rfl rfl (fun w hS => r_load Try.isAgg22 hK rfl (hS.cell (.head _) rfl)) fun a hK => ?_
          refine sp (k := 2) rfl hK (by decide) rfl rfl (fun w hS => r_fieldAddr Try.underlying25 rfl Try.sizeOf23 hK rfl) fun a hK => ?_
          refine sp (k := 3) rfl hK (by decide) rfl rfl (fun w hS => r_load Try.isAgg23 hK rfl (hS.cell (.head _) rfl)) fun a hK => ?_
          refine sp (k := 4) rfl hK (by decide) rfl rfl (fun w hS => r_move hK rfl) fun a hK => ?_
          obtain ⟨y_284, h_285, H⟩ := bind_some H
          obtain ⟨v_286, hs_287, hr_288⟩ := r_slice_R (x := .tmp 56) (lo := some (.tmp 57)) (hi := none) Try.underlying23 Try.sizeOf40 hs_12 h_285 hK rfl ⟨_, rfl⟩ rfl
          refine sp (k := 5) rfl hK (by decide) rfl rfl (fun w hS => hr_288 _ _ _ _ _ _ _ hK) fun a hK => ?_
          refine sp (k := 6) rfl hK (by decide) rfl rfl (fun w hS => r_buildC (ps := [(0, v_9), (1, v_286)]) (c := [v_9, v_286]) Try.underlying25 Try.zeroValue25 places25 hK rfl (pc_cons (cells1 hs_10.one) (pc_cons (cells1 hs_287.one) pc_nil)) rfl rfl) fun a hK => ?_
          refine sp (k := 7) rfl hK (by decide) rfl rfl (fun w hS => r_loadA (cs := [v_17, v_19]) Try.isAgg25 Try.sizeOf25 rfl hK rfl (hS.cells_of (m := 2) (.tail _ (.head _)) rfl)) fun a hK => ?_
          refine wpPar_nil (tree_br ?_ ?_)
          · refine spwB (k := 8) rfl rfl hS ?_
            obtain ⟨y_289, h_290, H⟩ := bind_some H
            refine sl_call Try.call9 hK (by decide) rfl rfl rfl (join_Join.calls (⟨y_5.Cols, y_284⟩ : api_Table) y_13 1600 hS.sub (hs_10.mono (hl_16.le.trans (hl_29.le.trans hl_114.le))) (hs_287.mono (hl_16.le.trans (hl_29.le.trans hl_114.le))) (hs_18.mono (hl_29.le.trans hl_114.le)) (hs_20.mono (hl_29.le.trans hl_114.le)) h_290) fun a v_ w hv_ hK => ?_
            obtain ⟨R_291, v_294, cs_295, v_298, cs_299, hv_, hr_, hl_292, hq_296, hq_300⟩ := hv_
            have hv_ := hv_.symm
            subst hv_
            obtain ⟨hS, hl_292⟩ := hS.sp0.back hr_ hl_292
            have hS := hS.un2
            have hRL := hRL.trans hl_292
            refine parKK_nil ((hS.pk9.pk9.pk9.pk9.pk9.pk9.pk9.pk9.trunc 8).lower hl_292.le) ?_
            refine tree_list ?_
            refine sp (k := 9) rfl hK (by decide) rfl rfl (fun w hS => r_move hK rfl) fun a hK => ?_
            refine sp (k := 10) rfl hK (by decide) rfl rfl (fun w hS => r_extract hK rfl rfl) fun a hK => ?_
            refine sp (k := 11) rfl hK (by decide) rfl rfl (fun w hS => r_extract hK rfl rfl) fun a hK => ?_
            refine spw (k := 12) rfl rfl ((hS.pk9.pk9.pk9.pk9.pk9.pk9.pk9.pk9.trunc 8).lower hl_292.le) ?_
            refine sl_alloc Try.zeroValue25 hS hK (by decide) rfl rfl fun a w b_301 hS hK => ?_
            refine parK_nil ((hS.pk10.pk10.pk10.pk10.pk10.pk10.pk10.pk10.trunc 8).lower hl_292.le) ?_
            refine spw (k := 13) rfl rfl ((hS.pk10.pk10.pk10.pk10.pk10.pk10.pk10.pk10.trunc 8).lower hl_292.le) ?_
            refine sl_storeA (vs := [v_294, v_298]) (c' := [v_294, v_298]) Try.sizeOf25 hS hK rfl rfl rfl rfl (all_cons (hS.row_one (.tail _ (.head _))) (all_cons (hS.row_one (.tail _ (.tail _ (.head _)))) (all_nil))) (Nat.le_of_ble_eq_true rfl) rfl fun a w hS hK => ?_
            refine parK_nil ((hS.pk10.pk10.pk10.pk10.pk10.pk10.pk10.pk10.trunc 8).lower hl_292.le) ?_
            refine thenL_nil ?_
            refine sl hK (by decide) rfl rfl (r_assign hK rfl) fun a hK => ?_
            refine wpList_nil (NoP_nil ?_)
            have hS := hS.pk2
            have hS := hS.pk2
            have hS := hS.pk10
            have hS := hS.pk10
            have hS := hS.pk10
            have hS := hS.pk10
            have hS := hS.pk10
            have hS := hS.pk10
            exact ⟨y_289.1.Cols, y_289.1.Rows, y_289.2, _, _, _, _, _, _, H, hl_292, hq_296, hq_300, hK.sub (all_cons rfl (all_cons rfl (all_cons rfl (all_cons rfl (all_cons rfl (all_cons rfl (all_cons rfl (all_nil)))))))), hS.trunc 9⟩
          · refine spwB (k := 12) rfl rfl hS ?_
            refine sl_alloc Try.zeroValue25 hS hK (by decide) rfl rfl fun a w b_302 hS hK => ?_
            refine parKK_nil (hS.pk8.pk8.pk8.pk8.pk8.pk8.pk8.pk8.trunc 8) ?_
            refine tree_list ?_
            refine spw (k := 8) rfl rfl (hS.pk8.pk8.pk8.pk8.pk8.pk8.pk8.pk8.trunc 8) ?_
            obtain ⟨y_303, h_304, H⟩ := bind_some H
            refine sl_call Try.call9 hK (by decide) rfl rfl rfl (join_Join.calls (⟨y_5.Cols, y_284⟩ : api_Table) y_13 1600 hS.sub (hs_10.mono (hl_16.le.trans (hl_29.le.trans hl_114.le))) (hs_287.mono (hl_16.le.trans (hl_29.le.trans hl_114.le))) (hs_18.mono (hl_29.le.trans hl_114.le)) (hs_20.mono (hl_29.le.trans hl_114.le)) h_304) fun a v_ w hv_ hK => ?_
            obtain ⟨R_305, v_308, cs_309, v_312, cs_313, hv_, hr_, hl_306, hq_310, hq_314⟩ := hv_
            have hv_ := hv_.symm
            subst hv_
            obtain ⟨hS, hl_306⟩ := hS.sp0.back hr_ hl_306
            have hS := hS.un2
            have hRL := hRL.trans hl_306
            refine parK_nil ((hS.pk10.pk10.pk10.pk10.pk10.pk10.pk10.pk10.trunc 8).lower hl_306.le) ?_
            refine sp (k := 9) rfl hK (by decide) rfl rfl (fun w hS => r_move hK rfl) fun a hK => ?_
            refine sp (k := 10) rfl hK (by decide) rfl rfl (fun w hS => r_extract hK rfl rfl) fun a hK => ?_
            refine sp (k := 11) rfl hK (by decide) rfl rfl (fun w hS => r_extract hK rfl rfl) fun a hK => ?_
            refine spw (k := 13) rfl rfl ((hS.pk10.pk10.pk10.pk10.pk10.pk10.pk10.pk10.trunc 8).lower hl_306.le) ?_
            have hS := hS.pk2
            refine sl_storeA (vs := [v_308, v_312]) (c' := [v_308, v_312]) Try.sizeOf25 hS hK rfl rfl rfl rfl (all_cons (hS.row_one (.tail _ (.head _))) (all_cons (hS.row_one (.tail _ (.tail _ (.head _)))) (all_nil))) (Nat.le_of_ble_eq_true rfl) rfl fun a w hS hK => ?_
            refine parK_nil ((hS.pk10.pk10.pk10.pk10.pk10.pk10.pk10.pk10.trunc 8).lower hl_306.le) ?_
            refine thenL_nil ?_
            refine sl hK (by decide) rfl rfl (r_assign hK rfl) fun a hK => ?_
            refine wpList_nil (NoP_nil ?_)
            have hS := hS.pk2
            have hS := hS.pk2
            have hS := hS.pk10
            have hS := hS.pk10
            have hS := hS.pk10
            have hS := hS.pk10
            have hS := hS.pk10
            have hS := hS.pk10
            exact ⟨y_303.1.Cols, y_303.1.Rows, y_303.2, _, _, _, _, _, _, H, hl_306, hq_310, hq_314, hK.sub (all_cons rfl (all_cons rfl (all_cons rfl (all_cons rfl (all_cons rfl (all_cons rfl (all_cons rfl (all_nil)))))))), hS.trunc 9⟩
        · rintro a w ⟨x_241, x_246, x_250, R_251, v_242, cs_243, v_247, cs_248, b_239, H, hl_252, hq_244, hq_249, hK, hS⟩
          unfold law17_JoinParts.j2 at H
          have hRL := hRL.trans hl_252
          refine wp_seq ?_
          refine wp_seq ?_
          refine wp_region_lit ?_
          refine sl hK (by decide) rfl rfl (r_move hK rfl) fun a hK => ?_
          refine sl hK (by decide) rfl rfl (r_ibin hK rfl rfl rfl) fun a hK => ?_
          refine wpList_nil ?_
          refine wp_cond_split (hK.ev rfl) (fun (hb_315 : (y_26.2 != 0) = true) => ?_) (fun (hb_315 : (y_26.2 != 0) = false) => ?_)
          · rw [ifb_t hb_315] at H
            refine wp_seq ?_
            refine wp_region_lit ?_
            refine sl hK (by decide) rfl rfl (r_move hK rfl) fun a hK => ?_
            refine sl hK (by decide) rfl rfl (r_assign hK rfl) fun a hK => ?_
            refine wpList_nil ?_
            have hr_ := Option.some.inj H
            refine wp_ret ?_
            repeat (first | refine ret_then ?_ | refine ret_block ?_ | refine ret_scope ?_)
            exact ret_1 Try.results4 hK (rv_tmp hK rfl) ⟨congrArg (fun b => Ending.returned (Value.bool b)) hr_, hS.bel⟩
          · rw [ifb_f hb_315] at H
            refine wp_skip ?_
            refine wp_seq ?_
            refine wp_region_lit ?_
            refine sl hK (by decide) rfl rfl (r_loadA (cs := [v_104, v_109]) Try.isAgg25 Try.sizeOf25 rfl hK rfl (hS.cells_of (m := 2) (.tail _ (.tail _ (.tail _ (.tail _ (.tail _ (.head _)))))) rfl)) fun a hK => ?_
            refine sl hK (by decide) rfl rfl (r_loadA (cs := [v_242, v_247]) Try.isAgg25 Try.sizeOf25 rfl hK rfl (hS.cells_of (m := 2) (.tail _ (.tail _ (.tail _ (.tail _ (.tail _ (.tail _ (.tail _ (.tail _ (.head _))))))))) rfl)) fun a hK => ?_
            have hS := hS.pk3
            obtain ⟨R_316, hS, hl_318, hs_317⟩ := hS.fz_row (hq_106.mono hl_252.le) rfl rfl
            have hRL := hRL.trans hl_318
            have hS := hS.pk3
            obtain ⟨R_319, hS, hl_321, hs_320⟩ := hS.fz_row (hq_111.mono (hl_252.le.trans hl_318.le)) rfl rfl
            have hRL := hRL.trans hl_321
            have hS := hS.pk4
            obtain ⟨R_322, hS, hl_324, hs_323⟩ := hS.fz_row (hq_244.mono (hl_318.le.trans hl_321.le)) rfl rfl
            have hRL := hRL.trans hl_324
            have hS := hS.pk4
            obtain ⟨R_325, hS, hl_327, hs_326⟩ := hS.fz_row (hq_249.mono (hl_318.le.trans (hl_321.le.trans hl_324.le))) rfl rfl
            have hRL := hRL.trans hl_327
            obtain ⟨y_328, h_329, H⟩ := bind_some H
            refine sl_call Try.call13 hK (by decide) rfl rfl rfl (ref02_Union.calls (⟨x_103, x_108⟩ : api_Table) (⟨x_241, x_246⟩ : api_Table) hS.sub (hs_317.mono (hl_321.le.trans (hl_324.le.trans hl_327.le))) (hs_320.mono (hl_324.le.trans hl_327.le)) (hs_323.mono hl_327.le) hs_326 h_329) fun a v_ w hv_ hK => ?_
            obtain ⟨R_330, v_333, cs_334, v_337, cs_338, hv_, hr_, hl_331, hq_335, hq_339⟩ := hv_
            have hv_ := hv_.symm
            subst hv_
            obtain ⟨hS, hl_331⟩ := hS.sp0.back hr_ hl_331
            have hS := hS.un2
            have hRL := hRL.trans hl_331
            refine sl hK (by decide) rfl rfl (r_move hK rfl) fun a hK => ?_
            refine sl hK (by decide) rfl rfl (r_extract hK rfl rfl) fun a hK => ?_
            refine sl hK (by decide) rfl rfl (r_extract hK rfl rfl) fun a hK => ?_
            refine sl_alloc Try.zeroValue25 hS hK (by decide) rfl rfl fun a w b_340 hS hK => ?_
            refine sl_storeA (vs := [v_333, v_337]) (c' := [v_333, v_337]) Try.sizeOf25 hS hK rfl rfl rfl rfl (all_cons (hS.row_one (.tail _ (.head _))) (all_cons (hS.row_one (.tail _ (.tail _ (.head _)))) (all_nil))) (Nat.le_of_ble_eq_true rfl) rfl fun a w hS hK => ?_
            refine sl hK (by decide) rfl rfl (r_assign hK rfl) fun a hK => ?_
            refine wpList_nil ?_
            refine wp_seq ?_
            refine wp_region_lit ?_
            refine sl hK (by decide) rfl rfl (r_loadA (cs := [v_333, v_337]) Try.isAgg25 Try.sizeOf25 rfl hK rfl (hS.cells_of (m := 2) (.head _) rfl)) fun a hK => ?_
            refine sl hK (by decide) rfl rfl (r_loadA (cs := [v_31, v_35]) Try.isAgg25 Try.sizeOf25 rfl hK rfl (hS.cells_of (m := 2) (.tail _ (.tail _ (.tail _ (.tail _ (.tail _ (.head _)))))) rfl)) fun a hK => ?_
            obtain ⟨y_341, h_342, H⟩ := bind_some H
            refine sl_callV Try.call12 hS hK (by decide) rfl rfl rfl (ref02_Same.calls y_328.1 y_26.1 (lentOf_sub [] _) (hS.lend_row0 (.tail _ (.head _)) hq_335 rfl rfl) (hS.lend_row0 (.tail _ (.tail _ (.head _))) hq_339 rfl rfl) (hS.lend_row0 (.tail _ (.tail _ (.tail _ (.head _)))) (hq_33.mono (hl_114.le.trans (hl_252.le.trans (hl_318.le.trans (hl_321.le.trans (hl_324.le.trans (hl_327.le.trans hl_331.le))))))) rfl rfl) (hS.lend_row0 (.tail _ (.tail _ (.tail _ (.tail _ (.head _))))) (hq_37.mono (hl_114.le.trans (hl_252.le.trans (hl_318.le.trans (hl_321.le.trans (hl_324.le.trans (hl_327.le.trans hl_331.le))))))) rfl rfl) h_342) fun a w hS hK => ?_
            refine sl hK (by decide) rfl rfl (r_assign hK rfl) fun a hK => ?_
            refine wpList_nil ?_
            refine wp_seq ?_
            refine wp_region_lit ?_
            refine sl hK (by decide) rfl rfl (r_move hK rfl) fun a hK => ?_
            refine sl hK (by decide) rfl rfl (r_move hK rfl) fun a hK => ?_
            rcases or_b y_3 with hb_343 | hb_343
            · rw [ifb_t hb_343] at H
              refine sl hK (by decide) (wtt hb_343) rfl (r_move hK rfl) fun a hK => ?_
              refine sl hK (by decide) (wtt hb_343) rfl (r_ibin hK rfl rfl rfl) fun a hK => ?_
              refine sl hK (by decide) rfl rfl (r_pick_t hb_343 hK rfl rfl) fun a hK => ?_
              refine sl hK (by decide) rfl rfl (r_move hK rfl) fun a hK => ?_
              rcases or_b (x_112 == 0) with hb_344 | hb_344
              · rw [ifb_t hb_344] at H
                refine sl hK (by decide) (wtt hb_344) rfl (r_move hK rfl) fun a hK => ?_
                refine sl hK (by decide) (wtt hb_344) rfl (r_ibin hK rfl rfl rfl) fun a hK => ?_
                refine sl hK (by decide) rfl rfl (r_pick_t hb_344 hK rfl rfl) fun a hK => ?_
                refine sl hK (by decide) rfl rfl (r_move hK rfl) fun a hK => ?_
                rcases or_b (x_250 == 0) with hb_345 | hb_345
                · rw [ifb_t hb_345] at H
                  refine sl hK (by decide) (wtt hb_345) rfl (r_move hK rfl) fun a hK => ?_
                  refine sl hK (by decide) (wtt hb_345) rfl (r_ibin hK rfl rfl rfl) fun a hK => ?_
                  refine sl hK (by decide) rfl rfl (r_pick_t hb_345 hK rfl rfl) fun a hK => ?_
                  refine sl hK (by decide) rfl rfl (r_move hK rfl) fun a hK => ?_
                  rcases or_b (y_328.2 == 0) with hb_346 | hb_346
                  · rw [ifb_t hb_346] at H
                    refine sl hK (by decide) (wtt hb_346) rfl (r_move hK rfl) fun a hK => ?_
                    refine sl hK (by decide) rfl rfl (r_pick_t hb_346 hK rfl rfl) fun a hK => ?_
                    refine sl hK (by decide) rfl rfl (r_assign hK rfl) fun a hK => ?_
                    refine wpList_nil ?_
                    have hr_ := Option.some.inj H
                    refine wp_ret ?_
                    repeat (first | refine ret_then ?_ | refine ret_block ?_ | refine ret_scope ?_)
                    exact ret_1 Try.results4 hK (rv_tmp hK rfl) ⟨congrArg (fun b => Ending.returned (Value.bool b)) hr_, hS.bel⟩
                  · rw [ifb_f hb_346] at H
                    refine sl_skip hK (by decide) (wtf hb_346) rfl fun a hK => ?_
                    refine sl hK (by decide) rfl rfl (r_pick_f hb_346 hK rfl rfl) fun a hK => ?_
                    refine sl hK (by decide) rfl rfl (r_assign hK rfl) fun a hK => ?_
                    refine wpList_nil ?_
                    exact absurd (Option.some.inj H) (by decide)
                · rw [ifb_f hb_345] at H
                  refine sl_skip hK (by decide) (wtf hb_345) rfl fun a hK => ?_
                  refine sl_skip hK (by decide) (wtf hb_345) rfl fun a hK => ?_
                  refine sl hK (by decide) rfl rfl (r_pick_f hb_345 hK rfl rfl) fun a hK => ?_
                  refine sl hK (by decide) rfl rfl (r_move hK rfl) fun a hK => ?_
                  refine sl_skip hK (by decide) rfl rfl fun a hK => ?_
                  refine sl hK (by decide) rfl rfl (r_pick hK rfl rfl rfl) fun a hK => ?_
                  refine sl hK (by decide) rfl rfl (r_assign hK rfl) fun a hK => ?_
                  refine wpList_nil ?_
                  exact absurd (Option.some.inj H) (by decide)
              · rw [ifb_f hb_344] at H
                refine sl_skip hK (by decide) (wtf hb_344) rfl fun a hK => ?_
                refine sl_skip hK (by decide) (wtf hb_344) rfl fun a hK => ?_
                refine sl hK (by decide) rfl rfl (r_pick_f hb_344 hK rfl rfl) fun a hK => ?_
                refine sl hK (by decide) rfl rfl (r_move hK rfl) fun a hK => ?_
                refine sl_skip hK (by decide) rfl rfl fun a hK => ?_
                refine sl_skip hK (by decide) rfl rfl fun a hK => ?_
                refine sl hK (by decide) rfl rfl (r_pick hK rfl rfl rfl) fun a hK => ?_
                refine sl hK (by decide) rfl rfl (r_move hK rfl) fun a hK => ?_
                refine sl_skip hK (by decide) rfl rfl fun a hK => ?_
                refine sl hK (by decide) rfl rfl (r_pick hK rfl rfl rfl) fun a hK => ?_
                refine sl hK (by decide) rfl rfl (r_assign hK rfl) fun a hK => ?_
                refine wpList_nil ?_
                exact absurd (Option.some.inj H) (by decide)
            · rw [ifb_f hb_343] at H
              refine sl_skip hK (by decide) (wtf hb_343) rfl fun a hK => ?_
              refine sl_skip hK (by decide) (wtf hb_343) rfl fun a hK => ?_
              refine sl hK (by decide) rfl rfl (r_pick_f hb_343 hK rfl rfl) fun a hK => ?_
              refine sl hK (by decide) rfl rfl (r_move hK rfl) fun a hK => ?_
              refine sl_skip hK (by decide) rfl rfl fun a hK => ?_
              refine sl_skip hK (by decide) rfl rfl fun a hK => ?_
              refine sl hK (by decide) rfl rfl (r_pick hK rfl rfl rfl) fun a hK => ?_
              refine sl hK (by decide) rfl rfl (r_move hK rfl) fun a hK => ?_
              refine sl_skip hK (by decide) rfl rfl fun a hK => ?_
              refine sl_skip hK (by decide) rfl rfl fun a hK => ?_
              refine sl hK (by decide) rfl rfl (r_pick hK rfl rfl rfl) fun a hK => ?_
              refine sl hK (by decide) rfl rfl (r_move hK rfl) fun a hK => ?_
              refine sl_skip hK (by decide) rfl rfl fun a hK => ?_
              refine sl hK (by decide) rfl rfl (r_pick hK rfl rfl rfl) fun a hK => ?_
              refine sl hK (by decide) rfl rfl (r_assign hK rfl) fun a hK => ?_
              refine wpList_nil ?_
              exact absurd (Option.some.inj H) (by decide)
    · rw [ifb_f hn_25] at H
      cases H

end Go.Proofs.Ytabdokppkcgdlaa.M
