/- Each Go function of the laws answers as its plain Lean function tells, wherever that tells something. Printed by wip/eng/gen.py. -/
import Derived.Test.YtabdokppkcgdlaaWalk1
namespace Go.Proofs.Ytabdokppkcgdlaa.M
open Go Go.Eng Go.Proofs Go.RowKit
set_option linter.unusedVariables false
set_option linter.unusedSimpArgs false

/-! ### catchment/join.Join: function 9 -/
set_option maxHeartbeats 4000000 in
set_option maxRecDepth 100000 in
theorem join_Join.calls (a0 : api_Table) (a1 : api_Table) (a2 : Int) {w0 : World} {R : Hp} {v0_0 : Value} {v0_1 : Value} {v1_0 : Value} {v1_1 : Value} (hR : R.sub w0) (h0_0 : SlR ty_api_Col R v0_0 a0.Cols) (h0_1 : SlR (tySl ty_api_Value) R v0_1 a0.Rows) (h1_0 : SlR ty_api_Col R v1_0 a1.Cols) (h1_1 : SlR (tySl ty_api_Value) R v1_1 a1.Rows) {r : api_Table × Int} (H : join_Join a0 a1 a2 = some r) : Calls Try.prog 9 #[.agg #[v0_0, v0_1], .agg #[v1_0, v1_1], .int .i64 a2] w0 (Rets fun v w' => ∃ (R' : Hp) (u0 : Value) (cu0 : List Value) (u1 : Value) (cu1 : List Value), v = .tuple #[.agg #[u0, u1], .int .i64 r.2] ∧ St [] w0 w' R' [.row 34 2 u0 r.1.Cols.length cu0, .row 40 1 u1 r.1.Rows.length cu1] ∧ RLe [] w0 R R' ∧ Reps ty_api_Col R' cu0 r.1.Cols ∧ Reps (tySl ty_api_Value) R' cu1 r.1.Rows) := by
  unfold join_Join at H
  refine enter (args := [.agg #[v0_0, v0_1], .agg #[v1_0, v1_1], .int .i64 a2]) Try.func9 rfl Try.ntmps9 rfl fun a hK => ?_
  have hS := St.init hR
  have hRL := RLe.refl (M := []) w0 R
  refine wp_seq ?_
  refine wp_region_lit ?_
  refine sl_box hS hK (by decide) rfl rfl (c := [v0_0, v0_1]) rfl fun a w b_1 hS hK => ?_
  refine sl_box hS hK (by decide) rfl rfl (c := [v1_0, v1_1]) rfl fun a w b_2 hS hK => ?_
  refine sl_alloc Try.zeroValue25 hS hK (by decide) rfl rfl fun a w b_3 hS hK => ?_
  refine sl hK (by decide) rfl rfl (r_assign hK rfl) fun a hK => ?_
  refine wpList_nil ?_
  refine wp_seq ?_
  refine wp_seq ?_
  refine wp_region_lit ?_
  refine sl hK (by decide) rfl rfl (r_loadA (cs := [v0_0, v0_1]) Try.isAgg25 Try.sizeOf25 rfl hK rfl (hS.cells_of (m := 2) (.tail _ (.tail _ (.head _))) rfl)) fun a hK => ?_
  refine sl hK (by decide) rfl rfl (r_loadA (cs := [v1_0, v1_1]) Try.isAgg25 Try.sizeOf25 rfl hK rfl (hS.cells_of (m := 2) (.tail _ (.head _)) rfl)) fun a hK => ?_
  refine sl_buildSliceF (zc := [.slice none 0 0, .slice none 0 0]) (ps := [(0, .agg #[v0_0, v0_1]), (1, .agg #[v1_0, v1_1])]) (c := [v0_0, v0_1, v1_0, v1_1]) [[v0_0, v0_1], [v1_0, v1_1]] Try.underlying43 Try.sizeOf25 Try.zeroValue25 rfl (pc_cons rfl (pc_cons rfl pc_nil)) rfl rfl (Nat.le_of_ble_eq_true rfl) rfl (all_cons rfl (all_cons rfl (all_nil))) rfl hS hK (by decide) rfl fun a w b_4 hS hK => ?_
  refine sl hK (by decide) rfl rfl (r_len_sl Try.underlying43 hK rfl) fun a hK => ?_
  refine sl hK (by decide) rfl rfl (r_move hK rfl) fun a hK => ?_
  refine wpList_nil ?_
  refine wp_block ?_
  refine wp_loop_k (fun k_l0 a w => ∃ (x_32 : List api_Table) (x_36 : Int) (v_33 : Value) (cs_34 : List Value), join_Join.l0 a0 a1 a2 k_l0 x_32 x_36 = some r ∧ Reps ty_api_Table R cs_34 x_32 ∧ Kn 130 a [(2, .int .i64 a2), (3, .pointer (some ⟨b_1, 0, none⟩)), (4, .pointer (some ⟨b_2, 0, none⟩)), (6, .pointer (some ⟨b_3, 0, none⟩)), (26, v_33), (27, .int .i64 2), (28, .int .i64 x_36)] ∧ St [] w0 w R [.cells b_1 [v0_0, v0_1] 25, .cells b_2 [v1_0, v1_1] 25, .cells b_3 [.slice none 0 0, .slice none 0 0] 25, .row 25 2 v_33 x_32.length cs_34]) (((2 : Int) - 0).toNat + 1) ?_ ?_
  · have hS := hS.row_lit (size := 2) (m := 2) rfl (by decide)
    have hq_60 : Reps ty_api_Table R [v0_0, v0_1, v1_0, v1_1] [a0, a1] := (Reps.cons (show Ty.rep ty_api_Table _ [v0_0, v0_1] a0 from ⟨_, _, rfl, h0_0, h0_1⟩) (Reps.cons (show Ty.rep ty_api_Table _ [v1_0, v1_1] a1 from ⟨_, _, rfl, h1_0, h1_1⟩) (Reps.nil _ _)))
    have hS := hS.pk1
    have hS := hS.pk2
    have hS := hS.pk3
    exact ⟨[a0, a1], 0, _, _, H, hq_60, hK.sub (all_cons rfl (all_cons rfl (all_cons rfl (all_cons rfl (all_cons rfl (all_cons rfl (all_cons rfl (all_nil)))))))), hS⟩
  · rintro k_l0 a w ⟨x_32, x_36, v_33, cs_34, H, hq_35, hK, hS⟩
    cases k_l0 with
    | zero => cases H
    | succ k_l0 =>
    rw [join_Join.l0.eq_2] at H
    refine wp_seq ?_
    refine wp_region_lit ?_
    refine sl hK (by decide) rfl rfl (r_ibin hK rfl rfl rfl) fun a hK => ?_
    refine wpList_nil ?_
    refine wp_seq ?_
    refine wp_cond_split (hK.ev rfl) (fun (hb_61 : (decide (x_36 < 2)) = true) => ?_) (fun (hb_61 : (decide (x_36 < 2)) = false) => ?_)
    · rw [ifb_t hb_61] at H
      refine wp_skip ?_
      refine wp_seq ?_
      refine wp_block ?_
      refine wp_seq ?_
      refine wp_region_lit ?_
      obtain ⟨y_62, h_63, H⟩ := bind_some H
      obtain ⟨b_65, c_66, cs_67, hv_64, hr_68, hc_69, h_630, h_631⟩ := hS.row_ix (.tail _ (.tail _ (.tail _ (.head _)))) hq_35 rfl rfl h_63
      obtain ⟨v_70, v_72, rfl, hs_71, hs_73⟩ := hr_68
      refine sl hK (by decide) rfl rfl (r_indexAddr_R Try.underlying43 Try.sizeOf25 hv_64 h_630 h_631 hK rfl rfl) fun a hK => ?_
      refine sl hK (by decide) rfl rfl (r_loadA (cs := [v_70, v_72]) Try.isAgg25 Try.sizeOf25 rfl hK rfl (fun j v hv => by have := hS.row_cell (.tail _ (.tail _ (.tail _ (.head _)))) hv_64 (hc_69 j v hv); simpa [Nat.add_assoc] using this)) fun a hK => ?_
      refine sl_alloc Try.zeroValue25 hS hK (by decide) rfl rfl fun a w b_74 hS hK => ?_
      refine sl_storeA (vs := [v_70, v_72]) (c' := [v_70, v_72]) Try.sizeOf25 hS hK rfl rfl rfl rfl (all_cons hs_71.one (all_cons hs_73.one (all_nil))) (Nat.le_of_ble_eq_true rfl) rfl fun a w hS hK => ?_
      refine wpList_nil ?_
      refine wp_seq ?_
      refine wp_region_lit ?_
      refine sl hK (by decide) rfl rfl (r_loadA (cs := [v_70, v_72]) Try.isAgg25 Try.sizeOf25 rfl hK rfl (hS.cells_of (m := 2) (.head _) rfl)) fun a hK => ?_
      obtain ⟨y_75, h_76, H⟩ := bind_some H
      refine sl_callV Try.call18 hS hK (by decide) rfl rfl rfl (table_Check.calls y_62 (lentOf_sub [] _) (hs_71.mono hS.rLe0) (hs_73.mono hS.rLe0) h_76) fun a w hS hK => ?_
      refine sl hK (by decide) rfl rfl (r_assign hK rfl) fun a hK => ?_
      refine wpList_nil ?_
      refine wp_seq ?_
      refine wp_region_lit ?_
      refine sl hK (by decide) rfl rfl (r_move hK rfl) fun a hK => ?_
      refine sl hK (by decide) rfl rfl (r_ibin hK rfl rfl rfl) fun a hK => ?_
      refine wpList_nil ?_
      refine wp_cond_split (hK.ev rfl) (fun (hb_77 : (y_75 != 0) = true) => ?_) (fun (hb_77 : (y_75 != 0) = false) => ?_)
      · rw [ifb_t hb_77] at H
        refine wp_seq ?_
        refine wp_region_lit ?_
        refine sl hK (by decide) rfl rfl (r_buildC (ps := []) (c := [.slice none 0 0, .slice none 0 0]) Try.underlying25 Try.zeroValue25 places25 hK rfl pc_nil rfl rfl) fun a hK => ?_
        refine sl hK (by decide) rfl rfl (r_move hK rfl) fun a hK => ?_
        have hS := hS.pk3
        refine sl_storeA (vs := [.slice none 0 0, .slice none 0 0]) (c' := [.slice none 0 0, .slice none 0 0]) Try.sizeOf25 hS hK rfl rfl rfl rfl (all_cons rfl (all_cons rfl (all_nil))) (Nat.le_of_ble_eq_true rfl) rfl fun a w hS hK => ?_
        refine sl hK (by decide) rfl rfl (r_assign hK rfl) fun a hK => ?_
        refine wpList_nil ?_
        have hS := hS.row_nil 34 2
        have hq_79 : Reps ty_api_Col R [] ([] : List api_Col) := Reps.nil _ _
        have hS := hS.row_nil 40 1
        have hq_81 : Reps (tySl ty_api_Value) R [] ([] : List (List api_Value)) := Reps.nil _ _
        obtain rfl := Option.some.inj H
        refine wp_ret ?_
        repeat (first | refine ret_then ?_ | refine ret_block ?_ | refine ret_scope ?_)
        exact ret_2 Try.results9 hK (rv_cell (c := [(.slice none 0 0), (.slice none 0 0)]) Try.isAgg25 Try.sizeOf25 hS (.tail _ (.tail _ (.head _))) rfl hK rfl) (rv_tmp hK rfl) ⟨_, rfl, _, _, _, _, _, rfl, (hS.pk1.trunc 2), hRL, hq_79, hq_81⟩
      · rw [ifb_f hb_77] at H
        refine wp_skip ?_
        refine wp_region_lit ?_
        refine sl hK (by decide) rfl rfl (r_ibin hK rfl rfl rfl) fun a hK => ?_
        refine sl hK (by decide) rfl rfl (r_move hK rfl) fun a hK => ?_
        refine wpList_nil ?_
        have hS := hS.pk4
        have hS := hS.pk4
        have hS := hS.pk4
        have hS := hS.pk4
        exact ⟨_, Nat.lt_succ_self _, x_32, (IntKind.i64.wrap (x_36 + 1)), _, _, H, hq_35, hK.sub (all_cons rfl (all_cons rfl (all_cons rfl (all_cons rfl (all_cons rfl (all_cons rfl (all_cons rfl (all_nil)))))))), hS.trunc 4⟩
    · rw [ifb_f hb_61] at H
      refine wp_exit ?_
      refine wp_seq ?_
      refine wp_region_lit ?_
      refine sl hK (by decide) rfl rfl (r_fieldAddr Try.underlying25 rfl Try.sizeOf22 hK rfl) fun a hK => ?_
      refine sl hK (by decide) rfl rfl (r_load Try.isAgg22 hK rfl (hS.cell (.head _) rfl)) fun a hK => ?_
      refine sl hK (by decide) rfl rfl (r_fieldAddr Try.underlying25 rfl Try.sizeOf22 hK rfl) fun a hK => ?_
      refine sl hK (by decide) rfl rfl (r_load Try.isAgg22 hK rfl (hS.cell (.tail _ (.head _)) rfl)) fun a hK => ?_
      obtain ⟨y_82, h_83, H⟩ := bind_some H
      refine sl_call Try.call19 hK (by decide) rfl rfl rfl (join_Cols.calls a0.Cols a1.Cols (lentOf_sub [] _) hS.sub (h0_0.mono hS.rLe0) (h1_0.mono hS.rLe0) h_83) fun a v_ w hv_ hK => ?_
      obtain ⟨R_84, v_87, cs_88, hv_, hr_, hl_85, hq_89⟩ := hv_
      have hv_ := hv_.symm
      subst hv_
      obtain ⟨hS, hl_85⟩ := hS.sp0.back hr_ hl_85
      have hS := hS.un1
      have hRL := hRL.trans hl_85
      refine sl hK (by decide) rfl rfl (r_move hK rfl) fun a hK => ?_
      refine sl hK (by decide) rfl rfl (r_extract hK rfl rfl) fun a hK => ?_
      refine sl hK (by decide) rfl rfl (r_extract hK rfl rfl) fun a hK => ?_
      refine sl hK (by decide) rfl rfl (r_assign hK rfl) fun a hK => ?_
      refine sl hK (by decide) rfl rfl (r_assign hK rfl) fun a hK => ?_
      refine wpList_nil ?_
      refine wp_seq ?_
      refine wp_seq ?_
      refine wp_region_lit ?_
      refine sl hK (by decide) rfl rfl (r_move hK rfl) fun a hK => ?_
      refine sl hK (by decide) rfl rfl (r_un hK rfl (u_not _)) fun a hK => ?_
      refine wpList_nil ?_
      refine wp_cond_split (hK.ev rfl) (fun (hb_90 : (!y_82.2) = true) => ?_) (fun (hb_90 : (!y_82.2) = false) => ?_)
      · rw [ifb_t hb_90] at H
        refine wp_seq ?_
        refine wp_region_lit ?_
        refine sl hK (by decide) rfl rfl (r_buildC (ps := []) (c := [.slice none 0 0, .slice none 0 0]) Try.underlying25 Try.zeroValue25 places25 hK rfl pc_nil rfl rfl) fun a hK => ?_
        have hS := hS.pk3
        refine sl_storeA (vs := [.slice none 0 0, .slice none 0 0]) (c' := [.slice none 0 0, .slice none 0 0]) Try.sizeOf25 hS hK rfl rfl rfl rfl (all_cons rfl (all_cons rfl (all_nil))) (Nat.le_of_ble_eq_true rfl) rfl fun a w hS hK => ?_
        refine sl hK (by decide) rfl rfl (r_assign hK rfl) fun a hK => ?_
        refine wpList_nil ?_
        have hS := hS.row_nil 34 2
        have hq_92 : Reps ty_api_Col R_84 [] ([] : List api_Col) := Reps.nil _ _
        have hS := hS.row_nil 40 1
        have hq_94 : Reps (tySl ty_api_Value) R_84 [] ([] : List (List api_Value)) := Reps.nil _ _
        obtain rfl := Option.some.inj H
        refine wp_ret ?_
        repeat (first | refine ret_then ?_ | refine ret_block ?_ | refine ret_scope ?_)
        exact ret_2 Try.results9 hK (rv_cell (c := [(.slice none 0 0), (.slice none 0 0)]) Try.isAgg25 Try.sizeOf25 hS (.tail _ (.tail _ (.head _))) rfl hK rfl) (rv_tmp hK rfl) ⟨_, rfl, _, _, _, _, _, rfl, (hS.pk1.trunc 2), hRL, hq_92, hq_94⟩
      · rw [ifb_f hb_90] at H
        refine wp_skip ?_
        refine wp_seq ?_
        refine wp_mid (fun a w => ∃ (x_517 : List Int) (x_522 : List Int) (x_528 : List Int) (x_533 : List Int) (R_537 : Hp) (v_518 : Value) (cs_519 : List Value) (v_523 : Value) (cs_524 : List Value) (v_529 : Value) (cs_530 : List Value) (v_534 : Value) (cs_535 : List Value) (b_515 : Nat) (b_526 : Nat), join_Join.j1 a0 a1 a2 y_82 x_517 x_522 x_528 x_533 = some r ∧ RLe [] w0 R_84 R_537 ∧ Reps (tyInt .i64) R_537 cs_519 x_517 ∧ Reps (tyInt .i64) R_537 cs_524 x_522 ∧ Reps (tyInt .i64) R_537 cs_530 x_528 ∧ Reps (tyInt .i64) R_537 cs_535 x_533 ∧ Kn 130 a [(2, .int .i64 a2), (3, .pointer (some ⟨b_1, 0, none⟩)), (4, .pointer (some ⟨b_2, 0, none⟩)), (6, .pointer (some ⟨b_3, 0, none⟩)), (11, v_87), (13, .pointer (some ⟨b_515, 0, none⟩)), (14, .pointer (some ⟨b_526, 0, none⟩))] ∧ St [] w0 w R_537 [.cells b_1 [v0_0, v0_1] 25, .cells b_2 [v1_0, v1_1] 25, .cells b_3 [.slice none 0 0, .slice none 0 0] 25, .row 34 2 v_87 y_82.1.length cs_88, .row 3 1 v_518 x_517.length cs_519, .row 3 1 v_523 x_522.length cs_524, .cells b_515 [v_518, v_523] 53, .row 3 1 v_529 x_528.length cs_530, .row 3 1 v_534 x_533.length cs_535, .cells b_526 [v_529, v_534] 53]) ?_ ?_
        · refine treeT_region (C := fun w => St [] w0 w R_84 [.row 34 2 v_87 y_82.1.length cs_88, .cells b_1 [v0_0, v0_1] 25, .cells b_2 [v1_0, v1_1] 25, .cells b_3 [.slice none 0 0, .slice none 0 0] 25, .row 25 2 v_33 x_32.length cs_34]) 12 (.br3 [(0, true), (1, true), (2, true), (3, true), (5, true), (6, true), (7, true), (8, true)] 4 (.br3 [] 9 (.br [] 10 (.list [(11, false)]) 11 (.list [(10, false)])) 10 (.br [] 9 (.list [(11, false)]) 11 (.list [(9, false)])) 11 (.br [] 9 (.list [(10, false)]) 10 (.list [(9, false)]))) 10 (.br [] 4 (.br [] 9 (.list [(11, false)]) 11 (.list [(9, false)])) 11 (.list [(4, false), (9, false)])) 11 (.br [] 4 (.br [] 9 (.list [(10, false)]) 10 (.list [(9, false)])) 10 (.list [(4, false), (9, false)]))) mixed (by kernel_rfl) hS (fun w hS => hS) fun w hS => ?_
          refine tree_fork3 ?_
          refine sp (k := 0) rfl hK (by decide) rfl rfl (fun w hS => r_fieldAddr Try.underlying25 rfl Try.sizeOf22 hK rfl) fun a hK => ?_
          refine sp (k := 1) rfl hK (by decide) rfl rfl (fun w hS => r_load Try.isAgg22 hK rfl (hS.cell (.tail _ (.head _)) rfl)) fun a hK => ?_
          refine sp (k := 2) rfl hK (by decide) rfl rfl (fun w hS => r_fieldAddr Try.underlying25 rfl Try.sizeOf22 hK rfl) fun a hK => ?_
          refine sp (k := 3) rfl hK (by decide) rfl rfl (fun w hS => r_load Try.isAgg22 hK rfl (hS.cell (.tail _ (.head _)) rfl)) fun a hK => ?_
          refine sp (k := 5) rfl hK (by decide) rfl rfl (fun w hS => r_fieldAddr Try.underlying25 rfl Try.sizeOf22 hK rfl) fun a hK => ?_
          refine sp (k := 6) rfl hK (by decide) rfl rfl (fun w hS => r_load Try.isAgg22 hK rfl (hS.cell (.tail _ (.tail _ (.head _))) rfl)) fun a hK => ?_
          refine sp (k := 7) rfl hK (by decide) rfl rfl (fun w hS => r_fieldAddr Try.underlying25 rfl Try.sizeOf22 hK rfl) fun a hK => ?_
          refine sp (k := 8) rfl hK (by decide) rfl rfl (fun w hS => r_load Try.isAgg22 hK rfl (hS.cell (.tail _ (.head _)) rfl)) fun a hK => ?_
          refine wpPar_nil (tree_br3 ?_ ?_ ?_)
          · refine spwB (k := 4) rfl rfl hS ?_
            obtain ⟨y_749, h_750, H⟩ := bind_some H
            refine sl_call Try.call20 hK (by decide) rfl rfl rfl (join_split.calls a0.Cols a0.Cols (lentOf_sub [] _) hS.sub (h0_0.mono (hl_85.le.trans hS.rLe0)) (h0_0.mono (hl_85.le.trans hS.rLe0)) h_750) fun a v_ w hv_ hK => ?_
            obtain ⟨R_751, v_754, cs_755, v_758, cs_759, hv_, hr_, hl_752, hq_756, hq_760⟩ := hv_
            have hv_ := hv_.symm
            subst hv_
            obtain ⟨hS, hl_752⟩ := hS.sp0.back hr_ hl_752
            have hS := hS.un2
            have hRL := hRL.trans hl_752
            refine parKK_nil ((hS.pk6.pk6.pk6.pk6.pk6.trunc 5).lower hl_752.le) ?_
            refine tree_fork3 ?_
            refine wpPar_nil (tree_br3 ?_ ?_ ?_)
            · refine spwB (k := 9) rfl rfl ((hS.pk6.pk6.pk6.pk6.pk6.trunc 5).lower hl_752.le) ?_
              obtain ⟨y_761, h_762, H⟩ := bind_some H
              refine sl_call Try.call20 hK (by decide) rfl rfl rfl (join_split.calls a1.Cols a0.Cols (lentOf_sub [] _) hS.sub (h1_0.mono ((hl_85.le.trans hl_752.le).trans hS.rLe0)) (h0_0.mono ((hl_85.le.trans hl_752.le).trans hS.rLe0)) h_762) fun a v_ w hv_ hK => ?_
              obtain ⟨R_763, v_766, cs_767, v_770, cs_771, hv_, hr_, hl_764, hq_768, hq_772⟩ := hv_
              have hv_ := hv_.symm
              subst hv_
              obtain ⟨hS, hl_764⟩ := hS.sp0.back hr_ hl_764
              have hS := hS.un2
              have hRL := hRL.trans hl_764
              refine parKK_nil ((hS.pk8.pk8.pk8.pk8.pk8.trunc 5).lower (hl_752.le.trans hl_764.le)) ?_
              refine tree_fork ?_
              refine wpPar_nil (tree_br ?_ ?_)
              · refine spwB (k := 10) rfl rfl ((hS.pk8.pk8.pk8.pk8.pk8.trunc 5).lower (hl_752.le.trans hl_764.le)) ?_
                refine sl_alloc Try.zeroValue53 hS hK (by decide) rfl rfl fun a w b_773 hS hK => ?_
                refine parKK_nil ((hS.pk9.pk9.pk9.pk9.pk9.trunc 5).lower (hl_752.le.trans hl_764.le)) ?_
                refine tree_list ?_
                refine spw (k := 11) rfl rfl ((hS.pk9.pk9.pk9.pk9.pk9.trunc 5).lower (hl_752.le.trans hl_764.le)) ?_
                refine sl_alloc Try.zeroValue53 hS hK (by decide) rfl rfl fun a w b_774 hS hK => ?_
                refine parK_nil ((hS.pk10.pk10.pk10.pk10.pk10.trunc 5).lower (hl_752.le.trans hl_764.le)) ?_
                refine thenL_nil ?_
                have hS := hS.pk1
                refine sl_storeA (vs := [v_754, v_758]) (c' := [v_754, v_758]) Try.sizeOf53 hS hK rfl rfl rfl rfl (all_cons (hS.row_one (.tail _ (.tail _ (.tail _ (.tail _ (.head _)))))) (all_cons (hS.row_one (.tail _ (.tail _ (.tail _ (.tail _ (.tail _ (.head _))))))) (all_nil))) (Nat.le_of_ble_eq_true rfl) rfl fun a w hS hK => ?_
                have hS := hS.pk1
                refine sl_storeA (vs := [v_766, v_770]) (c' := [v_766, v_770]) Try.sizeOf53 hS hK rfl rfl rfl rfl (all_cons (hS.row_one (.tail _ (.tail _ (.head _)))) (all_cons (hS.row_one (.tail _ (.tail _ (.tail _ (.head _))))) (all_nil))) (Nat.le_of_ble_eq_true rfl) rfl fun a w hS hK => ?_
                refine wpList_nil (NoP_nil ?_)
                have hS := hS.pk3
                have hS := hS.pk3
                have hS := hS.pk3
                have hS := hS.pk5
                have hS := hS.pk5
                have hS := hS.pk6
                have hS := hS.pk9
                have hS := hS.pk9
                have hS := hS.pk9
                exact ⟨y_749.shared, y_749.others, y_761.shared, y_761.others, _, _, _, _, _, _, _, _, _, _, _, H, (hl_752.trans hl_764), (hq_756.mono hl_764.le), (hq_760.mono hl_764.le), hq_768, hq_772, hK.sub (all_cons rfl (all_cons rfl (all_cons rfl (all_cons rfl (all_cons rfl (all_cons rfl (all_cons rfl (all_nil)))))))), hS.trunc 10⟩
              · refine spwB (k := 11) rfl rfl ((hS.pk8.pk8.pk8.pk8.pk8.trunc 5).lower (hl_752.le.trans hl_764.le)) ?_
                refine sl_alloc Try.zeroValue53 hS hK (by decide) rfl rfl fun a w b_775 hS hK => ?_
                refine parKK_nil ((hS.pk9.pk9.pk9.pk9.pk9.trunc 5).lower (hl_752.le.trans hl_764.le)) ?_
                refine tree_list ?_
                refine spw (k := 10) rfl rfl ((hS.pk9.pk9.pk9.pk9.pk9.trunc 5).lower (hl_752.le.trans hl_764.le)) ?_
                refine sl_alloc Try.zeroValue53 hS hK (by decide) rfl rfl fun a w b_776 hS hK => ?_
                refine parK_nil ((hS.pk10.pk10.pk10.pk10.pk10.trunc 5).lower (hl_752.le.trans hl_764.le)) ?_
                refine thenL_nil ?_
                refine sl_storeA (vs := [v_754, v_758]) (c' := [v_754, v_758]) Try.sizeOf53 hS hK rfl rfl rfl rfl (all_cons (hS.row_one (.tail _ (.tail _ (.tail _ (.tail _ (.head _)))))) (all_cons (hS.row_one (.tail _ (.tail _ (.tail _ (.tail _ (.tail _ (.head _))))))) (all_nil))) (Nat.le_of_ble_eq_true rfl) rfl fun a w hS hK => ?_
                have hS := hS.pk1
                refine sl_storeA (vs := [v_766, v_770]) (c' := [v_766, v_770]) Try.sizeOf53 hS hK rfl rfl rfl rfl (all_cons (hS.row_one (.tail _ (.tail _ (.head _)))) (all_cons (hS.row_one (.tail _ (.tail _ (.tail _ (.head _))))) (all_nil))) (Nat.le_of_ble_eq_true rfl) rfl fun a w hS hK => ?_
                refine wpList_nil (NoP_nil ?_)
                have hS := hS.pk3
                have hS := hS.pk3
                have hS := hS.pk3
                have hS := hS.pk5
                have hS := hS.pk5
                have hS := hS.pk6
                have hS := hS.pk9
                have hS := hS.pk9
                have hS := hS.pk9
                exact ⟨y_749.shared, y_749.others, y_761.shared, y_761.others, _, _, _, _, _, _, _, _, _, _, _, H, (hl_752.trans hl_764), (hq_756.mono hl_764.le), (hq_760.mono hl_764.le), hq_768, hq_772, hK.sub (all_cons rfl (all_cons rfl (all_cons rfl (all_cons rfl (all_cons rfl (all_cons rfl (all_cons rfl (all_nil)))))))), hS.trunc 10⟩
            · refine spwB (k := 10) rfl rfl ((hS.pk6.pk6.pk6.pk6.pk6.trunc 5).lower hl_752.le) ?_
              refine sl_alloc Try.zeroValue53 hS hK (by decide) rfl rfl fun a w b_777 hS hK => ?_
              refine parKK_nil ((hS.pk7.pk7.pk7.pk7.pk7.trunc 5).lower hl_752.le) ?_
              refine tree_fork ?_
              refine wpPar_nil (tree_br ?_ ?_)
              · refine spwB (k := 9) rfl rfl ((hS.pk7.pk7.pk7.pk7.pk7.trunc 5).lower hl_752.le) ?_
                obtain ⟨y_778, h_779, H⟩ := bind_some H
                refine sl_call Try.call20 hK (by decide) rfl rfl rfl (join_split.calls a1.Cols a0.Cols (lentOf_sub [] _) hS.sub (h1_0.mono ((hl_85.le.trans hl_752.le).trans hS.rLe0)) (h0_0.mono ((hl_85.le.trans hl_752.le).trans hS.rLe0)) h_779) fun a v_ w hv_ hK => ?_
                obtain ⟨R_780, v_783, cs_784, v_787, cs_788, hv_, hr_, hl_781, hq_785, hq_789⟩ := hv_
                have hv_ := hv_.symm
                subst hv_
                obtain ⟨hS, hl_781⟩ := hS.sp0.back hr_ hl_781
                have hS := hS.un2
                have hRL := hRL.trans hl_781
                refine parKK_nil ((hS.pk9.pk9.pk9.pk9.pk9.trunc 5).lower (hl_752.le.trans hl_781.le)) ?_
                refine tree_list ?_
                refine spw (k := 11) rfl rfl ((hS.pk9.pk9.pk9.pk9.pk9.trunc 5).lower (hl_752.le.trans hl_781.le)) ?_
                refine sl_alloc Try.zeroValue53 hS hK (by decide) rfl rfl fun a w b_790 hS hK => ?_
                refine parK_nil ((hS.pk10.pk10.pk10.pk10.pk10.trunc 5).lower (hl_752.le.trans hl_781.le)) ?_
                refine thenL_nil ?_
                have hS := hS.pk3
                refine sl_storeA (vs := [v_754, v_758]) (c' := [v_754, v_758]) Try.sizeOf53 hS hK rfl rfl rfl rfl (all_cons (hS.row_one (.tail _ (.tail _ (.tail _ (.tail _ (.head _)))))) (all_cons (hS.row_one (.tail _ (.tail _ (.tail _ (.tail _ (.tail _ (.head _))))))) (all_nil))) (Nat.le_of_ble_eq_true rfl) rfl fun a w hS hK => ?_
                have hS := hS.pk1
                refine sl_storeA (vs := [v_783, v_787]) (c' := [v_783, v_787]) Try.sizeOf53 hS hK rfl rfl rfl rfl (all_cons (hS.row_one (.tail _ (.tail _ (.head _)))) (all_cons (hS.row_one (.tail _ (.tail _ (.tail _ (.head _))))) (all_nil))) (Nat.le_of_ble_eq_true rfl) rfl fun a w hS hK => ?_
                refine wpList_nil (NoP_nil ?_)
                have hS := hS.pk3
                have hS := hS.pk3
                have hS := hS.pk3
                have hS := hS.pk5
                have hS := hS.pk5
                have hS := hS.pk6
                have hS := hS.pk9
                have hS := hS.pk9
                have hS := hS.pk9
                exact ⟨y_749.shared, y_749.others, y_778.shared, y_778.others, _, _, _, _, _, _, _, _, _, _, _, H, (hl_752.trans hl_781), (hq_756.mono hl_781.le), (hq_760.mono hl_781.le), hq_785, hq_789, hK.sub (all_cons rfl (all_cons rfl (all_cons rfl (all_cons rfl (all_cons rfl (all_cons rfl (all_cons rfl (all_nil)))))))), hS.trunc 10⟩
              · refine spwB (k := 11) rfl rfl ((hS.pk7.pk7.pk7.pk7.pk7.trunc 5).lower hl_752.le) ?_
                refine sl_alloc Try.zeroValue53 hS hK (by decide) rfl rfl fun a w b_791 hS hK => ?_
                refine parKK_nil ((hS.pk8.pk8.pk8.pk8.pk8.trunc 5).lower hl_752.le) ?_
                refine tree_list ?_
                refine spw (k := 9) rfl rfl ((hS.pk8.pk8.pk8.pk8.pk8.trunc 5).lower hl_752.le) ?_
                obtain ⟨y_792, h_793, H⟩ := bind_some H
                refine sl_call Try.call20 hK (by decide) rfl rfl rfl (join_split.calls a1.Cols a0.Cols (lentOf_sub [] _) hS.sub (h1_0.mono ((hl_85.le.trans hl_752.le).trans hS.rLe0)) (h0_0.mono ((hl_85.le.trans hl_752.le).trans hS.rLe0)) h_793) fun a v_ w hv_ hK => ?_
                obtain ⟨R_794, v_797, cs_798, v_801, cs_802, hv_, hr_, hl_795, hq_799, hq_803⟩ := hv_
                have hv_ := hv_.symm
                subst hv_
                obtain ⟨hS, hl_795⟩ := hS.sp0.back hr_ hl_795
                have hS := hS.un2
                have hRL := hRL.trans hl_795
                refine parK_nil ((hS.pk10.pk10.pk10.pk10.pk10.trunc 5).lower (hl_752.le.trans hl_795.le)) ?_
                refine thenL_nil ?_
                have hS := hS.pk3
                refine sl_storeA (vs := [v_754, v_758]) (c' := [v_754, v_758]) Try.sizeOf53 hS hK rfl rfl rfl rfl (all_cons (hS.row_one (.tail _ (.tail _ (.tail _ (.tail _ (.head _)))))) (all_cons (hS.row_one (.tail _ (.tail _ (.tail _ (.tail _ (.tail _ (.head _))))))) (all_nil))) (Nat.le_of_ble_eq_true rfl) rfl fun a w hS hK => ?_
                have hS := hS.pk3
                refine sl_storeA (vs := [v_797, v_801]) (c' := [v_797, v_801]) Try.sizeOf53 hS hK rfl rfl rfl rfl (all_cons (hS.row_one (.tail _ (.tail _ (.head _)))) (all_cons (hS.row_one (.tail _ (.tail _ (.tail _ (.head _))))) (all_nil))) (Nat.le_of_ble_eq_true rfl) rfl fun a w hS hK => ?_
                refine wpList_nil (NoP_nil ?_)
                have hS := hS.pk3
                have hS := hS.pk3
                have hS := hS.pk3
                have hS := hS.pk5
                have hS := hS.pk5
                have hS := hS.pk6
                have hS := hS.pk9
                have hS := hS.pk9
                have hS := hS.pk9
                exact ⟨y_749.shared, y_749.others, y_792.shared, y_792.others, _, _, _, _, _, _, _, _, _, _, _, H, (hl_752.trans hl_795), (hq_756.mono hl_795.le), (hq_760.mono hl_795.le), hq_799, hq_803, hK.sub (all_cons rfl (all_cons rfl (all_cons rfl (all_cons rfl (all_cons rfl (all_cons rfl (all_cons rfl (all_nil)))))))), hS.trunc 10⟩
            · refine spwB (k := 11) rfl rfl ((hS.pk6.pk6.pk6.pk6.pk6.trunc 5).lower hl_752.le) ?_
              refine sl_alloc Try.zeroValue53 hS hK (by decide) rfl rfl fun a w b_804 hS hK => ?_
              refine parKK_nil ((hS.pk7.pk7.pk7.pk7.pk7.trunc 5).lower hl_752.le) ?_
              refine tree_fork ?_
              refine wpPar_nil (tree_br ?_ ?_)
              · refine spwB (k := 9) rfl rfl ((hS.pk7.pk7.pk7.pk7.pk7.trunc 5).lower hl_752.le) ?_
                obtain ⟨y_805, h_806, H⟩ := bind_some H
                refine sl_call Try.call20 hK (by decide) rfl rfl rfl (join_split.calls a1.Cols a0.Cols (lentOf_sub [] _) hS.sub (h1_0.mono ((hl_85.le.trans hl_752.le).trans hS.rLe0)) (h0_0.mono ((hl_85.le.trans hl_752.le).trans hS.rLe0)) h_806) fun a v_ w hv_ hK => ?_
                obtain ⟨R_807, v_810, cs_811, v_814, cs_815, hv_, hr_, hl_808, hq_812, hq_816⟩ := hv_
                have hv_ := hv_.symm
                subst hv_
                obtain ⟨hS, hl_808⟩ := hS.sp0.back hr_ hl_808
                have hS := hS.un2
                have hRL := hRL.trans hl_808
                refine parKK_nil ((hS.pk9.pk9.pk9.pk9.pk9.trunc 5).lower (hl_752.le.trans hl_808.le)) ?_
                refine tree_list ?_
                refine spw (k := 10) rfl rfl ((hS.pk9.pk9.pk9.pk9.pk9.trunc 5).lower (hl_752.le.trans hl_808.le)) ?_
                refine sl_alloc Try.zeroValue53 hS hK (by decide) rfl rfl fun a w b_817 hS hK => ?_
                refine parK_nil ((hS.pk10.pk10.pk10.pk10.pk10.trunc 5).lower (hl_752.le.trans hl_808.le)) ?_
                refine thenL_nil ?_
                refine sl_storeA (vs := [v_754, v_758]) (c' := [v_754, v_758]) Try.sizeOf53 hS hK rfl rfl rfl rfl (all_cons (hS.row_one (.tail _ (.tail _ (.tail _ (.tail _ (.head _)))))) (all_cons (hS.row_one (.tail _ (.tail _ (.tail _ (.tail _ (.tail _ (.head _))))))) (all_nil))) (Nat.le_of_ble_eq_true rfl) rfl fun a w hS hK => ?_
                have hS := hS.pk3
                refine sl_storeA (vs := [v_810, v_814]) (c' := [v_810, v_814]) Try.sizeOf53 hS hK rfl rfl rfl rfl (all_cons (hS.row_one (.tail _ (.tail _ (.head _)))) (all_cons (hS.row_one (.tail _ (.tail _ (.tail _ (.head _))))) (all_nil))) (Nat.le_of_ble_eq_true rfl) rfl fun a w hS hK => ?_
                refine wpList_nil (NoP_nil ?_)
                have hS := hS.pk3
                have hS := hS.pk3
                have hS := hS.pk3
                have hS := hS.pk5
                have hS := hS.pk5
                have hS := hS.pk6
                have hS := hS.pk9
                have hS := hS.pk9
                have hS := hS.pk9
                exact ⟨y_749.shared, y_749.others, y_805.shared, y_805.others, _, _, _, _, _, _, _, _, _, _, _, H, (hl_752.trans hl_808), (hq_756.mono hl_808.le), (hq_760.mono hl_808.le), hq_812, hq_816, hK.sub (all_cons rfl (all_cons rfl (all_cons rfl (all_cons rfl (all_cons rfl (all_cons rfl (all_cons rfl (all_nil)))))))), hS.trunc 10⟩
              · refine spwB (k := 10) rfl rfl ((hS.pk7.pk7.pk7.pk7.pk7.trunc 5).lower hl_752.le) ?_
                refine sl_alloc Try.zeroValue53 hS hK (by decide) rfl rfl fun a w b_818 hS hK => ?_
                refine parKK_nil ((hS.pk8.pk8.pk8.pk8.pk8.trunc 5).lower hl_752.le) ?_
                refine tree_list ?_
                refine spw (k := 9) rfl rfl ((hS.pk8.pk8.pk8.pk8.pk8.trunc 5).lower hl_752.le) ?_
                obtain ⟨y_819, h_820, H⟩ := bind_some H
                refine sl_call Try.call20 hK (by decide) rfl rfl rfl (join_split.calls a1.Cols a0.Cols (lentOf_sub [] _) hS.sub (h1_0.mono ((hl_85.le.trans hl_752.le).trans hS.rLe0)) (h0_0.mono ((hl_85.le.trans hl_752.le).trans hS.rLe0)) h_820) fun a v_ w hv_ hK => ?_
                obtain ⟨R_821, v_824, cs_825, v_828, cs_829, hv_, hr_, hl_822, hq_826, hq_830⟩ := hv_
                have hv_ := hv_.symm
                subst hv_
                obtain ⟨hS, hl_822⟩ := hS.sp0.back hr_ hl_822
                have hS := hS.un2
                have hRL := hRL.trans hl_822
                refine parK_nil ((hS.pk10.pk10.pk10.pk10.pk10.trunc 5).lower (hl_752.le.trans hl_822.le)) ?_
                refine thenL_nil ?_
                have hS := hS.pk2
                refine sl_storeA (vs := [v_754, v_758]) (c' := [v_754, v_758]) Try.sizeOf53 hS hK rfl rfl rfl rfl (all_cons (hS.row_one (.tail _ (.tail _ (.tail _ (.tail _ (.head _)))))) (all_cons (hS.row_one (.tail _ (.tail _ (.tail _ (.tail _ (.tail _ (.head _))))))) (all_nil))) (Nat.le_of_ble_eq_true rfl) rfl fun a w hS hK => ?_
                have hS := hS.pk3
                refine sl_storeA (vs := [v_824, v_828]) (c' := [v_824, v_828]) Try.sizeOf53 hS hK rfl rfl rfl rfl (all_cons (hS.row_one (.tail _ (.tail _ (.head _)))) (all_cons (hS.row_one (.tail _ (.tail _ (.tail _ (.head _))))) (all_nil))) (Nat.le_of_ble_eq_true rfl) rfl fun a w hS hK => ?_
                refine wpList_nil (NoP_nil ?_)
                have hS := hS.pk3
                have hS := hS.pk3
                have hS := hS.pk3
                have hS := hS.pk5
                have hS := hS.pk5
                have hS := hS.pk6
                have hS := hS.pk9
                have hS := hS.pk9
                have hS := hS.pk9
                exact ⟨y_749.shared, y_749.others, y_819.shared, y_819.others, _, _, _, _, _, _, _, _, _, _, _, H, (hl_752.trans hl_822), (hq_756.mono hl_822.le), (hq_760.mono hl_822.le), hq_826, hq_830, hK.sub (all_cons rfl (all_cons rfl (all_cons rfl (all_cons rfl (all_cons rfl (all_cons rfl (all_cons rfl (all_nil)))))))), hS.trunc 10⟩
          · refine spwB (k := 10) rfl rfl hS ?_
            refine sl_alloc Try.zeroValue53 hS hK (by decide) rfl rfl fun a w b_831 hS hK => ?_
            refine parKK_nil (hS.pk5.pk5.pk5.pk5.pk5.trunc 5) ?_
            refine tree_fork ?_
            refine wpPar_nil (tree_br ?_ ?_)
            · refine spwB (k := 4) rfl rfl (hS.pk5.pk5.pk5.pk5.pk5.trunc 5) ?_
              obtain ⟨y_832, h_833, H⟩ := bind_some H
              refine sl_call Try.call20 hK (by decide) rfl rfl rfl (join_split.calls a0.Cols a0.Cols (lentOf_sub [] _) hS.sub (h0_0.mono (hl_85.le.trans hS.rLe0)) (h0_0.mono (hl_85.le.trans hS.rLe0)) h_833) fun a v_ w hv_ hK => ?_
              obtain ⟨R_834, v_837, cs_838, v_841, cs_842, hv_, hr_, hl_835, hq_839, hq_843⟩ := hv_
              have hv_ := hv_.symm
              subst hv_
              obtain ⟨hS, hl_835⟩ := hS.sp0.back hr_ hl_835
              have hS := hS.un2
              have hRL := hRL.trans hl_835
              refine parKK_nil ((hS.pk7.pk7.pk7.pk7.pk7.trunc 5).lower hl_835.le) ?_
              refine tree_fork ?_
              refine wpPar_nil (tree_br ?_ ?_)
              · refine spwB (k := 9) rfl rfl ((hS.pk7.pk7.pk7.pk7.pk7.trunc 5).lower hl_835.le) ?_
                obtain ⟨y_844, h_845, H⟩ := bind_some H
                refine sl_call Try.call20 hK (by decide) rfl rfl rfl (join_split.calls a1.Cols a0.Cols (lentOf_sub [] _) hS.sub (h1_0.mono ((hl_85.le.trans hl_835.le).trans hS.rLe0)) (h0_0.mono ((hl_85.le.trans hl_835.le).trans hS.rLe0)) h_845) fun a v_ w hv_ hK => ?_
                obtain ⟨R_846, v_849, cs_850, v_853, cs_854, hv_, hr_, hl_847, hq_851, hq_855⟩ := hv_
                have hv_ := hv_.symm
                subst hv_
                obtain ⟨hS, hl_847⟩ := hS.sp0.back hr_ hl_847
                have hS := hS.un2
                have hRL := hRL.trans hl_847
                refine parKK_nil ((hS.pk9.pk9.pk9.pk9.pk9.trunc 5).lower (hl_835.le.trans hl_847.le)) ?_
                refine tree_list ?_
                refine spw (k := 11) rfl rfl ((hS.pk9.pk9.pk9.pk9.pk9.trunc 5).lower (hl_835.le.trans hl_847.le)) ?_
                refine sl_alloc Try.zeroValue53 hS hK (by decide) rfl rfl fun a w b_856 hS hK => ?_
                refine parK_nil ((hS.pk10.pk10.pk10.pk10.pk10.trunc 5).lower (hl_835.le.trans hl_847.le)) ?_
                refine thenL_nil ?_
                have hS := hS.pk5
                refine sl_storeA (vs := [v_837, v_841]) (c' := [v_837, v_841]) Try.sizeOf53 hS hK rfl rfl rfl rfl (all_cons (hS.row_one (.tail _ (.tail _ (.tail _ (.tail _ (.head _)))))) (all_cons (hS.row_one (.tail _ (.tail _ (.tail _ (.tail _ (.tail _ (.head _))))))) (all_nil))) (Nat.le_of_ble_eq_true rfl) rfl fun a w hS hK => ?_
                have hS := hS.pk1
                refine sl_storeA (vs := [v_849, v_853]) (c' := [v_849, v_853]) Try.sizeOf53 hS hK rfl rfl rfl rfl (all_cons (hS.row_one (.tail _ (.tail _ (.head _)))) (all_cons (hS.row_one (.tail _ (.tail _ (.tail _ (.head _))))) (all_nil))) (Nat.le_of_ble_eq_true rfl) rfl fun a w hS hK => ?_
                refine wpList_nil (NoP_nil ?_)
                have hS := hS.pk3
                have hS := hS.pk3
                have hS := hS.pk3
                have hS := hS.pk5
                have hS := hS.pk5
                have hS := hS.pk6
                have hS := hS.pk9
                have hS := hS.pk9
                have hS := hS.pk9
                exact ⟨y_832.shared, y_832.others, y_844.shared, y_844.others, _, _, _, _, _, _, _, _, _, _, _, H, (hl_835.trans hl_847), (hq_839.mono hl_847.le), (hq_843.mono hl_847.le), hq_851, hq_855, hK.sub (all_cons rfl (all_cons rfl (all_cons rfl (all_cons rfl (all_cons rfl (all_cons rfl (all_cons rfl (all_nil)))))))), hS.trunc 10⟩
              · refine spwB (k := 11) rfl rfl ((hS.pk7.pk7.pk7.pk7.pk7.trunc 5).lower hl_835.le) ?_
                refine sl_alloc Try.zeroValue53 hS hK (by decide) rfl rfl fun a w b_857 hS hK => ?_
                refine parKK_nil ((hS.pk8.pk8.pk8.pk8.pk8.trunc 5).lower hl_835.le) ?_
                refine tree_list ?_
                refine spw (k := 9) rfl rfl ((hS.pk8.pk8.pk8.pk8.pk8.trunc 5).lower hl_835.le) ?_
                obtain ⟨y_858, h_859, H⟩ := bind_some H
                refine sl_call Try.call20 hK (by decide) rfl rfl rfl (join_split.calls a1.Cols a0.Cols (lentOf_sub [] _) hS.sub (h1_0.mono ((hl_85.le.trans hl_835.le).trans hS.rLe0)) (h0_0.mono ((hl_85.le.trans hl_835.le).trans hS.rLe0)) h_859) fun a v_ w hv_ hK => ?_
                obtain ⟨R_860, v_863, cs_864, v_867, cs_868, hv_, hr_, hl_861, hq_865, hq_869⟩ := hv_
                have hv_ := hv_.symm
                subst hv_
                obtain ⟨hS, hl_861⟩ := hS.sp0.back hr_ hl_861
                have hS := hS.un2
                have hRL := hRL.trans hl_861
                refine parK_nil ((hS.pk10.pk10.pk10.pk10.pk10.trunc 5).lower (hl_835.le.trans hl_861.le)) ?_
                refine thenL_nil ?_
                have hS := hS.pk5
                refine sl_storeA (vs := [v_837, v_841]) (c' := [v_837, v_841]) Try.sizeOf53 hS hK rfl rfl rfl rfl (all_cons (hS.row_one (.tail _ (.tail _ (.tail _ (.tail _ (.head _)))))) (all_cons (hS.row_one (.tail _ (.tail _ (.tail _ (.tail _ (.tail _ (.head _))))))) (all_nil))) (Nat.le_of_ble_eq_true rfl) rfl fun a w hS hK => ?_
                have hS := hS.pk3
                refine sl_storeA (vs := [v_863, v_867]) (c' := [v_863, v_867]) Try.sizeOf53 hS hK rfl rfl rfl rfl (all_cons (hS.row_one (.tail _ (.tail _ (.head _)))) (all_cons (hS.row_one (.tail _ (.tail _ (.tail _ (.head _))))) (all_nil))) (Nat.le_of_ble_eq_true rfl) rfl fun a w hS hK => ?_
                refine wpList_nil (NoP_nil ?_)
                have hS := hS.pk3
                have hS := hS.pk3
                have hS := hS.pk3
                have hS := hS.pk5
                have hS := hS.pk5
                have hS := hS.pk6
                have hS := hS.pk9
                have hS := hS.pk9
                have hS := hS.pk9
                exact ⟨y_832.shared, y_832.others, y_858.shared, y_858.others, _, _, _, _, _, _, _, _, _, _, _, H, (hl_835.trans hl_861), (hq_839.mono hl_861.le), (hq_843.mono hl_861.le), hq_865, hq_869, hK.sub (all_cons rfl (all_cons rfl (all_cons rfl (all_cons rfl (all_cons rfl (all_cons rfl (all_cons rfl (all_nil)))))))), hS.trunc 10⟩
            · refine spwB (k := 11) rfl rfl (hS.pk5.pk5.pk5.pk5.pk5.trunc 5) ?_
              refine sl_alloc Try.zeroValue53 hS hK (by decide) rfl rfl fun a w b_870 hS hK => ?_
              refine parKK_nil (hS.pk6.pk6.pk6.pk6.pk6.trunc 5) ?_
              refine tree_list ?_
              refine spw (k := 4) rfl rfl (hS.pk6.pk6.pk6.pk6.pk6.trunc 5) ?_
              obtain ⟨y_871, h_872, H⟩ := bind_some H
              refine sl_call Try.call20 hK (by decide) rfl rfl rfl (join_split.calls a0.Cols a0.Cols (lentOf_sub [] _) hS.sub (h0_0.mono (hl_85.le.trans hS.rLe0)) (h0_0.mono (hl_85.le.trans hS.rLe0)) h_872) fun a v_ w hv_ hK => ?_
              obtain ⟨R_873, v_876, cs_877, v_880, cs_881, hv_, hr_, hl_874, hq_878, hq_882⟩ := hv_
              have hv_ := hv_.symm
              subst hv_
              obtain ⟨hS, hl_874⟩ := hS.sp0.back hr_ hl_874
              have hS := hS.un2
              have hRL := hRL.trans hl_874
              refine parK_nil ((hS.pk8.pk8.pk8.pk8.pk8.trunc 5).lower hl_874.le) ?_
              refine spw (k := 9) rfl rfl ((hS.pk8.pk8.pk8.pk8.pk8.trunc 5).lower hl_874.le) ?_
              obtain ⟨y_883, h_884, H⟩ := bind_some H
              refine sl_call Try.call20 hK (by decide) rfl rfl rfl (join_split.calls a1.Cols a0.Cols (lentOf_sub [] _) hS.sub (h1_0.mono ((hl_85.le.trans hl_874.le).trans hS.rLe0)) (h0_0.mono ((hl_85.le.trans hl_874.le).trans hS.rLe0)) h_884) fun a v_ w hv_ hK => ?_
              obtain ⟨R_885, v_888, cs_889, v_892, cs_893, hv_, hr_, hl_886, hq_890, hq_894⟩ := hv_
              have hv_ := hv_.symm
              subst hv_
              obtain ⟨hS, hl_886⟩ := hS.sp0.back hr_ hl_886
              have hS := hS.un2
              have hRL := hRL.trans hl_886
              refine parK_nil ((hS.pk10.pk10.pk10.pk10.pk10.trunc 5).lower (hl_874.le.trans hl_886.le)) ?_
              refine thenL_nil ?_
              have hS := hS.pk5
              refine sl_storeA (vs := [v_876, v_880]) (c' := [v_876, v_880]) Try.sizeOf53 hS hK rfl rfl rfl rfl (all_cons (hS.row_one (.tail _ (.tail _ (.tail _ (.head _))))) (all_cons (hS.row_one (.tail _ (.tail _ (.tail _ (.tail _ (.head _)))))) (all_nil))) (Nat.le_of_ble_eq_true rfl) rfl fun a w hS hK => ?_
              have hS := hS.pk5
              refine sl_storeA (vs := [v_888, v_892]) (c' := [v_888, v_892]) Try.sizeOf53 hS hK rfl rfl rfl rfl (all_cons (hS.row_one (.tail _ (.tail _ (.head _)))) (all_cons (hS.row_one (.tail _ (.tail _ (.tail _ (.head _))))) (all_nil))) (Nat.le_of_ble_eq_true rfl) rfl fun a w hS hK => ?_
              refine wpList_nil (NoP_nil ?_)
              have hS := hS.pk3
              have hS := hS.pk3
              have hS := hS.pk3
              have hS := hS.pk5
              have hS := hS.pk5
              have hS := hS.pk6
              have hS := hS.pk9
              have hS := hS.pk9
              have hS := hS.pk9
              exact ⟨y_871.shared, y_871.others, y_883.shared, y_883.others, _, _, _, _, _, _, _, _, _, _, _, H, (hl_874.trans hl_886), (hq_878.mono hl_886.le), (hq_882.mono hl_886.le), hq_890, hq_894, hK.sub (all_cons rfl (all_cons rfl (all_cons rfl (all_cons rfl (all_cons rfl (all_cons rfl (all_cons rfl (all_nil)))))))), hS.trunc 10⟩
          · refine spwB (k := 11) rfl rfl hS ?_
            refine sl_alloc Try.zeroValue53 hS hK (by decide) rfl rfl fun a w b_895 hS hK => ?_
            refine parKK_nil (hS.pk5.pk5.pk5.pk5.pk5.trunc 5) ?_
            refine tree_fork ?_
            refine wpPar_nil (tree_br ?_ ?_)
            · refine spwB (k := 4) rfl rfl (hS.pk5.pk5.pk5.pk5.pk5.trunc 5) ?_
              obtain ⟨y_896, h_897, H⟩ := bind_some H
              refine sl_call Try.call20 hK (by decide) rfl rfl rfl (join_split.calls a0.Cols a0.Cols (lentOf_sub [] _) hS.sub (h0_0.mono (hl_85.le.trans hS.rLe0)) (h0_0.mono (hl_85.le.trans hS.rLe0)) h_897) fun a v_ w hv_ hK => ?_
              obtain ⟨R_898, v_901, cs_902, v_905, cs_906, hv_, hr_, hl_899, hq_903, hq_907⟩ := hv_
              have hv_ := hv_.symm
              subst hv_
              obtain ⟨hS, hl_899⟩ := hS.sp0.back hr_ hl_899
              have hS := hS.un2
              have hRL := hRL.trans hl_899
              refine parKK_nil ((hS.pk7.pk7.pk7.pk7.pk7.trunc 5).lower hl_899.le) ?_
              refine tree_fork ?_
              refine wpPar_nil (tree_br ?_ ?_)
              · refine spwB (k := 9) rfl rfl ((hS.pk7.pk7.pk7.pk7.pk7.trunc 5).lower hl_899.le) ?_
                obtain ⟨y_908, h_909, H⟩ := bind_some H
                refine sl_call Try.call20 hK (by decide) rfl rfl rfl (join_split.calls a1.Cols a0.Cols (lentOf_sub [] _) hS.sub (h1_0.mono ((hl_85.le.trans hl_899.le).trans hS.rLe0)) (h0_0.mono ((hl_85.le.trans hl_899.le).trans hS.rLe0)) h_909) fun a v_ w hv_ hK => ?_
                obtain ⟨R_910, v_913, cs_914, v_917, cs_918, hv_, hr_, hl_911, hq_915, hq_919⟩ := hv_
                have hv_ := hv_.symm
                subst hv_
                obtain ⟨hS, hl_911⟩ := hS.sp0.back hr_ hl_911
                have hS := hS.un2
                have hRL := hRL.trans hl_911
                refine parKK_nil ((hS.pk9.pk9.pk9.pk9.pk9.trunc 5).lower (hl_899.le.trans hl_911.le)) ?_
                refine tree_list ?_
                refine spw (k := 10) rfl rfl ((hS.pk9.pk9.pk9.pk9.pk9.trunc 5).lower (hl_899.le.trans hl_911.le)) ?_
                refine sl_alloc Try.zeroValue53 hS hK (by decide) rfl rfl fun a w b_920 hS hK => ?_
                refine parK_nil ((hS.pk10.pk10.pk10.pk10.pk10.trunc 5).lower (hl_899.le.trans hl_911.le)) ?_
                refine thenL_nil ?_
                refine sl_storeA (vs := [v_901, v_905]) (c' := [v_901, v_905]) Try.sizeOf53 hS hK rfl rfl rfl rfl (all_cons (hS.row_one (.tail _ (.tail _ (.tail _ (.head _))))) (all_cons (hS.row_one (.tail _ (.tail _ (.tail _ (.tail _ (.head _)))))) (all_nil))) (Nat.le_of_ble_eq_true rfl) rfl fun a w hS hK => ?_
                have hS := hS.pk5
                refine sl_storeA (vs := [v_913, v_917]) (c' := [v_913, v_917]) Try.sizeOf53 hS hK rfl rfl rfl rfl (all_cons (hS.row_one (.tail _ (.tail _ (.head _)))) (all_cons (hS.row_one (.tail _ (.tail _ (.tail _ (.head _))))) (all_nil))) (Nat.le_of_ble_eq_true rfl) rfl fun a w hS hK => ?_
                refine wpList_nil (NoP_nil ?_)
                have hS := hS.pk3
                have hS := hS.pk3
                have hS := hS.pk3
                have hS := hS.pk5
                have hS := hS.pk5
                have hS := hS.pk6
                have hS := hS.pk9
                have hS := hS.pk9
                have hS := hS.pk9
                exact ⟨y_896.shared, y_896.others, y_908.shared, y_908.others, _, _, _, _, _, _, _, _, _, _, _, H, (hl_899.trans hl_911), (hq_903.mono hl_911.le), (hq_907.mono hl_911.le), hq_915, hq_919, hK.sub (all_cons rfl (all_cons rfl (all_cons rfl (all_cons rfl (all_cons rfl (all_cons rfl (all_cons rfl (all_nil)))))))), hS.trunc 10⟩
              · refine spwB (k := 10) rfl rfl ((hS.pk7.pk7.pk7.pk7.pk7.trunc 5).lower hl_899.le) ?_
                refine sl_alloc Try.zeroValue53 hS hK (by decide) rfl rfl fun a w b_921 hS hK => ?_
                refine parKK_nil ((hS.pk8.pk8.pk8.pk8.pk8.trunc 5).lower hl_899.le) ?_
                refine tree_list ?_
                refine spw (k := 9) rfl rfl ((hS.pk8.pk8.pk8.pk8.pk8.trunc 5).lower hl_899.le) ?_
                obtain ⟨y_922, h_923, H⟩ := bind_some H
                refine sl_call Try.call20 hK (by decide) rfl rfl rfl (join_split.calls a1.Cols a0.Cols (lentOf_sub [] _) hS.sub (h1_0.mono ((hl_85.le.trans hl_899.le).trans hS.rLe0)) (h0_0.mono ((hl_85.le.trans hl_899.le).trans hS.rLe0)) h_923) fun a v_ w hv_ hK => ?_
                obtain ⟨R_924, v_927, cs_928, v_931, cs_932, hv_, hr_, hl_925, hq_929, hq_933⟩ := hv_
                have hv_ := hv_.symm
                subst hv_
                obtain ⟨hS, hl_925⟩ := hS.sp0.back hr_ hl_925
                have hS := hS.un2
                have hRL := hRL.trans hl_925
                refine parK_nil ((hS.pk10.pk10.pk10.pk10.pk10.trunc 5).lower (hl_899.le.trans hl_925.le)) ?_
                refine thenL_nil ?_
                have hS := hS.pk2
                refine sl_storeA (vs := [v_901, v_905]) (c' := [v_901, v_905]) Try.sizeOf53 hS hK rfl rfl rfl rfl (all_cons (hS.row_one (.tail _ (.tail _ (.tail _ (.head _))))) (all_cons (hS.row_one (.tail _ (.tail _ (.tail _ (.tail _ (.head _)))))) (all_nil))) (Nat.le_of_ble_eq_true rfl) rfl fun a w hS hK => ?_
                have hS := hS.pk5
                refine sl_storeA (vs := [v_927, v_931]) (c' := [v_927, v_931]) Try.sizeOf53 hS hK rfl rfl rfl rfl (all_cons (hS.row_one (.tail _ (.tail _ (.head _)))) (all_cons (hS.row_one (.tail _ (.tail _ (.tail _ (.head _))))) (all_nil))) (Nat.le_of_ble_eq_true rfl) rfl fun a w hS hK => ?_
                refine wpList_nil (NoP_nil ?_)
                have hS := hS.pk3
                have hS := hS.pk3
                have hS := hS.pk3
                have hS := hS.pk5
                have hS := hS.pk5
                have hS := hS.pk6
                have hS := hS.pk9
                have hS := hS.pk9
                have hS := hS.pk9
                exact ⟨y_896.shared, y_896.others, y_922.shared, y_922.others, _, _, _, _, _, _, _, _, _, _, _, H, (hl_899.trans hl_925), (hq_903.mono hl_925.le), (hq_907.mono hl_925.le), hq_929, hq_933, hK.sub (all_cons rfl (all_cons rfl (all_cons rfl (all_cons rfl (all_cons rfl (all_cons rfl (all_cons rfl (all_nil)))))))), hS.trunc 10⟩
            · refine spwB (k := 10) rfl rfl (hS.pk5.pk5.pk5.pk5.pk5.trunc 5) ?_
              refine sl_alloc Try.zeroValue53 hS hK (by decide) rfl rfl fun a w b_934 hS hK => ?_
              refine parKK_nil (hS.pk6.pk6.pk6.pk6.pk6.trunc 5) ?_
              refine tree_list ?_
              refine spw (k := 4) rfl rfl (hS.pk6.pk6.pk6.pk6.pk6.trunc 5) ?_
              obtain ⟨y_935, h_936, H⟩ := bind_some H
              refine sl_call Try.call20 hK (by decide) rfl rfl rfl (join_split.calls a0.Cols a0.Cols (lentOf_sub [] _) hS.sub (h0_0.mono (hl_85.le.trans hS.rLe0)) (h0_0.mono (hl_85.le.trans hS.rLe0)) h_936) fun a v_ w hv_ hK => ?_
              obtain ⟨R_937, v_940, cs_941, v_944, cs_945, hv_, hr_, hl_938, hq_942, hq_946⟩ := hv_
              have hv_ := hv_.symm
              subst hv_
              obtain ⟨hS, hl_938⟩ := hS.sp0.back hr_ hl_938
              have hS := hS.un2
              have hRL := hRL.trans hl_938
              refine parK_nil ((hS.pk8.pk8.pk8.pk8.pk8.trunc 5).lower hl_938.le) ?_
              refine spw (k := 9) rfl rfl ((hS.pk8.pk8.pk8.pk8.pk8.trunc 5).lower hl_938.le) ?_
              obtain ⟨y_947, h_948, H⟩ := bind_some H
              refine sl_call Try.call20 hK (by decide) rfl rfl rfl (join_split.calls a1.Cols a0.Cols (lentOf_sub [] _) hS.sub (h1_0.mono ((hl_85.le.trans hl_938.le).trans hS.rLe0)) (h0_0.mono ((hl_85.le.trans hl_938.le).trans hS.rLe0)) h_948) fun a v_ w hv_ hK => ?_
              obtain ⟨R_949, v_952, cs_953, v_956, cs_957, hv_, hr_, hl_950, hq_954, hq_958⟩ := hv_
              have hv_ := hv_.symm
              subst hv_
              obtain ⟨hS, hl_950⟩ := hS.sp0.back hr_ hl_950
              have hS := hS.un2
              have hRL := hRL.trans hl_950
              refine parK_nil ((hS.pk10.pk10.pk10.pk10.pk10.trunc 5).lower (hl_938.le.trans hl_950.le)) ?_
              refine thenL_nil ?_
              have hS := hS.pk4
              refine sl_storeA (vs := [v_940, v_944]) (c' := [v_940, v_944]) Try.sizeOf53 hS hK rfl rfl rfl rfl (all_cons (hS.row_one (.tail _ (.tail _ (.tail _ (.head _))))) (all_cons (hS.row_one (.tail _ (.tail _ (.tail _ (.tail _ (.head _)))))) (all_nil))) (Nat.le_of_ble_eq_true rfl) rfl fun a w hS hK => ?_
              have hS := hS.pk5
              refine sl_storeA (vs := [v_952, v_956]) (c' := [v_952, v_956]) Try.sizeOf53 hS hK rfl rfl rfl rfl (all_cons (hS.row_one (.tail _ (.tail _ (.head _)))) (all_cons (hS.row_one (.tail _ (.tail _ (.tail _ (.head _))))) (all_nil))) (Nat.le_of_ble_eq_true rfl) rfl fun a w hS hK => ?_
              refine wpList_nil (NoP_nil ?_)
              have hS := hS.pk3
              have hS := hS.pk3
              have hS := hS.pk3
              have hS := hS.pk5
              have hS := hS.pk5
              have hS := hS.pk6
              have hS := hS.pk9
              have hS := hS.pk9
              have hS := hS.pk9
              exact ⟨y_935.shared, y_935.others, y_947.shared, y_947.others, _, _, _, _, _, _, _, _, _, _, _, H, (hl_938.trans hl_950), (hq_942.mono hl_950.le), (hq_946.mono hl_950.le), hq_954, hq_958, hK.sub (all_cons rfl (all_cons rfl (all_cons rfl (all_cons rfl (all_cons rfl (all_cons rfl (all_cons rfl (all_nil)))))))), hS.trunc 10⟩
        · rintro a w ⟨x_517, x_522, x_528, x_533, R_537, v_518, cs_519, v_523, cs_524, v_529, cs_530, v_534, cs_535, b_515, b_526, H, hl_538, hq_520, hq_525, hq_531, hq_536, hK, hS⟩
          unfold join_Join.j1 at H
          have hRL := hRL.trans hl_538
          refine wp_seq ?_
          refine wp_region_lit ?_
          refine sl hK (by decide) rfl rfl (r_fieldAddr Try.underlying53 rfl Try.sizeOf51 hK rfl) fun a hK => ?_
          refine sl hK (by decide) rfl rfl (r_load Try.isAgg51 hK rfl (hS.cell (.tail _ (.tail _ (.tail _ (.tail _ (.tail _ (.tail _ (.head _))))))) rfl)) fun a hK => ?_
          refine sl hK (by decide) rfl rfl (r_func (us := []) (vs := [.pointer (some ⟨b_2, 0, none⟩), .pointer (some ⟨b_1, 0, none⟩)]) rfl (hK.evs rfl)) fun a hK => ?_
          obtain ⟨y_959, h_960, H⟩ := bind_some H
          have hS := hS.pk4
          have hS1 := hS.sp1
          refine sl_call Try.call21 hK (by decide) rfl rfl rfl (slices_DeleteFunc_int_int_f_join_Join_1pp.calls x_517 a1 a0 (lentOf_sub _ _) lentOf_not hS1.lend hq_520 (hS1.lend_box (.tail _ (.head _))) (h1_0.mono ((hl_85.le.trans hl_538.le).trans hS1.rLe)) (h1_1.mono ((hl_85.le.trans hl_538.le).trans hS1.rLe)) (hS1.lend_box (.head _)) (h0_0.mono ((hl_85.le.trans hl_538.le).trans hS1.rLe)) (h0_1.mono ((hl_85.le.trans hl_538.le).trans hS1.rLe)) h_960) fun a v_ w hv_ hK => ?_
          obtain ⟨R_961, v_963, hv_, hr_, hl_962, hs_964⟩ := hv_
          have hv_ := hv_.symm
          subst hv_
          obtain ⟨hS, hl_962⟩ := hS1.back hr_ hl_962
          have hS := hS.un0
          have hRL := hRL.trans hl_962
          refine sl hK (by decide) rfl rfl (r_fieldAddr Try.underlying53 rfl Try.sizeOf51 hK rfl) fun a hK => ?_
          have hS := hS.pk5
          refine sl_store1 (c' := [v_963, v_523]) Try.sizeOf51 hS hK rfl rfl rfl hs_964.one (Nat.le_of_ble_eq_true rfl) rfl fun a w hS hK => ?_
          refine wpList_nil ?_
          refine wp_seq ?_
          refine wp_region_lit ?_
          refine sl_makeMap hS hK (by decide) rfl fun a w b_965 hS hK => ?_
          have hS : St [] w0 w R_961 (.mp b_965 (kvs Value.string id (mkp ([] : List (MRow ByteArray)))) :: .cells b_515 [v_963, v_523] 53 :: .cells b_1 [v0_0, v0_1] 25 :: .cells b_2 [v1_0, v1_1] 25 :: .cells b_3 [.slice none 0 0, .slice none 0 0] 25 :: .row 34 2 v_87 y_82.1.length cs_88 :: .row 3 1 v_523 x_522.length cs_524 :: .row 3 1 v_529 x_528.length cs_530 :: .row 3 1 v_534 x_533.length cs_535 :: .cells b_526 [v_529, v_534] 53 :: mrows 40 1 ([] : List (MRow ByteArray))) := hS
          have hm_966 : MRel (tySl ty_api_Value) R_961 ([] : List (MRow ByteArray)) ([] : List (ByteArray × (List (List api_Value)))) := MRel.nil
          refine sl hK (by decide) rfl rfl (r_assign hK rfl) fun a hK => ?_
          refine wpList_nil ?_
          refine wp_seq ?_
          refine wp_seq ?_
          refine wp_region_lit ?_
          refine sl hK (by decide) rfl rfl (r_fieldAddr Try.underlying25 rfl Try.sizeOf23 hK rfl) fun a hK => ?_
          refine sl hK (by decide) rfl rfl (r_load Try.isAgg23 hK rfl (hS.cell (.tail _ (.tail _ (.tail _ (.head _)))) rfl)) fun a hK => ?_
          refine sl hK (by decide) rfl rfl (r_len_R Try.underlying23 h1_1 hK rfl) fun a hK => ?_
          refine sl hK (by decide) rfl rfl (r_move hK rfl) fun a hK => ?_
          refine wpList_nil ?_
          refine wp_block ?_
          refine wp_loop_k (fun k_l2 a w => ∃ (x_1038 : List (ByteArray × (List (List api_Value)))) (x_1041 : Int) (R_1042 : Hp) (E_1039 : List (MRow ByteArray)), join_Join.l2 a0 a1 a2 y_82 x_528 x_533 y_959 k_l2 x_1038 x_1041 = some r ∧ RLe [] w0 R_961 R_1042 ∧ MRel (tySl ty_api_Value) R_1042 E_1039 x_1038 ∧ Kn 130 a [(2, .int .i64 a2), (3, .pointer (some ⟨b_1, 0, none⟩)), (6, .pointer (some ⟨b_3, 0, none⟩)), (11, v_87), (13, .pointer (some ⟨b_515, 0, none⟩)), (14, .pointer (some ⟨b_526, 0, none⟩)), (15, .map (some b_965)), (67, v1_1), (68, .int .i64 (a1.Rows.length : Int)), (69, .int .i64 x_1041)] ∧ St [] w0 w R_1042 (.cells b_1 [v0_0, v0_1] 25 :: .cells b_3 [.slice none 0 0, .slice none 0 0] 25 :: .row 34 2 v_87 y_82.1.length cs_88 :: .row 3 1 v_523 x_522.length cs_524 :: .cells b_515 [v_963, v_523] 53 :: .row 3 1 v_529 x_528.length cs_530 :: .row 3 1 v_534 x_533.length cs_535 :: .cells b_526 [v_529, v_534] 53 :: .mp b_965 (kvs Value.string id (mkp E_1039)) :: mrows 40 1 E_1039)) (((a1.Rows.length : Int) - 0).toNat + 1) ?_ ?_
          · have hS := hS.pk9
            have hS := hS.pk9
            have hS := hS.pk9
            have hS := hS.pk4
            have hS := hS.pk9
            have hS := hS.pk9
            have hS := hS.pk9
            have hS := hS.pk8
            exact ⟨([] : List (ByteArray × (List (List api_Value)))), 0, _, _, H, (RLe.refl _ _), hm_966, hK.sub (all_cons rfl (all_cons rfl (all_cons rfl (all_cons rfl (all_cons rfl (all_cons rfl (all_cons rfl (all_cons rfl (all_cons rfl (all_cons rfl (all_nil))))))))))), hS.pk9.tail⟩
          · rintro k_l2 a w ⟨x_1038, x_1041, R_1042, E_1039, H, hl_1043, hm_1040, hK, hS⟩
            cases k_l2 with
            | zero => cases H
            | succ k_l2 =>
            rw [join_Join.l2.eq_2] at H
            have hRL := hRL.trans hl_1043
            refine wp_seq ?_
            refine wp_region_lit ?_
            refine sl hK (by decide) rfl rfl (r_ibin hK rfl rfl rfl) fun a hK => ?_
            refine wpList_nil ?_
            refine wp_seq ?_
            refine wp_cond_split (hK.ev rfl) (fun (hb_1114 : (decide (x_1041 < (a1.Rows.length : Int))) = true) => ?_) (fun (hb_1114 : (decide (x_1041 < (a1.Rows.length : Int))) = false) => ?_)
            · rw [ifb_t hb_1114] at H
              refine wp_skip ?_
              refine wp_seq ?_
              refine wp_block ?_
              refine wp_seq ?_
              refine wp_region_lit ?_
              obtain ⟨y_1115, h_1116, H⟩ := bind_some H
              obtain ⟨b_1117, o_1118, c_1119, cs_1120, hv_1121, hr_1122, hc_1123, h_11160, h_11161⟩ := h1_1.ix h_1116
              obtain ⟨v_1124, rfl, hs_1125⟩ := hr_1122
              refine sl hK (by decide) rfl rfl (r_indexAddr_R Try.underlying23 Try.sizeOf40 hv_1121 h_11160 h_11161 hK rfl rfl) fun a hK => ?_
              refine sl hK (by decide) rfl rfl (r_load Try.isAgg40 hK rfl ((hS.sub.le (hl_85.le.trans (hl_538.le.trans (hl_962.le.trans hl_1043.le)))).cell (hc_1123 0 _ rfl))) fun a hK => ?_
              refine sl hK (by decide) rfl rfl (r_assign hK rfl) fun a hK => ?_
              refine wpList_nil ?_
              refine wp_seq ?_
              refine wp_region_lit ?_
              refine sl hK (by decide) rfl rfl (r_move hK rfl) fun a hK => ?_
              refine sl hK (by decide) rfl rfl (r_fieldAddr Try.underlying53 rfl Try.sizeOf51 hK rfl) fun a hK => ?_
              refine sl hK (by decide) rfl rfl (r_load Try.isAgg51 hK rfl (hS.cell (.tail _ (.tail _ (.tail _ (.tail _ (.tail _ (.tail _ (.tail _ (.head _)))))))) rfl)) fun a hK => ?_
              obtain ⟨y_1126, h_1127, H⟩ := bind_some H
              refine sl_call Try.call25 hK (by decide) rfl rfl rfl (join_pick.calls y_1115 x_528 (lentOf_sub [] _) hS.sub (hs_1125.mono ((hl_85.le.trans (hl_538.le.trans (hl_962.le.trans hl_1043.le))).trans hS.rLe0)) (hS.lend_row0 (.tail _ (.tail _ (.tail _ (.tail _ (.tail _ (.head _)))))) (hq_531.mono (hl_962.le.trans hl_1043.le)) rfl rfl) h_1127) fun a v_ w hv_ hK => ?_
              obtain ⟨R_1128, v_1131, cs_1132, hv_, hr_, hl_1129, hq_1133⟩ := hv_
              have hv_ := hv_.symm
              subst hv_
              obtain ⟨hS, hl_1129⟩ := hS.sp0.back hr_ hl_1129
              have hS := hS.un1
              have hRL := hRL.trans hl_1129
              obtain ⟨y_1134, h_1135, H⟩ := bind_some H
              refine sl_callV Try.call24 hS hK (by decide) rfl rfl rfl (join_mark.calls y_1126 (lentOf_sub [] _) (hS.lend_row0 (.head _) hq_1133 rfl rfl) h_1135) fun a w hS hK => ?_
              refine sl hK (by decide) rfl rfl (r_assign hK rfl) fun a hK => ?_
              refine wpList_nil ?_
              refine parT_region (C := fun w => St [] w0 w R_1128 [.row 46 11 v_1131 y_1126.length cs_1132, .cells b_1 [v0_0, v0_1] 25, .cells b_3 [.slice none 0 0, .slice none 0 0] 25, .row 34 2 v_87 y_82.1.length cs_88, .row 3 1 v_523 x_522.length cs_524, .cells b_515 [v_963, v_523] 53, .row 3 1 v_529 x_528.length cs_530, .row 3 1 v_534 x_533.length cs_535, .cells b_526 [v_529, v_534] 53, .mp b_965 (kvs Value.string id (mkp E_1039))]) 11 [(0, true), (1, true), (2, true), (3, true), (4, true), (5, true), (6, true), (7, true), (8, false), (9, false), (10, false)] mixed (by kernel_rfl) hS (fun w hS => (hS.trunc 10)) fun w hS => ?_
              refine sp (k := 0) rfl hK (by decide) rfl rfl (fun w hS => r_move hK rfl) fun a hK => ?_
              refine sp (k := 1) rfl hK (by decide) rfl rfl (fun w hS => r_move hK rfl) fun a hK => ?_
              refine sp (k := 2) rfl hK (by decide) rfl rfl (fun w hS => r_move hK rfl) fun a hK => ?_
              refine sp (k := 3) rfl hK (by decide) rfl rfl (fun w hS => r_move hK rfl) fun a hK => ?_
              refine sp (k := 4) rfl hK (by decide) rfl rfl (fun w hS => r_lookup_M (x := y_1134) Try.underlying57 Try.underlying9 key_str Try.zeroValue23 hS (.tail _ (.tail _ (.tail _ (.tail _ (.tail _ (.tail _ (.tail _ (.tail _ (.tail _ (.head _)))))))))) hK rfl rfl) fun a hK => ?_
              refine sp (k := 5) rfl hK (by decide) rfl rfl (fun w hS => r_move hK rfl) fun a hK => ?_
              refine sp (k := 6) rfl hK (by decide) rfl rfl (fun w hS => r_fieldAddr Try.underlying53 rfl Try.sizeOf51 hK rfl) fun a hK => ?_
              refine sp (k := 7) rfl hK (by decide) rfl rfl (fun w hS => r_load Try.isAgg51 hK rfl (hS.cell (.tail _ (.tail _ (.tail _ (.tail _ (.tail _ (.tail _ (.tail _ (.tail _ (.head _))))))))) rfl)) fun a hK => ?_
              refine spw (k := 8) rfl rfl (hS.trunc 10) ?_
              obtain ⟨y_1160, h_1161, H⟩ := bind_some H
              refine sl_call Try.call25 hK (by decide) rfl rfl rfl (join_pick.calls y_1115 x_533 (lentOf_sub [] _) hS.sub (hs_1125.mono ((hl_85.le.trans (hl_538.le.trans (hl_962.le.trans (hl_1043.le.trans hl_1129.le)))).trans hS.rLe0)) (hS.lend_row0 (.tail _ (.tail _ (.tail _ (.tail _ (.tail _ (.tail _ (.tail _ (.head _)))))))) (hq_536.mono (hl_962.le.trans (hl_1043.le.trans hl_1129.le))) rfl rfl) h_1161) fun a v_ w hv_ hK => ?_
              obtain ⟨R_1162, v_1165, cs_1166, hv_, hr_, hl_1163, hq_1167⟩ := hv_
              have hv_ := hv_.symm
              subst hv_
              obtain ⟨hS, hl_1163⟩ := hS.sp0.back hr_ hl_1163
              have hS := hS.un1
              have hRL := hRL.trans hl_1163
              refine parK_nil ((hS.pk10.pk10.pk10.pk10.pk10.pk10.pk10.pk10.pk10.pk10.trunc 10).lower hl_1163.le) ?_
              refine spw (k := 9) rfl rfl ((hS.pk10.pk10.pk10.pk10.pk10.pk10.pk10.pk10.pk10.pk10.trunc 10).lower hl_1163.le) ?_
              have ho_1168 := hS.row_one (.head _)
              refine sl_buildSliceF (zc := [.slice none 0 0]) (ps := [(0, v_1165)]) (c := [v_1165]) [[v_1165]] Try.underlying23 Try.sizeOf40 Try.zeroValue40 rfl (pc_cons (cells1 ho_1168) pc_nil) rfl rfl (Nat.le_of_ble_eq_true rfl) rfl (all_cons rfl (all_nil)) rfl hS hK (by decide) rfl fun a w b_1169 hS hK => ?_
              refine parK_nil ((hS.pk11.pk11.pk11.pk11.pk11.pk11.pk11.pk11.pk11.pk11.trunc 10).lower hl_1163.le) ?_
              refine spw (k := 10) rfl rfl ((hS.pk11.pk11.pk11.pk11.pk11.pk11.pk11.pk11.pk11.pk11.trunc 10).lower hl_1163.le) ?_
              obtain ⟨cs_1171, hS, hq_1172⟩ := hS.mtake (O := [.cells b_1169 [v_1165] 40, .row 46 11 v_1165 y_1160.length cs_1166, .row 46 11 v_1131 y_1126.length cs_1132, .cells b_1 [v0_0, v0_1] 25, .cells b_3 [.slice none 0 0, .slice none 0 0] 25, .row 34 2 v_87 y_82.1.length cs_88, .row 3 1 v_523 x_522.length cs_524, .cells b_515 [v_963, v_523] 53, .row 3 1 v_529 x_528.length cs_530, .row 3 1 v_534 x_533.length cs_535, .cells b_526 [v_529, v_534] 53, .mp b_965 (kvs Value.string id (mkp E_1039))]) rfl (hm_1040.mono (hl_1129.le.trans hl_1163.le)) y_1134
              have hS : St [] w0 w R_1162 (.row 40 1 (mhd E_1039 y_1134) ((mget x_1038 y_1134).getD []).length cs_1171 :: .cells b_1169 [v_1165] 40 :: .row 46 11 v_1165 y_1160.length cs_1166 :: .row 46 11 v_1131 y_1126.length cs_1132 :: .cells b_1 [v0_0, v0_1] 25 :: .cells b_3 [.slice none 0 0, .slice none 0 0] 25 :: .row 34 2 v_87 y_82.1.length cs_88 :: .row 3 1 v_523 x_522.length cs_524 :: .cells b_515 [v_963, v_523] 53 :: .row 3 1 v_529 x_528.length cs_530 :: .row 3 1 v_534 x_533.length cs_535 :: .cells b_526 [v_529, v_534] 53 :: .mp b_965 (kvs Value.string id (mkp E_1039)) :: mrows 40 1 (rdel E_1039 y_1134)) := hS
              have hS := hS.pk2
              obtain ⟨R_1173, hS, hl_1175, hs_1174⟩ := hS.fz_row hq_1167 rfl rfl
              have hRL := hRL.trans hl_1175
              obtain ⟨y_1176, h_1177, H⟩ := bind_some H
              refine sl_append_L (ty := (tySl ty_api_Value)) (ys := [y_1160]) elT23 (by decide) rfl (hq_1172.mono hl_1175.le) rfl (Reps.cons (show Ty.rep (tySl ty_api_Value) _ [v_1165] y_1160 from ⟨_, rfl, hs_1174⟩) (Reps.nil _ _)) rfl h_1177 hS hK (by decide) rfl rfl rfl fun a w v_1178 cs_1179 hq_1180 hS hK => ?_
              refine parK_nil ((hS.pk10.pk10.pk10.pk10.pk10.pk10.pk10.pk10.pk10.pk10.trunc 10).lower (hl_1163.le.trans hl_1175.le)) ?_
              refine thenL_nil ?_
              have hS := hS.pk10
              refine sl_mapUpdate (fv := id) (m := mkp E_1039) (x := y_1134) (y := v_1178) Try.underlying57 Try.underlying9 key_str hS hK rfl rfl rfl rfl fun a w hS hK => ?_
              obtain ⟨E_1182, hS, hm_1183⟩ := St.mput (O := [.row 46 11 v_1131 y_1126.length cs_1132, .cells b_1 [v0_0, v0_1] 25, .cells b_3 [.slice none 0 0, .slice none 0 0] 25, .row 34 2 v_87 y_82.1.length cs_88, .row 3 1 v_523 x_522.length cs_524, .cells b_515 [v_963, v_523] 53, .row 3 1 v_529 x_528.length cs_530, .row 3 1 v_534 x_533.length cs_535, .cells b_526 [v_529, v_534] 53]) rfl (hm_1040.mono (hl_1129.le.trans (hl_1163.le.trans hl_1175.le))) hq_1180 rfl hS
              have hS : St [] w0 w R_1173 (.mp b_965 (kvs Value.string id (mkp E_1182)) :: .row 46 11 v_1131 y_1126.length cs_1132 :: .cells b_1 [v0_0, v0_1] 25 :: .cells b_3 [.slice none 0 0, .slice none 0 0] 25 :: .row 34 2 v_87 y_82.1.length cs_88 :: .row 3 1 v_523 x_522.length cs_524 :: .cells b_515 [v_963, v_523] 53 :: .row 3 1 v_529 x_528.length cs_530 :: .row 3 1 v_534 x_533.length cs_535 :: .cells b_526 [v_529, v_534] 53 :: mrows 40 1 E_1182) := hS
              refine wpList_nil (NoP_nil ?_)
              refine wp_region_lit ?_
              refine sl hK (by decide) rfl rfl (r_ibin hK rfl rfl rfl) fun a hK => ?_
              refine sl hK (by decide) rfl rfl (r_move hK rfl) fun a hK => ?_
              refine wpList_nil ?_
              have hS := hS.pk9
              have hS := hS.pk9
              have hS := hS.pk9
              have hS := hS.pk9
              have hS := hS.pk9
              have hS := hS.pk9
              have hS := hS.pk9
              have hS := hS.pk9
              exact ⟨_, Nat.lt_succ_self _, (mset x_1038 y_1134 y_1176), (IntKind.i64.wrap (x_1041 + 1)), _, _, H, (hl_1043.trans (hl_1129.trans (hl_1163.trans hl_1175))), hm_1183, hK.sub (all_cons rfl (all_cons rfl (all_cons rfl (all_cons rfl (all_cons rfl (all_cons rfl (all_cons rfl (all_cons rfl (all_cons rfl (all_cons rfl (all_nil))))))))))), hS.pk9.tail⟩
            · rw [ifb_f hb_1114] at H
              refine wp_exit ?_
              refine wp_seq ?_
              refine wp_region_lit ?_
              refine sl hK (by decide) rfl rfl (r_move hK rfl) fun a hK => ?_
              have ho_1184 := hS.row_one (.tail _ (.tail _ (.head _)))
              refine sl hK (by decide) rfl rfl (r_buildC (ps := [(0, v_87)]) (c := [v_87, .slice none 0 0]) Try.underlying25 Try.zeroValue25 places25 hK rfl (pc_cons (cells1 ho_1184) pc_nil) rfl rfl) fun a hK => ?_
              refine sl_alloc Try.zeroValue25 hS hK (by decide) rfl rfl fun a w b_1185 hS hK => ?_
              refine sl_storeA (vs := [v_87, .slice none 0 0]) (c' := [v_87, .slice none 0 0]) Try.sizeOf25 hS hK rfl rfl rfl rfl (all_cons (hS.row_one (.tail _ (.tail _ (.tail _ (.head _))))) (all_cons rfl (all_nil))) (Nat.le_of_ble_eq_true rfl) rfl fun a w hS hK => ?_
              refine wpList_nil ?_
              refine wp_seq ?_
              refine wp_seq ?_
              refine wp_region_lit ?_
              refine sl hK (by decide) rfl rfl (r_fieldAddr Try.underlying25 rfl Try.sizeOf23 hK rfl) fun a hK => ?_
              refine sl hK (by decide) rfl rfl (r_load Try.isAgg23 hK rfl (hS.cell (.tail _ (.head _)) rfl)) fun a hK => ?_
              refine sl hK (by decide) rfl rfl (r_len_R Try.underlying23 h0_1 hK rfl) fun a hK => ?_
              refine sl hK (by decide) rfl rfl (r_move hK rfl) fun a hK => ?_
              refine wpList_nil ?_
              refine wp_block ?_
              refine wp_loop_k (fun k_l3 a w => ∃ (x_1409 : List (List api_Value)) (x_1413 : Int) (R_1414 : Hp) (v_1410 : Value) (cs_1411 : List Value) (E_1406 : List (MRow ByteArray)), join_Join.l3 a0 a2 y_82 y_959 x_1038 k_l3 x_1409 x_1413 = some r ∧ RLe [] w0 R_1042 R_1414 ∧ Reps (tySl ty_api_Value) R_1414 cs_1411 x_1409 ∧ MRd (tySl ty_api_Value) R_1414 E_1406 x_1038 ∧ Kn 130 a [(2, .int .i64 a2), (6, .pointer (some ⟨b_3, 0, none⟩)), (13, .pointer (some ⟨b_515, 0, none⟩)), (15, .map (some b_965)), (19, .pointer (some ⟨b_1185, 0, none⟩)), (93, v0_1), (94, .int .i64 (a0.Rows.length : Int)), (95, .int .i64 x_1413)] ∧ St [] w0 w R_1414 [.cells b_3 [.slice none 0 0, .slice none 0 0] 25, .row 3 1 v_523 x_522.length cs_524, .cells b_515 [v_963, v_523] 53, .mp b_965 (kvs Value.string id (mkp E_1406)), .row 34 2 v_87 y_82.1.length cs_88, .row 40 1 v_1410 x_1409.length cs_1411, .cells b_1185 [v_87, v_1410] 25]) (((a0.Rows.length : Int) - 0).toNat + 1) ?_ ?_
              · obtain ⟨R_1619, hS, hl_1620, hm_1621⟩ := hS.mfreeze (O := [.cells b_1185 [v_87, .slice none 0 0] 25, .cells b_1 [v0_0, v0_1] 25, .cells b_3 [.slice none 0 0, .slice none 0 0] 25, .row 34 2 v_87 y_82.1.length cs_88, .row 3 1 v_523 x_522.length cs_524, .cells b_515 [v_963, v_523] 53, .row 3 1 v_529 x_528.length cs_530, .row 3 1 v_534 x_533.length cs_535, .cells b_526 [v_529, v_534] 53, .mp b_965 (kvs Value.string id (mkp E_1039))]) rfl hm_1040
                have hRL := hRL.trans hl_1620
                have hS := hS.row_nil 40 1
                have hq_1623 : Reps (tySl ty_api_Value) R_1619 [] ([] : List (List api_Value)) := Reps.nil _ _
                have hS := hS.pk1
                have hS := hS.pk1
                have hS := hS.pk4
                have hS := hS.pk10
                have hS := hS.pk7
                have hS := hS.pk7
                have hS := hS.pk7
                exact ⟨[], 0, _, _, _, _, H, hl_1620, hq_1623, hm_1621, hK.sub (all_cons rfl (all_cons rfl (all_cons rfl (all_cons rfl (all_cons rfl (all_cons rfl (all_cons rfl (all_cons rfl (all_nil))))))))), hS.trunc 7⟩
              · rintro k_l3 a w ⟨x_1409, x_1413, R_1414, v_1410, cs_1411, E_1406, H, hl_1415, hq_1412, hm_1407, hK, hS⟩
                cases k_l3 with
                | zero => cases H
                | succ k_l3 =>
                rw [join_Join.l3.eq_2] at H
                have hRL := hRL.trans hl_1415
                refine wp_seq ?_
                refine wp_region_lit ?_
                refine sl hK (by decide) rfl rfl (r_ibin hK rfl rfl rfl) fun a hK => ?_
                refine wpList_nil ?_
                refine wp_seq ?_
                refine wp_cond_split (hK.ev rfl) (fun (hb_1624 : (decide (x_1413 < (a0.Rows.length : Int))) = true) => ?_) (fun (hb_1624 : (decide (x_1413 < (a0.Rows.length : Int))) = false) => ?_)
                · rw [ifb_t hb_1624] at H
                  refine wp_skip ?_
                  refine wp_seq ?_
                  refine wp_block ?_
                  refine wp_seq ?_
                  refine wp_region_lit ?_
                  obtain ⟨y_1625, h_1626, H⟩ := bind_some H
                  obtain ⟨b_1627, o_1628, c_1629, cs_1630, hv_1631, hr_1632, hc_1633, h_16260, h_16261⟩ := h0_1.ix h_1626
                  obtain ⟨v_1634, rfl, hs_1635⟩ := hr_1632
                  refine sl hK (by decide) rfl rfl (r_indexAddr_R Try.underlying23 Try.sizeOf40 hv_1631 h_16260 h_16261 hK rfl rfl) fun a hK => ?_
                  refine sl hK (by decide) rfl rfl (r_load Try.isAgg40 hK rfl ((hS.sub.le (hl_85.le.trans (hl_538.le.trans (hl_962.le.trans (hl_1043.le.trans hl_1415.le))))).cell (hc_1633 0 _ rfl))) fun a hK => ?_
                  refine sl hK (by decide) rfl rfl (r_assign hK rfl) fun a hK => ?_
                  refine wpList_nil ?_
                  refine wp_seq ?_
                  refine wp_region_lit ?_
                  refine sl hK (by decide) rfl rfl (r_move hK rfl) fun a hK => ?_
                  refine sl hK (by decide) rfl rfl (r_move hK rfl) fun a hK => ?_
                  refine sl hK (by decide) rfl rfl (r_fieldAddr Try.underlying53 rfl Try.sizeOf51 hK rfl) fun a hK => ?_
                  refine sl hK (by decide) rfl rfl (r_load Try.isAgg51 hK rfl (hS.cell (.tail _ (.tail _ (.head _))) rfl)) fun a hK => ?_
                  obtain ⟨y_1636, h_1637, H⟩ := bind_some H
                  refine sl_call Try.call25 hK (by decide) rfl rfl rfl (join_pick.calls y_1625 y_959 (lentOf_sub [] _) hS.sub (hs_1635.mono ((hl_85.le.trans (hl_538.le.trans (hl_962.le.trans (hl_1043.le.trans hl_1415.le)))).trans hS.rLe0)) (hs_964.mono ((hl_1043.le.trans hl_1415.le).trans hS.rLe0)) h_1637) fun a v_ w hv_ hK => ?_
                  obtain ⟨R_1638, v_1641, cs_1642, hv_, hr_, hl_1639, hq_1643⟩ := hv_
                  have hv_ := hv_.symm
                  subst hv_
                  obtain ⟨hS, hl_1639⟩ := hS.sp0.back hr_ hl_1639
                  have hS := hS.un1
                  have hRL := hRL.trans hl_1639
                  obtain ⟨y_1644, h_1645, H⟩ := bind_some H
                  refine sl_callV Try.call24 hS hK (by decide) rfl rfl rfl (join_mark.calls y_1636 (lentOf_sub [] _) (hS.lend_row0 (.head _) hq_1643 rfl rfl) h_1645) fun a w hS hK => ?_
                  have hs_1646 := hm_1407 y_1644
                  refine sl hK (by decide) rfl rfl (r_lookup_M (x := y_1644) Try.underlying57 Try.underlying9 key_str Try.zeroValue23 hS (.tail _ (.tail _ (.tail _ (.tail _ (.head _))))) hK rfl rfl) fun a hK => ?_
                  refine sl hK (by decide) rfl rfl (r_len_R Try.underlying23 hs_1646 hK rfl) fun a hK => ?_
                  refine sl hK (by decide) rfl rfl (r_move hK rfl) fun a hK => ?_
                  refine wpList_nil ?_
                  refine wp_block ?_
                  refine wp_loop_k (fun k_l4 a w => ∃ (x_1706 : List (List api_Value)) (x_1710 : Int) (R_1711 : Hp) (v_1707 : Value) (cs_1708 : List Value), join_Join.l4 (join_Join.l3 a0 a2 y_82 y_959 x_1038 k_l3) a0 a2 x_1038 x_1413 y_1625 y_1644 k_l4 x_1706 x_1710 = some r ∧ RLe [] w0 R_1638 R_1711 ∧ Reps (tySl ty_api_Value) R_1711 cs_1708 x_1706 ∧ Kn 130 a [(2, .int .i64 a2), (6, .pointer (some ⟨b_3, 0, none⟩)), (13, .pointer (some ⟨b_515, 0, none⟩)), (15, .map (some b_965)), (19, .pointer (some ⟨b_1185, 0, none⟩)), (21, v_1634), (93, v0_1), (94, .int .i64 (a0.Rows.length : Int)), (95, .int .i64 x_1413), (105, (mhd E_1406 y_1644)), (106, .int .i64 (((mget x_1038 y_1644).getD []).length : Int)), (107, .int .i64 x_1710)] ∧ St [] w0 w R_1711 [.cells b_3 [.slice none 0 0, .slice none 0 0] 25, .row 3 1 v_523 x_522.length cs_524, .cells b_515 [v_963, v_523] 53, .mp b_965 (kvs Value.string id (mkp E_1406)), .row 34 2 v_87 y_82.1.length cs_88, .row 40 1 v_1707 x_1706.length cs_1708, .cells b_1185 [v_87, v_1707] 25]) (((((mget x_1038 y_1644).getD []).length : Int) - 0).toNat + 1) ?_ ?_
                  · have hS := hS.pk7
                    have hS := hS.pk7
                    have hS := hS.pk7
                    have hS := hS.pk7
                    have hS := hS.pk7
                    have hS := hS.pk7
                    have hS := hS.pk7
                    exact ⟨x_1409, 0, _, _, _, H, (RLe.refl _ _), (hq_1412.mono hl_1639.le), hK.sub (all_cons rfl (all_cons rfl (all_cons rfl (all_cons rfl (all_cons rfl (all_cons rfl (all_cons rfl (all_cons rfl (all_cons rfl (all_cons rfl (all_cons rfl (all_cons rfl (all_nil))))))))))))), hS.trunc 7⟩
                  · rintro k_l4 a w ⟨x_1706, x_1710, R_1711, v_1707, cs_1708, H, hl_1712, hq_1709, hK, hS⟩
                    cases k_l4 with
                    | zero => cases H
                    | succ k_l4 =>
                    rw [join_Join.l4.eq_2] at H
                    have hRL := hRL.trans hl_1712
                    refine wp_seq ?_
                    refine wp_region_lit ?_
                    refine sl hK (by decide) rfl rfl (r_ibin hK rfl rfl rfl) fun a hK => ?_
                    refine wpList_nil ?_
                    refine wp_seq ?_
                    refine wp_cond_split (hK.ev rfl) (fun (hb_1770 : (decide (x_1710 < (((mget x_1038 y_1644).getD []).length : Int))) = true) => ?_) (fun (hb_1770 : (decide (x_1710 < (((mget x_1038 y_1644).getD []).length : Int))) = false) => ?_)
                    · rw [ifb_t hb_1770] at H
                      refine wp_skip ?_
                      refine wp_seq ?_
                      refine wp_block ?_
                      refine wp_seq ?_
                      refine wp_region_lit ?_
                      obtain ⟨y_1771, h_1772, H⟩ := bind_some H
                      obtain ⟨b_1773, o_1774, c_1775, cs_1776, hv_1777, hr_1778, hc_1779, h_17720, h_17721⟩ := hs_1646.ix h_1772
                      obtain ⟨v_1780, rfl, hs_1781⟩ := hr_1778
                      refine sl hK (by decide) rfl rfl (r_indexAddr_R Try.underlying23 Try.sizeOf40 hv_1777 h_17720 h_17721 hK rfl rfl) fun a hK => ?_
                      refine sl hK (by decide) rfl rfl (r_load Try.isAgg40 hK rfl ((hS.sub.le (hl_1639.le.trans hl_1712.le)).cell (hc_1779 0 _ rfl))) fun a hK => ?_
                      refine sl hK (by decide) rfl rfl (r_assign hK rfl) fun a hK => ?_
                      refine wpList_nil ?_
                      refine wp_seq ?_
                      refine wp_seq ?_
                      refine wp_region_lit ?_
                      refine sl hK (by decide) rfl rfl (r_fieldAddr Try.underlying25 rfl Try.sizeOf23 hK rfl) fun a hK => ?_
                      refine sl hK (by decide) rfl rfl (r_load Try.isAgg23 hK rfl (hS.cell (.tail _ (.tail _ (.tail _ (.tail _ (.tail _ (.tail _ (.head _))))))) rfl)) fun a hK => ?_
                      refine sl hK (by decide) rfl rfl (r_len_O Try.underlying23 hS (.tail _ (.tail _ (.tail _ (.tail _ (.tail _ (.head _)))))) hK rfl) fun a hK => ?_
                      refine sl hK (by decide) rfl rfl (r_move hK rfl) fun a hK => ?_
                      refine sl hK (by decide) rfl rfl (r_ibin hK rfl rfl rfl) fun a hK => ?_
                      refine wpList_nil ?_
                      refine wp_cond_split (hK.ev rfl) (fun (hb_1782 : (decide ((x_1706.length : Int) ≥ a2)) = true) => ?_) (fun (hb_1782 : (decide ((x_1706.length : Int) ≥ a2)) = false) => ?_)
                      · rw [ifb_t hb_1782] at H
                        refine wp_seq ?_
                        refine wp_region_lit ?_
                        refine sl hK (by decide) rfl rfl (r_buildC (ps := []) (c := [.slice none 0 0, .slice none 0 0]) Try.underlying25 Try.zeroValue25 places25 hK rfl pc_nil rfl rfl) fun a hK => ?_
                        refine sl_storeA (vs := [.slice none 0 0, .slice none 0 0]) (c' := [.slice none 0 0, .slice none 0 0]) Try.sizeOf25 hS hK rfl rfl rfl rfl (all_cons rfl (all_cons rfl (all_nil))) (Nat.le_of_ble_eq_true rfl) rfl fun a w hS hK => ?_
                        refine sl hK (by decide) rfl rfl (r_assign hK rfl) fun a hK => ?_
                        refine wpList_nil ?_
                        have hS := hS.row_nil 34 2
                        have hq_1784 : Reps ty_api_Col R_1711 [] ([] : List api_Col) := Reps.nil _ _
                        have hS := hS.row_nil 40 1
                        have hq_1786 : Reps (tySl ty_api_Value) R_1711 [] ([] : List (List api_Value)) := Reps.nil _ _
                        obtain rfl := Option.some.inj H
                        refine wp_ret ?_
                        repeat (first | refine ret_then ?_ | refine ret_block ?_ | refine ret_scope ?_)
                        exact ret_2 Try.results9 hK (rv_cell (c := [(.slice none 0 0), (.slice none 0 0)]) Try.isAgg25 Try.sizeOf25 hS (.tail _ (.tail _ (.head _))) rfl hK rfl) (rv_tmp hK rfl) ⟨_, rfl, _, _, _, _, _, rfl, (hS.pk1.trunc 2), hRL, hq_1784, hq_1786⟩
                      · rw [ifb_f hb_1782] at H
                        refine wp_skip ?_
                        refine parT_region (C := fun w => St [] w0 w R_1711 [.cells b_3 [.slice none 0 0, .slice none 0 0] 25, .row 3 1 v_523 x_522.length cs_524, .cells b_515 [v_963, v_523] 53, .mp b_965 (kvs Value.string id (mkp E_1406)), .row 34 2 v_87 y_82.1.length cs_88, .row 40 1 v_1707 x_1706.length cs_1708, .cells b_1185 [v_87, v_1707] 25]) 7 [(0, true), (1, true), (2, true), (3, true), (4, false), (5, false), (6, false)] mixed (by kernel_rfl) hS (fun w hS => hS) fun w hS => ?_
                        refine sp (k := 0) rfl hK (by decide) rfl rfl (fun w hS => r_fieldAddr Try.underlying25 rfl Try.sizeOf23 hK rfl) fun a hK => ?_
                        refine sp (k := 1) rfl hK (by decide) rfl rfl (fun w hS => r_load Try.isAgg23 hK rfl (hS.cell (.tail _ (.tail _ (.tail _ (.tail _ (.tail _ (.tail _ (.head _))))))) rfl)) fun a hK => ?_
                        refine sp (k := 2) rfl hK (by decide) rfl rfl (fun w hS => r_move hK rfl) fun a hK => ?_
                        refine sp (k := 3) rfl hK (by decide) rfl rfl (fun w hS => r_move hK rfl) fun a hK => ?_
                        refine spw (k := 4) rfl rfl hS ?_
                        refine sl_buildSliceF (zc := [.slice none 0 0]) (ps := [(0, v_1634), (1, v_1780)]) (c := [v_1634, v_1780]) [[v_1634], [v_1780]] Try.underlying23 Try.sizeOf40 Try.zeroValue40 rfl (pc_cons (cells1 hs_1635.one) (pc_cons (cells1 hs_1781.one) pc_nil)) rfl rfl (Nat.le_of_ble_eq_true rfl) rfl (all_cons rfl (all_cons rfl (all_nil))) rfl hS hK (by decide) rfl fun a w b_1807 hS hK => ?_
                        refine parK_nil (hS.pk7.pk7.pk7.pk7.pk7.pk7.pk7.trunc 7) ?_
                        refine spw (k := 5) rfl rfl (hS.pk7.pk7.pk7.pk7.pk7.pk7.pk7.trunc 7) ?_
                        obtain ⟨y_1808, h_1809, H⟩ := bind_some H
                        refine sl_call Try.call26 hK (by decide) rfl rfl rfl (slices_Concat_api_Value_api_Value.calls [y_1625, y_1771] (lentOf_sub [] _) hS.sub (hS.lend_lit0 (ty := (tySl ty_api_Value)) (xs := [y_1625, y_1771]) (.head _) (Reps.cons (show Ty.rep (tySl ty_api_Value) _ [v_1634] y_1625 from ⟨_, rfl, (hs_1635.mono (hl_85.le.trans (hl_538.le.trans (hl_962.le.trans (hl_1043.le.trans (hl_1415.le.trans (hl_1639.le.trans hl_1712.le)))))))⟩) (Reps.cons (show Ty.rep (tySl ty_api_Value) _ [v_1780] y_1771 from ⟨_, rfl, (hs_1781.mono (hl_1639.le.trans hl_1712.le))⟩) (Reps.nil _ _))) rfl) h_1809) fun a v_ w hv_ hK => ?_
                        obtain ⟨R_1810, v_1813, cs_1814, hv_, hr_, hl_1811, hq_1815⟩ := hv_
                        have hv_ := hv_.symm
                        subst hv_
                        obtain ⟨hS, hl_1811⟩ := hS.sp0.back hr_ hl_1811
                        have hS := hS.un1
                        have hRL := hRL.trans hl_1811
                        refine parK_nil ((hS.pk8.pk8.pk8.pk8.pk8.pk8.pk8.trunc 7).lower hl_1811.le) ?_
                        refine spw (k := 6) rfl rfl ((hS.pk8.pk8.pk8.pk8.pk8.pk8.pk8.trunc 7).lower hl_1811.le) ?_
                        have ho_1816 := hS.row_one (.head _)
                        refine sl_buildSliceF (zc := [.slice none 0 0]) (ps := [(0, v_1813)]) (c := [v_1813]) [[v_1813]] Try.underlying23 Try.sizeOf40 Try.zeroValue40 rfl (pc_cons (cells1 ho_1816) pc_nil) rfl rfl (Nat.le_of_ble_eq_true rfl) rfl (all_cons rfl (all_nil)) rfl hS hK (by decide) rfl fun a w b_1817 hS hK => ?_
                        refine parK_nil ((hS.pk9.pk9.pk9.pk9.pk9.pk9.pk9.trunc 7).lower hl_1811.le) ?_
                        refine thenL_nil ?_
                        have hS := hS.pk8
                        have hS := hS.pk2
                        obtain ⟨R_1818, hS, hl_1820, hs_1819⟩ := hS.fz_row hq_1815 rfl rfl
                        have hRL := hRL.trans hl_1820
                        obtain ⟨y_1821, h_1822, H⟩ := bind_some H
                        refine sl_append_L (ty := (tySl ty_api_Value)) (ys := [y_1808]) elT23 (by decide) rfl (hq_1709.mono (hl_1811.le.trans hl_1820.le)) rfl (Reps.cons (show Ty.rep (tySl ty_api_Value) _ [v_1813] y_1808 from ⟨_, rfl, hs_1819⟩) (Reps.nil _ _)) rfl h_1822 hS hK (by decide) rfl rfl rfl fun a w v_1823 cs_1824 hq_1825 hS hK => ?_
                        refine sl hK (by decide) rfl rfl (r_fieldAddr Try.underlying25 rfl Try.sizeOf23 hK rfl) fun a hK => ?_
                        have hS := hS.pk7
                        refine sl_store1 (c' := [v_87, v_1823]) Try.sizeOf23 hS hK rfl rfl rfl (hS.row_one (.tail _ (.head _))) (Nat.le_of_ble_eq_true rfl) rfl fun a w hS hK => ?_
                        refine wpList_nil (NoP_nil ?_)
                        refine wp_region_lit ?_
                        refine sl hK (by decide) rfl rfl (r_ibin hK rfl rfl rfl) fun a hK => ?_
                        refine sl hK (by decide) rfl rfl (r_move hK rfl) fun a hK => ?_
                        refine wpList_nil ?_
                        have hS := hS.pk1
                        have hS := hS.pk7
                        have hS := hS.pk7
                        have hS := hS.pk7
                        have hS := hS.pk7
                        have hS := hS.pk7
                        exact ⟨_, Nat.lt_succ_self _, y_1821, (IntKind.i64.wrap (x_1710 + 1)), _, _, _, H, (hl_1712.trans (hl_1811.trans hl_1820)), hq_1825, hK.sub (all_cons rfl (all_cons rfl (all_cons rfl (all_cons rfl (all_cons rfl (all_cons rfl (all_cons rfl (all_cons rfl (all_cons rfl (all_cons rfl (all_cons rfl (all_cons rfl (all_nil))))))))))))), hS.trunc 7⟩
                    · rw [ifb_f hb_1770] at H
                      refine wp_exit ?_
                      refine wp_region_lit ?_
                      refine sl hK (by decide) rfl rfl (r_ibin hK rfl rfl rfl) fun a hK => ?_
                      refine sl hK (by decide) rfl rfl (r_move hK rfl) fun a hK => ?_
                      refine wpList_nil ?_
                      have hS := hS.pk6
                      have hS := hS.pk6
                      have hS := hS.pk6
                      have hS := hS.pk6
                      have hS := hS.pk6
                      have hS := hS.pk6
                      have hS := hS.pk6
                      exact ⟨_, Nat.lt_succ_self _, x_1706, (IntKind.i64.wrap (x_1413 + 1)), _, _, _, _, H, (hl_1415.trans (hl_1639.trans hl_1712)), hq_1709, (hm_1407.mono (hl_1639.le.trans hl_1712.le)), hK.sub (all_cons rfl (all_cons rfl (all_cons rfl (all_cons rfl (all_cons rfl (all_cons rfl (all_cons rfl (all_cons rfl (all_nil))))))))), hS⟩
                · rw [ifb_f hb_1624] at H
                  refine wp_exit ?_
                  refine wp_seq ?_
                  refine wp_region_lit ?_
                  refine sl hK (by decide) rfl rfl (r_loadA (cs := [v_87, v_1410]) Try.isAgg25 Try.sizeOf25 rfl hK rfl (hS.cells_of (m := 2) (.tail _ (.tail _ (.tail _ (.tail _ (.tail _ (.tail _ (.head _))))))) rfl)) fun a hK => ?_
                  obtain ⟨y_1827, h_1828, H⟩ := bind_some H
                  refine sl_call Try.call27 hK (by decide) rfl rfl rfl (table_Canon.calls (⟨y_82.1, x_1409⟩ : api_Table) (lentOf_sub [] _) hS.sub (hS.lend_row0 (.tail _ (.tail _ (.tail _ (.tail _ (.head _))))) (hq_89.mono (hl_538.le.trans (hl_962.le.trans (hl_1043.le.trans hl_1415.le)))) rfl rfl) (hS.lend_row0 (.tail _ (.tail _ (.tail _ (.tail _ (.tail _ (.head _)))))) hq_1412 rfl rfl) h_1828) fun a v_ w hv_ hK => ?_
                  obtain ⟨R_1829, v_1832, cs_1833, v_1836, cs_1837, hv_, hr_, hl_1830, hq_1834, hq_1838, hap_1839⟩ := hv_
                  have hv_ := hv_.symm
                  subst hv_
                  obtain ⟨hS, hl_1830⟩ := hS.sp0.back hr_ hl_1830
                  have hS := hS.un2
                  have hRL := hRL.trans hl_1830
                  have hS := hS.pk2
                  refine sl_storeA (vs := [v_1832, v_1836]) (c' := [v_1832, v_1836]) Try.sizeOf25 hS hK rfl rfl rfl rfl (all_cons (hS.row_one (.tail _ (.head _))) (all_cons (hS.row_one (.tail _ (.tail _ (.head _)))) (all_nil))) (Nat.le_of_ble_eq_true rfl) rfl fun a w hS hK => ?_
                  refine sl hK (by decide) rfl rfl (r_assign hK rfl) fun a hK => ?_
                  refine wpList_nil ?_
                  obtain rfl := Option.some.inj H
                  refine wp_ret ?_
                  repeat (first | refine ret_then ?_ | refine ret_block ?_ | refine ret_scope ?_)
                  exact ret_2 Try.results9 hK (rv_cell (c := [v_1832, v_1836]) Try.isAgg25 Try.sizeOf25 hS (.head _) rfl hK rfl) (rv_tmp hK rfl) ⟨_, rfl, _, _, _, _, _, rfl, (hS.pk2.pk2.trunc 2), hRL, hq_1834, hq_1838⟩

/-! ### catchment/catchmentlaw17.shown: function 7 -/
set_option maxHeartbeats 4000000 in
set_option maxRecDepth 100000 in
theorem law17_shown.calls {r : Bool} (H : law17_shown  = some r) (w0 : World) : CallsV Try.prog 7 #[] w0 (.bool r) := by
  unfold law17_shown at H
  refine enter (args := []) Try.func7 rfl Try.ntmps7 rfl fun a hK => ?_
  have hS := St.init (R := fun _ => none) (w := w0) (fun _ _ h => by cases h)
  have hRL := RLe.refl (M := []) w0 (fun _ => none)
  refine wp_seq ?_
  refine wp_region_lit ?_
  refine sl hK (by decide) rfl rfl (r_assign hK rfl) fun a hK => ?_
  refine wpList_nil ?_
  refine wp_seq ?_
  refine wp_region_lit ?_
  refine sl_buildSliceF (zc := [.int .i64 0]) (ps := [(0, .int .i64 1), (1, .int .i64 5), (2, .int .i64 2), (3, .int .i64 6)]) (c := [.int .i64 1, .int .i64 5, .int .i64 2, .int .i64 6]) [[.int .i64 1], [.int .i64 5], [.int .i64 2], [.int .i64 6]] Try.underlying51 Try.sizeOf3 Try.zeroValue3 rfl (pc_cons rfl (pc_cons rfl (pc_cons rfl (pc_cons rfl pc_nil)))) rfl rfl (Nat.le_of_ble_eq_true rfl) rfl (all_cons rfl (all_cons rfl (all_cons rfl (all_cons rfl (all_nil))))) rfl hS hK (by decide) rfl fun a w b_1 hS hK => ?_
  obtain ⟨y_2, h_3, H⟩ := bind_some H
  refine sl_call Try.call17 hK (by decide) rfl rfl rfl (law17_of.calls (⟨#[107]⟩ : ByteArray) (⟨#[110]⟩ : ByteArray) [1, 5, 2, 6] (lentOf_sub [] _) hS.sub (hS.lend_lit0 (ty := (tyInt .i64)) (xs := [1, 5, 2, 6]) (.head _) (Reps.cons (show Ty.rep (tyInt .i64) _ [.int .i64 1] 1 from rfl) (Reps.cons (show Ty.rep (tyInt .i64) _ [.int .i64 5] 5 from rfl) (Reps.cons (show Ty.rep (tyInt .i64) _ [.int .i64 2] 2 from rfl) (Reps.cons (show Ty.rep (tyInt .i64) _ [.int .i64 6] 6 from rfl) (Reps.nil _ _))))) rfl) h_3) fun a v_ w hv_ hK => ?_
  obtain ⟨R_4, v_7, cs_8, v_11, cs_12, hv_, hr_, hl_5, hq_9, hq_13⟩ := hv_
  have hv_ := hv_.symm
  subst hv_
  obtain ⟨hS, hl_5⟩ := hS.sp0.back hr_ hl_5
  have hS := hS.un2
  have hRL := hRL.trans hl_5
  refine sl_alloc Try.zeroValue25 hS hK (by decide) rfl rfl fun a w b_14 hS hK => ?_
  refine sl_storeA (vs := [v_7, v_11]) (c' := [v_7, v_11]) Try.sizeOf25 hS hK rfl rfl rfl rfl (all_cons (hS.row_one (.tail _ (.head _))) (all_cons (hS.row_one (.tail _ (.tail _ (.head _)))) (all_nil))) (Nat.le_of_ble_eq_true rfl) rfl fun a w hS hK => ?_
  refine wpList_nil ?_
  refine wp_seq ?_
  refine wp_region_lit ?_
  refine sl_buildSliceF (zc := [.int .i64 0]) (ps := [(0, .int .i64 1), (1, .int .i64 7), (2, .int .i64 1), (3, .int .i64 8), (4, .int .i64 3), (5, .int .i64 9)]) (c := [.int .i64 1, .int .i64 7, .int .i64 1, .int .i64 8, .int .i64 3, .int .i64 9]) [[.int .i64 1], [.int .i64 7], [.int .i64 1], [.int .i64 8], [.int .i64 3], [.int .i64 9]] Try.underlying51 Try.sizeOf3 Try.zeroValue3 rfl (pc_cons rfl (pc_cons rfl (pc_cons rfl (pc_cons rfl (pc_cons rfl (pc_cons rfl pc_nil)))))) rfl rfl (Nat.le_of_ble_eq_true rfl) rfl (all_cons rfl (all_cons rfl (all_cons rfl (all_cons rfl (all_cons rfl (all_cons rfl (all_nil))))))) rfl hS hK (by decide) rfl fun a w b_15 hS hK => ?_
  obtain ⟨y_16, h_17, H⟩ := bind_some H
  refine sl_call Try.call17 hK (by decide) rfl rfl rfl (law17_of.calls (⟨#[107]⟩ : ByteArray) (⟨#[109]⟩ : ByteArray) [1, 7, 1, 8, 3, 9] (lentOf_sub [] _) hS.sub (hS.lend_lit0 (ty := (tyInt .i64)) (xs := [1, 7, 1, 8, 3, 9]) (.head _) (Reps.cons (show Ty.rep (tyInt .i64) _ [.int .i64 1] 1 from rfl) (Reps.cons (show Ty.rep (tyInt .i64) _ [.int .i64 7] 7 from rfl) (Reps.cons (show Ty.rep (tyInt .i64) _ [.int .i64 1] 1 from rfl) (Reps.cons (show Ty.rep (tyInt .i64) _ [.int .i64 8] 8 from rfl) (Reps.cons (show Ty.rep (tyInt .i64) _ [.int .i64 3] 3 from rfl) (Reps.cons (show Ty.rep (tyInt .i64) _ [.int .i64 9] 9 from rfl) (Reps.nil _ _))))))) rfl) h_17) fun a v_ w hv_ hK => ?_
  obtain ⟨R_18, v_21, cs_22, v_25, cs_26, hv_, hr_, hl_19, hq_23, hq_27⟩ := hv_
  have hv_ := hv_.symm
  subst hv_
  obtain ⟨hS, hl_19⟩ := hS.sp0.back hr_ hl_19
  have hS := hS.un2
  have hRL := hRL.trans hl_19
  refine sl_alloc Try.zeroValue25 hS hK (by decide) rfl rfl fun a w b_28 hS hK => ?_
  refine sl_storeA (vs := [v_21, v_25]) (c' := [v_21, v_25]) Try.sizeOf25 hS hK rfl rfl rfl rfl (all_cons (hS.row_one (.tail _ (.head _))) (all_cons (hS.row_one (.tail _ (.tail _ (.head _)))) (all_nil))) (Nat.le_of_ble_eq_true rfl) rfl fun a w hS hK => ?_
  refine wpList_nil ?_
  refine wp_seq ?_
  refine wp_region_lit ?_
  refine sl hK (by decide) rfl rfl (r_loadA (cs := [v_7, v_11]) Try.isAgg25 Try.sizeOf25 rfl hK rfl (hS.cells_of (m := 2) (.tail _ (.tail _ (.tail _ (.tail _ (.head _))))) rfl)) fun a hK => ?_
  refine sl hK (by decide) rfl rfl (r_loadA (cs := [v_21, v_25]) Try.isAgg25 Try.sizeOf25 rfl hK rfl (hS.cells_of (m := 2) (.head _) rfl)) fun a hK => ?_
  have hS := hS.pk5
  obtain ⟨R_29, hS, hl_31, hs_30⟩ := hS.fz_row (hq_9.mono hl_19.le) rfl rfl
  have hRL := hRL.trans hl_31
  have hS := hS.pk5
  obtain ⟨R_32, hS, hl_34, hs_33⟩ := hS.fz_row (hq_13.mono (hl_19.le.trans hl_31.le)) rfl rfl
  have hRL := hRL.trans hl_34
  have hS := hS.pk1
  obtain ⟨R_35, hS, hl_37, hs_36⟩ := hS.fz_row (hq_23.mono (hl_31.le.trans hl_34.le)) rfl rfl
  have hRL := hRL.trans hl_37
  have hS := hS.pk1
  obtain ⟨R_38, hS, hl_40, hs_39⟩ := hS.fz_row (hq_27.mono (hl_31.le.trans (hl_34.le.trans hl_37.le))) rfl rfl
  have hRL := hRL.trans hl_40
  obtain ⟨y_41, h_42, H⟩ := bind_some H
  refine sl_call Try.call9 hK (by decide) rfl rfl rfl (join_Join.calls y_2 y_16 9 hS.sub (hs_30.mono (hl_34.le.trans (hl_37.le.trans hl_40.le))) (hs_33.mono (hl_37.le.trans hl_40.le)) (hs_36.mono hl_40.le) hs_39 h_42) fun a v_ w hv_ hK => ?_
  obtain ⟨R_43, v_46, cs_47, v_50, cs_51, hv_, hr_, hl_44, hq_48, hq_52⟩ := hv_
  have hv_ := hv_.symm
  subst hv_
  obtain ⟨hS, hl_44⟩ := hS.sp0.back hr_ hl_44
  have hS := hS.un2
  have hRL := hRL.trans hl_44
  refine sl hK (by decide) rfl rfl (r_move hK rfl) fun a hK => ?_
  refine sl hK (by decide) rfl rfl (r_extract hK rfl rfl) fun a hK => ?_
  refine sl hK (by decide) rfl rfl (r_extract hK rfl rfl) fun a hK => ?_
  refine sl_alloc Try.zeroValue25 hS hK (by decide) rfl rfl fun a w b_53 hS hK => ?_
  refine sl_storeA (vs := [v_46, v_50]) (c' := [v_46, v_50]) Try.sizeOf25 hS hK rfl rfl rfl rfl (all_cons (hS.row_one (.tail _ (.head _))) (all_cons (hS.row_one (.tail _ (.tail _ (.head _)))) (all_nil))) (Nat.le_of_ble_eq_true rfl) rfl fun a w hS hK => ?_
  refine sl hK (by decide) rfl rfl (r_assign hK rfl) fun a hK => ?_
  refine wpList_nil ?_
  refine wp_seq ?_
  refine wp_region_lit ?_
  refine sl hK (by decide) rfl rfl (r_loadA (cs := [v_7, v_11]) Try.isAgg25 Try.sizeOf25 rfl hK rfl (hS.cells_of (m := 2) (.tail _ (.tail _ (.tail _ (.tail _ (.tail _ (.head _)))))) rfl)) fun a hK => ?_
  refine sl hK (by decide) rfl rfl (r_loadA (cs := [v_21, v_25]) Try.isAgg25 Try.sizeOf25 rfl hK rfl (hS.cells_of (m := 2) (.tail _ (.tail _ (.tail _ (.head _)))) rfl)) fun a hK => ?_
  obtain ⟨y_54, h_55, H⟩ := bind_some H
  refine sl_call Try.call9 hK (by decide) rfl rfl rfl (join_Join.calls y_2 y_16 1 hS.sub (hs_30.mono (hl_34.le.trans (hl_37.le.trans (hl_40.le.trans hl_44.le)))) (hs_33.mono (hl_37.le.trans (hl_40.le.trans hl_44.le))) (hs_36.mono (hl_40.le.trans hl_44.le)) (hs_39.mono hl_44.le) h_55) fun a v_ w hv_ hK => ?_
  obtain ⟨R_56, v_59, cs_60, v_63, cs_64, hv_, hr_, hl_57, hq_61, hq_65⟩ := hv_
  have hv_ := hv_.symm
  subst hv_
  obtain ⟨hS, hl_57⟩ := hS.sp0.back hr_ hl_57
  have hS := hS.un2
  have hRL := hRL.trans hl_57
  refine sl hK (by decide) rfl rfl (r_move hK rfl) fun a hK => ?_
  refine sl hK (by decide) rfl rfl (r_extract hK rfl rfl) fun a hK => ?_
  refine sl hK (by decide) rfl rfl (r_extract hK rfl rfl) fun a hK => ?_
  refine sl_alloc Try.zeroValue25 hS hK (by decide) rfl rfl fun a w b_66 hS hK => ?_
  refine sl_storeA (vs := [v_59, v_63]) (c' := [v_59, v_63]) Try.sizeOf25 hS hK rfl rfl rfl rfl (all_cons (hS.row_one (.tail _ (.head _))) (all_cons (hS.row_one (.tail _ (.tail _ (.head _)))) (all_nil))) (Nat.le_of_ble_eq_true rfl) rfl fun a w hS hK => ?_
  refine sl hK (by decide) rfl rfl (r_assign hK rfl) fun a hK => ?_
  refine wpList_nil ?_
  refine wp_seq ?_
  refine wp_region_lit ?_
  obtain ⟨y_67, h_68, H⟩ := bind_some H
  refine sl_call Try.call17 hK (by decide) rfl rfl rfl (law17_of.calls (⟨#[120]⟩ : ByteArray) (⟨#[110]⟩ : ByteArray) ([] : List Int) (lentOf_sub [] _) hS.sub (SlR.nil (tyInt .i64) _) h_68) fun a v_ w hv_ hK => ?_
  obtain ⟨R_69, v_72, cs_73, v_76, cs_77, hv_, hr_, hl_70, hq_74, hq_78⟩ := hv_
  have hv_ := hv_.symm
  subst hv_
  obtain ⟨hS, hl_70⟩ := hS.sp0.back hr_ hl_70
  have hS := hS.un2
  have hRL := hRL.trans hl_70
  obtain ⟨y_79, h_80, H⟩ := bind_some H
  refine sl_call Try.call17 hK (by decide) rfl rfl rfl (law17_of.calls (⟨#[121]⟩ : ByteArray) (⟨#[109]⟩ : ByteArray) ([] : List Int) (lentOf_sub [] _) hS.sub (SlR.nil (tyInt .i64) _) h_80) fun a v_ w hv_ hK => ?_
  obtain ⟨R_81, v_84, cs_85, v_88, cs_89, hv_, hr_, hl_82, hq_86, hq_90⟩ := hv_
  have hv_ := hv_.symm
  subst hv_
  obtain ⟨hS, hl_82⟩ := hS.sp0.back hr_ hl_82
  have hS := hS.un2
  have hRL := hRL.trans hl_82
  have hS := hS.pk2
  obtain ⟨R_91, hS, hl_93, hs_92⟩ := hS.fz_row (hq_74.mono hl_82.le) rfl rfl
  have hRL := hRL.trans hl_93
  have hS := hS.pk2
  obtain ⟨R_94, hS, hl_96, hs_95⟩ := hS.fz_row (hq_78.mono (hl_82.le.trans hl_93.le)) rfl rfl
  have hRL := hRL.trans hl_96
  obtain ⟨R_97, hS, hl_99, hs_98⟩ := hS.fz_row (hq_86.mono (hl_93.le.trans hl_96.le)) rfl rfl
  have hRL := hRL.trans hl_99
  obtain ⟨R_100, hS, hl_102, hs_101⟩ := hS.fz_row (hq_90.mono (hl_93.le.trans (hl_96.le.trans hl_99.le))) rfl rfl
  have hRL := hRL.trans hl_102
  obtain ⟨y_103, h_104, H⟩ := bind_some H
  refine sl_call Try.call9 hK (by decide) rfl rfl rfl (join_Join.calls y_67 y_79 9 hS.sub (hs_92.mono (hl_96.le.trans (hl_99.le.trans hl_102.le))) (hs_95.mono (hl_99.le.trans hl_102.le)) (hs_98.mono hl_102.le) hs_101 h_104) fun a v_ w hv_ hK => ?_
  obtain ⟨R_105, v_108, cs_109, v_112, cs_113, hv_, hr_, hl_106, hq_110, hq_114⟩ := hv_
  have hv_ := hv_.symm
  subst hv_
  obtain ⟨hS, hl_106⟩ := hS.sp0.back hr_ hl_106
  have hS := hS.un2
  have hRL := hRL.trans hl_106
  refine sl hK (by decide) rfl rfl (r_move hK rfl) fun a hK => ?_
  refine sl hK (by decide) rfl rfl (r_extract hK rfl rfl) fun a hK => ?_
  refine sl hK (by decide) rfl rfl (r_extract hK rfl rfl) fun a hK => ?_
  refine sl_alloc Try.zeroValue25 hS hK (by decide) rfl rfl fun a w b_115 hS hK => ?_
  refine sl_storeA (vs := [v_108, v_112]) (c' := [v_108, v_112]) Try.sizeOf25 hS hK rfl rfl rfl rfl (all_cons (hS.row_one (.tail _ (.head _))) (all_cons (hS.row_one (.tail _ (.tail _ (.head _)))) (all_nil))) (Nat.le_of_ble_eq_true rfl) rfl fun a w hS hK => ?_
  refine sl hK (by decide) rfl rfl (r_assign hK rfl) fun a hK => ?_
  refine wpList_nil ?_
  refine wp_seq ?_
  refine wp_region_lit ?_
  refine sl hK (by decide) rfl rfl (r_move hK rfl) fun a hK => ?_
  refine sl hK (by decide) rfl rfl (r_ibin hK rfl rfl rfl) fun a hK => ?_
  refine sl hK (by decide) rfl rfl (r_move hK rfl) fun a hK => ?_
  rcases or_b (y_41.2 == 0) with hb_116 | hb_116
  · rw [ifb_t hb_116] at H
    refine sl hK (by decide) (wtt hb_116) rfl (r_fieldAddr Try.underlying25 rfl Try.sizeOf23 hK rfl) fun a hK => ?_
    refine sl hK (by decide) (wtt hb_116) rfl (r_load Try.isAgg23 hK rfl (hS.cell (.tail _ (.tail _ (.tail _ (.tail _ (.tail _ (.tail _ (.head _))))))) rfl)) fun a hK => ?_
    refine sl hK (by decide) (wtt hb_116) rfl (r_len_O Try.underlying23 hS (.tail _ (.tail _ (.tail _ (.tail _ (.tail _ (.tail _ (.tail _ (.tail _ (.head _))))))))) hK rfl) fun a hK => ?_
    refine sl hK (by decide) (wtt hb_116) rfl (r_ibin hK rfl rfl rfl) fun a hK => ?_
    refine sl hK (by decide) rfl rfl (r_pick_t hb_116 hK rfl rfl) fun a hK => ?_
    refine sl hK (by decide) rfl rfl (r_move hK rfl) fun a hK => ?_
    rcases or_b ((y_41.1.Rows.length : Int) == 2) with hb_117 | hb_117
    · rw [ifb_t hb_117] at H
      refine sl hK (by decide) (wtt hb_117) rfl (r_fieldAddr Try.underlying25 rfl Try.sizeOf22 hK rfl) fun a hK => ?_
      refine sl hK (by decide) (wtt hb_117) rfl (r_load Try.isAgg22 hK rfl (hS.cell (.tail _ (.tail _ (.tail _ (.tail _ (.tail _ (.tail _ (.head _))))))) rfl)) fun a hK => ?_
      refine sl hK (by decide) (wtt hb_117) rfl (r_len_O Try.underlying22 hS (.tail _ (.tail _ (.tail _ (.tail _ (.tail _ (.tail _ (.tail _ (.head _)))))))) hK rfl) fun a hK => ?_
      refine sl hK (by decide) (wtt hb_117) rfl (r_ibin hK rfl rfl rfl) fun a hK => ?_
      refine sl hK (by decide) rfl rfl (r_pick_t hb_117 hK rfl rfl) fun a hK => ?_
      refine sl hK (by decide) rfl rfl (r_move hK rfl) fun a hK => ?_
      rcases or_b ((y_41.1.Cols.length : Int) == 3) with hb_118 | hb_118
      · rw [ifb_t hb_118] at H
        refine sl hK (by decide) (wtt hb_118) rfl (r_fieldAddr Try.underlying25 rfl Try.sizeOf23 hK rfl) fun a hK => ?_
        refine sl hK (by decide) (wtt hb_118) rfl (r_load Try.isAgg23 hK rfl (hS.cell (.tail _ (.tail _ (.tail _ (.tail _ (.tail _ (.tail _ (.head _))))))) rfl)) fun a hK => ?_
        obtain ⟨y_119, h_120, H⟩ := bind_some H
        obtain ⟨b_122, c_123, cs_124, hv_121, hr_125, hc_126, h_1200, h_1201⟩ := hS.row_ix (.tail _ (.tail _ (.tail _ (.tail _ (.tail _ (.tail _ (.tail _ (.tail _ (.head _))))))))) (hq_52.mono (hl_57.le.trans (hl_70.le.trans (hl_82.le.trans (hl_93.le.trans (hl_96.le.trans (hl_99.le.trans (hl_102.le.trans hl_106.le)))))))) rfl rfl h_120
        obtain ⟨v_127, rfl, hs_128⟩ := hr_125
        refine sl hK (by decide) (wtt hb_118) rfl (r_indexAddr_R Try.underlying23 Try.sizeOf40 hv_121 h_1200 h_1201 hK rfl rfl) fun a hK => ?_
        refine sl hK (by decide) (wtt hb_118) rfl (r_load Try.isAgg40 hK rfl (hS.row_cell (.tail _ (.tail _ (.tail _ (.tail _ (.tail _ (.tail _ (.tail _ (.tail _ (.head _))))))))) hv_121 (hc_126 0 _ rfl))) fun a hK => ?_
        obtain ⟨y_129, h_130, H⟩ := bind_some H
        obtain ⟨b_131, o_132, c_133, cs_134, hv_135, hr_136, hc_137, h_1300, h_1301⟩ := hs_128.ix h_130
        subst hr_136
        refine sl hK (by decide) (wtt hb_118) rfl (r_indexAddr_R Try.underlying40 Try.sizeOf46 hv_135 h_1300 h_1301 hK rfl rfl) fun a hK => ?_
        refine sl hK (by decide) (wtt hb_118) rfl (r_fieldAddr Try.underlying46 rfl Try.sizeOf3 hK rfl) fun a hK => ?_
        refine sl hK (by decide) (wtt hb_118) rfl (r_load Try.isAgg3 hK rfl (hS.sub.cell (hc_137 1 _ rfl))) fun a hK => ?_
        refine sl hK (by decide) (wtt hb_118) rfl (r_ibin hK rfl rfl rfl) fun a hK => ?_
        refine sl hK (by decide) rfl rfl (r_pick_t hb_118 hK rfl rfl) fun a hK => ?_
        refine sl hK (by decide) rfl rfl (r_move hK rfl) fun a hK => ?_
        rcases or_b (y_129.N == 8) with hb_138 | hb_138
        · rw [ifb_t hb_138] at H
          refine sl hK (by decide) (wtt hb_138) rfl (r_move hK rfl) fun a hK => ?_
          refine sl hK (by decide) (wtt hb_138) rfl (r_ibin hK rfl rfl rfl) fun a hK => ?_
          refine sl hK (by decide) rfl rfl (r_pick_t hb_138 hK rfl rfl) fun a hK => ?_
          refine sl hK (by decide) rfl rfl (r_move hK rfl) fun a hK => ?_
          rcases or_b (y_54.2 == 210) with hb_139 | hb_139
          · rw [ifb_t hb_139] at H
            refine sl hK (by decide) (wtt hb_139) rfl (r_move hK rfl) fun a hK => ?_
            refine sl hK (by decide) (wtt hb_139) rfl (r_ibin hK rfl rfl rfl) fun a hK => ?_
            refine sl hK (by decide) rfl rfl (r_pick_t hb_139 hK rfl rfl) fun a hK => ?_
            refine sl hK (by decide) rfl rfl (r_assign hK rfl) fun a hK => ?_
            refine wpList_nil ?_
            obtain rfl := Option.some.inj H
            refine wp_ret ?_
            repeat (first | refine ret_then ?_ | refine ret_block ?_ | refine ret_scope ?_)
            exact ret_1 Try.results7 hK (rv_tmp hK rfl) ⟨rfl, hS.bel⟩
          · rw [ifb_f hb_139] at H
            refine sl_skip hK (by decide) (wtf hb_139) rfl fun a hK => ?_
            refine sl_skip hK (by decide) (wtf hb_139) rfl fun a hK => ?_
            refine sl hK (by decide) rfl rfl (r_pick_f hb_139 hK rfl rfl) fun a hK => ?_
            refine sl hK (by decide) rfl rfl (r_assign hK rfl) fun a hK => ?_
            refine wpList_nil ?_
            obtain rfl := Option.some.inj H
            refine wp_ret ?_
            repeat (first | refine ret_then ?_ | refine ret_block ?_ | refine ret_scope ?_)
            exact ret_1 Try.results7 hK (rv_tmp hK rfl) ⟨rfl, hS.bel⟩
        · rw [ifb_f hb_138] at H
          refine sl_skip hK (by decide) (wtf hb_138) rfl fun a hK => ?_
          refine sl_skip hK (by decide) (wtf hb_138) rfl fun a hK => ?_
          refine sl hK (by decide) rfl rfl (r_pick_f hb_138 hK rfl rfl) fun a hK => ?_
          refine sl hK (by decide) rfl rfl (r_move hK rfl) fun a hK => ?_
          refine sl_skip hK (by decide) rfl rfl fun a hK => ?_
          refine sl_skip hK (by decide) rfl rfl fun a hK => ?_
          refine sl hK (by decide) rfl rfl (r_pick hK rfl rfl rfl) fun a hK => ?_
          refine sl hK (by decide) rfl rfl (r_assign hK rfl) fun a hK => ?_
          refine wpList_nil ?_
          obtain rfl := Option.some.inj H
          refine wp_ret ?_
          repeat (first | refine ret_then ?_ | refine ret_block ?_ | refine ret_scope ?_)
          exact ret_1 Try.results7 hK (rv_tmp hK rfl) ⟨rfl, hS.bel⟩
      · rw [ifb_f hb_118] at H
        refine sl_skip hK (by decide) (wtf hb_118) rfl fun a hK => ?_
        refine sl_skip hK (by decide) (wtf hb_118) rfl fun a hK => ?_
        refine sl_skip hK (by decide) (wtf hb_118) rfl fun a hK => ?_
        refine sl_skip hK (by decide) (wtf hb_118) rfl fun a hK => ?_
        refine sl_skip hK (by decide) (wtf hb_118) rfl fun a hK => ?_
        refine sl_skip hK (by decide) (wtf hb_118) rfl fun a hK => ?_
        refine sl_skip hK (by decide) (wtf hb_118) rfl fun a hK => ?_
        refine sl_skip hK (by decide) (wtf hb_118) rfl fun a hK => ?_
        refine sl hK (by decide) rfl rfl (r_pick_f hb_118 hK rfl rfl) fun a hK => ?_
        refine sl hK (by decide) rfl rfl (r_move hK rfl) fun a hK => ?_
        refine sl_skip hK (by decide) rfl rfl fun a hK => ?_
        refine sl_skip hK (by decide) rfl rfl fun a hK => ?_
        refine sl hK (by decide) rfl rfl (r_pick hK rfl rfl rfl) fun a hK => ?_
        refine sl hK (by decide) rfl rfl (r_move hK rfl) fun a hK => ?_
        refine sl_skip hK (by decide) rfl rfl fun a hK => ?_
        refine sl_skip hK (by decide) rfl rfl fun a hK => ?_
        refine sl hK (by decide) rfl rfl (r_pick hK rfl rfl rfl) fun a hK => ?_
        refine sl hK (by decide) rfl rfl (r_assign hK rfl) fun a hK => ?_
        refine wpList_nil ?_
        obtain rfl := Option.some.inj H
        refine wp_ret ?_
        repeat (first | refine ret_then ?_ | refine ret_block ?_ | refine ret_scope ?_)
        exact ret_1 Try.results7 hK (rv_tmp hK rfl) ⟨rfl, hS.bel⟩
    · rw [ifb_f hb_117] at H
      refine sl_skip hK (by decide) (wtf hb_117) rfl fun a hK => ?_
      refine sl_skip hK (by decide) (wtf hb_117) rfl fun a hK => ?_
      refine sl_skip hK (by decide) (wtf hb_117) rfl fun a hK => ?_
      refine sl_skip hK (by decide) (wtf hb_117) rfl fun a hK => ?_
      refine sl hK (by decide) rfl rfl (r_pick_f hb_117 hK rfl rfl) fun a hK => ?_
      refine sl hK (by decide) rfl rfl (r_move hK rfl) fun a hK => ?_
      refine sl_skip hK (by decide) rfl rfl fun a hK => ?_
      refine sl_skip hK (by decide) rfl rfl fun a hK => ?_
      refine sl_skip hK (by decide) rfl rfl fun a hK => ?_
      refine sl_skip hK (by decide) rfl rfl fun a hK => ?_
      refine sl_skip hK (by decide) rfl rfl fun a hK => ?_
      refine sl_skip hK (by decide) rfl rfl fun a hK => ?_
      refine sl_skip hK (by decide) rfl rfl fun a hK => ?_
      refine sl_skip hK (by decide) rfl rfl fun a hK => ?_
      refine sl hK (by decide) rfl rfl (r_pick hK rfl rfl rfl) fun a hK => ?_
      refine sl hK (by decide) rfl rfl (r_move hK rfl) fun a hK => ?_
      refine sl_skip hK (by decide) rfl rfl fun a hK => ?_
      refine sl_skip hK (by decide) rfl rfl fun a hK => ?_
      refine sl hK (by decide) rfl rfl (r_pick hK rfl rfl rfl) fun a hK => ?_
      refine sl hK (by decide) rfl rfl (r_move hK rfl) fun a hK => ?_
      refine sl_skip hK (by decide) rfl rfl fun a hK => ?_
      refine sl_skip hK (by decide) rfl rfl fun a hK => ?_
      refine sl hK (by decide) rfl rfl (r_pick hK rfl rfl rfl) fun a hK => ?_
      refine sl hK (by decide) rfl rfl (r_assign hK rfl) fun a hK => ?_
      refine wpList_nil ?_
      obtain rfl := Option.some.inj H
      refine wp_ret ?_
      repeat (first | refine ret_then ?_ | refine ret_block ?_ | refine ret_scope ?_)
      exact ret_1 Try.results7 hK (rv_tmp hK rfl) ⟨rfl, hS.bel⟩
  · rw [ifb_f hb_116] at H
    refine sl_skip hK (by decide) (wtf hb_116) rfl fun a hK => ?_
    refine sl_skip hK (by decide) (wtf hb_116) rfl fun a hK => ?_
    refine sl_skip hK (by decide) (wtf hb_116) rfl fun a hK => ?_
    refine sl_skip hK (by decide) (wtf hb_116) rfl fun a hK => ?_
    refine sl hK (by decide) rfl rfl (r_pick_f hb_116 hK rfl rfl) fun a hK => ?_
    refine sl hK (by decide) rfl rfl (r_move hK rfl) fun a hK => ?_
    refine sl_skip hK (by decide) rfl rfl fun a hK => ?_
    refine sl_skip hK (by decide) rfl rfl fun a hK => ?_
    refine sl_skip hK (by decide) rfl rfl fun a hK => ?_
    refine sl_skip hK (by decide) rfl rfl fun a hK => ?_
    refine sl hK (by decide) rfl rfl (r_pick hK rfl rfl rfl) fun a hK => ?_
    refine sl hK (by decide) rfl rfl (r_move hK rfl) fun a hK => ?_
    refine sl_skip hK (by decide) rfl rfl fun a hK => ?_
    refine sl_skip hK (by decide) rfl rfl fun a hK => ?_
    refine sl_skip hK (by decide) rfl rfl fun a hK => ?_
    refine sl_skip hK (by decide) rfl rfl fun a hK => ?_
    refine sl_skip hK (by decide) rfl rfl fun a hK => ?_
    refine sl_skip hK (by decide) rfl rfl fun a hK => ?_
    refine sl_skip hK (by decide) rfl rfl fun a hK => ?_
    refine sl_skip hK (by decide) rfl rfl fun a hK => ?_
    refine sl hK (by decide) rfl rfl (r_pick hK rfl rfl rfl) fun a hK => ?_
    refine sl hK (by decide) rfl rfl (r_move hK rfl) fun a hK => ?_
    refine sl_skip hK (by decide) rfl rfl fun a hK => ?_
    refine sl_skip hK (by decide) rfl rfl fun a hK => ?_
    refine sl hK (by decide) rfl rfl (r_pick hK rfl rfl rfl) fun a hK => ?_
    refine sl hK (by decide) rfl rfl (r_move hK rfl) fun a hK => ?_
    refine sl_skip hK (by decide) rfl rfl fun a hK => ?_
    refine sl_skip hK (by decide) rfl rfl fun a hK => ?_
    refine sl hK (by decide) rfl rfl (r_pick hK rfl rfl rfl) fun a hK => ?_
    refine sl hK (by decide) rfl rfl (r_assign hK rfl) fun a hK => ?_
    refine wpList_nil ?_
    obtain rfl := Option.some.inj H
    refine wp_ret ?_
    repeat (first | refine ret_then ?_ | refine ret_block ?_ | refine ret_scope ?_)
    exact ret_1 Try.results7 hK (rv_tmp hK rfl) ⟨rfl, hS.bel⟩

/-! ### catchment/catchmentlaw17.cut: function 8 -/
set_option maxHeartbeats 4000000 in
set_option maxRecDepth 100000 in
theorem law17_cut.calls (a0 : api_Table) (a1 : Int) {w0 : World} {R : Hp} {v0_0 : Value} {v0_1 : Value} (hR : R.sub w0) (h0_0 : SlR ty_api_Col R v0_0 a0.Cols) (h0_1 : SlR (tySl ty_api_Value) R v0_1 a0.Rows) {r : api_Table} (H : law17_cut a0 a1 = some r) : Calls Try.prog 8 #[.agg #[v0_0, v0_1], .int .i64 a1] w0 (Rets fun v w' => ∃ (R' : Hp) (u0 : Value) (u1 : Value), v = .agg #[u0, u1] ∧ St [] w0 w' R' [] ∧ RLe [] w0 R R' ∧ SlR ty_api_Col R' u0 r.Cols ∧ SlR (tySl ty_api_Value) R' u1 r.Rows) := by
  unfold law17_cut at H
  refine enter (args := [.agg #[v0_0, v0_1], .int .i64 a1]) Try.func8 rfl Try.ntmps8 rfl fun a hK => ?_
  have hS := St.init hR
  have hRL := RLe.refl (M := []) w0 R
  refine wp_seq ?_
  refine wp_region_lit ?_
  refine sl_box hS hK (by decide) rfl rfl (c := [v0_0, v0_1]) rfl fun a w b_1 hS hK => ?_
  refine sl_alloc Try.zeroValue25 hS hK (by decide) rfl rfl fun a w b_2 hS hK => ?_
  refine wpList_nil ?_
  refine wp_seq ?_
  refine wp_seq ?_
  refine wp_region_lit ?_
  refine sl hK (by decide) rfl rfl (r_fieldAddr Try.underlying25 rfl Try.sizeOf23 hK rfl) fun a hK => ?_
  refine sl hK (by decide) rfl rfl (r_load Try.isAgg23 hK rfl (hS.cell (.tail _ (.head _)) rfl)) fun a hK => ?_
  refine sl hK (by decide) rfl rfl (r_len_R Try.underlying23 h0_1 hK rfl) fun a hK => ?_
  refine sl hK (by decide) rfl rfl (r_move hK rfl) fun a hK => ?_
  refine sl hK (by decide) rfl rfl (r_ibin hK rfl rfl rfl) fun a hK => ?_
  refine wpList_nil ?_
  refine wp_cond_split (hK.ev rfl) (fun (hb_3 : (decide ((a0.Rows.length : Int) > a1)) = true) => ?_) (fun (hb_3 : (decide ((a0.Rows.length : Int) > a1)) = false) => ?_)
  · rw [ifb_t hb_3] at H
    refine wp_region_lit ?_
    refine sl hK (by decide) rfl rfl (r_fieldAddr Try.underlying25 rfl Try.sizeOf23 hK rfl) fun a hK => ?_
    refine sl hK (by decide) rfl rfl (r_load Try.isAgg23 hK rfl (hS.cell (.tail _ (.head _)) rfl)) fun a hK => ?_
    refine sl hK (by decide) rfl rfl (r_move hK rfl) fun a hK => ?_
    obtain ⟨y_4, h_5, H⟩ := bind_some H
    obtain ⟨v_6, hs_7, hr_8⟩ := r_slice_R (x := .tmp 11) (lo := none) (hi := some (.tmp 12)) Try.underlying23 Try.sizeOf40 h0_1 h_5 hK rfl rfl ⟨_, rfl⟩
    refine sl hK (by decide) rfl rfl (hr_8 _ _ _ _ _ _ _ hK) fun a hK => ?_
    refine sl hK (by decide) rfl rfl (r_fieldAddr Try.underlying25 rfl Try.sizeOf23 hK rfl) fun a hK => ?_
    have hS := hS.pk1
    refine sl_store1 (c' := [v0_0, v_6]) Try.sizeOf23 hS hK rfl rfl rfl hs_7.one (Nat.le_of_ble_eq_true rfl) rfl fun a w hS hK => ?_
    refine wpList_nil ?_
    refine wp_seq ?_
    refine wp_region_lit ?_
    refine sl hK (by decide) rfl rfl (r_loadA (cs := [v0_0, v_6]) Try.isAgg25 Try.sizeOf25 rfl hK rfl (hS.cells_of (m := 2) (.head _) rfl)) fun a hK => ?_
    have hS := hS.pk1
    refine sl_storeA (vs := [v0_0, v_6]) (c' := [v0_0, v_6]) Try.sizeOf25 hS hK rfl rfl rfl rfl (all_cons h0_0.one (all_cons hs_7.one (all_nil))) (Nat.le_of_ble_eq_true rfl) rfl fun a w hS hK => ?_
    refine wpList_nil ?_
    obtain rfl := Option.some.inj H
    refine wp_ret ?_
    repeat (first | refine ret_then ?_ | refine ret_block ?_ | refine ret_scope ?_)
    exact ret_1 Try.results8 hK (rv_cell (c := [v0_0, v_6]) Try.isAgg25 Try.sizeOf25 hS (.head _) rfl hK rfl) ⟨_, rfl, _, _, _, rfl, (hS.trunc 0), hRL, h0_0, hs_7⟩
  · rw [ifb_f hb_3] at H
    refine wp_skip ?_
    refine wp_seq ?_
    refine wp_region_lit ?_
    refine sl hK (by decide) rfl rfl (r_loadA (cs := [v0_0, v0_1]) Try.isAgg25 Try.sizeOf25 rfl hK rfl (hS.cells_of (m := 2) (.tail _ (.head _)) rfl)) fun a hK => ?_
    refine sl_storeA (vs := [v0_0, v0_1]) (c' := [v0_0, v0_1]) Try.sizeOf25 hS hK rfl rfl rfl rfl (all_cons h0_0.one (all_cons h0_1.one (all_nil))) (Nat.le_of_ble_eq_true rfl) rfl fun a w hS hK => ?_
    refine wpList_nil ?_
    obtain rfl := Option.some.inj H
    refine wp_ret ?_
    repeat (first | refine ret_then ?_ | refine ret_block ?_ | refine ret_scope ?_)
    exact ret_1 Try.results8 hK (rv_cell (c := [v0_0, v0_1]) Try.isAgg25 Try.sizeOf25 hS (.head _) rfl hK rfl) ⟨_, rfl, _, _, _, rfl, (hS.trunc 0), hRL, h0_0, h0_1⟩

/-! ### catchment/catchmentref02.Name: function 43 -/
set_option maxHeartbeats 4000000 in
set_option maxRecDepth 100000 in
theorem ref02_Name.calls (a0 : ByteArray) {r : Bool} (H : ref02_Name a0 = some r) (w0 : World) : CallsV Try.prog 43 #[.string a0] w0 (.bool r) := by
  unfold ref02_Name at H
  refine enter (args := [.string a0]) Try.func43 rfl Try.ntmps43 rfl fun a hK => ?_
  have hS := St.init (R := fun _ => none) (w := w0) (fun _ _ h => by cases h)
  have hRL := RLe.refl (M := []) w0 (fun _ => none)
  refine wp_seq ?_
  refine wp_region_lit ?_
  refine sl hK (by decide) rfl rfl (r_assign hK rfl) fun a hK => ?_
  refine wpList_nil ?_
  refine wp_seq ?_
  refine wp_seq ?_
  refine wp_mid (fun a w => ∃ (x_8 : Bool), ref02_Name.j0 a0 x_8 = some r ∧ Kn 55 a [(0, .string a0), (22, .bool x_8)] ∧ St [] w0 w (fun _ => none) []) ?_ ?_
  · refine wp_region_lit ?_
    refine sl hK (by decide) rfl rfl (r_move hK rfl) fun a hK => ?_
    refine sl hK (by decide) rfl rfl (r_len_str Try.underlying9 hK rfl) fun a hK => ?_
    refine sl hK (by decide) rfl rfl (r_ibin hK rfl rfl rfl) fun a hK => ?_
    refine sl hK (by decide) rfl rfl (r_move hK rfl) fun a hK => ?_
    rcases or_b (decide ((a0.size : Int) < 1)) with hb_10 | hb_10
    · rw [ifb_t hb_10] at H
      refine sl_skip hK (by decide) (wft hb_10) rfl fun a hK => ?_
      refine sl_skip hK (by decide) (wft hb_10) rfl fun a hK => ?_
      refine sl_skip hK (by decide) (wft hb_10) rfl fun a hK => ?_
      refine sl hK (by decide) rfl rfl (r_pick_t hb_10 hK rfl rfl) fun a hK => ?_
      refine sl hK (by decide) rfl rfl (r_move hK rfl) fun a hK => ?_
      refine sl_skip hK (by decide) rfl rfl fun a hK => ?_
      refine sl_skip hK (by decide) rfl rfl fun a hK => ?_
      refine sl_skip hK (by decide) rfl rfl fun a hK => ?_
      refine sl hK (by decide) rfl rfl (r_pick hK rfl rfl rfl) fun a hK => ?_
      refine sl hK (by decide) rfl rfl (r_move hK rfl) fun a hK => ?_
      refine sl_skip hK (by decide) rfl rfl fun a hK => ?_
      refine sl_skip hK (by decide) rfl rfl fun a hK => ?_
      refine sl_skip hK (by decide) rfl rfl fun a hK => ?_
      refine sl hK (by decide) rfl rfl (r_pick hK rfl rfl rfl) fun a hK => ?_
      refine wpList_nil ?_
      exact ⟨true, H, hK.sub (all_cons rfl (all_cons rfl (all_nil))), hS⟩
    · rw [ifb_f hb_10] at H
      refine sl hK (by decide) (wff hb_10) rfl (r_move hK rfl) fun a hK => ?_
      refine sl hK (by decide) (wff hb_10) rfl (r_len_str Try.underlying9 hK rfl) fun a hK => ?_
      refine sl hK (by decide) (wff hb_10) rfl (r_ibin hK rfl rfl rfl) fun a hK => ?_
      refine sl hK (by decide) rfl rfl (r_pick_f hb_10 hK rfl rfl) fun a hK => ?_
      refine sl hK (by decide) rfl rfl (r_move hK rfl) fun a hK => ?_
      rcases or_b (decide ((a0.size : Int) > 24)) with hb_11 | hb_11
      · rw [ifb_t hb_11] at H
        refine sl_skip hK (by decide) (wft hb_11) rfl fun a hK => ?_
        refine sl_skip hK (by decide) (wft hb_11) rfl fun a hK => ?_
        refine sl_skip hK (by decide) (wft hb_11) rfl fun a hK => ?_
        refine sl hK (by decide) rfl rfl (r_pick_t hb_11 hK rfl rfl) fun a hK => ?_
        refine sl hK (by decide) rfl rfl (r_move hK rfl) fun a hK => ?_
        refine sl_skip hK (by decide) rfl rfl fun a hK => ?_
        refine sl_skip hK (by decide) rfl rfl fun a hK => ?_
        refine sl_skip hK (by decide) rfl rfl fun a hK => ?_
        refine sl hK (by decide) rfl rfl (r_pick hK rfl rfl rfl) fun a hK => ?_
        refine wpList_nil ?_
        exact ⟨true, H, hK.sub (all_cons rfl (all_cons rfl (all_nil))), hS⟩
      · rw [ifb_f hb_11] at H
        refine sl hK (by decide) (wff hb_11) rfl (r_move hK rfl) fun a hK => ?_
        obtain ⟨y_12, h_13, H⟩ := bind_some H
        refine sl hK (by decide) (wff hb_11) rfl (r_index_str' Try.underlying9 h_13 hK rfl rfl) fun a hK => ?_
        refine sl hK (by decide) (wff hb_11) rfl (r_ibin hK rfl rfl rfl) fun a hK => ?_
        refine sl hK (by decide) rfl rfl (r_pick_f hb_11 hK rfl rfl) fun a hK => ?_
        refine sl hK (by decide) rfl rfl (r_move hK rfl) fun a hK => ?_
        rcases or_b (decide (y_12 < 97)) with hb_14 | hb_14
        · rw [ifb_t hb_14] at H
          refine sl_skip hK (by decide) (wft hb_14) rfl fun a hK => ?_
          refine sl_skip hK (by decide) (wft hb_14) rfl fun a hK => ?_
          refine sl_skip hK (by decide) (wft hb_14) rfl fun a hK => ?_
          refine sl hK (by decide) rfl rfl (r_pick_t hb_14 hK rfl rfl) fun a hK => ?_
          refine wpList_nil ?_
          exact ⟨true, H, hK.sub (all_cons rfl (all_cons rfl (all_nil))), hS⟩
        · rw [ifb_f hb_14] at H
          refine sl hK (by decide) (wff hb_14) rfl (r_move hK rfl) fun a hK => ?_
          obtain ⟨y_15, h_16, H⟩ := bind_some H
          refine sl hK (by decide) (wff hb_14) rfl (r_index_str' Try.underlying9 h_16 hK rfl rfl) fun a hK => ?_
          refine sl hK (by decide) (wff hb_14) rfl (r_ibin hK rfl rfl rfl) fun a hK => ?_
          refine sl hK (by decide) rfl rfl (r_pick_f hb_14 hK rfl rfl) fun a hK => ?_
          refine wpList_nil ?_
          exact ⟨(decide (y_15 > 122)), H, hK.sub (all_cons rfl (all_cons rfl (all_nil))), hS⟩
  · rintro a w ⟨x_8, H, hK, hS⟩
    unfold ref02_Name.j0 at H
    refine wp_cond_split (hK.ev rfl) (fun (hb_17 : x_8 = true) => ?_) (fun (hb_17 : x_8 = false) => ?_)
    · rw [ifb_t hb_17] at H
      refine wp_seq ?_
      refine wp_region_lit ?_
      refine sl hK (by decide) rfl rfl (r_assign hK rfl) fun a hK => ?_
      refine wpList_nil ?_
      obtain rfl := Option.some.inj H
      refine wp_ret ?_
      repeat (first | refine ret_then ?_ | refine ret_block ?_ | refine ret_scope ?_)
      exact ret_1 Try.results43 hK (rv_tmp hK rfl) ⟨rfl, hS.bel⟩
    · rw [ifb_f hb_17] at H
      refine wp_skip ?_
      refine wp_seq ?_
      refine wp_seq ?_
      refine wp_region_lit ?_
      refine sl hK (by decide) rfl rfl (r_assign hK rfl) fun a hK => ?_
      refine wpList_nil ?_
      refine wp_block ?_
      refine wp_loop_k (fun k_l1 a w => ∃ (x_45 : Int), ref02_Name.l1 a0 k_l1 x_45 = some r ∧ Kn 55 a [(0, .string a0), (3, .int .i64 x_45)] ∧ St [] w0 w (fun _ => none) []) (((a0.size : Int) - 0).toNat + 1) ?_ ?_
      · exact ⟨0, H, hK.sub (all_cons rfl (all_cons rfl (all_nil))), hS⟩
      · rintro k_l1 a w ⟨x_45, H, hK, hS⟩
        cases k_l1 with
        | zero => cases H
        | succ k_l1 =>
        rw [ref02_Name.l1.eq_2] at H
        refine wp_seq ?_
        refine wp_seq ?_
        refine wp_region_lit ?_
        refine sl hK (by decide) rfl rfl (r_move hK rfl) fun a hK => ?_
        refine sl hK (by decide) rfl rfl (r_move hK rfl) fun a hK => ?_
        refine sl hK (by decide) rfl rfl (r_len_str Try.underlying9 hK rfl) fun a hK => ?_
        refine sl hK (by decide) rfl rfl (r_ibin hK rfl rfl rfl) fun a hK => ?_
        refine wpList_nil ?_
        refine wp_cond_split (hK.ev rfl) (fun (hb_73 : (decide (x_45 < (a0.size : Int))) = true) => ?_) (fun (hb_73 : (decide (x_45 < (a0.size : Int))) = false) => ?_)
        · rw [ifb_t hb_73] at H
          refine wp_skip ?_
          refine wp_seq ?_
          refine wp_block ?_
          refine wp_seq ?_
          refine wp_region_lit ?_
          refine sl hK (by decide) rfl rfl (r_move hK rfl) fun a hK => ?_
          refine sl hK (by decide) rfl rfl (r_move hK rfl) fun a hK => ?_
          obtain ⟨y_74, h_75, H⟩ := bind_some H
          refine sl hK (by decide) rfl rfl (r_index_str' Try.underlying9 h_75 hK rfl rfl) fun a hK => ?_
          refine sl hK (by decide) rfl rfl (r_assign hK rfl) fun a hK => ?_
          refine wpList_nil ?_
          refine wp_seq ?_
          refine wp_mid (fun a w => ∃ (x_86 : Bool), ref02_Name.j2 (ref02_Name.l1 a0 k_l1) a0 x_45 x_86 = some r ∧ Kn 55 a [(0, .string a0), (3, .int .i64 x_45), (54, .bool x_86)] ∧ St [] w0 w (fun _ => none) []) ?_ ?_
          · refine wp_region_lit ?_
            refine sl hK (by decide) rfl rfl (r_move hK rfl) fun a hK => ?_
            refine sl hK (by decide) rfl rfl (r_ibin hK rfl rfl rfl) fun a hK => ?_
            refine sl hK (by decide) rfl rfl (r_move hK rfl) fun a hK => ?_
            rcases or_b (decide (y_74 ≥ 97)) with hb_88 | hb_88
            · rw [ifb_t hb_88] at H
              refine sl hK (by decide) (wtt hb_88) rfl (r_move hK rfl) fun a hK => ?_
              refine sl hK (by decide) (wtt hb_88) rfl (r_ibin hK rfl rfl rfl) fun a hK => ?_
              refine sl hK (by decide) rfl rfl (r_pick_t hb_88 hK rfl rfl) fun a hK => ?_
              refine sl hK (by decide) rfl rfl (r_move hK rfl) fun a hK => ?_
              rcases or_b (decide (y_74 ≤ 122)) with hb_89 | hb_89
              · rw [ifb_t hb_89] at H
                refine sl_skip hK (by decide) (wft hb_89) rfl fun a hK => ?_
                refine sl_skip hK (by decide) (wft hb_89) rfl fun a hK => ?_
                refine sl_skip hK (by decide) (wft hb_89) rfl fun a hK => ?_
                refine sl_skip hK (by decide) rfl rfl fun a hK => ?_
                refine sl_skip hK (by decide) rfl rfl fun a hK => ?_
                refine sl_skip hK (by decide) (wft hb_89) rfl fun a hK => ?_
                refine sl hK (by decide) rfl rfl (r_pick_t hb_89 hK rfl rfl) fun a hK => ?_
                refine sl hK (by decide) rfl rfl (r_move hK rfl) fun a hK => ?_
                refine sl_skip hK (by decide) rfl rfl fun a hK => ?_
                refine sl_skip hK (by decide) rfl rfl fun a hK => ?_
                refine sl hK (by decide) rfl rfl (r_pick hK rfl rfl rfl) fun a hK => ?_
                refine sl hK (by decide) rfl rfl (r_move hK rfl) fun a hK => ?_
                refine sl_skip hK (by decide) rfl rfl fun a hK => ?_
                refine sl_skip hK (by decide) rfl rfl fun a hK => ?_
                refine sl hK (by decide) rfl rfl (r_pick hK rfl rfl rfl) fun a hK => ?_
                refine sl hK (by decide) rfl rfl (r_un hK rfl (u_not _)) fun a hK => ?_
                refine wpList_nil ?_
                exact ⟨false, H, hK.sub (all_cons rfl (all_cons rfl (all_cons rfl (all_nil)))), hS⟩
              · rw [ifb_f hb_89] at H
                refine sl hK (by decide) (wff hb_89) rfl (r_move hK rfl) fun a hK => ?_
                refine sl hK (by decide) (wff hb_89) rfl (r_ibin hK rfl rfl rfl) fun a hK => ?_
                refine sl hK (by decide) (wff hb_89) rfl (r_move hK rfl) fun a hK => ?_
                rcases or_b (decide (y_74 ≥ 48)) with hb_90 | hb_90
                · rw [ifb_t hb_90] at H
                  refine sl hK (by decide) (wtt hb_90) rfl (r_move hK rfl) fun a hK => ?_
                  refine sl hK (by decide) (wtt hb_90) rfl (r_ibin hK rfl rfl rfl) fun a hK => ?_
                  refine sl hK (by decide) (wff hb_89) rfl (r_pick_t hb_90 hK rfl rfl) fun a hK => ?_
                  refine sl hK (by decide) rfl rfl (r_pick_f hb_89 hK rfl rfl) fun a hK => ?_
                  refine sl hK (by decide) rfl rfl (r_move hK rfl) fun a hK => ?_
                  rcases or_b (decide (y_74 ≤ 57)) with hb_91 | hb_91
                  · rw [ifb_t hb_91] at H
                    refine sl_skip hK (by decide) (wft hb_91) rfl fun a hK => ?_
                    refine sl_skip hK (by decide) (wft hb_91) rfl fun a hK => ?_
                    refine sl hK (by decide) rfl rfl (r_pick_t hb_91 hK rfl rfl) fun a hK => ?_
                    refine sl hK (by decide) rfl rfl (r_move hK rfl) fun a hK => ?_
                    refine sl_skip hK (by decide) rfl rfl fun a hK => ?_
                    refine sl_skip hK (by decide) rfl rfl fun a hK => ?_
                    refine sl hK (by decide) rfl rfl (r_pick hK rfl rfl rfl) fun a hK => ?_
                    refine sl hK (by decide) rfl rfl (r_un hK rfl (u_not _)) fun a hK => ?_
                    refine wpList_nil ?_
                    exact ⟨false, H, hK.sub (all_cons rfl (all_cons rfl (all_cons rfl (all_nil)))), hS⟩
                  · rw [ifb_f hb_91] at H
                    refine sl hK (by decide) (wff hb_91) rfl (r_move hK rfl) fun a hK => ?_
                    refine sl hK (by decide) (wff hb_91) rfl (r_ibin hK rfl rfl rfl) fun a hK => ?_
                    refine sl hK (by decide) rfl rfl (r_pick_f hb_91 hK rfl rfl) fun a hK => ?_
                    refine sl hK (by decide) rfl rfl (r_move hK rfl) fun a hK => ?_
                    rcases or_b (y_74 == 95) with hb_92 | hb_92
                    · rw [ifb_t hb_92] at H
                      refine sl_skip hK (by decide) (wft hb_92) rfl fun a hK => ?_
                      refine sl_skip hK (by decide) (wft hb_92) rfl fun a hK => ?_
                      refine sl hK (by decide) rfl rfl (r_pick_t hb_92 hK rfl rfl) fun a hK => ?_
                      refine sl hK (by decide) rfl rfl (r_un hK rfl (u_not _)) fun a hK => ?_
                      refine wpList_nil ?_
                      exact ⟨false, H, hK.sub (all_cons rfl (all_cons rfl (all_cons rfl (all_nil)))), hS⟩
                    · rw [ifb_f hb_92] at H
                      refine sl hK (by decide) (wff hb_92) rfl (r_move hK rfl) fun a hK => ?_
                      refine sl hK (by decide) (wff hb_92) rfl (r_ibin hK rfl rfl rfl) fun a hK => ?_
                      refine sl hK (by decide) rfl rfl (r_pick_f hb_92 hK rfl rfl) fun a hK => ?_
                      refine sl hK (by decide) rfl rfl (r_un hK rfl (u_not _)) fun a hK => ?_
                      refine wpList_nil ?_
                      exact ⟨(!(y_74 == 35)), H, hK.sub (all_cons rfl (all_cons rfl (all_cons rfl (all_nil)))), hS⟩
                · rw [ifb_f hb_90] at H
                  refine sl_skip hK (by decide) (wtf hb_90) rfl fun a hK => ?_
                  refine sl_skip hK (by decide) (wtf hb_90) rfl fun a hK => ?_
                  refine sl hK (by decide) (wff hb_89) rfl (r_pick_f hb_90 hK rfl rfl) fun a hK => ?_
                  refine sl hK (by decide) rfl rfl (r_pick_f hb_89 hK rfl rfl) fun a hK => ?_
                  refine sl hK (by decide) rfl rfl (r_move hK rfl) fun a hK => ?_
                  refine sl hK (by decide) rfl rfl (r_move hK rfl) fun a hK => ?_
                  refine sl hK (by decide) rfl rfl (r_ibin hK rfl rfl rfl) fun a hK => ?_
                  refine sl hK (by decide) rfl rfl (r_pick hK rfl rfl rfl) fun a hK => ?_
                  refine sl hK (by decide) rfl rfl (r_move hK rfl) fun a hK => ?_
                  rcases or_b (y_74 == 95) with hb_93 | hb_93
                  · rw [ifb_t hb_93] at H
                    refine sl_skip hK (by decide) (wft hb_93) rfl fun a hK => ?_
                    refine sl_skip hK (by decide) (wft hb_93) rfl fun a hK => ?_
                    refine sl hK (by decide) rfl rfl (r_pick_t hb_93 hK rfl rfl) fun a hK => ?_
                    refine sl hK (by decide) rfl rfl (r_un hK rfl (u_not _)) fun a hK => ?_
                    refine wpList_nil ?_
                    exact ⟨false, H, hK.sub (all_cons rfl (all_cons rfl (all_cons rfl (all_nil)))), hS⟩
                  · rw [ifb_f hb_93] at H
                    refine sl hK (by decide) (wff hb_93) rfl (r_move hK rfl) fun a hK => ?_
                    refine sl hK (by decide) (wff hb_93) rfl (r_ibin hK rfl rfl rfl) fun a hK => ?_
                    refine sl hK (by decide) rfl rfl (r_pick_f hb_93 hK rfl rfl) fun a hK => ?_
                    refine sl hK (by decide) rfl rfl (r_un hK rfl (u_not _)) fun a hK => ?_
                    refine wpList_nil ?_
                    exact ⟨(!(y_74 == 35)), H, hK.sub (all_cons rfl (all_cons rfl (all_cons rfl (all_nil)))), hS⟩
            · rw [ifb_f hb_88] at H
              refine sl_skip hK (by decide) (wtf hb_88) rfl fun a hK => ?_
              refine sl_skip hK (by decide) (wtf hb_88) rfl fun a hK => ?_
              refine sl hK (by decide) rfl rfl (r_pick_f hb_88 hK rfl rfl) fun a hK => ?_
              refine sl hK (by decide) rfl rfl (r_move hK rfl) fun a hK => ?_
              refine sl hK (by decide) rfl rfl (r_move hK rfl) fun a hK => ?_
              refine sl hK (by decide) rfl rfl (r_ibin hK rfl rfl rfl) fun a hK => ?_
              refine sl hK (by decide) rfl rfl (r_move hK rfl) fun a hK => ?_
              rcases or_b (decide (y_74 ≥ 48)) with hb_94 | hb_94
              · rw [ifb_t hb_94] at H
                refine sl hK (by decide) (wtt hb_94) rfl (r_move hK rfl) fun a hK => ?_
                refine sl hK (by decide) (wtt hb_94) rfl (r_ibin hK rfl rfl rfl) fun a hK => ?_
                refine sl hK (by decide) rfl rfl (r_pick_t hb_94 hK rfl rfl) fun a hK => ?_
                refine sl hK (by decide) rfl rfl (r_pick hK rfl rfl rfl) fun a hK => ?_
                refine sl hK (by decide) rfl rfl (r_move hK rfl) fun a hK => ?_
                rcases or_b (decide (y_74 ≤ 57)) with hb_95 | hb_95
                · rw [ifb_t hb_95] at H
                  refine sl_skip hK (by decide) (wft hb_95) rfl fun a hK => ?_
                  refine sl_skip hK (by decide) (wft hb_95) rfl fun a hK => ?_
                  refine sl hK (by decide) rfl rfl (r_pick_t hb_95 hK rfl rfl) fun a hK => ?_
                  refine sl hK (by decide) rfl rfl (r_move hK rfl) fun a hK => ?_
                  refine sl_skip hK (by decide) rfl rfl fun a hK => ?_
                  refine sl_skip hK (by decide) rfl rfl fun a hK => ?_
                  refine sl hK (by decide) rfl rfl (r_pick hK rfl rfl rfl) fun a hK => ?_
                  refine sl hK (by decide) rfl rfl (r_un hK rfl (u_not _)) fun a hK => ?_
                  refine wpList_nil ?_
                  exact ⟨false, H, hK.sub (all_cons rfl (all_cons rfl (all_cons rfl (all_nil)))), hS⟩
                · rw [ifb_f hb_95] at H
                  refine sl hK (by decide) (wff hb_95) rfl (r_move hK rfl) fun a hK => ?_
                  refine sl hK (by decide) (wff hb_95) rfl (r_ibin hK rfl rfl rfl) fun a hK => ?_
                  refine sl hK (by decide) rfl rfl (r_pick_f hb_95 hK rfl rfl) fun a hK => ?_
                  refine sl hK (by decide) rfl rfl (r_move hK rfl) fun a hK => ?_
                  rcases or_b (y_74 == 95) with hb_96 | hb_96
                  · rw [ifb_t hb_96] at H
                    refine sl_skip hK (by decide) (wft hb_96) rfl fun a hK => ?_
                    refine sl_skip hK (by decide) (wft hb_96) rfl fun a hK => ?_
                    refine sl hK (by decide) rfl rfl (r_pick_t hb_96 hK rfl rfl) fun a hK => ?_
                    refine sl hK (by decide) rfl rfl (r_un hK rfl (u_not _)) fun a hK => ?_
                    refine wpList_nil ?_
                    exact ⟨false, H, hK.sub (all_cons rfl (all_cons rfl (all_cons rfl (all_nil)))), hS⟩
                  · rw [ifb_f hb_96] at H
                    refine sl hK (by decide) (wff hb_96) rfl (r_move hK rfl) fun a hK => ?_
                    refine sl hK (by decide) (wff hb_96) rfl (r_ibin hK rfl rfl rfl) fun a hK => ?_
                    refine sl hK (by decide) rfl rfl (r_pick_f hb_96 hK rfl rfl) fun a hK => ?_
                    refine sl hK (by decide) rfl rfl (r_un hK rfl (u_not _)) fun a hK => ?_
                    refine wpList_nil ?_
                    exact ⟨(!(y_74 == 35)), H, hK.sub (all_cons rfl (all_cons rfl (all_cons rfl (all_nil)))), hS⟩
              · rw [ifb_f hb_94] at H
                refine sl_skip hK (by decide) (wtf hb_94) rfl fun a hK => ?_
                refine sl_skip hK (by decide) (wtf hb_94) rfl fun a hK => ?_
                refine sl hK (by decide) rfl rfl (r_pick_f hb_94 hK rfl rfl) fun a hK => ?_
                refine sl hK (by decide) rfl rfl (r_pick hK rfl rfl rfl) fun a hK => ?_
                refine sl hK (by decide) rfl rfl (r_move hK rfl) fun a hK => ?_
                refine sl hK (by decide) rfl rfl (r_move hK rfl) fun a hK => ?_
                refine sl hK (by decide) rfl rfl (r_ibin hK rfl rfl rfl) fun a hK => ?_
                refine sl hK (by decide) rfl rfl (r_pick hK rfl rfl rfl) fun a hK => ?_
                refine sl hK (by decide) rfl rfl (r_move hK rfl) fun a hK => ?_
                rcases or_b (y_74 == 95) with hb_97 | hb_97
                · rw [ifb_t hb_97] at H
                  refine sl_skip hK (by decide) (wft hb_97) rfl fun a hK => ?_
                  refine sl_skip hK (by decide) (wft hb_97) rfl fun a hK => ?_
                  refine sl hK (by decide) rfl rfl (r_pick_t hb_97 hK rfl rfl) fun a hK => ?_
                  refine sl hK (by decide) rfl rfl (r_un hK rfl (u_not _)) fun a hK => ?_
                  refine wpList_nil ?_
                  exact ⟨false, H, hK.sub (all_cons rfl (all_cons rfl (all_cons rfl (all_nil)))), hS⟩
                · rw [ifb_f hb_97] at H
                  refine sl hK (by decide) (wff hb_97) rfl (r_move hK rfl) fun a hK => ?_
                  refine sl hK (by decide) (wff hb_97) rfl (r_ibin hK rfl rfl rfl) fun a hK => ?_
                  refine sl hK (by decide) rfl rfl (r_pick_f hb_97 hK rfl rfl) fun a hK => ?_
                  refine sl hK (by decide) rfl rfl (r_un hK rfl (u_not _)) fun a hK => ?_
                  refine wpList_nil ?_
                  exact ⟨(!(y_74 == 35)), H, hK.sub (all_cons rfl (all_cons rfl (all_cons rfl (all_nil)))), hS⟩
          · rintro a w ⟨x_86, H, hK, hS⟩
            unfold ref02_Name.j2 at H
            refine wp_cond_split (hK.ev rfl) (fun (hb_98 : x_86 = true) => ?_) (fun (hb_98 : x_86 = false) => ?_)
            · rw [ifb_t hb_98] at H
              refine wp_seq ?_
              refine wp_region_lit ?_
              refine sl hK (by decide) rfl rfl (r_assign hK rfl) fun a hK => ?_
              refine wpList_nil ?_
              obtain rfl := Option.some.inj H
              refine wp_ret ?_
              repeat (first | refine ret_then ?_ | refine ret_block ?_ | refine ret_scope ?_)
              exact ret_1 Try.results43 hK (rv_tmp hK rfl) ⟨rfl, hS.bel⟩
            · rw [ifb_f hb_98] at H
              refine wp_skip ?_
              refine wp_region_lit ?_
              refine sl hK (by decide) rfl rfl (r_move hK rfl) fun a hK => ?_
              refine sl hK (by decide) rfl rfl (r_ibin hK rfl rfl rfl) fun a hK => ?_
              refine sl hK (by decide) rfl rfl (r_assign hK rfl) fun a hK => ?_
              refine wpList_nil ?_
              exact ⟨_, Nat.lt_succ_self _, (IntKind.i64.wrap (x_45 + 1)), H, hK.sub (all_cons rfl (all_cons rfl (all_nil))), hS⟩
        · rw [ifb_f hb_73] at H
          refine wp_exit ?_
          refine wp_seq ?_
          refine wp_region_lit ?_
          refine sl hK (by decide) rfl rfl (r_assign hK rfl) fun a hK => ?_
          refine wpList_nil ?_
          obtain rfl := Option.some.inj H
          refine wp_ret ?_
          repeat (first | refine ret_then ?_ | refine ret_block ?_ | refine ret_scope ?_)
          exact ret_1 Try.results43 hK (rv_tmp hK rfl) ⟨rfl, hS.bel⟩

/-! ### catchment/catchmentref02.Find: function 16 -/
set_option maxHeartbeats 4000000 in
set_option maxRecDepth 100000 in
theorem ref02_Find.calls (a0 : List api_Col) (a1 : ByteArray) {w0 : World} {RA : Hp} {v0_0 : Value} (hRA : RA.sub w0) (h0_0 : SlR ty_api_Col RA v0_0 a0) {r : Int} (H : ref02_Find a0 a1 = some r) : CallsV Try.prog 16 #[v0_0, .string a1] w0 (.int .i64 r) := by
  unfold ref02_Find at H
  refine enter (args := [v0_0, .string a1]) Try.func16 rfl Try.ntmps16 rfl fun a hK => ?_
  have hS := St.init (R := fun _ => none) (w := w0) (fun _ _ h => by cases h)
  have hRL := RLe.refl (M := []) w0 (fun _ => none)
  refine wp_seq ?_
  refine wp_region_lit ?_
  refine sl hK (by decide) rfl rfl (r_assign hK rfl) fun a hK => ?_
  refine wpList_nil ?_
  refine wp_seq ?_
  refine wp_seq ?_
  refine wp_region_lit ?_
  refine sl hK (by decide) rfl rfl (r_assign hK rfl) fun a hK => ?_
  refine wpList_nil ?_
  refine wp_block ?_
  refine wp_loop_k (fun k_l0 a w => ∃ (x_13 : Int), ref02_Find.l0 a0 a1 k_l0 x_13 = some r ∧ Kn 20 a [(0, v0_0), (1, .string a1), (5, .int .i64 x_13)] ∧ St [] w0 w (fun _ => none) []) (((a0.length : Int) - 0).toNat + 1) ?_ ?_
  · exact ⟨0, H, hK.sub (all_cons rfl (all_cons rfl (all_cons rfl (all_nil)))), hS⟩
  · rintro k_l0 a w ⟨x_13, H, hK, hS⟩
    cases k_l0 with
    | zero => cases H
    | succ k_l0 =>
    rw [ref02_Find.l0.eq_2] at H
    refine wp_seq ?_
    refine wp_seq ?_
    refine wp_region_lit ?_
    refine sl hK (by decide) rfl rfl (r_move hK rfl) fun a hK => ?_
    refine sl hK (by decide) rfl rfl (r_move hK rfl) fun a hK => ?_
    refine sl hK (by decide) rfl rfl (r_len_R Try.underlying22 h0_0 hK rfl) fun a hK => ?_
    refine sl hK (by decide) rfl rfl (r_ibin hK rfl rfl rfl) fun a hK => ?_
    refine wpList_nil ?_
    refine wp_cond_split (hK.ev rfl) (fun (hb_26 : (decide (x_13 < (a0.length : Int))) = true) => ?_) (fun (hb_26 : (decide (x_13 < (a0.length : Int))) = false) => ?_)
    · rw [ifb_t hb_26] at H
      refine wp_skip ?_
      refine wp_seq ?_
      refine wp_block ?_
      refine wp_seq ?_
      refine wp_region_lit ?_
      refine sl hK (by decide) rfl rfl (r_move hK rfl) fun a hK => ?_
      refine sl hK (by decide) rfl rfl (r_move hK rfl) fun a hK => ?_
      obtain ⟨y_27, h_28, H⟩ := bind_some H
      obtain ⟨b_29, o_30, c_31, cs_32, hv_33, hr_34, hc_35, h_280, h_281⟩ := h0_0.ix h_28
      subst hr_34
      refine sl hK (by decide) rfl rfl (r_indexAddr_R Try.underlying22 Try.sizeOf34 hv_33 h_280 h_281 hK rfl rfl) fun a hK => ?_
      refine sl hK (by decide) rfl rfl (r_fieldAddr Try.underlying34 rfl Try.sizeOf9 hK rfl) fun a hK => ?_
      refine sl hK (by decide) rfl rfl (r_load Try.isAgg9 hK rfl ((hS.ra hRA nil_not).cell (hc_35 0 _ rfl))) fun a hK => ?_
      refine sl hK (by decide) rfl rfl (r_move hK rfl) fun a hK => ?_
      refine sl hK (by decide) rfl rfl (r_sbin hK rfl rfl rfl) fun a hK => ?_
      refine wpList_nil ?_
      refine wp_cond_split (hK.ev rfl) (fun (hb_36 : (y_27.Name.toList == a1.toList) = true) => ?_) (fun (hb_36 : (y_27.Name.toList == a1.toList) = false) => ?_)
      · rw [ifb_t hb_36] at H
        refine wp_seq ?_
        refine wp_region_lit ?_
        refine sl hK (by decide) rfl rfl (r_move hK rfl) fun a hK => ?_
        refine sl hK (by decide) rfl rfl (r_assign hK rfl) fun a hK => ?_
        refine wpList_nil ?_
        obtain rfl := Option.some.inj H
        refine wp_ret ?_
        repeat (first | refine ret_then ?_ | refine ret_block ?_ | refine ret_scope ?_)
        exact ret_1 Try.results16 hK (rv_tmp hK rfl) ⟨rfl, hS.bel⟩
      · rw [ifb_f hb_36] at H
        refine wp_skip ?_
        refine wp_region_lit ?_
        refine sl hK (by decide) rfl rfl (r_move hK rfl) fun a hK => ?_
        refine sl hK (by decide) rfl rfl (r_ibin hK rfl rfl rfl) fun a hK => ?_
        refine sl hK (by decide) rfl rfl (r_assign hK rfl) fun a hK => ?_
        refine wpList_nil ?_
        exact ⟨_, Nat.lt_succ_self _, (IntKind.i64.wrap (x_13 + 1)), H, hK.sub (all_cons rfl (all_cons rfl (all_cons rfl (all_nil)))), hS⟩
    · rw [ifb_f hb_26] at H
      refine wp_exit ?_
      refine wp_seq ?_
      refine wp_region_lit ?_
      refine sl hK (by decide) rfl rfl (r_assign hK rfl) fun a hK => ?_
      refine wpList_nil ?_
      obtain rfl := Option.some.inj H
      refine wp_ret ?_
      repeat (first | refine ret_then ?_ | refine ret_block ?_ | refine ret_scope ?_)
      exact ret_1 Try.results16 hK (rv_tmp hK rfl) ⟨rfl, hS.bel⟩

/-! ### catchment/catchmentref02.Cols: function 28 -/
set_option maxHeartbeats 4000000 in
set_option maxRecDepth 100000 in
theorem ref02_Cols.calls (a0 : List api_Col) {w0 : World} {RA : Hp} {v0_0 : Value} (hRA : RA.sub w0) (h0_0 : SlR ty_api_Col RA v0_0 a0) {r : Bool} (H : ref02_Cols a0 = some r) : CallsV Try.prog 28 #[v0_0] w0 (.bool r) := by
  unfold ref02_Cols at H
  refine enter (args := [v0_0]) Try.func28 rfl Try.ntmps28 rfl fun a hK => ?_
  have hS := St.init (R := fun _ => none) (w := w0) (fun _ _ h => by cases h)
  have hRL := RLe.refl (M := []) w0 (fun _ => none)
  refine wp_seq ?_
  refine wp_region_lit ?_
  refine sl hK (by decide) rfl rfl (r_assign hK rfl) fun a hK => ?_
  refine wpList_nil ?_
  refine wp_seq ?_
  refine wp_seq ?_
  refine wp_mid (fun a w => ∃ (x_2 : Bool), ref02_Cols.j0 a0 x_2 = some r ∧ Kn 52 a [(0, v0_0), (11, .bool x_2)] ∧ St [] w0 w (fun _ => none) []) ?_ ?_
  · refine wp_region_lit ?_
    refine sl hK (by decide) rfl rfl (r_move hK rfl) fun a hK => ?_
    refine sl hK (by decide) rfl rfl (r_len_R Try.underlying22 h0_0 hK rfl) fun a hK => ?_
    refine sl hK (by decide) rfl rfl (r_ibin hK rfl rfl rfl) fun a hK => ?_
    refine sl hK (by decide) rfl rfl (r_move hK rfl) fun a hK => ?_
    rcases or_b (decide ((a0.length : Int) < 1)) with hb_4 | hb_4
    · rw [ifb_t hb_4] at H
      refine sl_skip hK (by decide) (wft hb_4) rfl fun a hK => ?_
      refine sl_skip hK (by decide) (wft hb_4) rfl fun a hK => ?_
      refine sl_skip hK (by decide) (wft hb_4) rfl fun a hK => ?_
      refine sl hK (by decide) rfl rfl (r_pick_t hb_4 hK rfl rfl) fun a hK => ?_
      refine wpList_nil ?_
      exact ⟨true, H, hK.sub (all_cons rfl (all_cons rfl (all_nil))), hS⟩
    · rw [ifb_f hb_4] at H
      refine sl hK (by decide) (wff hb_4) rfl (r_move hK rfl) fun a hK => ?_
      refine sl hK (by decide) (wff hb_4) rfl (r_len_R Try.underlying22 h0_0 hK rfl) fun a hK => ?_
      refine sl hK (by decide) (wff hb_4) rfl (r_ibin hK rfl rfl rfl) fun a hK => ?_
      refine sl hK (by decide) rfl rfl (r_pick_f hb_4 hK rfl rfl) fun a hK => ?_
      refine wpList_nil ?_
      exact ⟨(decide ((a0.length : Int) > 16)), H, hK.sub (all_cons rfl (all_cons rfl (all_nil))), hS⟩
  · rintro a w ⟨x_2, H, hK, hS⟩
    unfold ref02_Cols.j0 at H
    refine wp_cond_split (hK.ev rfl) (fun (hb_5 : x_2 = true) => ?_) (fun (hb_5 : x_2 = false) => ?_)
    · rw [ifb_t hb_5] at H
      refine wp_seq ?_
      refine wp_region_lit ?_
      refine sl hK (by decide) rfl rfl (r_assign hK rfl) fun a hK => ?_
      refine wpList_nil ?_
      obtain rfl := Option.some.inj H
      refine wp_ret ?_
      repeat (first | refine ret_then ?_ | refine ret_block ?_ | refine ret_scope ?_)
      exact ret_1 Try.results28 hK (rv_tmp hK rfl) ⟨rfl, hS.bel⟩
    · rw [ifb_f hb_5] at H
      refine wp_skip ?_
      refine wp_seq ?_
      refine wp_seq ?_
      refine wp_region_lit ?_
      refine sl hK (by decide) rfl rfl (r_assign hK rfl) fun a hK => ?_
      refine wpList_nil ?_
      refine wp_block ?_
      refine wp_loop_k (fun k_l1 a w => ∃ (x_97 : Int), ref02_Cols.l1 a0 k_l1 x_97 = some r ∧ Kn 52 a [(0, v0_0), (3, .int .i64 x_97)] ∧ St [] w0 w (fun _ => none) []) (((a0.length : Int) - 0).toNat + 1) ?_ ?_
      · exact ⟨0, H, hK.sub (all_cons rfl (all_cons rfl (all_nil))), hS⟩
      · rintro k_l1 a w ⟨x_97, H, hK, hS⟩
        cases k_l1 with
        | zero => cases H
        | succ k_l1 =>
        rw [ref02_Cols.l1.eq_2] at H
        refine wp_seq ?_
        refine wp_seq ?_
        refine wp_region_lit ?_
        refine sl hK (by decide) rfl rfl (r_move hK rfl) fun a hK => ?_
        refine sl hK (by decide) rfl rfl (r_move hK rfl) fun a hK => ?_
        refine sl hK (by decide) rfl rfl (r_len_R Try.underlying22 h0_0 hK rfl) fun a hK => ?_
        refine sl hK (by decide) rfl rfl (r_ibin hK rfl rfl rfl) fun a hK => ?_
        refine wpList_nil ?_
        refine wp_cond_split (hK.ev rfl) (fun (hb_189 : (decide (x_97 < (a0.length : Int))) = true) => ?_) (fun (hb_189 : (decide (x_97 < (a0.length : Int))) = false) => ?_)
        · rw [ifb_t hb_189] at H
          refine wp_skip ?_
          refine wp_seq ?_
          refine wp_block ?_
          refine wp_seq ?_
          refine wp_mid (fun a w => ∃ (x_233 : Bool), ref02_Cols.j2 (ref02_Cols.l1 a0 k_l1) a0 x_97 x_233 = some r ∧ Kn 52 a [(0, v0_0), (3, .int .i64 x_97), (51, .bool x_233)] ∧ St [] w0 w (fun _ => none) []) ?_ ?_
          · refine wp_region_lit ?_
            refine sl hK (by decide) rfl rfl (r_move hK rfl) fun a hK => ?_
            refine sl hK (by decide) rfl rfl (r_move hK rfl) fun a hK => ?_
            obtain ⟨y_235, h_236, H⟩ := bind_some H
            obtain ⟨b_237, o_238, c_239, cs_240, hv_241, hr_242, hc_243, h_2360, h_2361⟩ := h0_0.ix h_236
            subst hr_242
            refine sl hK (by decide) rfl rfl (r_indexAddr_R Try.underlying22 Try.sizeOf34 hv_241 h_2360 h_2361 hK rfl rfl) fun a hK => ?_
            refine sl hK (by decide) rfl rfl (r_fieldAddr Try.underlying34 rfl Try.sizeOf9 hK rfl) fun a hK => ?_
            refine sl hK (by decide) rfl rfl (r_load Try.isAgg9 hK rfl ((hS.ra hRA nil_not).cell (hc_243 0 _ rfl))) fun a hK => ?_
            obtain ⟨y_244, h_245, H⟩ := bind_some H
            refine sl_callV Try.call43 hS hK (by decide) rfl rfl rfl (ref02_Name.calls y_235.Name h_245 _) fun a w hS hK => ?_
            refine sl hK (by decide) rfl rfl (r_un hK rfl (u_not _)) fun a hK => ?_
            refine sl hK (by decide) rfl rfl (r_move hK rfl) fun a hK => ?_
            rcases or_b (!y_244) with hb_246 | hb_246
            · rw [ifb_t hb_246] at H
              refine sl_skip hK (by decide) (wft hb_246) rfl fun a hK => ?_
              refine sl_skip hK (by decide) (wft hb_246) rfl fun a hK => ?_
              refine sl_skip hK (by decide) (wft hb_246) rfl fun a hK => ?_
              refine sl_skip hK (by decide) (wft hb_246) rfl fun a hK => ?_
              refine sl_skip hK (by decide) (wft hb_246) rfl fun a hK => ?_
              refine sl_skip hK (by decide) (wft hb_246) rfl fun a hK => ?_
              refine sl_skip hK (by decide) (wft hb_246) rfl fun a hK => ?_
              refine sl_skip hK (by decide) (wft hb_246) rfl fun a hK => ?_
              refine sl_skip hK (by decide) (wft hb_246) rfl fun a hK => ?_
              refine sl hK (by decide) rfl rfl (r_pick_t hb_246 hK rfl rfl) fun a hK => ?_
              refine sl hK (by decide) rfl rfl (r_move hK rfl) fun a hK => ?_
              refine sl_skip hK (by decide) rfl rfl fun a hK => ?_
              refine sl_skip hK (by decide) rfl rfl fun a hK => ?_
              refine sl_skip hK (by decide) rfl rfl fun a hK => ?_
              refine sl_skip hK (by decide) rfl rfl fun a hK => ?_
              refine sl_skip hK (by decide) rfl rfl fun a hK => ?_
              refine sl_skip hK (by decide) rfl rfl fun a hK => ?_
              refine sl hK (by decide) rfl rfl (r_pick hK rfl rfl rfl) fun a hK => ?_
              refine sl hK (by decide) rfl rfl (r_move hK rfl) fun a hK => ?_
              refine sl_skip hK (by decide) rfl rfl fun a hK => ?_
              refine sl_skip hK (by decide) rfl rfl fun a hK => ?_
              refine sl_skip hK (by decide) rfl rfl fun a hK => ?_
              refine sl_skip hK (by decide) rfl rfl fun a hK => ?_
              refine sl_skip hK (by decide) rfl rfl fun a hK => ?_
              refine sl_skip hK (by decide) rfl rfl fun a hK => ?_
              refine sl hK (by decide) rfl rfl (r_pick hK rfl rfl rfl) fun a hK => ?_
              refine wpList_nil ?_
              exact ⟨true, H, hK.sub (all_cons rfl (all_cons rfl (all_cons rfl (all_nil)))), hS⟩
            · rw [ifb_f hb_246] at H
              refine sl hK (by decide) (wff hb_246) rfl (r_move hK rfl) fun a hK => ?_
              refine sl hK (by decide) (wff hb_246) rfl (r_move hK rfl) fun a hK => ?_
              refine sl hK (by decide) (wff hb_246) rfl (r_move hK rfl) fun a hK => ?_
              obtain ⟨y_247, h_248, H⟩ := bind_some H
              obtain ⟨b_249, o_250, c_251, cs_252, hv_253, hr_254, hc_255, h_2480, h_2481⟩ := h0_0.ix h_248
              subst hr_254
              refine sl hK (by decide) (wff hb_246) rfl (r_indexAddr_R Try.underlying22 Try.sizeOf34 hv_253 h_2480 h_2481 hK rfl rfl) fun a hK => ?_
              refine sl hK (by decide) (wff hb_246) rfl (r_fieldAddr Try.underlying34 rfl Try.sizeOf9 hK rfl) fun a hK => ?_
              refine sl hK (by decide) (wff hb_246) rfl (r_load Try.isAgg9 hK rfl ((hS.ra hRA nil_not).cell (hc_255 0 _ rfl))) fun a hK => ?_
              obtain ⟨y_256, h_257, H⟩ := bind_some H
              refine sl_callV Try.call16 hS hK (by decide) (wff hb_246) rfl rfl (ref02_Find.calls a0 y_247.Name (lentOf_sub [] _) (h0_0.mono (hS.raLe0 hRA nil_not)) h_257) fun a w hS hK => ?_
              refine sl hK (by decide) (wff hb_246) rfl (r_move hK rfl) fun a hK => ?_
              refine sl hK (by decide) (wff hb_246) rfl (r_ibin hK rfl rfl rfl) fun a hK => ?_
              refine sl hK (by decide) rfl rfl (r_pick_f hb_246 hK rfl rfl) fun a hK => ?_
              refine sl hK (by decide) rfl rfl (r_move hK rfl) fun a hK => ?_
              rcases or_b (y_256 != x_97) with hb_258 | hb_258
              · rw [ifb_t hb_258] at H
                refine sl_skip hK (by decide) (wft hb_258) rfl fun a hK => ?_
                refine sl_skip hK (by decide) (wft hb_258) rfl fun a hK => ?_
                refine sl_skip hK (by decide) (wft hb_258) rfl fun a hK => ?_
                refine sl_skip hK (by decide) (wft hb_258) rfl fun a hK => ?_
                refine sl_skip hK (by decide) (wft hb_258) rfl fun a hK => ?_
                refine sl_skip hK (by decide) (wft hb_258) rfl fun a hK => ?_
                refine sl hK (by decide) rfl rfl (r_pick_t hb_258 hK rfl rfl) fun a hK => ?_
                refine sl hK (by decide) rfl rfl (r_move hK rfl) fun a hK => ?_
                refine sl_skip hK (by decide) rfl rfl fun a hK => ?_
                refine sl_skip hK (by decide) rfl rfl fun a hK => ?_
                refine sl_skip hK (by decide) rfl rfl fun a hK => ?_
                refine sl_skip hK (by decide) rfl rfl fun a hK => ?_
                refine sl_skip hK (by decide) rfl rfl fun a hK => ?_
                refine sl_skip hK (by decide) rfl rfl fun a hK => ?_
                refine sl hK (by decide) rfl rfl (r_pick hK rfl rfl rfl) fun a hK => ?_
                refine wpList_nil ?_
                exact ⟨true, H, hK.sub (all_cons rfl (all_cons rfl (all_cons rfl (all_nil)))), hS⟩
              · rw [ifb_f hb_258] at H
                refine sl hK (by decide) (wff hb_258) rfl (r_move hK rfl) fun a hK => ?_
                refine sl hK (by decide) (wff hb_258) rfl (r_move hK rfl) fun a hK => ?_
                obtain ⟨y_259, h_260, H⟩ := bind_some H
                obtain ⟨b_261, o_262, c_263, cs_264, hv_265, hr_266, hc_267, h_2600, h_2601⟩ := h0_0.ix h_260
                subst hr_266
                refine sl hK (by decide) (wff hb_258) rfl (r_indexAddr_R Try.underlying22 Try.sizeOf34 hv_265 h_2600 h_2601 hK rfl rfl) fun a hK => ?_
                refine sl hK (by decide) (wff hb_258) rfl (r_fieldAddr Try.underlying34 rfl Try.sizeOf3 hK rfl) fun a hK => ?_
                refine sl hK (by decide) (wff hb_258) rfl (r_load Try.isAgg3 hK rfl ((hS.ra hRA nil_not).cell (hc_267 1 _ rfl))) fun a hK => ?_
                refine sl hK (by decide) (wff hb_258) rfl (r_ibin hK rfl rfl rfl) fun a hK => ?_
                refine sl hK (by decide) rfl rfl (r_pick_f hb_258 hK rfl rfl) fun a hK => ?_
                refine sl hK (by decide) rfl rfl (r_move hK rfl) fun a hK => ?_
                rcases or_b (decide (y_259.Kind < 1)) with hb_268 | hb_268
                · rw [ifb_t hb_268] at H
                  refine sl_skip hK (by decide) (wft hb_268) rfl fun a hK => ?_
                  refine sl_skip hK (by decide) (wft hb_268) rfl fun a hK => ?_
                  refine sl_skip hK (by decide) (wft hb_268) rfl fun a hK => ?_
                  refine sl_skip hK (by decide) (wft hb_268) rfl fun a hK => ?_
                  refine sl_skip hK (by decide) (wft hb_268) rfl fun a hK => ?_
                  refine sl_skip hK (by decide) (wft hb_268) rfl fun a hK => ?_
                  refine sl hK (by decide) rfl rfl (r_pick_t hb_268 hK rfl rfl) fun a hK => ?_
                  refine wpList_nil ?_
                  exact ⟨true, H, hK.sub (all_cons rfl (all_cons rfl (all_cons rfl (all_nil)))), hS⟩
                · rw [ifb_f hb_268] at H
                  refine sl hK (by decide) (wff hb_268) rfl (r_move hK rfl) fun a hK => ?_
                  refine sl hK (by decide) (wff hb_268) rfl (r_move hK rfl) fun a hK => ?_
                  obtain ⟨y_269, h_270, H⟩ := bind_some H
                  obtain ⟨b_271, o_272, c_273, cs_274, hv_275, hr_276, hc_277, h_2700, h_2701⟩ := h0_0.ix h_270
                  subst hr_276
                  refine sl hK (by decide) (wff hb_268) rfl (r_indexAddr_R Try.underlying22 Try.sizeOf34 hv_275 h_2700 h_2701 hK rfl rfl) fun a hK => ?_
                  refine sl hK (by decide) (wff hb_268) rfl (r_fieldAddr Try.underlying34 rfl Try.sizeOf3 hK rfl) fun a hK => ?_
                  refine sl hK (by decide) (wff hb_268) rfl (r_load Try.isAgg3 hK rfl ((hS.ra hRA nil_not).cell (hc_277 1 _ rfl))) fun a hK => ?_
                  refine sl hK (by decide) (wff hb_268) rfl (r_ibin hK rfl rfl rfl) fun a hK => ?_
                  refine sl hK (by decide) rfl rfl (r_pick_f hb_268 hK rfl rfl) fun a hK => ?_
                  refine wpList_nil ?_
                  exact ⟨(decide (y_269.Kind > 4)), H, hK.sub (all_cons rfl (all_cons rfl (all_cons rfl (all_nil)))), hS⟩
          · rintro a w ⟨x_233, H, hK, hS⟩
            unfold ref02_Cols.j2 at H
            refine wp_cond_split (hK.ev rfl) (fun (hb_278 : x_233 = true) => ?_) (fun (hb_278 : x_233 = false) => ?_)
            · rw [ifb_t hb_278] at H
              refine wp_seq ?_
              refine wp_region_lit ?_
              refine sl hK (by decide) rfl rfl (r_assign hK rfl) fun a hK => ?_
              refine wpList_nil ?_
              obtain rfl := Option.some.inj H
              refine wp_ret ?_
              repeat (first | refine ret_then ?_ | refine ret_block ?_ | refine ret_scope ?_)
              exact ret_1 Try.results28 hK (rv_tmp hK rfl) ⟨rfl, hS.bel⟩
            · rw [ifb_f hb_278] at H
              refine wp_skip ?_
              refine wp_region_lit ?_
              refine sl hK (by decide) rfl rfl (r_move hK rfl) fun a hK => ?_
              refine sl hK (by decide) rfl rfl (r_ibin hK rfl rfl rfl) fun a hK => ?_
              refine sl hK (by decide) rfl rfl (r_assign hK rfl) fun a hK => ?_
              refine wpList_nil ?_
              exact ⟨_, Nat.lt_succ_self _, (IntKind.i64.wrap (x_97 + 1)), H, hK.sub (all_cons rfl (all_cons rfl (all_nil))), hS⟩
        · rw [ifb_f hb_189] at H
          refine wp_exit ?_
          refine wp_seq ?_
          refine wp_region_lit ?_
          refine sl hK (by decide) rfl rfl (r_assign hK rfl) fun a hK => ?_
          refine wpList_nil ?_
          obtain rfl := Option.some.inj H
          refine wp_ret ?_
          repeat (first | refine ret_then ?_ | refine ret_block ?_ | refine ret_scope ?_)
          exact ret_1 Try.results28 hK (rv_tmp hK rfl) ⟨rfl, hS.bel⟩

/-! ### catchment/catchmentref01.Valid: function 29 -/
set_option maxHeartbeats 4000000 in
set_option maxRecDepth 100000 in
theorem ref01_Valid.calls (a0 : api_Value) {r : Bool} (H : ref01_Valid a0 = some r) (w0 : World) : CallsV Try.prog 29 #[.agg #[.int .i64 a0.Kind, .int .i64 a0.N, .string a0.S, .int .i64 a0.H.a0, .int .i64 a0.H.a1, .int .i64 a0.H.a2, .int .i64 a0.H.a3, .int .i64 a0.H.a4, .int .i64 a0.H.a5, .int .i64 a0.H.a6, .int .i64 a0.H.a7]] w0 (.bool r) := by
  unfold ref01_Valid at H
  refine enter (args := [.agg #[.int .i64 a0.Kind, .int .i64 a0.N, .string a0.S, .int .i64 a0.H.a0, .int .i64 a0.H.a1, .int .i64 a0.H.a2, .int .i64 a0.H.a3, .int .i64 a0.H.a4, .int .i64 a0.H.a5, .int .i64 a0.H.a6, .int .i64 a0.H.a7]]) Try.func29 rfl Try.ntmps29 rfl fun a hK => ?_
  have hS := St.init (R := fun _ => none) (w := w0) (fun _ _ h => by cases h)
  have hRL := RLe.refl (M := []) w0 (fun _ => none)
  refine wp_seq ?_
  refine wp_region_lit ?_
  refine sl_box hS hK (by decide) rfl rfl (c := [.int .i64 a0.Kind, .int .i64 a0.N, .string a0.S, .int .i64 a0.H.a0, .int .i64 a0.H.a1, .int .i64 a0.H.a2, .int .i64 a0.H.a3, .int .i64 a0.H.a4, .int .i64 a0.H.a5, .int .i64 a0.H.a6, .int .i64 a0.H.a7]) rfl fun a w b_1 hS hK => ?_
  refine sl hK (by decide) rfl rfl (r_assign hK rfl) fun a hK => ?_
  refine wpList_nil ?_
  refine wp_seq ?_
  refine wp_region_lit ?_
  refine sl hK (by decide) rfl rfl (r_fieldAddr Try.underlying46 rfl Try.sizeOf44 hK rfl) fun a hK => ?_
  refine sl hK (by decide) rfl rfl (r_loadA (cs := [.int .i64 a0.H.a0, .int .i64 a0.H.a1, .int .i64 a0.H.a2, .int .i64 a0.H.a3, .int .i64 a0.H.a4, .int .i64 a0.H.a5, .int .i64 a0.H.a6, .int .i64 a0.H.a7]) Try.isAgg44 Try.sizeOf44 rfl hK rfl (hS.cells_of (m := 8) (.head _) rfl)) fun a hK => ?_
  refine sl hK (by decide) rfl rfl (r_buildAC (ps := []) (c := [.int .i64 0, .int .i64 0, .int .i64 0, .int .i64 0, .int .i64 0, .int .i64 0, .int .i64 0, .int .i64 0]) Try.underlying44 Try.zeroValue44 Try.sizeOf3 hK rfl pc_nil rfl rfl) fun a hK => ?_
  refine sl hK (by decide) rfl rfl (r_seq (by kernel_rfl) (eqs44 a0.H (⟨0, 0, 0, 0, 0, 0, 0, 0⟩ : Arr8)) hK rfl rfl) fun a hK => ?_
  refine sl hK (by decide) rfl rfl (r_assign hK rfl) fun a hK => ?_
  refine wpList_nil ?_
  refine wp_seq ?_
  refine wp_seq ?_
  refine wp_region_lit ?_
  refine sl hK (by decide) rfl rfl (r_fieldAddr Try.underlying46 rfl Try.sizeOf3 hK rfl) fun a hK => ?_
  refine sl hK (by decide) rfl rfl (r_load Try.isAgg3 hK rfl (hS.cell (.head _) rfl)) fun a hK => ?_
  refine wpList_nil ?_
  refine wp_block ?_
  refine wp_seq ?_
  refine wp_region_lit ?_
  refine sl hK (by decide) rfl rfl (r_ibin hK rfl rfl rfl) fun a hK => ?_
  refine sl hK (by decide) rfl rfl (r_assign hK rfl) fun a hK => ?_
  refine wpList_nil ?_
  refine wp_cond_split (hK.ev rfl) (fun (hb_2 : (a0.Kind == 1) = true) => ?_) (fun (hb_2 : (a0.Kind == 1) = false) => ?_)
  · rw [ifb_t hb_2] at H
    refine wp_seq ?_
    refine wp_region_lit ?_
    refine sl hK (by decide) rfl rfl (r_fieldAddr Try.underlying46 rfl Try.sizeOf9 hK rfl) fun a hK => ?_
    refine sl hK (by decide) rfl rfl (r_load Try.isAgg9 hK rfl (hS.cell (.head _) rfl)) fun a hK => ?_
    refine sl hK (by decide) rfl rfl (r_sbin hK rfl rfl rfl) fun a hK => ?_
    refine sl hK (by decide) rfl rfl (r_move hK rfl) fun a hK => ?_
    rcases or_b (a0.S.toList == (⟨#[]⟩ : ByteArray).toList) with hb_3 | hb_3
    · rw [ifb_t hb_3] at H
      refine sl hK (by decide) (wtt hb_3) rfl (r_move hK rfl) fun a hK => ?_
      refine sl hK (by decide) rfl rfl (r_pick_t hb_3 hK rfl rfl) fun a hK => ?_
      refine sl hK (by decide) rfl rfl (r_assign hK rfl) fun a hK => ?_
      refine wpList_nil ?_
      obtain rfl := Option.some.inj H
      refine wp_ret ?_
      repeat (first | refine ret_then ?_ | refine ret_block ?_ | refine ret_scope ?_)
      exact ret_1 Try.results29 hK (rv_tmp hK rfl) ⟨rfl, hS.bel⟩
    · rw [ifb_f hb_3] at H
      refine sl_skip hK (by decide) (wtf hb_3) rfl fun a hK => ?_
      refine sl hK (by decide) rfl rfl (r_pick_f hb_3 hK rfl rfl) fun a hK => ?_
      refine sl hK (by decide) rfl rfl (r_assign hK rfl) fun a hK => ?_
      refine wpList_nil ?_
      obtain rfl := Option.some.inj H
      refine wp_ret ?_
      repeat (first | refine ret_then ?_ | refine ret_block ?_ | refine ret_scope ?_)
      exact ret_1 Try.results29 hK (rv_tmp hK rfl) ⟨rfl, hS.bel⟩
  · rw [ifb_f hb_2] at H
    refine wp_seq ?_
    refine wp_region_lit ?_
    refine sl hK (by decide) rfl rfl (r_ibin hK rfl rfl rfl) fun a hK => ?_
    refine sl hK (by decide) rfl rfl (r_assign hK rfl) fun a hK => ?_
    refine wpList_nil ?_
    refine wp_cond_split (hK.ev rfl) (fun (hb_4 : (a0.Kind == 2) = true) => ?_) (fun (hb_4 : (a0.Kind == 2) = false) => ?_)
    · rw [ifb_t hb_4] at H
      refine wp_seq ?_
      refine wp_region_lit ?_
      refine sl hK (by decide) rfl rfl (r_fieldAddr Try.underlying46 rfl Try.sizeOf3 hK rfl) fun a hK => ?_
      refine sl hK (by decide) rfl rfl (r_load Try.isAgg3 hK rfl (hS.cell (.head _) rfl)) fun a hK => ?_
      refine sl hK (by decide) rfl rfl (r_ibin hK rfl rfl rfl) fun a hK => ?_
      refine sl hK (by decide) rfl rfl (r_move hK rfl) fun a hK => ?_
      rcases or_b (a0.N == 0) with hb_5 | hb_5
      · rw [ifb_t hb_5] at H
        refine sl hK (by decide) (wtt hb_5) rfl (r_move hK rfl) fun a hK => ?_
        refine sl hK (by decide) rfl rfl (r_pick_t hb_5 hK rfl rfl) fun a hK => ?_
        refine sl hK (by decide) rfl rfl (r_move hK rfl) fun a hK => ?_
        rcases or_b (decide (a0.H = (⟨0, 0, 0, 0, 0, 0, 0, 0⟩ : Arr8))) with hb_6 | hb_6
        · rw [ifb_t hb_6] at H
          refine sl hK (by decide) (wtt hb_6) rfl (r_fieldAddr Try.underlying46 rfl Try.sizeOf9 hK rfl) fun a hK => ?_
          refine sl hK (by decide) (wtt hb_6) rfl (r_load Try.isAgg9 hK rfl (hS.cell (.head _) rfl)) fun a hK => ?_
          refine sl hK (by decide) (wtt hb_6) rfl (r_len_str Try.underlying9 hK rfl) fun a hK => ?_
          refine sl hK (by decide) (wtt hb_6) rfl (r_ibin hK rfl rfl rfl) fun a hK => ?_
          refine sl hK (by decide) rfl rfl (r_pick_t hb_6 hK rfl rfl) fun a hK => ?_
          refine sl hK (by decide) rfl rfl (r_assign hK rfl) fun a hK => ?_
          refine wpList_nil ?_
          obtain rfl := Option.some.inj H
          refine wp_ret ?_
          repeat (first | refine ret_then ?_ | refine ret_block ?_ | refine ret_scope ?_)
          exact ret_1 Try.results29 hK (rv_tmp hK rfl) ⟨rfl, hS.bel⟩
        · rw [ifb_f hb_6] at H
          refine sl_skip hK (by decide) (wtf hb_6) rfl fun a hK => ?_
          refine sl_skip hK (by decide) (wtf hb_6) rfl fun a hK => ?_
          refine sl_skip hK (by decide) (wtf hb_6) rfl fun a hK => ?_
          refine sl_skip hK (by decide) (wtf hb_6) rfl fun a hK => ?_
          refine sl hK (by decide) rfl rfl (r_pick_f hb_6 hK rfl rfl) fun a hK => ?_
          refine sl hK (by decide) rfl rfl (r_assign hK rfl) fun a hK => ?_
          refine wpList_nil ?_
          obtain rfl := Option.some.inj H
          refine wp_ret ?_
          repeat (first | refine ret_then ?_ | refine ret_block ?_ | refine ret_scope ?_)
          exact ret_1 Try.results29 hK (rv_tmp hK rfl) ⟨rfl, hS.bel⟩
      · rw [ifb_f hb_5] at H
        refine sl_skip hK (by decide) (wtf hb_5) rfl fun a hK => ?_
        refine sl hK (by decide) rfl rfl (r_pick_f hb_5 hK rfl rfl) fun a hK => ?_
        refine sl hK (by decide) rfl rfl (r_move hK rfl) fun a hK => ?_
        refine sl_skip hK (by decide) rfl rfl fun a hK => ?_
        refine sl_skip hK (by decide) rfl rfl fun a hK => ?_
        refine sl_skip hK (by decide) rfl rfl fun a hK => ?_
        refine sl_skip hK (by decide) rfl rfl fun a hK => ?_
        refine sl hK (by decide) rfl rfl (r_pick hK rfl rfl rfl) fun a hK => ?_
        refine sl hK (by decide) rfl rfl (r_assign hK rfl) fun a hK => ?_
        refine wpList_nil ?_
        obtain rfl := Option.some.inj H
        refine wp_ret ?_
        repeat (first | refine ret_then ?_ | refine ret_block ?_ | refine ret_scope ?_)
        exact ret_1 Try.results29 hK (rv_tmp hK rfl) ⟨rfl, hS.bel⟩
    · rw [ifb_f hb_4] at H
      refine wp_seq ?_
      refine wp_region_lit ?_
      refine sl hK (by decide) rfl rfl (r_ibin hK rfl rfl rfl) fun a hK => ?_
      refine sl hK (by decide) rfl rfl (r_assign hK rfl) fun a hK => ?_
      refine wpList_nil ?_
      refine wp_cond_split (hK.ev rfl) (fun (hb_7 : (a0.Kind == 3) = true) => ?_) (fun (hb_7 : (a0.Kind == 3) = false) => ?_)
      · rw [ifb_t hb_7] at H
        refine wp_seq ?_
        refine wp_region_lit ?_
        refine sl hK (by decide) rfl rfl (r_fieldAddr Try.underlying46 rfl Try.sizeOf3 hK rfl) fun a hK => ?_
        refine sl hK (by decide) rfl rfl (r_load Try.isAgg3 hK rfl (hS.cell (.head _) rfl)) fun a hK => ?_
        refine sl hK (by decide) rfl rfl (r_ibin hK rfl rfl rfl) fun a hK => ?_
        refine sl hK (by decide) rfl rfl (r_move hK rfl) fun a hK => ?_
        rcases or_b (a0.N == 0) with hb_8 | hb_8
        · rw [ifb_t hb_8] at H
          refine sl_skip hK (by decide) (wft hb_8) rfl fun a hK => ?_
          refine sl_skip hK (by decide) (wft hb_8) rfl fun a hK => ?_
          refine sl_skip hK (by decide) (wft hb_8) rfl fun a hK => ?_
          refine sl hK (by decide) rfl rfl (r_pick_t hb_8 hK rfl rfl) fun a hK => ?_
          refine sl hK (by decide) rfl rfl (r_move hK rfl) fun a hK => ?_
          refine sl hK (by decide) rfl rfl (r_fieldAddr Try.underlying46 rfl Try.sizeOf9 hK rfl) fun a hK => ?_
          refine sl hK (by decide) rfl rfl (r_load Try.isAgg9 hK rfl (hS.cell (.head _) rfl)) fun a hK => ?_
          refine sl hK (by decide) rfl rfl (r_sbin hK rfl rfl rfl) fun a hK => ?_
          refine sl hK (by decide) rfl rfl (r_pick hK rfl rfl rfl) fun a hK => ?_
          refine sl hK (by decide) rfl rfl (r_move hK rfl) fun a hK => ?_
          rcases or_b (a0.S.toList == (⟨#[]⟩ : ByteArray).toList) with hb_9 | hb_9
          · rw [ifb_t hb_9] at H
            refine sl hK (by decide) (wtt hb_9) rfl (r_move hK rfl) fun a hK => ?_
            refine sl hK (by decide) rfl rfl (r_pick_t hb_9 hK rfl rfl) fun a hK => ?_
            refine sl hK (by decide) rfl rfl (r_assign hK rfl) fun a hK => ?_
            refine wpList_nil ?_
            obtain rfl := Option.some.inj H
            refine wp_ret ?_
            repeat (first | refine ret_then ?_ | refine ret_block ?_ | refine ret_scope ?_)
            exact ret_1 Try.results29 hK (rv_tmp hK rfl) ⟨rfl, hS.bel⟩
          · rw [ifb_f hb_9] at H
            refine sl_skip hK (by decide) (wtf hb_9) rfl fun a hK => ?_
            refine sl hK (by decide) rfl rfl (r_pick_f hb_9 hK rfl rfl) fun a hK => ?_
            refine sl hK (by decide) rfl rfl (r_assign hK rfl) fun a hK => ?_
            refine wpList_nil ?_
            obtain rfl := Option.some.inj H
            refine wp_ret ?_
            repeat (first | refine ret_then ?_ | refine ret_block ?_ | refine ret_scope ?_)
            exact ret_1 Try.results29 hK (rv_tmp hK rfl) ⟨rfl, hS.bel⟩
        · rw [ifb_f hb_8] at H
          refine sl hK (by decide) (wff hb_8) rfl (r_fieldAddr Try.underlying46 rfl Try.sizeOf3 hK rfl) fun a hK => ?_
          refine sl hK (by decide) (wff hb_8) rfl (r_load Try.isAgg3 hK rfl (hS.cell (.head _) rfl)) fun a hK => ?_
          refine sl hK (by decide) (wff hb_8) rfl (r_ibin hK rfl rfl rfl) fun a hK => ?_
          refine sl hK (by decide) rfl rfl (r_pick_f hb_8 hK rfl rfl) fun a hK => ?_
          refine sl hK (by decide) rfl rfl (r_move hK rfl) fun a hK => ?_
          rcases or_b (a0.N == 1) with hb_10 | hb_10
          · rw [ifb_t hb_10] at H
            refine sl hK (by decide) (wtt hb_10) rfl (r_fieldAddr Try.underlying46 rfl Try.sizeOf9 hK rfl) fun a hK => ?_
            refine sl hK (by decide) (wtt hb_10) rfl (r_load Try.isAgg9 hK rfl (hS.cell (.head _) rfl)) fun a hK => ?_
            refine sl hK (by decide) (wtt hb_10) rfl (r_sbin hK rfl rfl rfl) fun a hK => ?_
            refine sl hK (by decide) rfl rfl (r_pick_t hb_10 hK rfl rfl) fun a hK => ?_
            refine sl hK (by decide) rfl rfl (r_move hK rfl) fun a hK => ?_
            rcases or_b (a0.S.toList == (⟨#[]⟩ : ByteArray).toList) with hb_11 | hb_11
            · rw [ifb_t hb_11] at H
              refine sl hK (by decide) (wtt hb_11) rfl (r_move hK rfl) fun a hK => ?_
              refine sl hK (by decide) rfl rfl (r_pick_t hb_11 hK rfl rfl) fun a hK => ?_
              refine sl hK (by decide) rfl rfl (r_assign hK rfl) fun a hK => ?_
              refine wpList_nil ?_
              obtain rfl := Option.some.inj H
              refine wp_ret ?_
              repeat (first | refine ret_then ?_ | refine ret_block ?_ | refine ret_scope ?_)
              exact ret_1 Try.results29 hK (rv_tmp hK rfl) ⟨rfl, hS.bel⟩
            · rw [ifb_f hb_11] at H
              refine sl_skip hK (by decide) (wtf hb_11) rfl fun a hK => ?_
              refine sl hK (by decide) rfl rfl (r_pick_f hb_11 hK rfl rfl) fun a hK => ?_
              refine sl hK (by decide) rfl rfl (r_assign hK rfl) fun a hK => ?_
              refine wpList_nil ?_
              obtain rfl := Option.some.inj H
              refine wp_ret ?_
              repeat (first | refine ret_then ?_ | refine ret_block ?_ | refine ret_scope ?_)
              exact ret_1 Try.results29 hK (rv_tmp hK rfl) ⟨rfl, hS.bel⟩
          · rw [ifb_f hb_10] at H
            refine sl_skip hK (by decide) (wtf hb_10) rfl fun a hK => ?_
            refine sl_skip hK (by decide) (wtf hb_10) rfl fun a hK => ?_
            refine sl_skip hK (by decide) (wtf hb_10) rfl fun a hK => ?_
            refine sl hK (by decide) rfl rfl (r_pick_f hb_10 hK rfl rfl) fun a hK => ?_
            refine sl hK (by decide) rfl rfl (r_move hK rfl) fun a hK => ?_
            refine sl_skip hK (by decide) rfl rfl fun a hK => ?_
            refine sl hK (by decide) rfl rfl (r_pick hK rfl rfl rfl) fun a hK => ?_
            refine sl hK (by decide) rfl rfl (r_assign hK rfl) fun a hK => ?_
            refine wpList_nil ?_
            obtain rfl := Option.some.inj H
            refine wp_ret ?_
            repeat (first | refine ret_then ?_ | refine ret_block ?_ | refine ret_scope ?_)
            exact ret_1 Try.results29 hK (rv_tmp hK rfl) ⟨rfl, hS.bel⟩
      · rw [ifb_f hb_7] at H
        refine wp_seq ?_
        refine wp_region_lit ?_
        refine sl hK (by decide) rfl rfl (r_ibin hK rfl rfl rfl) fun a hK => ?_
        refine sl hK (by decide) rfl rfl (r_assign hK rfl) fun a hK => ?_
        refine wpList_nil ?_
        refine wp_cond_split (hK.ev rfl) (fun (hb_12 : (a0.Kind == 4) = true) => ?_) (fun (hb_12 : (a0.Kind == 4) = false) => ?_)
        · rw [ifb_t hb_12] at H
          refine wp_seq ?_
          refine wp_region_lit ?_
          refine sl hK (by decide) rfl rfl (r_fieldAddr Try.underlying46 rfl Try.sizeOf3 hK rfl) fun a hK => ?_
          refine sl hK (by decide) rfl rfl (r_load Try.isAgg3 hK rfl (hS.cell (.head _) rfl)) fun a hK => ?_
          refine sl hK (by decide) rfl rfl (r_ibin hK rfl rfl rfl) fun a hK => ?_
          refine sl hK (by decide) rfl rfl (r_move hK rfl) fun a hK => ?_
          rcases or_b (a0.N == 0) with hb_13 | hb_13
          · rw [ifb_t hb_13] at H
            refine sl hK (by decide) (wtt hb_13) rfl (r_fieldAddr Try.underlying46 rfl Try.sizeOf9 hK rfl) fun a hK => ?_
            refine sl hK (by decide) (wtt hb_13) rfl (r_load Try.isAgg9 hK rfl (hS.cell (.head _) rfl)) fun a hK => ?_
            refine sl hK (by decide) (wtt hb_13) rfl (r_sbin hK rfl rfl rfl) fun a hK => ?_
            refine sl hK (by decide) rfl rfl (r_pick_t hb_13 hK rfl rfl) fun a hK => ?_
            refine sl hK (by decide) rfl rfl (r_assign hK rfl) fun a hK => ?_
            refine wpList_nil ?_
            obtain rfl := Option.some.inj H
            refine wp_ret ?_
            repeat (first | refine ret_then ?_ | refine ret_block ?_ | refine ret_scope ?_)
            exact ret_1 Try.results29 hK (rv_tmp hK rfl) ⟨rfl, hS.bel⟩
          · rw [ifb_f hb_13] at H
            refine sl_skip hK (by decide) (wtf hb_13) rfl fun a hK => ?_
            refine sl_skip hK (by decide) (wtf hb_13) rfl fun a hK => ?_
            refine sl_skip hK (by decide) (wtf hb_13) rfl fun a hK => ?_
            refine sl hK (by decide) rfl rfl (r_pick_f hb_13 hK rfl rfl) fun a hK => ?_
            refine sl hK (by decide) rfl rfl (r_assign hK rfl) fun a hK => ?_
            refine wpList_nil ?_
            obtain rfl := Option.some.inj H
            refine wp_ret ?_
            repeat (first | refine ret_then ?_ | refine ret_block ?_ | refine ret_scope ?_)
            exact ret_1 Try.results29 hK (rv_tmp hK rfl) ⟨rfl, hS.bel⟩
        · rw [ifb_f hb_12] at H
          refine wp_skip ?_
          refine wp_seq ?_
          refine wp_region_lit ?_
          refine sl hK (by decide) rfl rfl (r_assign hK rfl) fun a hK => ?_
          refine wpList_nil ?_
          obtain rfl := Option.some.inj H
          refine wp_ret ?_
          repeat (first | refine ret_then ?_ | refine ret_block ?_ | refine ret_scope ?_)
          exact ret_1 Try.results29 hK (rv_tmp hK rfl) ⟨rfl, hS.bel⟩

/-! ### catchment/catchmentref02.Check: function 10 -/
set_option maxHeartbeats 4000000 in
set_option maxRecDepth 100000 in
theorem ref02_Check.calls (a0 : api_Table) {w0 : World} {RA : Hp} {v0_0 : Value} {v0_1 : Value} (hRA : RA.sub w0) (h0_0 : SlR ty_api_Col RA v0_0 a0.Cols) (h0_1 : SlR (tySl ty_api_Value) RA v0_1 a0.Rows) {r : Int} (H : ref02_Check a0 = some r) : CallsV Try.prog 10 #[.agg #[v0_0, v0_1]] w0 (.int .i64 r) := by
  unfold ref02_Check at H
  refine enter (args := [.agg #[v0_0, v0_1]]) Try.func10 rfl Try.ntmps10 rfl fun a hK => ?_
  have hS := St.init (R := fun _ => none) (w := w0) (fun _ _ h => by cases h)
  have hRL := RLe.refl (M := []) w0 (fun _ => none)
  refine wp_seq ?_
  refine wp_region_lit ?_
  refine sl_box hS hK (by decide) rfl rfl (c := [v0_0, v0_1]) rfl fun a w b_1 hS hK => ?_
  refine sl hK (by decide) rfl rfl (r_assign hK rfl) fun a hK => ?_
  refine wpList_nil ?_
  refine wp_seq ?_
  refine wp_seq ?_
  refine wp_region_lit ?_
  refine sl hK (by decide) rfl rfl (r_fieldAddr Try.underlying25 rfl Try.sizeOf22 hK rfl) fun a hK => ?_
  refine sl hK (by decide) rfl rfl (r_load Try.isAgg22 hK rfl (hS.cell (.head _) rfl)) fun a hK => ?_
  obtain ⟨y_2, h_3, H⟩ := bind_some H
  refine sl_callV Try.call28 hS hK (by decide) rfl rfl rfl (ref02_Cols.calls a0.Cols (lentOf_sub [] _) (h0_0.mono (hS.raLe0 hRA nil_not)) h_3) fun a w hS hK => ?_
  refine sl hK (by decide) rfl rfl (r_un hK rfl (u_not _)) fun a hK => ?_
  refine wpList_nil ?_
  refine wp_cond_split (hK.ev rfl) (fun (hb_4 : (!y_2) = true) => ?_) (fun (hb_4 : (!y_2) = false) => ?_)
  · rw [ifb_t hb_4] at H
    refine wp_seq ?_
    refine wp_region_lit ?_
    refine sl hK (by decide) rfl rfl (r_assign hK rfl) fun a hK => ?_
    refine wpList_nil ?_
    obtain rfl := Option.some.inj H
    refine wp_ret ?_
    repeat (first | refine ret_then ?_ | refine ret_block ?_ | refine ret_scope ?_)
    exact ret_1 Try.results10 hK (rv_tmp hK rfl) ⟨rfl, hS.bel⟩
  · rw [ifb_f hb_4] at H
    refine wp_skip ?_
    refine wp_seq ?_
    refine wp_seq ?_
    refine wp_region_lit ?_
    refine sl hK (by decide) rfl rfl (r_assign hK rfl) fun a hK => ?_
    refine wpList_nil ?_
    refine wp_block ?_
    refine wp_loop_k (fun k_l0 a w => ∃ (x_669 : Int), ref02_Check.l0 a0 k_l0 x_669 = some r ∧ Kn 61 a [(1, .pointer (some ⟨b_1, 0, none⟩)), (3, .int .i64 x_669)] ∧ St [] w0 w (fun _ => none) [.cells b_1 [v0_0, v0_1] 25]) (((a0.Rows.length : Int) - 0).toNat + 1) ?_ ?_
    · exact ⟨0, H, hK.sub (all_cons rfl (all_cons rfl (all_nil))), hS⟩
    · rintro k_l0 a w ⟨x_669, H, hK, hS⟩
      cases k_l0 with
      | zero => cases H
      | succ k_l0 =>
      rw [ref02_Check.l0.eq_2] at H
      refine wp_seq ?_
      refine wp_seq ?_
      refine wp_region_lit ?_
      refine sl hK (by decide) rfl rfl (r_move hK rfl) fun a hK => ?_
      refine sl hK (by decide) rfl rfl (r_fieldAddr Try.underlying25 rfl Try.sizeOf23 hK rfl) fun a hK => ?_
      refine sl hK (by decide) rfl rfl (r_load Try.isAgg23 hK rfl (hS.cell (.head _) rfl)) fun a hK => ?_
      refine sl hK (by decide) rfl rfl (r_len_R Try.underlying23 h0_1 hK rfl) fun a hK => ?_
      refine sl hK (by decide) rfl rfl (r_ibin hK rfl rfl rfl) fun a hK => ?_
      refine wpList_nil ?_
      refine wp_cond_split (hK.ev rfl) (fun (hb_1334 : (decide (x_669 < (a0.Rows.length : Int))) = true) => ?_) (fun (hb_1334 : (decide (x_669 < (a0.Rows.length : Int))) = false) => ?_)
      · rw [ifb_t hb_1334] at H
        refine wp_skip ?_
        refine wp_seq ?_
        refine wp_block ?_
        refine wp_seq ?_
        refine wp_seq ?_
        refine par_region (C := fun w => St [] w0 w (fun _ => none) [.cells b_1 [v0_0, v0_1] 25]) [(0, true), (1, true), (2, true), (3, true), (4, true), (5, true), (6, true), (7, true), (8, true), (9, true)] mixed (by kernel_rfl) hS (fun w hS => hS) fun w hS => ?_
        refine sp (k := 0) rfl hK (by decide) rfl rfl (fun w hS => r_fieldAddr Try.underlying25 rfl Try.sizeOf23 hK rfl) fun a hK => ?_
        refine sp (k := 1) rfl hK (by decide) rfl rfl (fun w hS => r_load Try.isAgg23 hK rfl (hS.cell (.head _) rfl)) fun a hK => ?_
        refine sp (k := 2) rfl hK (by decide) rfl rfl (fun w hS => r_move hK rfl) fun a hK => ?_
        obtain ⟨y_1346, h_1347, H⟩ := bind_some H
        obtain ⟨b_1348, o_1349, c_1350, cs_1351, hv_1352, hr_1353, hc_1354, h_13470, h_13471⟩ := h0_1.ix h_1347
        obtain ⟨v_1355, rfl, hs_1356⟩ := hr_1353
        refine sp (k := 3) rfl hK (by decide) rfl rfl (fun w hS => r_indexAddr_R Try.underlying23 Try.sizeOf40 hv_1352 h_13470 h_13471 hK rfl rfl) fun a hK => ?_
        refine sp (k := 4) rfl hK (by decide) rfl rfl (fun w hS => r_load Try.isAgg40 hK rfl ((hS.ra hRA nil_not).cell (hc_1354 0 _ rfl))) fun a hK => ?_
        refine sp (k := 5) rfl hK (by decide) rfl rfl (fun w hS => r_len_R Try.underlying40 hs_1356 hK rfl) fun a hK => ?_
        refine sp (k := 6) rfl hK (by decide) rfl rfl (fun w hS => r_fieldAddr Try.underlying25 rfl Try.sizeOf22 hK rfl) fun a hK => ?_
        refine sp (k := 7) rfl hK (by decide) rfl rfl (fun w hS => r_load Try.isAgg22 hK rfl (hS.cell (.head _) rfl)) fun a hK => ?_
        refine sp (k := 8) rfl hK (by decide) rfl rfl (fun w hS => r_len_R Try.underlying22 h0_0 hK rfl) fun a hK => ?_
        refine sp (k := 9) rfl hK (by decide) rfl rfl (fun w hS => r_ibin hK rfl rfl rfl) fun a hK => ?_
        refine wpPar_nil (NoP_nil ?_)
        refine wp_cond_split (hK.ev rfl) (fun (hb_1357 : ((y_1346.length : Int) != (a0.Cols.length : Int)) = true) => ?_) (fun (hb_1357 : ((y_1346.length : Int) != (a0.Cols.length : Int)) = false) => ?_)
        · rw [ifb_t hb_1357] at H
          refine wp_seq ?_
          refine wp_region_lit ?_
          refine sl hK (by decide) rfl rfl (r_assign hK rfl) fun a hK => ?_
          refine wpList_nil ?_
          obtain rfl := Option.some.inj H
          refine wp_ret ?_
          repeat (first | refine ret_then ?_ | refine ret_block ?_ | refine ret_scope ?_)
          exact ret_1 Try.results10 hK (rv_tmp hK rfl) ⟨rfl, hS.bel⟩
        · rw [ifb_f hb_1357] at H
          refine wp_skip ?_
          refine wp_seq ?_
          refine wp_region_lit ?_
          refine sl hK (by decide) rfl rfl (r_assign hK rfl) fun a hK => ?_
          refine wpList_nil ?_
          refine wp_block ?_
          refine wp_loop_k (fun k_l1 a w => ∃ (x_1571 : Int), ref02_Check.l1 (ref02_Check.l0 a0 k_l0) a0 x_669 k_l1 x_1571 = some r ∧ Kn 61 a [(1, .pointer (some ⟨b_1, 0, none⟩)), (3, .int .i64 x_669), (4, .int .i64 x_1571)] ∧ St [] w0 w (fun _ => none) [.cells b_1 [v0_0, v0_1] 25]) (((a0.Cols.length : Int) - 0).toNat + 1) ?_ ?_
          · exact ⟨0, H, hK.sub (all_cons rfl (all_cons rfl (all_cons rfl (all_nil)))), hS⟩
          · rintro k_l1 a w ⟨x_1571, H, hK, hS⟩
            cases k_l1 with
            | zero => cases H
            | succ k_l1 =>
            rw [ref02_Check.l1.eq_2] at H
            refine wp_seq ?_
            refine wp_seq ?_
            refine wp_region_lit ?_
            refine sl hK (by decide) rfl rfl (r_move hK rfl) fun a hK => ?_
            refine sl hK (by decide) rfl rfl (r_fieldAddr Try.underlying25 rfl Try.sizeOf22 hK rfl) fun a hK => ?_
            refine sl hK (by decide) rfl rfl (r_load Try.isAgg22 hK rfl (hS.cell (.head _) rfl)) fun a hK => ?_
            refine sl hK (by decide) rfl rfl (r_len_R Try.underlying22 h0_0 hK rfl) fun a hK => ?_
            refine sl hK (by decide) rfl rfl (r_ibin hK rfl rfl rfl) fun a hK => ?_
            refine wpList_nil ?_
            refine wp_cond_split (hK.ev rfl) (fun (hb_1785 : (decide (x_1571 < (a0.Cols.length : Int))) = true) => ?_) (fun (hb_1785 : (decide (x_1571 < (a0.Cols.length : Int))) = false) => ?_)
            · rw [ifb_t hb_1785] at H
              refine wp_skip ?_
              refine wp_seq ?_
              refine wp_block ?_
              refine wp_seq ?_
              refine wp_mid (fun a w => ∃ (x_1890 : Bool), ref02_Check.j2 (ref02_Check.l1 (ref02_Check.l0 a0 k_l0) a0 x_669 k_l1) a0 x_1571 x_1890 = some r ∧ Kn 61 a [(1, .pointer (some ⟨b_1, 0, none⟩)), (3, .int .i64 x_669), (4, .int .i64 x_1571), (60, .bool x_1890)] ∧ St [] w0 w (fun _ => none) [.cells b_1 [v0_0, v0_1] 25]) ?_ ?_
              · refine parT_region (C := fun w => St [] w0 w (fun _ => none) [.cells b_1 [v0_0, v0_1] 25]) 23 [(0, true), (1, true), (2, true), (3, true), (4, true), (5, true), (6, true), (7, true), (8, true), (9, true), (10, true), (11, true), (12, true), (13, true), (14, true), (15, true), (16, true), (17, true), (18, true), (19, true), (20, true), (21, true), (22, true)] mixed (by kernel_rfl) hS (fun w hS => hS) fun w hS => ?_
                refine sp (k := 0) rfl hK (by decide) rfl rfl (fun w hS => r_fieldAddr Try.underlying25 rfl Try.sizeOf23 hK rfl) fun a hK => ?_
                refine sp (k := 1) rfl hK (by decide) rfl rfl (fun w hS => r_load Try.isAgg23 hK rfl (hS.cell (.head _) rfl)) fun a hK => ?_
                refine sp (k := 2) rfl hK (by decide) rfl rfl (fun w hS => r_move hK rfl) fun a hK => ?_
                obtain ⟨y_1944, h_1945, H⟩ := bind_some H
                obtain ⟨b_1946, o_1947, c_1948, cs_1949, hv_1950, hr_1951, hc_1952, h_19450, h_19451⟩ := h0_1.ix h_1945
                obtain ⟨v_1953, rfl, hs_1954⟩ := hr_1951
                refine sp (k := 3) rfl hK (by decide) rfl rfl (fun w hS => r_indexAddr_R Try.underlying23 Try.sizeOf40 hv_1950 h_19450 h_19451 hK rfl rfl) fun a hK => ?_
                refine sp (k := 4) rfl hK (by decide) rfl rfl (fun w hS => r_load Try.isAgg40 hK rfl ((hS.ra hRA nil_not).cell (hc_1952 0 _ rfl))) fun a hK => ?_
                refine sp (k := 5) rfl hK (by decide) rfl rfl (fun w hS => r_move hK rfl) fun a hK => ?_
                obtain ⟨y_1955, h_1956, H⟩ := bind_some H
                obtain ⟨b_1957, o_1958, c_1959, cs_1960, hv_1961, hr_1962, hc_1963, h_19560, h_19561⟩ := hs_1954.ix h_1956
                subst hr_1962
                refine sp (k := 6) rfl hK (by decide) rfl rfl (fun w hS => r_indexAddr_R Try.underlying40 Try.sizeOf46 hv_1961 h_19560 h_19561 hK rfl rfl) fun a hK => ?_
                refine sp (k := 7) rfl hK (by decide) rfl rfl (fun w hS => r_fieldAddr Try.underlying46 rfl Try.sizeOf3 hK rfl) fun a hK => ?_
                refine sp (k := 8) rfl hK (by decide) rfl rfl (fun w hS => r_load Try.isAgg3 hK rfl ((hS.ra hRA nil_not).cell (hc_1963 0 _ rfl))) fun a hK => ?_
                refine sp (k := 9) rfl hK (by decide) rfl rfl (fun w hS => r_fieldAddr Try.underlying25 rfl Try.sizeOf22 hK rfl) fun a hK => ?_
                refine sp (k := 10) rfl hK (by decide) rfl rfl (fun w hS => r_load Try.isAgg22 hK rfl (hS.cell (.head _) rfl)) fun a hK => ?_
                refine sp (k := 11) rfl hK (by decide) rfl rfl (fun w hS => r_move hK rfl) fun a hK => ?_
                obtain ⟨y_1964, h_1965, H⟩ := bind_some H
                obtain ⟨b_1966, o_1967, c_1968, cs_1969, hv_1970, hr_1971, hc_1972, h_19650, h_19651⟩ := h0_0.ix h_1965
                subst hr_1971
                refine sp (k := 12) rfl hK (by decide) rfl rfl (fun w hS => r_indexAddr_R Try.underlying22 Try.sizeOf34 hv_1970 h_19650 h_19651 hK rfl rfl) fun a hK => ?_
                refine sp (k := 13) rfl hK (by decide) rfl rfl (fun w hS => r_fieldAddr Try.underlying34 rfl Try.sizeOf3 hK rfl) fun a hK => ?_
                refine sp (k := 14) rfl hK (by decide) rfl rfl (fun w hS => r_load Try.isAgg3 hK rfl ((hS.ra hRA nil_not).cell (hc_1972 1 _ rfl))) fun a hK => ?_
                refine sp (k := 15) rfl hK (by decide) rfl rfl (fun w hS => r_ibin hK rfl rfl rfl) fun a hK => ?_
                refine sp (k := 16) rfl hK (by decide) rfl rfl (fun w hS => r_move hK rfl) fun a hK => ?_
                rcases or_b (y_1955.Kind != y_1964.Kind) with hb_1973 | hb_1973
                · rw [ifb_t hb_1973] at H
                  refine sp_skip (k := 17) rfl hK (by decide) (wft hb_1973) rfl fun a hK => ?_
                  refine sp_skip (k := 18) rfl hK (by decide) (wft hb_1973) rfl fun a hK => ?_
                  refine sp_skip (k := 19) rfl hK (by decide) (wft hb_1973) rfl fun a hK => ?_
                  refine sp_skip (k := 20) rfl hK (by decide) (wft hb_1973) rfl fun a hK => ?_
                  refine sp_skip (k := 21) rfl hK (by decide) (wft hb_1973) rfl fun a hK => ?_
                  refine sp_skip (k := 22) rfl hK (by decide) (wft hb_1973) rfl fun a hK => ?_
                  refine thenL_nil ?_
                  refine sl_skip hK (by decide) (wft hb_1973) rfl fun a hK => ?_
                  refine sl_skip hK (by decide) (wft hb_1973) rfl fun a hK => ?_
                  refine sl_skip hK (by decide) (wft hb_1973) rfl fun a hK => ?_
                  refine sl_skip hK (by decide) (wft hb_1973) rfl fun a hK => ?_
                  refine sl hK (by decide) rfl rfl (r_pick_t hb_1973 hK rfl rfl) fun a hK => ?_
                  refine wpList_nil (NoP_nil ?_)
                  exact ⟨true, H, hK.sub (all_cons rfl (all_cons rfl (all_cons rfl (all_cons rfl (all_nil))))), hS⟩
                · rw [ifb_f hb_1973] at H
                  refine sp (k := 17) rfl hK (by decide) (wff hb_1973) rfl (fun w hS => r_fieldAddr Try.underlying25 rfl Try.sizeOf23 hK rfl) fun a hK => ?_
                  refine sp (k := 18) rfl hK (by decide) (wff hb_1973) rfl (fun w hS => r_load Try.isAgg23 hK rfl (hS.cell (.head _) rfl)) fun a hK => ?_
                  refine sp (k := 19) rfl hK (by decide) (wff hb_1973) rfl (fun w hS => r_move hK rfl) fun a hK => ?_
                  obtain ⟨y_1974, h_1975, H⟩ := bind_some H
                  obtain ⟨b_1976, o_1977, c_1978, cs_1979, hv_1980, hr_1981, hc_1982, h_19750, h_19751⟩ := h0_1.ix h_1975
                  obtain ⟨v_1983, rfl, hs_1984⟩ := hr_1981
                  refine sp (k := 20) rfl hK (by decide) (wff hb_1973) rfl (fun w hS => r_indexAddr_R Try.underlying23 Try.sizeOf40 hv_1980 h_19750 h_19751 hK rfl rfl) fun a hK => ?_
                  refine sp (k := 21) rfl hK (by decide) (wff hb_1973) rfl (fun w hS => r_load Try.isAgg40 hK rfl ((hS.ra hRA nil_not).cell (hc_1982 0 _ rfl))) fun a hK => ?_
                  refine sp (k := 22) rfl hK (by decide) (wff hb_1973) rfl (fun w hS => r_move hK rfl) fun a hK => ?_
                  refine thenL_nil ?_
                  obtain ⟨y_1985, h_1986, H⟩ := bind_some H
                  obtain ⟨b_1987, o_1988, c_1989, cs_1990, hv_1991, hr_1992, hc_1993, h_19860, h_19861⟩ := hs_1984.ix h_1986
                  subst hr_1992
                  refine sl hK (by decide) (wff hb_1973) rfl (r_indexAddr_R Try.underlying40 Try.sizeOf46 hv_1991 h_19860 h_19861 hK rfl rfl) fun a hK => ?_
                  refine sl hK (by decide) (wff hb_1973) rfl (r_loadA (cs := [.int .i64 y_1985.Kind, .int .i64 y_1985.N, .string y_1985.S, .int .i64 y_1985.H.a0, .int .i64 y_1985.H.a1, .int .i64 y_1985.H.a2, .int .i64 y_1985.H.a3, .int .i64 y_1985.H.a4, .int .i64 y_1985.H.a5, .int .i64 y_1985.H.a6, .int .i64 y_1985.H.a7]) Try.isAgg46 Try.sizeOf46 rfl hK rfl (fun j v hv => (hS.ra hRA nil_not).cell (hc_1993 j v hv))) fun a hK => ?_
                  obtain ⟨y_1994, h_1995, H⟩ := bind_some H
                  refine sl_callV Try.call29 hS hK (by decide) (wff hb_1973) rfl rfl (ref01_Valid.calls y_1985 h_1995 _) fun a w hS hK => ?_
                  refine sl hK (by decide) (wff hb_1973) rfl (r_un hK rfl (u_not _)) fun a hK => ?_
                  refine sl hK (by decide) rfl rfl (r_pick_f hb_1973 hK rfl rfl) fun a hK => ?_
                  refine wpList_nil (NoP_nil ?_)
                  exact ⟨(!y_1994), H, hK.sub (all_cons rfl (all_cons rfl (all_cons rfl (all_cons rfl (all_nil))))), hS⟩
              · rintro a w ⟨x_1890, H, hK, hS⟩
                unfold ref02_Check.j2 at H
                refine wp_cond_split (hK.ev rfl) (fun (hb_1996 : x_1890 = true) => ?_) (fun (hb_1996 : x_1890 = false) => ?_)
                · rw [ifb_t hb_1996] at H
                  refine wp_seq ?_
                  refine wp_region_lit ?_
                  refine sl hK (by decide) rfl rfl (r_assign hK rfl) fun a hK => ?_
                  refine wpList_nil ?_
                  obtain rfl := Option.some.inj H
                  refine wp_ret ?_
                  repeat (first | refine ret_then ?_ | refine ret_block ?_ | refine ret_scope ?_)
                  exact ret_1 Try.results10 hK (rv_tmp hK rfl) ⟨rfl, hS.bel⟩
                · rw [ifb_f hb_1996] at H
                  refine wp_skip ?_
                  refine wp_region_lit ?_
                  refine sl hK (by decide) rfl rfl (r_move hK rfl) fun a hK => ?_
                  refine sl hK (by decide) rfl rfl (r_ibin hK rfl rfl rfl) fun a hK => ?_
                  refine sl hK (by decide) rfl rfl (r_assign hK rfl) fun a hK => ?_
                  refine wpList_nil ?_
                  exact ⟨_, Nat.lt_succ_self _, (IntKind.i64.wrap (x_1571 + 1)), H, hK.sub (all_cons rfl (all_cons rfl (all_cons rfl (all_nil)))), hS⟩
            · rw [ifb_f hb_1785] at H
              refine wp_exit ?_
              refine wp_region_lit ?_
              refine sl hK (by decide) rfl rfl (r_move hK rfl) fun a hK => ?_
              refine sl hK (by decide) rfl rfl (r_ibin hK rfl rfl rfl) fun a hK => ?_
              refine sl hK (by decide) rfl rfl (r_assign hK rfl) fun a hK => ?_
              refine wpList_nil ?_
              exact ⟨_, Nat.lt_succ_self _, (IntKind.i64.wrap (x_669 + 1)), H, hK.sub (all_cons rfl (all_cons rfl (all_nil))), hS⟩
      · rw [ifb_f hb_1334] at H
        refine wp_exit ?_
        refine wp_seq ?_
        refine wp_region_lit ?_
        refine sl hK (by decide) rfl rfl (r_assign hK rfl) fun a hK => ?_
        refine wpList_nil ?_
        obtain rfl := Option.some.inj H
        refine wp_ret ?_
        repeat (first | refine ret_then ?_ | refine ret_block ?_ | refine ret_scope ?_)
        exact ret_1 Try.results10 hK (rv_tmp hK rfl) ⟨rfl, hS.bel⟩

/-! ### catchment/catchmentref01.order: function 45 -/
set_option maxHeartbeats 4000000 in
set_option maxRecDepth 100000 in
theorem ref01_order.calls (a0 : Int) (a1 : Int) {r : Int} (H : ref01_order a0 a1 = some r) (w0 : World) : CallsV Try.prog 45 #[.int .i64 a0, .int .i64 a1] w0 (.int .i64 r) := by
  unfold ref01_order at H
  refine enter (args := [.int .i64 a0, .int .i64 a1]) Try.func45 rfl Try.ntmps45 rfl fun a hK => ?_
  have hS := St.init (R := fun _ => none) (w := w0) (fun _ _ h => by cases h)
  have hRL := RLe.refl (M := []) w0 (fun _ => none)
  refine wp_seq ?_
  refine wp_region_lit ?_
  refine sl hK (by decide) rfl rfl (r_assign hK rfl) fun a hK => ?_
  refine wpList_nil ?_
  refine wp_seq ?_
  refine wp_seq ?_
  refine wp_region_lit ?_
  refine sl hK (by decide) rfl rfl (r_move hK rfl) fun a hK => ?_
  refine sl hK (by decide) rfl rfl (r_move hK rfl) fun a hK => ?_
  refine sl hK (by decide) rfl rfl (r_ibin hK rfl rfl rfl) fun a hK => ?_
  refine wpList_nil ?_
  refine wp_cond_split (hK.ev rfl) (fun (hb_1 : (decide (a0 < a1)) = true) => ?_) (fun (hb_1 : (decide (a0 < a1)) = false) => ?_)
  · rw [ifb_t hb_1] at H
    refine wp_seq ?_
    refine wp_region_lit ?_
    refine sl hK (by decide) rfl rfl (r_assign hK rfl) fun a hK => ?_
    refine wpList_nil ?_
    obtain rfl := Option.some.inj H
    refine wp_ret ?_
    repeat (first | refine ret_then ?_ | refine ret_block ?_ | refine ret_scope ?_)
    exact ret_1 Try.results45 hK (rv_tmp hK rfl) ⟨rfl, hS.bel⟩
  · rw [ifb_f hb_1] at H
    refine wp_skip ?_
    refine wp_seq ?_
    refine wp_seq ?_
    refine wp_region_lit ?_
    refine sl hK (by decide) rfl rfl (r_move hK rfl) fun a hK => ?_
    refine sl hK (by decide) rfl rfl (r_move hK rfl) fun a hK => ?_
    refine sl hK (by decide) rfl rfl (r_ibin hK rfl rfl rfl) fun a hK => ?_
    refine wpList_nil ?_
    refine wp_cond_split (hK.ev rfl) (fun (hb_2 : (decide (a0 > a1)) = true) => ?_) (fun (hb_2 : (decide (a0 > a1)) = false) => ?_)
    · rw [ifb_t hb_2] at H
      refine wp_seq ?_
      refine wp_region_lit ?_
      refine sl hK (by decide) rfl rfl (r_assign hK rfl) fun a hK => ?_
      refine wpList_nil ?_
      obtain rfl := Option.some.inj H
      refine wp_ret ?_
      repeat (first | refine ret_then ?_ | refine ret_block ?_ | refine ret_scope ?_)
      exact ret_1 Try.results45 hK (rv_tmp hK rfl) ⟨rfl, hS.bel⟩
    · rw [ifb_f hb_2] at H
      refine wp_skip ?_
      refine wp_seq ?_
      refine wp_region_lit ?_
      refine sl hK (by decide) rfl rfl (r_assign hK rfl) fun a hK => ?_
      refine wpList_nil ?_
      obtain rfl := Option.some.inj H
      refine wp_ret ?_
      repeat (first | refine ret_then ?_ | refine ret_block ?_ | refine ret_scope ?_)
      exact ret_1 Try.results45 hK (rv_tmp hK rfl) ⟨rfl, hS.bel⟩

/-! ### catchment/catchmentref01.Compare: function 31 -/
set_option maxHeartbeats 4000000 in
set_option maxRecDepth 100000 in
theorem ref01_Compare.calls (a0 : api_Value) (a1 : api_Value) {r : Int} (H : ref01_Compare a0 a1 = some r) (w0 : World) : CallsV Try.prog 31 #[.agg #[.int .i64 a0.Kind, .int .i64 a0.N, .string a0.S, .int .i64 a0.H.a0, .int .i64 a0.H.a1, .int .i64 a0.H.a2, .int .i64 a0.H.a3, .int .i64 a0.H.a4, .int .i64 a0.H.a5, .int .i64 a0.H.a6, .int .i64 a0.H.a7], .agg #[.int .i64 a1.Kind, .int .i64 a1.N, .string a1.S, .int .i64 a1.H.a0, .int .i64 a1.H.a1, .int .i64 a1.H.a2, .int .i64 a1.H.a3, .int .i64 a1.H.a4, .int .i64 a1.H.a5, .int .i64 a1.H.a6, .int .i64 a1.H.a7]] w0 (.int .i64 r) := by
  unfold ref01_Compare at H
  refine enter (args := [.agg #[.int .i64 a0.Kind, .int .i64 a0.N, .string a0.S, .int .i64 a0.H.a0, .int .i64 a0.H.a1, .int .i64 a0.H.a2, .int .i64 a0.H.a3, .int .i64 a0.H.a4, .int .i64 a0.H.a5, .int .i64 a0.H.a6, .int .i64 a0.H.a7], .agg #[.int .i64 a1.Kind, .int .i64 a1.N, .string a1.S, .int .i64 a1.H.a0, .int .i64 a1.H.a1, .int .i64 a1.H.a2, .int .i64 a1.H.a3, .int .i64 a1.H.a4, .int .i64 a1.H.a5, .int .i64 a1.H.a6, .int .i64 a1.H.a7]]) Try.func31 rfl Try.ntmps31 rfl fun a hK => ?_
  have hS := St.init (R := fun _ => none) (w := w0) (fun _ _ h => by cases h)
  have hRL := RLe.refl (M := []) w0 (fun _ => none)
  refine wp_seq ?_
  refine wp_region_lit ?_
  refine sl_box hS hK (by decide) rfl rfl (c := [.int .i64 a0.Kind, .int .i64 a0.N, .string a0.S, .int .i64 a0.H.a0, .int .i64 a0.H.a1, .int .i64 a0.H.a2, .int .i64 a0.H.a3, .int .i64 a0.H.a4, .int .i64 a0.H.a5, .int .i64 a0.H.a6, .int .i64 a0.H.a7]) rfl fun a w b_1 hS hK => ?_
  refine sl_box hS hK (by decide) rfl rfl (c := [.int .i64 a1.Kind, .int .i64 a1.N, .string a1.S, .int .i64 a1.H.a0, .int .i64 a1.H.a1, .int .i64 a1.H.a2, .int .i64 a1.H.a3, .int .i64 a1.H.a4, .int .i64 a1.H.a5, .int .i64 a1.H.a6, .int .i64 a1.H.a7]) rfl fun a w b_2 hS hK => ?_
  refine sl hK (by decide) rfl rfl (r_assign hK rfl) fun a hK => ?_
  refine wpList_nil ?_
  refine wp_seq ?_
  refine wp_seq ?_
  refine wp_region_lit ?_
  refine sl hK (by decide) rfl rfl (r_fieldAddr Try.underlying46 rfl Try.sizeOf3 hK rfl) fun a hK => ?_
  refine sl hK (by decide) rfl rfl (r_load Try.isAgg3 hK rfl (hS.cell (.tail _ (.head _)) rfl)) fun a hK => ?_
  refine sl hK (by decide) rfl rfl (r_fieldAddr Try.underlying46 rfl Try.sizeOf3 hK rfl) fun a hK => ?_
  refine sl hK (by decide) rfl rfl (r_load Try.isAgg3 hK rfl (hS.cell (.head _) rfl)) fun a hK => ?_
  refine sl hK (by decide) rfl rfl (r_ibin hK rfl rfl rfl) fun a hK => ?_
  refine wpList_nil ?_
  refine wp_cond_split (hK.ev rfl) (fun (hb_3 : (a0.Kind != a1.Kind) = true) => ?_) (fun (hb_3 : (a0.Kind != a1.Kind) = false) => ?_)
  · rw [ifb_t hb_3] at H
    refine wp_seq ?_
    refine wp_region_lit ?_
    refine sl hK (by decide) rfl rfl (r_fieldAddr Try.underlying46 rfl Try.sizeOf3 hK rfl) fun a hK => ?_
    refine sl hK (by decide) rfl rfl (r_load Try.isAgg3 hK rfl (hS.cell (.tail _ (.head _)) rfl)) fun a hK => ?_
    refine sl hK (by decide) rfl rfl (r_fieldAddr Try.underlying46 rfl Try.sizeOf3 hK rfl) fun a hK => ?_
    refine sl hK (by decide) rfl rfl (r_load Try.isAgg3 hK rfl (hS.cell (.head _) rfl)) fun a hK => ?_
    obtain ⟨y_4, h_5, H⟩ := bind_some H
    refine sl_callV Try.call45 hS hK (by decide) rfl rfl rfl (ref01_order.calls a0.Kind a1.Kind h_5 _) fun a w hS hK => ?_
    refine sl hK (by decide) rfl rfl (r_assign hK rfl) fun a hK => ?_
    refine wpList_nil ?_
    obtain rfl := Option.some.inj H
    refine wp_ret ?_
    repeat (first | refine ret_then ?_ | refine ret_block ?_ | refine ret_scope ?_)
    exact ret_1 Try.results31 hK (rv_tmp hK rfl) ⟨rfl, hS.bel⟩
  · rw [ifb_f hb_3] at H
    refine wp_skip ?_
    refine wp_seq ?_
    refine wp_seq ?_
    refine wp_region_lit ?_
    refine sl hK (by decide) rfl rfl (r_fieldAddr Try.underlying46 rfl Try.sizeOf3 hK rfl) fun a hK => ?_
    refine sl hK (by decide) rfl rfl (r_load Try.isAgg3 hK rfl (hS.cell (.tail _ (.head _)) rfl)) fun a hK => ?_
    refine sl hK (by decide) rfl rfl (r_fieldAddr Try.underlying46 rfl Try.sizeOf3 hK rfl) fun a hK => ?_
    refine sl hK (by decide) rfl rfl (r_load Try.isAgg3 hK rfl (hS.cell (.head _) rfl)) fun a hK => ?_
    refine sl hK (by decide) rfl rfl (r_ibin hK rfl rfl rfl) fun a hK => ?_
    refine wpList_nil ?_
    refine wp_cond_split (hK.ev rfl) (fun (hb_6 : (a0.N != a1.N) = true) => ?_) (fun (hb_6 : (a0.N != a1.N) = false) => ?_)
    · rw [ifb_t hb_6] at H
      refine wp_seq ?_
      refine wp_region_lit ?_
      refine sl hK (by decide) rfl rfl (r_fieldAddr Try.underlying46 rfl Try.sizeOf3 hK rfl) fun a hK => ?_
      refine sl hK (by decide) rfl rfl (r_load Try.isAgg3 hK rfl (hS.cell (.tail _ (.head _)) rfl)) fun a hK => ?_
      refine sl hK (by decide) rfl rfl (r_fieldAddr Try.underlying46 rfl Try.sizeOf3 hK rfl) fun a hK => ?_
      refine sl hK (by decide) rfl rfl (r_load Try.isAgg3 hK rfl (hS.cell (.head _) rfl)) fun a hK => ?_
      obtain ⟨y_7, h_8, H⟩ := bind_some H
      refine sl_callV Try.call45 hS hK (by decide) rfl rfl rfl (ref01_order.calls a0.N a1.N h_8 _) fun a w hS hK => ?_
      refine sl hK (by decide) rfl rfl (r_assign hK rfl) fun a hK => ?_
      refine wpList_nil ?_
      obtain rfl := Option.some.inj H
      refine wp_ret ?_
      repeat (first | refine ret_then ?_ | refine ret_block ?_ | refine ret_scope ?_)
      exact ret_1 Try.results31 hK (rv_tmp hK rfl) ⟨rfl, hS.bel⟩
    · rw [ifb_f hb_6] at H
      refine wp_skip ?_
      refine wp_seq ?_
      refine wp_seq ?_
      refine wp_region_lit ?_
      refine sl hK (by decide) rfl rfl (r_assign hK rfl) fun a hK => ?_
      refine wpList_nil ?_
      refine wp_block ?_
      refine wp_loop_k (fun k_l0 a w => ∃ (x_36 : Int), ref01_Compare.l0 a0 a1 k_l0 x_36 = some r ∧ Kn 97 a [(2, .pointer (some ⟨b_1, 0, none⟩)), (3, .pointer (some ⟨b_2, 0, none⟩)), (5, .int .i64 x_36)] ∧ St [] w0 w (fun _ => none) [.cells b_1 [.int .i64 a0.Kind, .int .i64 a0.N, .string a0.S, .int .i64 a0.H.a0, .int .i64 a0.H.a1, .int .i64 a0.H.a2, .int .i64 a0.H.a3, .int .i64 a0.H.a4, .int .i64 a0.H.a5, .int .i64 a0.H.a6, .int .i64 a0.H.a7] 46, .cells b_2 [.int .i64 a1.Kind, .int .i64 a1.N, .string a1.S, .int .i64 a1.H.a0, .int .i64 a1.H.a1, .int .i64 a1.H.a2, .int .i64 a1.H.a3, .int .i64 a1.H.a4, .int .i64 a1.H.a5, .int .i64 a1.H.a6, .int .i64 a1.H.a7] 46]) (((a0.S.size : Int) - 0).toNat + 1) ?_ ?_
      · have hS := hS.pk1
        exact ⟨0, H, hK.sub (all_cons rfl (all_cons rfl (all_cons rfl (all_nil)))), hS⟩
      · rintro k_l0 a w ⟨x_36, H, hK, hS⟩
        cases k_l0 with
        | zero => cases H
        | succ k_l0 =>
        rw [ref01_Compare.l0.eq_2] at H
        refine wp_seq ?_
        refine wp_seq ?_
        refine wp_mid (fun a w => ∃ (x_66 : Bool), ref01_Compare.j1 (ref01_Compare.l0 a0 a1 k_l0) a0 a1 x_36 x_66 = some r ∧ Kn 97 a [(2, .pointer (some ⟨b_1, 0, none⟩)), (3, .pointer (some ⟨b_2, 0, none⟩)), (5, .int .i64 x_36), (38, .bool x_66)] ∧ St [] w0 w (fun _ => none) [.cells b_1 [.int .i64 a0.Kind, .int .i64 a0.N, .string a0.S, .int .i64 a0.H.a0, .int .i64 a0.H.a1, .int .i64 a0.H.a2, .int .i64 a0.H.a3, .int .i64 a0.H.a4, .int .i64 a0.H.a5, .int .i64 a0.H.a6, .int .i64 a0.H.a7] 46, .cells b_2 [.int .i64 a1.Kind, .int .i64 a1.N, .string a1.S, .int .i64 a1.H.a0, .int .i64 a1.H.a1, .int .i64 a1.H.a2, .int .i64 a1.H.a3, .int .i64 a1.H.a4, .int .i64 a1.H.a5, .int .i64 a1.H.a6, .int .i64 a1.H.a7] 46]) ?_ ?_
        · refine wp_region_lit ?_
          refine sl hK (by decide) rfl rfl (r_move hK rfl) fun a hK => ?_
          refine sl hK (by decide) rfl rfl (r_fieldAddr Try.underlying46 rfl Try.sizeOf9 hK rfl) fun a hK => ?_
          refine sl hK (by decide) rfl rfl (r_load Try.isAgg9 hK rfl (hS.cell (.head _) rfl)) fun a hK => ?_
          refine sl hK (by decide) rfl rfl (r_len_str Try.underlying9 hK rfl) fun a hK => ?_
          refine sl hK (by decide) rfl rfl (r_ibin hK rfl rfl rfl) fun a hK => ?_
          refine sl hK (by decide) rfl rfl (r_move hK rfl) fun a hK => ?_
          rcases or_b (decide (x_36 < (a0.S.size : Int))) with hb_68 | hb_68
          · rw [ifb_t hb_68] at H
            refine sl hK (by decide) (wtt hb_68) rfl (r_move hK rfl) fun a hK => ?_
            refine sl hK (by decide) (wtt hb_68) rfl (r_fieldAddr Try.underlying46 rfl Try.sizeOf9 hK rfl) fun a hK => ?_
            refine sl hK (by decide) (wtt hb_68) rfl (r_load Try.isAgg9 hK rfl (hS.cell (.tail _ (.head _)) rfl)) fun a hK => ?_
            refine sl hK (by decide) (wtt hb_68) rfl (r_len_str Try.underlying9 hK rfl) fun a hK => ?_
            refine sl hK (by decide) (wtt hb_68) rfl (r_ibin hK rfl rfl rfl) fun a hK => ?_
            refine sl hK (by decide) rfl rfl (r_pick_t hb_68 hK rfl rfl) fun a hK => ?_
            refine wpList_nil ?_
            have hS := hS.pk1
            have hS := hS.pk1
            exact ⟨(decide (x_36 < (a1.S.size : Int))), H, hK.sub (all_cons rfl (all_cons rfl (all_cons rfl (all_cons rfl (all_nil))))), hS⟩
          · rw [ifb_f hb_68] at H
            refine sl_skip hK (by decide) (wtf hb_68) rfl fun a hK => ?_
            refine sl_skip hK (by decide) (wtf hb_68) rfl fun a hK => ?_
            refine sl_skip hK (by decide) (wtf hb_68) rfl fun a hK => ?_
            refine sl_skip hK (by decide) (wtf hb_68) rfl fun a hK => ?_
            refine sl_skip hK (by decide) (wtf hb_68) rfl fun a hK => ?_
            refine sl hK (by decide) rfl rfl (r_pick_f hb_68 hK rfl rfl) fun a hK => ?_
            refine wpList_nil ?_
            have hS := hS.pk1
            have hS := hS.pk1
            exact ⟨false, H, hK.sub (all_cons rfl (all_cons rfl (all_cons rfl (all_cons rfl (all_nil))))), hS⟩
        · rintro a w ⟨x_66, H, hK, hS⟩
          unfold ref01_Compare.j1 at H
          refine wp_cond_split (hK.ev rfl) (fun (hb_69 : x_66 = true) => ?_) (fun (hb_69 : x_66 = false) => ?_)
          · rw [ifb_t hb_69] at H
            refine wp_skip ?_
            refine wp_seq ?_
            refine wp_block ?_
            refine wp_seq ?_
            refine par_region (C := fun w => St [] w0 w (fun _ => none) [.cells b_1 [.int .i64 a0.Kind, .int .i64 a0.N, .string a0.S, .int .i64 a0.H.a0, .int .i64 a0.H.a1, .int .i64 a0.H.a2, .int .i64 a0.H.a3, .int .i64 a0.H.a4, .int .i64 a0.H.a5, .int .i64 a0.H.a6, .int .i64 a0.H.a7] 46, .cells b_2 [.int .i64 a1.Kind, .int .i64 a1.N, .string a1.S, .int .i64 a1.H.a0, .int .i64 a1.H.a1, .int .i64 a1.H.a2, .int .i64 a1.H.a3, .int .i64 a1.H.a4, .int .i64 a1.H.a5, .int .i64 a1.H.a6, .int .i64 a1.H.a7] 46]) [(0, true), (1, true), (2, true), (3, true), (4, true), (5, true), (6, true), (7, true), (8, true)] mixed (by kernel_rfl) hS (fun w hS => hS) fun w hS => ?_
            refine sp (k := 0) rfl hK (by decide) rfl rfl (fun w hS => r_fieldAddr Try.underlying46 rfl Try.sizeOf9 hK rfl) fun a hK => ?_
            refine sp (k := 1) rfl hK (by decide) rfl rfl (fun w hS => r_load Try.isAgg9 hK rfl (hS.cell (.head _) rfl)) fun a hK => ?_
            refine sp (k := 2) rfl hK (by decide) rfl rfl (fun w hS => r_move hK rfl) fun a hK => ?_
            obtain ⟨y_74, h_75, H⟩ := bind_some H
            refine sp (k := 3) rfl hK (by decide) rfl rfl (fun w hS => r_index_str' Try.underlying9 h_75 hK rfl rfl) fun a hK => ?_
            refine sp (k := 4) rfl hK (by decide) rfl rfl (fun w hS => r_fieldAddr Try.underlying46 rfl Try.sizeOf9 hK rfl) fun a hK => ?_
            refine sp (k := 5) rfl hK (by decide) rfl rfl (fun w hS => r_load Try.isAgg9 hK rfl (hS.cell (.tail _ (.head _)) rfl)) fun a hK => ?_
            refine sp (k := 6) rfl hK (by decide) rfl rfl (fun w hS => r_move hK rfl) fun a hK => ?_
            obtain ⟨y_76, h_77, H⟩ := bind_some H
            refine sp (k := 7) rfl hK (by decide) rfl rfl (fun w hS => r_index_str' Try.underlying9 h_77 hK rfl rfl) fun a hK => ?_
            refine sp (k := 8) rfl hK (by decide) rfl rfl (fun w hS => r_ibin hK rfl rfl rfl) fun a hK => ?_
            refine wpPar_nil (NoP_nil ?_)
            refine wp_cond_split (hK.ev rfl) (fun (hb_78 : (y_74 != y_76) = true) => ?_) (fun (hb_78 : (y_74 != y_76) = false) => ?_)
            · rw [ifb_t hb_78] at H
              refine wp_seq ?_
              refine parT_region (C := fun w => St [] w0 w (fun _ => none) [.cells b_1 [.int .i64 a0.Kind, .int .i64 a0.N, .string a0.S, .int .i64 a0.H.a0, .int .i64 a0.H.a1, .int .i64 a0.H.a2, .int .i64 a0.H.a3, .int .i64 a0.H.a4, .int .i64 a0.H.a5, .int .i64 a0.H.a6, .int .i64 a0.H.a7] 46, .cells b_2 [.int .i64 a1.Kind, .int .i64 a1.N, .string a1.S, .int .i64 a1.H.a0, .int .i64 a1.H.a1, .int .i64 a1.H.a2, .int .i64 a1.H.a3, .int .i64 a1.H.a4, .int .i64 a1.H.a5, .int .i64 a1.H.a6, .int .i64 a1.H.a7] 46]) 10 [(0, true), (1, true), (2, true), (3, true), (4, true), (5, true), (6, true), (7, true), (8, true), (9, true)] mixed (by kernel_rfl) hS (fun w hS => hS) fun w hS => ?_
              refine sp (k := 0) rfl hK (by decide) rfl rfl (fun w hS => r_fieldAddr Try.underlying46 rfl Try.sizeOf9 hK rfl) fun a hK => ?_
              refine sp (k := 1) rfl hK (by decide) rfl rfl (fun w hS => r_load Try.isAgg9 hK rfl (hS.cell (.head _) rfl)) fun a hK => ?_
              refine sp (k := 2) rfl hK (by decide) rfl rfl (fun w hS => r_move hK rfl) fun a hK => ?_
              obtain ⟨y_85, h_86, H⟩ := bind_some H
              refine sp (k := 3) rfl hK (by decide) rfl rfl (fun w hS => r_index_str' Try.underlying9 h_86 hK rfl rfl) fun a hK => ?_
              refine sp (k := 4) rfl hK (by decide) rfl rfl (fun w hS => r_conv Try.underlying5 Try.underlying3 hK rfl) fun a hK => ?_
              refine sp (k := 5) rfl hK (by decide) rfl rfl (fun w hS => r_fieldAddr Try.underlying46 rfl Try.sizeOf9 hK rfl) fun a hK => ?_
              refine sp (k := 6) rfl hK (by decide) rfl rfl (fun w hS => r_load Try.isAgg9 hK rfl (hS.cell (.tail _ (.head _)) rfl)) fun a hK => ?_
              refine sp (k := 7) rfl hK (by decide) rfl rfl (fun w hS => r_move hK rfl) fun a hK => ?_
              obtain ⟨y_87, h_88, H⟩ := bind_some H
              refine sp (k := 8) rfl hK (by decide) rfl rfl (fun w hS => r_index_str' Try.underlying9 h_88 hK rfl rfl) fun a hK => ?_
              refine sp (k := 9) rfl hK (by decide) rfl rfl (fun w hS => r_conv Try.underlying5 Try.underlying3 hK rfl) fun a hK => ?_
              refine thenL_nil ?_
              obtain ⟨y_89, h_90, H⟩ := bind_some H
              refine sl_callV Try.call45 hS hK (by decide) rfl rfl rfl (ref01_order.calls (IntKind.i64.wrap y_85) (IntKind.i64.wrap y_87) h_90 _) fun a w hS hK => ?_
              refine sl hK (by decide) rfl rfl (r_assign hK rfl) fun a hK => ?_
              refine wpList_nil (NoP_nil ?_)
              obtain rfl := Option.some.inj H
              refine wp_ret ?_
              repeat (first | refine ret_then ?_ | refine ret_block ?_ | refine ret_scope ?_)
              exact ret_1 Try.results31 hK (rv_tmp hK rfl) ⟨rfl, hS.bel⟩
            · rw [ifb_f hb_78] at H
              refine wp_skip ?_
              refine wp_region_lit ?_
              refine sl hK (by decide) rfl rfl (r_move hK rfl) fun a hK => ?_
              refine sl hK (by decide) rfl rfl (r_ibin hK rfl rfl rfl) fun a hK => ?_
              refine sl hK (by decide) rfl rfl (r_assign hK rfl) fun a hK => ?_
              refine wpList_nil ?_
              have hS := hS.pk1
              have hS := hS.pk1
              exact ⟨_, Nat.lt_succ_self _, (IntKind.i64.wrap (x_36 + 1)), H, hK.sub (all_cons rfl (all_cons rfl (all_cons rfl (all_nil)))), hS⟩
          · rw [ifb_f hb_69] at H
            refine wp_exit ?_
            refine wp_seq ?_
            refine wp_seq ?_
            refine wp_region_lit ?_
            refine sl hK (by decide) rfl rfl (r_fieldAddr Try.underlying46 rfl Try.sizeOf9 hK rfl) fun a hK => ?_
            refine sl hK (by decide) rfl rfl (r_load Try.isAgg9 hK rfl (hS.cell (.head _) rfl)) fun a hK => ?_
            refine sl hK (by decide) rfl rfl (r_len_str Try.underlying9 hK rfl) fun a hK => ?_
            refine sl hK (by decide) rfl rfl (r_fieldAddr Try.underlying46 rfl Try.sizeOf9 hK rfl) fun a hK => ?_
            refine sl hK (by decide) rfl rfl (r_load Try.isAgg9 hK rfl (hS.cell (.tail _ (.head _)) rfl)) fun a hK => ?_
            refine sl hK (by decide) rfl rfl (r_len_str Try.underlying9 hK rfl) fun a hK => ?_
            refine sl hK (by decide) rfl rfl (r_ibin hK rfl rfl rfl) fun a hK => ?_
            refine wpList_nil ?_
            refine wp_cond_split (hK.ev rfl) (fun (hb_91 : ((a0.S.size : Int) != (a1.S.size : Int)) = true) => ?_) (fun (hb_91 : ((a0.S.size : Int) != (a1.S.size : Int)) = false) => ?_)
            · rw [ifb_t hb_91] at H
              refine wp_seq ?_
              refine wp_region_lit ?_
              refine sl hK (by decide) rfl rfl (r_fieldAddr Try.underlying46 rfl Try.sizeOf9 hK rfl) fun a hK => ?_
              refine sl hK (by decide) rfl rfl (r_load Try.isAgg9 hK rfl (hS.cell (.head _) rfl)) fun a hK => ?_
              refine sl hK (by decide) rfl rfl (r_len_str Try.underlying9 hK rfl) fun a hK => ?_
              refine sl hK (by decide) rfl rfl (r_fieldAddr Try.underlying46 rfl Try.sizeOf9 hK rfl) fun a hK => ?_
              refine sl hK (by decide) rfl rfl (r_load Try.isAgg9 hK rfl (hS.cell (.tail _ (.head _)) rfl)) fun a hK => ?_
              refine sl hK (by decide) rfl rfl (r_len_str Try.underlying9 hK rfl) fun a hK => ?_
              obtain ⟨y_92, h_93, H⟩ := bind_some H
              refine sl_callV Try.call45 hS hK (by decide) rfl rfl rfl (ref01_order.calls (a0.S.size : Int) (a1.S.size : Int) h_93 _) fun a w hS hK => ?_
              refine sl hK (by decide) rfl rfl (r_assign hK rfl) fun a hK => ?_
              refine wpList_nil ?_
              obtain rfl := Option.some.inj H
              refine wp_ret ?_
              repeat (first | refine ret_then ?_ | refine ret_block ?_ | refine ret_scope ?_)
              exact ret_1 Try.results31 hK (rv_tmp hK rfl) ⟨rfl, hS.bel⟩
            · rw [ifb_f hb_91] at H
              refine wp_skip ?_
              refine wp_seq ?_
              refine wp_seq ?_
              refine wp_region_lit ?_
              refine sl hK (by decide) rfl rfl (r_assign hK rfl) fun a hK => ?_
              refine wpList_nil ?_
              refine wp_block ?_
              refine wp_loop_k (fun k_l2 a w => ∃ (x_100 : Int), ref01_Compare.l2 a0 a1 k_l2 x_100 = some r ∧ Kn 97 a [(2, .pointer (some ⟨b_1, 0, none⟩)), (3, .pointer (some ⟨b_2, 0, none⟩)), (6, .int .i64 x_100)] ∧ St [] w0 w (fun _ => none) [.cells b_1 [.int .i64 a0.Kind, .int .i64 a0.N, .string a0.S, .int .i64 a0.H.a0, .int .i64 a0.H.a1, .int .i64 a0.H.a2, .int .i64 a0.H.a3, .int .i64 a0.H.a4, .int .i64 a0.H.a5, .int .i64 a0.H.a6, .int .i64 a0.H.a7] 46, .cells b_2 [.int .i64 a1.Kind, .int .i64 a1.N, .string a1.S, .int .i64 a1.H.a0, .int .i64 a1.H.a1, .int .i64 a1.H.a2, .int .i64 a1.H.a3, .int .i64 a1.H.a4, .int .i64 a1.H.a5, .int .i64 a1.H.a6, .int .i64 a1.H.a7] 46]) (((8 : Int) - 0).toNat + 1) ?_ ?_
              · have hS := hS.pk1
                have hS := hS.pk1
                exact ⟨0, H, hK.sub (all_cons rfl (all_cons rfl (all_cons rfl (all_nil)))), hS⟩
              · rintro k_l2 a w ⟨x_100, H, hK, hS⟩
                cases k_l2 with
                | zero => cases H
                | succ k_l2 =>
                rw [ref01_Compare.l2.eq_2] at H
                refine wp_seq ?_
                refine wp_seq ?_
                refine wp_region_lit ?_
                refine sl hK (by decide) rfl rfl (r_move hK rfl) fun a hK => ?_
                refine sl hK (by decide) rfl rfl (r_ibin hK rfl rfl rfl) fun a hK => ?_
                refine wpList_nil ?_
                refine wp_cond_split (hK.ev rfl) (fun (hb_124 : (decide (x_100 < 8)) = true) => ?_) (fun (hb_124 : (decide (x_100 < 8)) = false) => ?_)
                · rw [ifb_t hb_124] at H
                  refine wp_skip ?_
                  refine wp_seq ?_
                  refine wp_block ?_
                  refine wp_seq ?_
                  refine par_region (C := fun w => St [] w0 w (fun _ => none) [.cells b_1 [.int .i64 a0.Kind, .int .i64 a0.N, .string a0.S, .int .i64 a0.H.a0, .int .i64 a0.H.a1, .int .i64 a0.H.a2, .int .i64 a0.H.a3, .int .i64 a0.H.a4, .int .i64 a0.H.a5, .int .i64 a0.H.a6, .int .i64 a0.H.a7] 46, .cells b_2 [.int .i64 a1.Kind, .int .i64 a1.N, .string a1.S, .int .i64 a1.H.a0, .int .i64 a1.H.a1, .int .i64 a1.H.a2, .int .i64 a1.H.a3, .int .i64 a1.H.a4, .int .i64 a1.H.a5, .int .i64 a1.H.a6, .int .i64 a1.H.a7] 46]) [(0, true), (1, true), (2, true), (3, true), (4, true), (5, true), (6, true), (7, true), (8, true)] mixed (by kernel_rfl) hS (fun w hS => hS) fun w hS => ?_
                  refine sp (k := 0) rfl hK (by decide) rfl rfl (fun w hS => r_move hK rfl) fun a hK => ?_
                  refine sp (k := 1) rfl hK (by decide) rfl rfl (fun w hS => r_fieldAddr Try.underlying46 rfl Try.sizeOf44 hK rfl) fun a hK => ?_
                  obtain ⟨y_129, h_130, H⟩ := bind_some H
                  refine sp (k := 2) rfl hK (by decide) rfl rfl (fun w hS => r_indexAddr_arr Try.underlying44 Try.sizeOf3 hK rfl rfl (Arr8.ix_lt h_130).1 (Arr8.ix_lt h_130).2) fun a hK => ?_
                  refine sp (k := 3) rfl hK (by decide) rfl rfl (fun w hS => r_load Try.isAgg3 hK rfl (hS.cell (.head _) (Arr8.ix_cells h_130 [.int .i64 a0.Kind, .int .i64 a0.N, .string a0.S] [] rfl))) fun a hK => ?_
                  refine sp (k := 4) rfl hK (by decide) rfl rfl (fun w hS => r_move hK rfl) fun a hK => ?_
                  refine sp (k := 5) rfl hK (by decide) rfl rfl (fun w hS => r_fieldAddr Try.underlying46 rfl Try.sizeOf44 hK rfl) fun a hK => ?_
                  obtain ⟨y_131, h_132, H⟩ := bind_some H
                  refine sp (k := 6) rfl hK (by decide) rfl rfl (fun w hS => r_indexAddr_arr Try.underlying44 Try.sizeOf3 hK rfl rfl (Arr8.ix_lt h_132).1 (Arr8.ix_lt h_132).2) fun a hK => ?_
                  refine sp (k := 7) rfl hK (by decide) rfl rfl (fun w hS => r_load Try.isAgg3 hK rfl (hS.cell (.tail _ (.head _)) (Arr8.ix_cells h_132 [.int .i64 a1.Kind, .int .i64 a1.N, .string a1.S] [] rfl))) fun a hK => ?_
                  refine sp (k := 8) rfl hK (by decide) rfl rfl (fun w hS => r_ibin hK rfl rfl rfl) fun a hK => ?_
                  refine wpPar_nil (NoP_nil ?_)
                  refine wp_cond_split (hK.ev rfl) (fun (hb_133 : (y_129 != y_131) = true) => ?_) (fun (hb_133 : (y_129 != y_131) = false) => ?_)
                  · rw [ifb_t hb_133] at H
                    refine wp_seq ?_
                    refine parT_region (C := fun w => St [] w0 w (fun _ => none) [.cells b_1 [.int .i64 a0.Kind, .int .i64 a0.N, .string a0.S, .int .i64 a0.H.a0, .int .i64 a0.H.a1, .int .i64 a0.H.a2, .int .i64 a0.H.a3, .int .i64 a0.H.a4, .int .i64 a0.H.a5, .int .i64 a0.H.a6, .int .i64 a0.H.a7] 46, .cells b_2 [.int .i64 a1.Kind, .int .i64 a1.N, .string a1.S, .int .i64 a1.H.a0, .int .i64 a1.H.a1, .int .i64 a1.H.a2, .int .i64 a1.H.a3, .int .i64 a1.H.a4, .int .i64 a1.H.a5, .int .i64 a1.H.a6, .int .i64 a1.H.a7] 46]) 8 [(0, true), (1, true), (2, true), (3, true), (4, true), (5, true), (6, true), (7, true)] mixed (by kernel_rfl) hS (fun w hS => hS) fun w hS => ?_
                    refine sp (k := 0) rfl hK (by decide) rfl rfl (fun w hS => r_move hK rfl) fun a hK => ?_
                    refine sp (k := 1) rfl hK (by decide) rfl rfl (fun w hS => r_fieldAddr Try.underlying46 rfl Try.sizeOf44 hK rfl) fun a hK => ?_
                    obtain ⟨y_140, h_141, H⟩ := bind_some H
                    refine sp (k := 2) rfl hK (by decide) rfl rfl (fun w hS => r_indexAddr_arr Try.underlying44 Try.sizeOf3 hK rfl rfl (Arr8.ix_lt h_141).1 (Arr8.ix_lt h_141).2) fun a hK => ?_
                    refine sp (k := 3) rfl hK (by decide) rfl rfl (fun w hS => r_load Try.isAgg3 hK rfl (hS.cell (.head _) (Arr8.ix_cells h_141 [.int .i64 a0.Kind, .int .i64 a0.N, .string a0.S] [] rfl))) fun a hK => ?_
                    refine sp (k := 4) rfl hK (by decide) rfl rfl (fun w hS => r_move hK rfl) fun a hK => ?_
                    refine sp (k := 5) rfl hK (by decide) rfl rfl (fun w hS => r_fieldAddr Try.underlying46 rfl Try.sizeOf44 hK rfl) fun a hK => ?_
                    obtain ⟨y_142, h_143, H⟩ := bind_some H
                    refine sp (k := 6) rfl hK (by decide) rfl rfl (fun w hS => r_indexAddr_arr Try.underlying44 Try.sizeOf3 hK rfl rfl (Arr8.ix_lt h_143).1 (Arr8.ix_lt h_143).2) fun a hK => ?_
                    refine sp (k := 7) rfl hK (by decide) rfl rfl (fun w hS => r_load Try.isAgg3 hK rfl (hS.cell (.tail _ (.head _)) (Arr8.ix_cells h_143 [.int .i64 a1.Kind, .int .i64 a1.N, .string a1.S] [] rfl))) fun a hK => ?_
                    refine thenL_nil ?_
                    obtain ⟨y_144, h_145, H⟩ := bind_some H
                    refine sl_callV Try.call45 hS hK (by decide) rfl rfl rfl (ref01_order.calls y_140 y_142 h_145 _) fun a w hS hK => ?_
                    refine sl hK (by decide) rfl rfl (r_assign hK rfl) fun a hK => ?_
                    refine wpList_nil (NoP_nil ?_)
                    obtain rfl := Option.some.inj H
                    refine wp_ret ?_
                    repeat (first | refine ret_then ?_ | refine ret_block ?_ | refine ret_scope ?_)
                    exact ret_1 Try.results31 hK (rv_tmp hK rfl) ⟨rfl, hS.bel⟩
                  · rw [ifb_f hb_133] at H
                    refine wp_skip ?_
                    refine wp_region_lit ?_
                    refine sl hK (by decide) rfl rfl (r_move hK rfl) fun a hK => ?_
                    refine sl hK (by decide) rfl rfl (r_ibin hK rfl rfl rfl) fun a hK => ?_
                    refine sl hK (by decide) rfl rfl (r_assign hK rfl) fun a hK => ?_
                    refine wpList_nil ?_
                    have hS := hS.pk1
                    have hS := hS.pk1
                    exact ⟨_, Nat.lt_succ_self _, (IntKind.i64.wrap (x_100 + 1)), H, hK.sub (all_cons rfl (all_cons rfl (all_cons rfl (all_nil)))), hS⟩
                · rw [ifb_f hb_124] at H
                  refine wp_exit ?_
                  refine wp_seq ?_
                  refine wp_region_lit ?_
                  refine sl hK (by decide) rfl rfl (r_assign hK rfl) fun a hK => ?_
                  refine wpList_nil ?_
                  obtain rfl := Option.some.inj H
                  refine wp_ret ?_
                  repeat (first | refine ret_then ?_ | refine ret_block ?_ | refine ret_scope ?_)
                  exact ret_1 Try.results31 hK (rv_tmp hK rfl) ⟨rfl, hS.bel⟩

/-! ### catchment/catchmentref02.Row: function 14 -/
set_option maxHeartbeats 4000000 in
set_option maxRecDepth 100000 in
theorem ref02_Row.calls (a0 : List api_Value) (a1 : List api_Value) {w0 : World} {RA : Hp} {v0_0 : Value} {v1_0 : Value} (hRA : RA.sub w0) (h0_0 : SlR ty_api_Value RA v0_0 a0) (h1_0 : SlR ty_api_Value RA v1_0 a1) {r : Int} (H : ref02_Row a0 a1 = some r) : CallsV Try.prog 14 #[v0_0, v1_0] w0 (.int .i64 r) := by
  unfold ref02_Row at H
  refine enter (args := [v0_0, v1_0]) Try.func14 rfl Try.ntmps14 rfl fun a hK => ?_
  have hS := St.init (R := fun _ => none) (w := w0) (fun _ _ h => by cases h)
  have hRL := RLe.refl (M := []) w0 (fun _ => none)
  refine wp_seq ?_
  refine wp_region_lit ?_
  refine sl hK (by decide) rfl rfl (r_assign hK rfl) fun a hK => ?_
  refine wpList_nil ?_
  refine wp_seq ?_
  refine wp_seq ?_
  refine wp_region_lit ?_
  refine sl hK (by decide) rfl rfl (r_assign hK rfl) fun a hK => ?_
  refine wpList_nil ?_
  refine wp_block ?_
  refine wp_loop_k (fun k_l0 a w => ∃ (x_48 : Int), ref02_Row.l0 a0 a1 k_l0 x_48 = some r ∧ Kn 41 a [(0, v0_0), (1, v1_0), (5, .int .i64 x_48)] ∧ St [] w0 w (fun _ => none) []) (((a0.length : Int) - 0).toNat + 1) ?_ ?_
  · exact ⟨0, H, hK.sub (all_cons rfl (all_cons rfl (all_cons rfl (all_nil)))), hS⟩
  · rintro k_l0 a w ⟨x_48, H, hK, hS⟩
    cases k_l0 with
    | zero => cases H
    | succ k_l0 =>
    rw [ref02_Row.l0.eq_2] at H
    refine wp_seq ?_
    refine wp_seq ?_
    refine wp_mid (fun a w => ∃ (x_98 : Bool), ref02_Row.j1 (ref02_Row.l0 a0 a1 k_l0) a0 a1 x_48 x_98 = some r ∧ Kn 41 a [(0, v0_0), (1, v1_0), (5, .int .i64 x_48), (16, .bool x_98)] ∧ St [] w0 w (fun _ => none) []) ?_ ?_
    · refine wp_region_lit ?_
      refine sl hK (by decide) rfl rfl (r_move hK rfl) fun a hK => ?_
      refine sl hK (by decide) rfl rfl (r_move hK rfl) fun a hK => ?_
      refine sl hK (by decide) rfl rfl (r_len_R Try.underlying40 h0_0 hK rfl) fun a hK => ?_
      refine sl hK (by decide) rfl rfl (r_ibin hK rfl rfl rfl) fun a hK => ?_
      refine sl hK (by decide) rfl rfl (r_move hK rfl) fun a hK => ?_
      rcases or_b (decide (x_48 < (a0.length : Int))) with hb_100 | hb_100
      · rw [ifb_t hb_100] at H
        refine sl hK (by decide) (wtt hb_100) rfl (r_move hK rfl) fun a hK => ?_
        refine sl hK (by decide) (wtt hb_100) rfl (r_move hK rfl) fun a hK => ?_
        refine sl hK (by decide) (wtt hb_100) rfl (r_len_R Try.underlying40 h1_0 hK rfl) fun a hK => ?_
        refine sl hK (by decide) (wtt hb_100) rfl (r_ibin hK rfl rfl rfl) fun a hK => ?_
        refine sl hK (by decide) rfl rfl (r_pick_t hb_100 hK rfl rfl) fun a hK => ?_
        refine wpList_nil ?_
        exact ⟨(decide (x_48 < (a1.length : Int))), H, hK.sub (all_cons rfl (all_cons rfl (all_cons rfl (all_cons rfl (all_nil))))), hS⟩
      · rw [ifb_f hb_100] at H
        refine sl_skip hK (by decide) (wtf hb_100) rfl fun a hK => ?_
        refine sl_skip hK (by decide) (wtf hb_100) rfl fun a hK => ?_
        refine sl_skip hK (by decide) (wtf hb_100) rfl fun a hK => ?_
        refine sl_skip hK (by decide) (wtf hb_100) rfl fun a hK => ?_
        refine sl hK (by decide) rfl rfl (r_pick_f hb_100 hK rfl rfl) fun a hK => ?_
        refine wpList_nil ?_
        exact ⟨false, H, hK.sub (all_cons rfl (all_cons rfl (all_cons rfl (all_cons rfl (all_nil))))), hS⟩
    · rintro a w ⟨x_98, H, hK, hS⟩
      unfold ref02_Row.j1 at H
      refine wp_cond_split (hK.ev rfl) (fun (hb_101 : x_98 = true) => ?_) (fun (hb_101 : x_98 = false) => ?_)
      · rw [ifb_t hb_101] at H
        refine wp_skip ?_
        refine wp_seq ?_
        refine wp_block ?_
        refine wp_seq ?_
        refine parT_region (C := fun w => St [] w0 w (fun _ => none) []) 8 [(0, true), (1, true), (2, true), (3, true), (4, true), (5, true), (6, true), (7, true)] mixed (by kernel_rfl) hS (fun w hS => hS) fun w hS => ?_
        refine sp (k := 0) rfl hK (by decide) rfl rfl (fun w hS => r_move hK rfl) fun a hK => ?_
        refine sp (k := 1) rfl hK (by decide) rfl rfl (fun w hS => r_move hK rfl) fun a hK => ?_
        obtain ⟨y_122, h_123, H⟩ := bind_some H
        obtain ⟨b_124, o_125, c_126, cs_127, hv_128, hr_129, hc_130, h_1230, h_1231⟩ := h0_0.ix h_123
        subst hr_129
        refine sp (k := 2) rfl hK (by decide) rfl rfl (fun w hS => r_indexAddr_R Try.underlying40 Try.sizeOf46 hv_128 h_1230 h_1231 hK rfl rfl) fun a hK => ?_
        refine sp (k := 3) rfl hK (by decide) rfl rfl (fun w hS => r_loadA (cs := [.int .i64 y_122.Kind, .int .i64 y_122.N, .string y_122.S, .int .i64 y_122.H.a0, .int .i64 y_122.H.a1, .int .i64 y_122.H.a2, .int .i64 y_122.H.a3, .int .i64 y_122.H.a4, .int .i64 y_122.H.a5, .int .i64 y_122.H.a6, .int .i64 y_122.H.a7]) Try.isAgg46 Try.sizeOf46 rfl hK rfl (fun j v hv => (hS.ra hRA nil_not).cell (hc_130 j v hv))) fun a hK => ?_
        refine sp (k := 4) rfl hK (by decide) rfl rfl (fun w hS => r_move hK rfl) fun a hK => ?_
        refine sp (k := 5) rfl hK (by decide) rfl rfl (fun w hS => r_move hK rfl) fun a hK => ?_
        obtain ⟨y_131, h_132, H⟩ := bind_some H
        obtain ⟨b_133, o_134, c_135, cs_136, hv_137, hr_138, hc_139, h_1320, h_1321⟩ := h1_0.ix h_132
        subst hr_138
        refine sp (k := 6) rfl hK (by decide) rfl rfl (fun w hS => r_indexAddr_R Try.underlying40 Try.sizeOf46 hv_137 h_1320 h_1321 hK rfl rfl) fun a hK => ?_
        refine sp (k := 7) rfl hK (by decide) rfl rfl (fun w hS => r_loadA (cs := [.int .i64 y_131.Kind, .int .i64 y_131.N, .string y_131.S, .int .i64 y_131.H.a0, .int .i64 y_131.H.a1, .int .i64 y_131.H.a2, .int .i64 y_131.H.a3, .int .i64 y_131.H.a4, .int .i64 y_131.H.a5, .int .i64 y_131.H.a6, .int .i64 y_131.H.a7]) Try.isAgg46 Try.sizeOf46 rfl hK rfl (fun j v hv => (hS.ra hRA nil_not).cell (hc_139 j v hv))) fun a hK => ?_
        refine thenL_nil ?_
        obtain ⟨y_140, h_141, H⟩ := bind_some H
        refine sl_callV Try.call31 hS hK (by decide) rfl rfl rfl (ref01_Compare.calls y_122 y_131 h_141 _) fun a w hS hK => ?_
        refine sl hK (by decide) rfl rfl (r_assign hK rfl) fun a hK => ?_
        refine wpList_nil (NoP_nil ?_)
        refine wp_seq ?_
        refine wp_region_lit ?_
        refine sl hK (by decide) rfl rfl (r_move hK rfl) fun a hK => ?_
        refine sl hK (by decide) rfl rfl (r_ibin hK rfl rfl rfl) fun a hK => ?_
        refine wpList_nil ?_
        refine wp_cond_split (hK.ev rfl) (fun (hb_142 : (y_140 != 0) = true) => ?_) (fun (hb_142 : (y_140 != 0) = false) => ?_)
        · rw [ifb_t hb_142] at H
          refine wp_seq ?_
          refine wp_region_lit ?_
          refine sl hK (by decide) rfl rfl (r_move hK rfl) fun a hK => ?_
          refine sl hK (by decide) rfl rfl (r_assign hK rfl) fun a hK => ?_
          refine wpList_nil ?_
          obtain rfl := Option.some.inj H
          refine wp_ret ?_
          repeat (first | refine ret_then ?_ | refine ret_block ?_ | refine ret_scope ?_)
          exact ret_1 Try.results14 hK (rv_tmp hK rfl) ⟨rfl, hS.bel⟩
        · rw [ifb_f hb_142] at H
          refine wp_skip ?_
          refine wp_region_lit ?_
          refine sl hK (by decide) rfl rfl (r_move hK rfl) fun a hK => ?_
          refine sl hK (by decide) rfl rfl (r_ibin hK rfl rfl rfl) fun a hK => ?_
          refine sl hK (by decide) rfl rfl (r_assign hK rfl) fun a hK => ?_
          refine wpList_nil ?_
          exact ⟨_, Nat.lt_succ_self _, (IntKind.i64.wrap (x_48 + 1)), H, hK.sub (all_cons rfl (all_cons rfl (all_cons rfl (all_nil)))), hS⟩
      · rw [ifb_f hb_101] at H
        refine wp_exit ?_
        refine wp_seq ?_
        refine wp_seq ?_
        refine wp_region_lit ?_
        refine sl hK (by decide) rfl rfl (r_move hK rfl) fun a hK => ?_
        refine sl hK (by decide) rfl rfl (r_len_R Try.underlying40 h0_0 hK rfl) fun a hK => ?_
        refine sl hK (by decide) rfl rfl (r_move hK rfl) fun a hK => ?_
        refine sl hK (by decide) rfl rfl (r_len_R Try.underlying40 h1_0 hK rfl) fun a hK => ?_
        refine sl hK (by decide) rfl rfl (r_ibin hK rfl rfl rfl) fun a hK => ?_
        refine wpList_nil ?_
        refine wp_cond_split (hK.ev rfl) (fun (hb_143 : (decide ((a0.length : Int) < (a1.length : Int))) = true) => ?_) (fun (hb_143 : (decide ((a0.length : Int) < (a1.length : Int))) = false) => ?_)
        · rw [ifb_t hb_143] at H
          refine wp_seq ?_
          refine wp_region_lit ?_
          refine sl hK (by decide) rfl rfl (r_assign hK rfl) fun a hK => ?_
          refine wpList_nil ?_
          obtain rfl := Option.some.inj H
          refine wp_ret ?_
          repeat (first | refine ret_then ?_ | refine ret_block ?_ | refine ret_scope ?_)
          exact ret_1 Try.results14 hK (rv_tmp hK rfl) ⟨rfl, hS.bel⟩
        · rw [ifb_f hb_143] at H
          refine wp_skip ?_
          refine wp_seq ?_
          refine wp_seq ?_
          refine wp_region_lit ?_
          refine sl hK (by decide) rfl rfl (r_move hK rfl) fun a hK => ?_
          refine sl hK (by decide) rfl rfl (r_len_R Try.underlying40 h0_0 hK rfl) fun a hK => ?_
          refine sl hK (by decide) rfl rfl (r_move hK rfl) fun a hK => ?_
          refine sl hK (by decide) rfl rfl (r_len_R Try.underlying40 h1_0 hK rfl) fun a hK => ?_
          refine sl hK (by decide) rfl rfl (r_ibin hK rfl rfl rfl) fun a hK => ?_
          refine wpList_nil ?_
          refine wp_cond_split (hK.ev rfl) (fun (hb_144 : (decide ((a0.length : Int) > (a1.length : Int))) = true) => ?_) (fun (hb_144 : (decide ((a0.length : Int) > (a1.length : Int))) = false) => ?_)
          · rw [ifb_t hb_144] at H
            refine wp_seq ?_
            refine wp_region_lit ?_
            refine sl hK (by decide) rfl rfl (r_assign hK rfl) fun a hK => ?_
            refine wpList_nil ?_
            obtain rfl := Option.some.inj H
            refine wp_ret ?_
            repeat (first | refine ret_then ?_ | refine ret_block ?_ | refine ret_scope ?_)
            exact ret_1 Try.results14 hK (rv_tmp hK rfl) ⟨rfl, hS.bel⟩
          · rw [ifb_f hb_144] at H
            refine wp_skip ?_
            refine wp_seq ?_
            refine wp_region_lit ?_
            refine sl hK (by decide) rfl rfl (r_assign hK rfl) fun a hK => ?_
            refine wpList_nil ?_
            obtain rfl := Option.some.inj H
            refine wp_ret ?_
            repeat (first | refine ret_then ?_ | refine ret_block ?_ | refine ret_scope ?_)
            exact ret_1 Try.results14 hK (rv_tmp hK rfl) ⟨rfl, hS.bel⟩

/-! ### catchment/catchmentref02.sorted: function 44 -/
set_option maxHeartbeats 4000000 in
set_option maxRecDepth 100000 in
theorem ref02_sorted.r_calls (fuel : Nat) : ∀ (a0 : List (List api_Value)) {w0 : World} {R : Hp} {v0_0 : Value} (hR : R.sub w0) (h0_0 : SlR (tySl ty_api_Value) R v0_0 a0) {r : List (List api_Value)} (H : ref02_sorted.r fuel a0 = some r), Calls Try.prog 44 #[v0_0] w0 (Rets fun v w' => ∃ (R' : Hp) (u0 : Value) (cu0 : List Value), v = u0 ∧ St [] w0 w' R' [.row 40 1 u0 r.length cu0] ∧ RLe [] w0 R R' ∧ Reps (tySl ty_api_Value) R' cu0 r) := by
  induction fuel with
  | zero => intros; rename_i H; exact nomatch (show (none : Option _) = some _ from H)
  | succ fuel ih_44 =>
    intro a0 w0 R v0_0 hR h0_0 r H
    rw [ref02_sorted.r.eq_2] at H
    generalize ref02_sorted.r fuel = kr_44 at ih_44 H
    unfold ref02_sorted.b at H
    refine enter (args := [v0_0]) Try.func44 rfl Try.ntmps44 rfl fun a hK => ?_
    have hS := St.init hR
    have hRL := RLe.refl (M := []) w0 R
    refine wp_seq ?_
    refine wp_region_lit ?_
    refine sl hK (by decide) rfl rfl (r_assign hK rfl) fun a hK => ?_
    refine wpList_nil ?_
    refine wp_seq ?_
    refine wp_seq ?_
    refine wp_region_lit ?_
    refine sl hK (by decide) rfl rfl (r_move hK rfl) fun a hK => ?_
    refine sl hK (by decide) rfl rfl (r_len_R Try.underlying23 h0_0 hK rfl) fun a hK => ?_
    refine sl hK (by decide) rfl rfl (r_ibin hK rfl rfl rfl) fun a hK => ?_
    refine wpList_nil ?_
    refine wp_cond_split (hK.ev rfl) (fun (hb_1 : (decide ((a0.length : Int) < 2)) = true) => ?_) (fun (hb_1 : (decide ((a0.length : Int) < 2)) = false) => ?_)
    · rw [ifb_t hb_1] at H
      refine wp_seq ?_
      refine wp_region_lit ?_
      refine sl_buildSliceC (zc := [.slice none 0 0]) (zs := []) (ps := []) (c := []) Try.underlying23 Try.sizeOf40 Try.zeroValue40 rfl pc_nil rfl rfl (by decide) (by kernel_rfl) rfl hS hK (by decide) rfl fun a w b_2 hS hK => ?_
      refine sl hK (by decide) rfl rfl (r_move hK rfl) fun a hK => ?_
      obtain ⟨y_5, h_6, H⟩ := bind_some H
      have hS := hS.row_lit (size := 1) (m := 0) rfl (by decide)
      have hq_4 : Reps (tySl ty_api_Value) R [] ([] : List (List api_Value)) := (Reps.nil _ _)
      refine sl_append_R elT23 (by decide) rfl hq_4 rfl h0_0 h_6 hS hK (by decide) rfl rfl rfl fun a w v_7 cs_8 hq_9 hS hK => ?_
      refine sl hK (by decide) rfl rfl (r_assign hK rfl) fun a hK => ?_
      refine wpList_nil ?_
      obtain rfl := Option.some.inj H
      refine wp_ret ?_
      repeat (first | refine ret_then ?_ | refine ret_block ?_ | refine ret_scope ?_)
      exact ret_1 Try.results44 hK (rv_tmp hK rfl) ⟨_, rfl, _, _, _, rfl, hS, hRL, hq_9⟩
    · rw [ifb_f hb_1] at H
      refine wp_skip ?_
      refine wp_seq ?_
      refine wp_region_lit ?_
      refine sl hK (by decide) rfl rfl (r_move hK rfl) fun a hK => ?_
      refine sl hK (by decide) rfl rfl (r_move hK rfl) fun a hK => ?_
      refine sl hK (by decide) rfl rfl (r_len_R Try.underlying23 h0_0 hK rfl) fun a hK => ?_
      refine sl hK (by decide) rfl rfl (r_quo hK rfl rfl (by decide)) fun a hK => ?_
      obtain ⟨y_11, h_12, H⟩ := bind_some H
      obtain ⟨v_13, hs_14, hr_15⟩ := r_slice_R (x := .tmp 14) (lo := none) (hi := some (.tmp 17)) Try.underlying23 Try.sizeOf40 h0_0 h_12 hK rfl rfl ⟨_, rfl⟩
      refine sl hK (by decide) rfl rfl (hr_15 _ _ _ _ _ _ _ hK) fun a hK => ?_
      obtain ⟨y_16, h_17, H⟩ := bind_some H
      refine sl_call Try.call44 hK (by decide) rfl rfl rfl (ih_44 y_11 hS.sub hs_14 h_17) fun a v_ w hv_ hK => ?_
      obtain ⟨R_18, v_21, cs_22, hv_, hr_, hl_19, hq_23⟩ := hv_
      have hv_ := hv_.symm
      subst hv_
      obtain ⟨hS, hl_19⟩ := hS.sp0.back hr_ hl_19
      have hS := hS.un1
      have hRL := hRL.trans hl_19
      refine sl hK (by decide) rfl rfl (r_assign hK rfl) fun a hK => ?_
      refine wpList_nil ?_
      refine wp_seq ?_
      refine wp_region_lit ?_
      refine sl hK (by decide) rfl rfl (r_move hK rfl) fun a hK => ?_
      refine sl hK (by decide) rfl rfl (r_move hK rfl) fun a hK => ?_
      refine sl hK (by decide) rfl rfl (r_len_R Try.underlying23 h0_0 hK rfl) fun a hK => ?_
      refine sl hK (by decide) rfl rfl (r_quo hK rfl rfl (by decide)) fun a hK => ?_
      obtain ⟨y_24, h_25, H⟩ := bind_some H
      obtain ⟨v_26, hs_27, hr_28⟩ := r_slice_R (x := .tmp 20) (lo := some (.tmp 23)) (hi := none) Try.underlying23 Try.sizeOf40 h0_0 h_25 hK rfl ⟨_, rfl⟩ rfl
      refine sl hK (by decide) rfl rfl (hr_28 _ _ _ _ _ _ _ hK) fun a hK => ?_
      obtain ⟨y_29, h_30, H⟩ := bind_some H
      refine sl_call Try.call44 hK (by decide) rfl rfl rfl (ih_44 y_24 hS.sub (hs_27.mono hl_19.le) h_30) fun a v_ w hv_ hK => ?_
      obtain ⟨R_31, v_34, cs_35, hv_, hr_, hl_32, hq_36⟩ := hv_
      have hv_ := hv_.symm
      subst hv_
      obtain ⟨hS, hl_32⟩ := hS.sp0.back hr_ hl_32
      have hS := hS.un1
      have hRL := hRL.trans hl_32
      refine sl hK (by decide) rfl rfl (r_assign hK rfl) fun a hK => ?_
      refine wpList_nil ?_
      refine wp_seq ?_
      refine wp_region_lit ?_
      refine sl hK (by decide) rfl rfl (r_assign hK rfl) fun a hK => ?_
      refine wpList_nil ?_
      refine wp_seq ?_
      refine wp_region_lit ?_
      refine sl hK (by decide) rfl rfl (r_assign hK rfl) fun a hK => ?_
      refine wpList_nil ?_
      refine wp_seq ?_
      refine wp_region_lit ?_
      refine sl hK (by decide) rfl rfl (r_assign hK rfl) fun a hK => ?_
      refine wpList_nil ?_
      refine wp_seq ?_
      refine wp_block ?_
      refine wp_loop_k (fun k_l0 a w => ∃ (x_228 : List (List api_Value)) (x_232 : Int) (x_233 : Int) (v_229 : Value) (cs_230 : List Value), ref02_sorted.l0 y_16 y_29 k_l0 x_228 x_232 x_233 = some r ∧ Reps (tySl ty_api_Value) R_31 cs_230 x_228 ∧ Kn 77 a [(3, v_21), (4, v_34), (5, v_229), (6, .int .i64 x_232), (7, .int .i64 x_233)] ∧ St [] w0 w R_31 [.row 40 1 v_21 y_16.length cs_22, .row 40 1 v_34 y_29.length cs_35, .row 40 1 v_229 x_228.length cs_230]) (y_16.length + y_29.length + 1) ?_ ?_
      · have hS := hS.row_nil 40 1
        have hq_417 : Reps (tySl ty_api_Value) R_31 [] ([] : List (List api_Value)) := Reps.nil _ _
        have hS := hS.pk1
        have hS := hS.pk2
        exact ⟨[], 0, 0, _, _, H, hq_417, hK.sub (all_cons rfl (all_cons rfl (all_cons rfl (all_cons rfl (all_cons rfl (all_nil)))))), hS⟩
      · rintro k_l0 a w ⟨x_228, x_232, x_233, v_229, cs_230, H, hq_231, hK, hS⟩
        cases k_l0 with
        | zero => cases H
        | succ k_l0 =>
        rw [ref02_sorted.l0.eq_2] at H
        refine wp_seq ?_
        refine wp_seq ?_
        refine wp_mid (fun a w => ∃ (x_419 : Bool), ref02_sorted.j1 (ref02_sorted.l0 y_16 y_29 k_l0) y_16 y_29 x_228 x_232 x_233 x_419 = some r ∧ Kn 77 a [(3, v_21), (4, v_34), (5, v_229), (6, .int .i64 x_232), (7, .int .i64 x_233), (35, .bool x_419)] ∧ St [] w0 w R_31 [.row 40 1 v_21 y_16.length cs_22, .row 40 1 v_34 y_29.length cs_35, .row 40 1 v_229 x_228.length cs_230]) ?_ ?_
        · refine wp_region_lit ?_
          refine sl hK (by decide) rfl rfl (r_move hK rfl) fun a hK => ?_
          refine sl hK (by decide) rfl rfl (r_move hK rfl) fun a hK => ?_
          refine sl hK (by decide) rfl rfl (r_len_O Try.underlying23 hS (.head _) hK rfl) fun a hK => ?_
          refine sl hK (by decide) rfl rfl (r_ibin hK rfl rfl rfl) fun a hK => ?_
          refine sl hK (by decide) rfl rfl (r_move hK rfl) fun a hK => ?_
          rcases or_b (decide (x_232 < (y_16.length : Int))) with hb_421 | hb_421
          · rw [ifb_t hb_421] at H
            refine sl_skip hK (by decide) (wft hb_421) rfl fun a hK => ?_
            refine sl_skip hK (by decide) (wft hb_421) rfl fun a hK => ?_
            refine sl_skip hK (by decide) (wft hb_421) rfl fun a hK => ?_
            refine sl_skip hK (by decide) (wft hb_421) rfl fun a hK => ?_
            refine sl hK (by decide) rfl rfl (r_pick_t hb_421 hK rfl rfl) fun a hK => ?_
            refine wpList_nil ?_
            have hS := hS.pk2
            have hS := hS.pk2
            have hS := hS.pk2
            exact ⟨true, H, hK.sub (all_cons rfl (all_cons rfl (all_cons rfl (all_cons rfl (all_cons rfl (all_cons rfl (all_nil))))))), hS⟩
          · rw [ifb_f hb_421] at H
            refine sl hK (by decide) (wff hb_421) rfl (r_move hK rfl) fun a hK => ?_
            refine sl hK (by decide) (wff hb_421) rfl (r_move hK rfl) fun a hK => ?_
            refine sl hK (by decide) (wff hb_421) rfl (r_len_O Try.underlying23 hS (.tail _ (.head _)) hK rfl) fun a hK => ?_
            refine sl hK (by decide) (wff hb_421) rfl (r_ibin hK rfl rfl rfl) fun a hK => ?_
            refine sl hK (by decide) rfl rfl (r_pick_f hb_421 hK rfl rfl) fun a hK => ?_
            refine wpList_nil ?_
            have hS := hS.pk2
            have hS := hS.pk2
            have hS := hS.pk2
            exact ⟨(decide (x_233 < (y_29.length : Int))), H, hK.sub (all_cons rfl (all_cons rfl (all_cons rfl (all_cons rfl (all_cons rfl (all_cons rfl (all_nil))))))), hS⟩
        · rintro a w ⟨x_419, H, hK, hS⟩
          unfold ref02_sorted.j1 at H
          refine wp_cond_split (hK.ev rfl) (fun (hb_422 : x_419 = true) => ?_) (fun (hb_422 : x_419 = false) => ?_)
          · rw [ifb_t hb_422] at H
            refine wp_skip ?_
            refine wp_block ?_
            refine wp_seq ?_
            refine wp_mid (fun a w => ∃ (x_471 : Bool), ref02_sorted.j2 (ref02_sorted.l0 y_16 y_29 k_l0) y_16 y_29 x_228 x_232 x_233 x_471 = some r ∧ Kn 77 a [(3, v_21), (4, v_34), (5, v_229), (6, .int .i64 x_232), (7, .int .i64 x_233), (57, .bool x_471)] ∧ St [] w0 w R_31 [.row 40 1 v_21 y_16.length cs_22, .row 40 1 v_34 y_29.length cs_35, .row 40 1 v_229 x_228.length cs_230]) ?_ ?_
            · refine parT_region (C := fun w => St [] w0 w R_31 [.row 40 1 v_21 y_16.length cs_22, .row 40 1 v_34 y_29.length cs_35, .row 40 1 v_229 x_228.length cs_230]) 18 [(0, true), (1, true), (2, true), (3, true), (4, true), (5, true), (6, true), (7, true), (8, true), (9, true), (10, true), (11, true), (12, true), (13, true), (14, true), (15, true), (16, true), (17, true)] mixed (by kernel_rfl) hS (fun w hS => hS) fun w hS => ?_
              refine sp (k := 0) rfl hK (by decide) rfl rfl (fun w hS => r_move hK rfl) fun a hK => ?_
              refine sp (k := 1) rfl hK (by decide) rfl rfl (fun w hS => r_move hK rfl) fun a hK => ?_
              refine sp (k := 2) rfl hK (by decide) rfl rfl (fun w hS => r_len_O Try.underlying23 hS (.tail _ (.head _)) hK rfl) fun a hK => ?_
              refine sp (k := 3) rfl hK (by decide) rfl rfl (fun w hS => r_ibin hK rfl rfl rfl) fun a hK => ?_
              refine sp (k := 4) rfl hK (by decide) rfl rfl (fun w hS => r_move hK rfl) fun a hK => ?_
              rcases or_b (x_233 == (y_29.length : Int)) with hb_497 | hb_497
              · rw [ifb_t hb_497] at H
                refine sp_skip (k := 5) rfl hK (by decide) (wft hb_497) rfl fun a hK => ?_
                refine sp_skip (k := 6) rfl hK (by decide) (wft hb_497) rfl fun a hK => ?_
                refine sp_skip (k := 7) rfl hK (by decide) (wft hb_497) rfl fun a hK => ?_
                refine sp_skip (k := 8) rfl hK (by decide) (wft hb_497) rfl fun a hK => ?_
                refine sp_skip (k := 9) rfl hK (by decide) (wft hb_497) rfl fun a hK => ?_
                refine sp_skip (k := 10) rfl hK (by decide) rfl rfl fun a hK => ?_
                refine sp_skip (k := 11) rfl hK (by decide) rfl rfl fun a hK => ?_
                refine sp_skip (k := 12) rfl hK (by decide) rfl rfl fun a hK => ?_
                refine sp_skip (k := 13) rfl hK (by decide) rfl rfl fun a hK => ?_
                refine sp_skip (k := 14) rfl hK (by decide) rfl rfl fun a hK => ?_
                refine sp_skip (k := 15) rfl hK (by decide) rfl rfl fun a hK => ?_
                refine sp_skip (k := 16) rfl hK (by decide) rfl rfl fun a hK => ?_
                refine sp_skip (k := 17) rfl hK (by decide) rfl rfl fun a hK => ?_
                refine thenL_nil ?_
                refine sl_skip hK (by decide) rfl rfl fun a hK => ?_
                refine sl_skip hK (by decide) rfl rfl fun a hK => ?_
                refine sl_skip hK (by decide) (wft hb_497) rfl fun a hK => ?_
                refine sl hK (by decide) rfl rfl (r_pick_t hb_497 hK rfl rfl) fun a hK => ?_
                refine wpList_nil (NoP_nil ?_)
                have hS := hS.pk2
                have hS := hS.pk2
                have hS := hS.pk2
                exact ⟨true, H, hK.sub (all_cons rfl (all_cons rfl (all_cons rfl (all_cons rfl (all_cons rfl (all_cons rfl (all_nil))))))), hS⟩
              · rw [ifb_f hb_497] at H
                refine sp (k := 5) rfl hK (by decide) (wff hb_497) rfl (fun w hS => r_move hK rfl) fun a hK => ?_
                refine sp (k := 6) rfl hK (by decide) (wff hb_497) rfl (fun w hS => r_move hK rfl) fun a hK => ?_
                refine sp (k := 7) rfl hK (by decide) (wff hb_497) rfl (fun w hS => r_len_O Try.underlying23 hS (.head _) hK rfl) fun a hK => ?_
                refine sp (k := 8) rfl hK (by decide) (wff hb_497) rfl (fun w hS => r_ibin hK rfl rfl rfl) fun a hK => ?_
                refine sp (k := 9) rfl hK (by decide) (wff hb_497) rfl (fun w hS => r_move hK rfl) fun a hK => ?_
                rcases or_b (decide (x_232 < (y_16.length : Int))) with hb_498 | hb_498
                · rw [ifb_t hb_498] at H
                  refine sp (k := 10) rfl hK (by decide) (wtt hb_498) rfl (fun w hS => r_move hK rfl) fun a hK => ?_
                  refine sp (k := 11) rfl hK (by decide) (wtt hb_498) rfl (fun w hS => r_move hK rfl) fun a hK => ?_
                  obtain ⟨y_499, h_500, H⟩ := bind_some H
                  obtain ⟨b_502, c_503, cs_504, hv_501, hr_505, hc_506, h_5000, h_5001⟩ := hS.row_ix (.head _) (hq_23.mono hl_32.le) rfl rfl h_500
                  obtain ⟨v_507, rfl, hs_508⟩ := hr_505
                  refine sp (k := 12) rfl hK (by decide) (wtt hb_498) rfl (fun w hS => r_indexAddr_R Try.underlying23 Try.sizeOf40 hv_501 h_5000 h_5001 hK rfl rfl) fun a hK => ?_
                  refine sp (k := 13) rfl hK (by decide) (wtt hb_498) rfl (fun w hS => r_load Try.isAgg40 hK rfl (hS.row_cell (.head _) hv_501 (hc_506 0 _ rfl))) fun a hK => ?_
                  refine sp (k := 14) rfl hK (by decide) (wtt hb_498) rfl (fun w hS => r_move hK rfl) fun a hK => ?_
                  refine sp (k := 15) rfl hK (by decide) (wtt hb_498) rfl (fun w hS => r_move hK rfl) fun a hK => ?_
                  obtain ⟨y_509, h_510, H⟩ := bind_some H
                  obtain ⟨b_512, c_513, cs_514, hv_511, hr_515, hc_516, h_5100, h_5101⟩ := hS.row_ix (.tail _ (.head _)) hq_36 rfl rfl h_510
                  obtain ⟨v_517, rfl, hs_518⟩ := hr_515
                  refine sp (k := 16) rfl hK (by decide) (wtt hb_498) rfl (fun w hS => r_indexAddr_R Try.underlying23 Try.sizeOf40 hv_511 h_5100 h_5101 hK rfl rfl) fun a hK => ?_
                  refine sp (k := 17) rfl hK (by decide) (wtt hb_498) rfl (fun w hS => r_load Try.isAgg40 hK rfl (hS.row_cell (.tail _ (.head _)) hv_511 (hc_516 0 _ rfl))) fun a hK => ?_
                  refine thenL_nil ?_
                  obtain ⟨y_519, h_520, H⟩ := bind_some H
                  refine sl_callV Try.call14 hS hK (by decide) (wtt hb_498) rfl rfl (ref02_Row.calls y_499 y_509 (lentOf_sub [] _) (hs_508.mono hS.rLe0) (hs_518.mono hS.rLe0) h_520) fun a w hS hK => ?_
                  refine sl hK (by decide) (wtt hb_498) rfl (r_ibin hK rfl rfl rfl) fun a hK => ?_
                  refine sl hK (by decide) (wff hb_497) rfl (r_pick_t hb_498 hK rfl rfl) fun a hK => ?_
                  refine sl hK (by decide) rfl rfl (r_pick_f hb_497 hK rfl rfl) fun a hK => ?_
                  refine wpList_nil (NoP_nil ?_)
                  have hS := hS.pk2
                  have hS := hS.pk2
                  have hS := hS.pk2
                  exact ⟨(decide (y_519 ≤ 0)), H, hK.sub (all_cons rfl (all_cons rfl (all_cons rfl (all_cons rfl (all_cons rfl (all_cons rfl (all_nil))))))), hS⟩
                · rw [ifb_f hb_498] at H
                  refine sp_skip (k := 10) rfl hK (by decide) (wtf hb_498) rfl fun a hK => ?_
                  refine sp_skip (k := 11) rfl hK (by decide) (wtf hb_498) rfl fun a hK => ?_
                  refine sp_skip (k := 12) rfl hK (by decide) (wtf hb_498) rfl fun a hK => ?_
                  refine sp_skip (k := 13) rfl hK (by decide) (wtf hb_498) rfl fun a hK => ?_
                  refine sp_skip (k := 14) rfl hK (by decide) (wtf hb_498) rfl fun a hK => ?_
                  refine sp_skip (k := 15) rfl hK (by decide) (wtf hb_498) rfl fun a hK => ?_
                  refine sp_skip (k := 16) rfl hK (by decide) (wtf hb_498) rfl fun a hK => ?_
                  refine sp_skip (k := 17) rfl hK (by decide) (wtf hb_498) rfl fun a hK => ?_
                  refine thenL_nil ?_
                  refine sl_skip hK (by decide) (wtf hb_498) rfl fun a hK => ?_
                  refine sl_skip hK (by decide) (wtf hb_498) rfl fun a hK => ?_
                  refine sl hK (by decide) (wff hb_497) rfl (r_pick_f hb_498 hK rfl rfl) fun a hK => ?_
                  refine sl hK (by decide) rfl rfl (r_pick_f hb_497 hK rfl rfl) fun a hK => ?_
                  refine wpList_nil (NoP_nil ?_)
                  have hS := hS.pk2
                  have hS := hS.pk2
                  have hS := hS.pk2
                  exact ⟨false, H, hK.sub (all_cons rfl (all_cons rfl (all_cons rfl (all_cons rfl (all_cons rfl (all_cons rfl (all_nil))))))), hS⟩
            · rintro a w ⟨x_471, H, hK, hS⟩
              unfold ref02_sorted.j2 at H
              refine wp_mid (fun a w => ∃ (x_557 : List (List api_Value)) (x_561 : Int) (x_562 : Int) (v_558 : Value) (cs_559 : List Value), ref02_sorted.j3 (ref02_sorted.l0 y_16 y_29 k_l0) y_16 y_29 x_557 x_561 x_562 = some r ∧ Reps (tySl ty_api_Value) R_31 cs_559 x_557 ∧ Kn 77 a [(3, v_21), (4, v_34), (5, v_558), (6, .int .i64 x_561), (7, .int .i64 x_562)] ∧ St [] w0 w R_31 [.row 40 1 v_21 y_16.length cs_22, .row 40 1 v_34 y_29.length cs_35, .row 40 1 v_558 x_557.length cs_559]) ?_ ?_
              · refine wp_cond_split (hK.ev rfl) (fun (hb_564 : x_471 = true) => ?_) (fun (hb_564 : x_471 = false) => ?_)
                · rw [ifb_t hb_564] at H
                  refine wp_seq ?_
                  refine wp_region_lit ?_
                  refine sl hK (by decide) rfl rfl (r_move hK rfl) fun a hK => ?_
                  refine sl hK (by decide) rfl rfl (r_move hK rfl) fun a hK => ?_
                  refine sl hK (by decide) rfl rfl (r_move hK rfl) fun a hK => ?_
                  obtain ⟨y_565, h_566, H⟩ := bind_some H
                  obtain ⟨b_568, c_569, cs_570, hv_567, hr_571, hc_572, h_5660, h_5661⟩ := hS.row_ix (.head _) (hq_23.mono hl_32.le) rfl rfl h_566
                  obtain ⟨v_573, rfl, hs_574⟩ := hr_571
                  refine sl hK (by decide) rfl rfl (r_indexAddr_R Try.underlying23 Try.sizeOf40 hv_567 h_5660 h_5661 hK rfl rfl) fun a hK => ?_
                  refine sl hK (by decide) rfl rfl (r_load Try.isAgg40 hK rfl (hS.row_cell (.head _) hv_567 (hc_572 0 _ rfl))) fun a hK => ?_
                  refine sl_buildSliceF (zc := [.slice none 0 0]) (ps := [(0, v_573)]) (c := [v_573]) [[v_573]] Try.underlying23 Try.sizeOf40 Try.zeroValue40 rfl (pc_cons (cells1 hs_574.one) pc_nil) rfl rfl (Nat.le_of_ble_eq_true rfl) rfl (all_cons rfl (all_nil)) rfl hS hK (by decide) rfl fun a w b_575 hS hK => ?_
                  obtain ⟨y_576, h_577, H⟩ := bind_some H
                  have hS := hS.pk3
                  refine sl_append_L (ty := (tySl ty_api_Value)) (ys := [y_565]) elT23 (by decide) rfl hq_231 rfl (Reps.cons (show Ty.rep (tySl ty_api_Value) _ [v_573] y_565 from ⟨_, rfl, hs_574⟩) (Reps.nil _ _)) rfl h_577 hS hK (by decide) rfl rfl rfl fun a w v_578 cs_579 hq_580 hS hK => ?_
                  refine sl hK (by decide) rfl rfl (r_assign hK rfl) fun a hK => ?_
                  refine wpList_nil ?_
                  refine wp_region_lit ?_
                  refine sl hK (by decide) rfl rfl (r_move hK rfl) fun a hK => ?_
                  refine sl hK (by decide) rfl rfl (r_ibin hK rfl rfl rfl) fun a hK => ?_
                  refine sl hK (by decide) rfl rfl (r_assign hK rfl) fun a hK => ?_
                  refine wpList_nil ?_
                  have hS := hS.pk2
                  have hS := hS.pk2
                  exact ⟨y_576, (IntKind.i64.wrap (x_232 + 1)), x_233, _, _, H, hq_580, hK.sub (all_cons rfl (all_cons rfl (all_cons rfl (all_cons rfl (all_cons rfl (all_nil)))))), hS⟩
                · rw [ifb_f hb_564] at H
                  refine wp_seq ?_
                  refine wp_region_lit ?_
                  refine sl hK (by decide) rfl rfl (r_move hK rfl) fun a hK => ?_
                  refine sl hK (by decide) rfl rfl (r_move hK rfl) fun a hK => ?_
                  refine sl hK (by decide) rfl rfl (r_move hK rfl) fun a hK => ?_
                  obtain ⟨y_582, h_583, H⟩ := bind_some H
                  obtain ⟨b_585, c_586, cs_587, hv_584, hr_588, hc_589, h_5830, h_5831⟩ := hS.row_ix (.tail _ (.head _)) hq_36 rfl rfl h_583
                  obtain ⟨v_590, rfl, hs_591⟩ := hr_588
                  refine sl hK (by decide) rfl rfl (r_indexAddr_R Try.underlying23 Try.sizeOf40 hv_584 h_5830 h_5831 hK rfl rfl) fun a hK => ?_
                  refine sl hK (by decide) rfl rfl (r_load Try.isAgg40 hK rfl (hS.row_cell (.tail _ (.head _)) hv_584 (hc_589 0 _ rfl))) fun a hK => ?_
                  refine sl_buildSliceF (zc := [.slice none 0 0]) (ps := [(0, v_590)]) (c := [v_590]) [[v_590]] Try.underlying23 Try.sizeOf40 Try.zeroValue40 rfl (pc_cons (cells1 hs_591.one) pc_nil) rfl rfl (Nat.le_of_ble_eq_true rfl) rfl (all_cons rfl (all_nil)) rfl hS hK (by decide) rfl fun a w b_592 hS hK => ?_
                  obtain ⟨y_593, h_594, H⟩ := bind_some H
                  have hS := hS.pk3
                  refine sl_append_L (ty := (tySl ty_api_Value)) (ys := [y_582]) elT23 (by decide) rfl hq_231 rfl (Reps.cons (show Ty.rep (tySl ty_api_Value) _ [v_590] y_582 from ⟨_, rfl, hs_591⟩) (Reps.nil _ _)) rfl h_594 hS hK (by decide) rfl rfl rfl fun a w v_595 cs_596 hq_597 hS hK => ?_
                  refine sl hK (by decide) rfl rfl (r_assign hK rfl) fun a hK => ?_
                  refine wpList_nil ?_
                  refine wp_region_lit ?_
                  refine sl hK (by decide) rfl rfl (r_move hK rfl) fun a hK => ?_
                  refine sl hK (by decide) rfl rfl (r_ibin hK rfl rfl rfl) fun a hK => ?_
                  refine sl hK (by decide) rfl rfl (r_assign hK rfl) fun a hK => ?_
                  refine wpList_nil ?_
                  have hS := hS.pk2
                  have hS := hS.pk2
                  exact ⟨y_593, x_232, (IntKind.i64.wrap (x_233 + 1)), _, _, H, hq_597, hK.sub (all_cons rfl (all_cons rfl (all_cons rfl (all_cons rfl (all_cons rfl (all_nil)))))), hS⟩
              · rintro a w ⟨x_557, x_561, x_562, v_558, cs_559, H, hq_560, hK, hS⟩
                unfold ref02_sorted.j3 at H
                have hS := hS.pk2
                have hS := hS.pk2
                have hS := hS.pk2
                exact ⟨_, Nat.lt_succ_self _, x_557, x_561, x_562, _, _, H, hq_560, hK.sub (all_cons rfl (all_cons rfl (all_cons rfl (all_cons rfl (all_cons rfl (all_nil)))))), hS⟩
          · rw [ifb_f hb_422] at H
            refine wp_exit ?_
            refine wp_seq ?_
            refine wp_region_lit ?_
            refine sl hK (by decide) rfl rfl (r_move hK rfl) fun a hK => ?_
            refine sl hK (by decide) rfl rfl (r_assign hK rfl) fun a hK => ?_
            refine wpList_nil ?_
            obtain rfl := Option.some.inj H
            refine wp_ret ?_
            repeat (first | refine ret_then ?_ | refine ret_block ?_ | refine ret_scope ?_)
            exact ret_1 Try.results44 hK (rv_tmp hK rfl) ⟨_, rfl, _, _, _, rfl, (hS.pk2.trunc 1), hRL, hq_231⟩
theorem ref02_sorted.calls (a0 : List (List api_Value)) {w0 : World} {R : Hp} {v0_0 : Value} (hR : R.sub w0) (h0_0 : SlR (tySl ty_api_Value) R v0_0 a0) {r : List (List api_Value)} (H : ref02_sorted a0 = some r) : Calls Try.prog 44 #[v0_0] w0 (Rets fun v w' => ∃ (R' : Hp) (u0 : Value) (cu0 : List Value), v = u0 ∧ St [] w0 w' R' [.row 40 1 u0 r.length cu0] ∧ RLe [] w0 R R' ∧ Reps (tySl ty_api_Value) R' cu0 r) := ref02_sorted.r_calls _ a0 hR h0_0 H

/-! ### catchment/catchmentref02.Canon: function 30 -/
set_option maxHeartbeats 4000000 in
set_option maxRecDepth 100000 in
theorem ref02_Canon.calls (a0 : api_Table) {w0 : World} {R : Hp} {v0_0 : Value} {v0_1 : Value} (hR : R.sub w0) (h0_0 : SlR ty_api_Col R v0_0 a0.Cols) (h0_1 : SlR (tySl ty_api_Value) R v0_1 a0.Rows) {r : api_Table} (H : ref02_Canon a0 = some r) : Calls Try.prog 30 #[.agg #[v0_0, v0_1]] w0 (Rets fun v w' => ∃ (R' : Hp) (u0 : Value) (cu0 : List Value) (u1 : Value) (cu1 : List Value), v = .agg #[u0, u1] ∧ St [] w0 w' R' [.row 34 2 u0 r.Cols.length cu0, .row 40 1 u1 r.Rows.length cu1] ∧ RLe [] w0 R R' ∧ Reps ty_api_Col R' cu0 r.Cols ∧ Reps (tySl ty_api_Value) R' cu1 r.Rows) := by
  unfold ref02_Canon at H
  refine enter (args := [.agg #[v0_0, v0_1]]) Try.func30 rfl Try.ntmps30 rfl fun a hK => ?_
  have hS := St.init hR
  have hRL := RLe.refl (M := []) w0 R
  refine wp_seq ?_
  refine wp_region_lit ?_
  refine sl_box hS hK (by decide) rfl rfl (c := [v0_0, v0_1]) rfl fun a w b_1 hS hK => ?_
  refine sl_alloc Try.zeroValue25 hS hK (by decide) rfl rfl fun a w b_2 hS hK => ?_
  refine wpList_nil ?_
  refine wp_seq ?_
  refine parT_region (C := fun w => St [] w0 w R [.cells b_2 [.slice none 0 0, .slice none 0 0] 25, .cells b_1 [v0_0, v0_1] 25]) 6 [(1, true), (2, true), (4, true), (5, true), (0, false), (3, false)] mixed (by kernel_rfl) hS (fun w hS => hS) fun w hS => ?_
  refine sp (k := 1) rfl hK (by decide) rfl rfl (fun w hS => r_fieldAddr Try.underlying25 rfl Try.sizeOf22 hK rfl) fun a hK => ?_
  refine sp (k := 2) rfl hK (by decide) rfl rfl (fun w hS => r_load Try.isAgg22 hK rfl (hS.cell (.tail _ (.head _)) rfl)) fun a hK => ?_
  refine sp (k := 4) rfl hK (by decide) rfl rfl (fun w hS => r_fieldAddr Try.underlying25 rfl Try.sizeOf23 hK rfl) fun a hK => ?_
  refine sp (k := 5) rfl hK (by decide) rfl rfl (fun w hS => r_load Try.isAgg23 hK rfl (hS.cell (.tail _ (.head _)) rfl)) fun a hK => ?_
  refine spw (k := 0) rfl rfl hS ?_
  refine sl_buildSliceC (zc := [.string (⟨#[]⟩ : ByteArray), .int .i64 0]) (zs := []) (ps := []) (c := []) Try.underlying22 Try.sizeOf34 Try.zeroValue34 rfl pc_nil rfl rfl (by decide) (by kernel_rfl) rfl hS hK (by decide) rfl fun a w b_22 hS hK => ?_
  refine parK_nil (hS.pk2.pk2.trunc 2) ?_
  refine spw (k := 3) rfl rfl (hS.pk2.pk2.trunc 2) ?_
  obtain ⟨y_25, h_26, H⟩ := bind_some H
  have hS := hS.row_lit (size := 2) (m := 0) rfl (by decide)
  have hq_24 : Reps ty_api_Col R [] ([] : List api_Col) := (Reps.nil _ _)
  refine sl_append_R elT22 (by decide) rfl hq_24 rfl h0_0 h_26 hS hK (by decide) rfl rfl rfl fun a w v_27 cs_28 hq_29 hS hK => ?_
  refine parK_nil (hS.pk2.pk2.trunc 2) ?_
  refine thenL_nil ?_
  obtain ⟨y_31, h_32, H⟩ := bind_some H
  refine sl_call Try.call44 hK (by decide) rfl rfl rfl (ref02_sorted.calls a0.Rows hS.sub h0_1 h_32) fun a v_ w hv_ hK => ?_
  obtain ⟨R_33, v_36, cs_37, hv_, hr_, hl_34, hq_38⟩ := hv_
  have hv_ := hv_.symm
  subst hv_
  obtain ⟨hS, hl_34⟩ := hS.sp0.back hr_ hl_34
  have hS := hS.un1
  have hRL := hRL.trans hl_34
  have ho_39 := hS.row_one (.tail _ (.head _))
  have ho_40 := hS.row_one (.head _)
  refine sl hK (by decide) rfl rfl (r_buildC (ps := [(0, v_27), (1, v_36)]) (c := [v_27, v_36]) Try.underlying25 Try.zeroValue25 places25 hK rfl (pc_cons (cells1 ho_39) (pc_cons (cells1 ho_40) pc_nil)) rfl rfl) fun a hK => ?_
  have hS := hS.pk2
  refine sl_storeA (vs := [v_27, v_36]) (c' := [v_27, v_36]) Try.sizeOf25 hS hK rfl rfl rfl rfl (all_cons (hS.row_one (.tail _ (.tail _ (.head _)))) (all_cons (hS.row_one (.tail _ (.head _))) (all_nil))) (Nat.le_of_ble_eq_true rfl) rfl fun a w hS hK => ?_
  refine wpList_nil (NoP_nil ?_)
  obtain rfl := Option.some.inj H
  refine wp_ret ?_
  repeat (first | refine ret_then ?_ | refine ret_block ?_ | refine ret_scope ?_)
  exact ret_1 Try.results30 hK (rv_cell (c := [v_27, v_36]) Try.isAgg25 Try.sizeOf25 hS (.head _) rfl hK rfl) ⟨_, rfl, _, _, _, _, _, rfl, (hS.pk1.pk2.trunc 2), hRL, (hq_29.mono hl_34.le), hq_38⟩

/-! ### catchment/catchmentref02.SameCols: function 15 -/
set_option maxHeartbeats 4000000 in
set_option maxRecDepth 100000 in
theorem ref02_SameCols.calls (a0 : List api_Col) (a1 : List api_Col) {w0 : World} {RA : Hp} {v0_0 : Value} {v1_0 : Value} (hRA : RA.sub w0) (h0_0 : SlR ty_api_Col RA v0_0 a0) (h1_0 : SlR ty_api_Col RA v1_0 a1) {r : Bool} (H : ref02_SameCols a0 a1 = some r) : CallsV Try.prog 15 #[v0_0, v1_0] w0 (.bool r) := by
  unfold ref02_SameCols at H
  refine enter (args := [v0_0, v1_0]) Try.func15 rfl Try.ntmps15 rfl fun a hK => ?_
  have hS := St.init (R := fun _ => none) (w := w0) (fun _ _ h => by cases h)
  have hRL := RLe.refl (M := []) w0 (fun _ => none)
  refine wp_seq ?_
  refine wp_region_lit ?_
  refine sl hK (by decide) rfl rfl (r_assign hK rfl) fun a hK => ?_
  refine wpList_nil ?_
  refine wp_seq ?_
  refine wp_seq ?_
  refine wp_region_lit ?_
  refine sl hK (by decide) rfl rfl (r_move hK rfl) fun a hK => ?_
  refine sl hK (by decide) rfl rfl (r_len_R Try.underlying22 h0_0 hK rfl) fun a hK => ?_
  refine sl hK (by decide) rfl rfl (r_move hK rfl) fun a hK => ?_
  refine sl hK (by decide) rfl rfl (r_len_R Try.underlying22 h1_0 hK rfl) fun a hK => ?_
  refine sl hK (by decide) rfl rfl (r_ibin hK rfl rfl rfl) fun a hK => ?_
  refine wpList_nil ?_
  refine wp_cond_split (hK.ev rfl) (fun (hb_1 : ((a0.length : Int) != (a1.length : Int)) = true) => ?_) (fun (hb_1 : ((a0.length : Int) != (a1.length : Int)) = false) => ?_)
  · rw [ifb_t hb_1] at H
    refine wp_seq ?_
    refine wp_region_lit ?_
    refine sl hK (by decide) rfl rfl (r_assign hK rfl) fun a hK => ?_
    refine wpList_nil ?_
    obtain rfl := Option.some.inj H
    refine wp_ret ?_
    repeat (first | refine ret_then ?_ | refine ret_block ?_ | refine ret_scope ?_)
    exact ret_1 Try.results15 hK (rv_tmp hK rfl) ⟨rfl, hS.bel⟩
  · rw [ifb_f hb_1] at H
    refine wp_skip ?_
    refine wp_seq ?_
    refine wp_seq ?_
    refine wp_region_lit ?_
    refine sl hK (by decide) rfl rfl (r_assign hK rfl) fun a hK => ?_
    refine wpList_nil ?_
    refine wp_block ?_
    refine wp_loop_k (fun k_l0 a w => ∃ (x_41 : Int), ref02_SameCols.l0 a0 a1 k_l0 x_41 = some r ∧ Kn 26 a [(0, v0_0), (1, v1_0), (5, .int .i64 x_41)] ∧ St [] w0 w (fun _ => none) []) (((a0.length : Int) - 0).toNat + 1) ?_ ?_
    · exact ⟨0, H, hK.sub (all_cons rfl (all_cons rfl (all_cons rfl (all_nil)))), hS⟩
    · rintro k_l0 a w ⟨x_41, H, hK, hS⟩
      cases k_l0 with
      | zero => cases H
      | succ k_l0 =>
      rw [ref02_SameCols.l0.eq_2] at H
      refine wp_seq ?_
      refine wp_seq ?_
      refine wp_region_lit ?_
      refine sl hK (by decide) rfl rfl (r_move hK rfl) fun a hK => ?_
      refine sl hK (by decide) rfl rfl (r_move hK rfl) fun a hK => ?_
      refine sl hK (by decide) rfl rfl (r_len_R Try.underlying22 h0_0 hK rfl) fun a hK => ?_
      refine sl hK (by decide) rfl rfl (r_ibin hK rfl rfl rfl) fun a hK => ?_
      refine wpList_nil ?_
      refine wp_cond_split (hK.ev rfl) (fun (hb_81 : (decide (x_41 < (a0.length : Int))) = true) => ?_) (fun (hb_81 : (decide (x_41 < (a0.length : Int))) = false) => ?_)
      · rw [ifb_t hb_81] at H
        refine wp_skip ?_
        refine wp_seq ?_
        refine wp_block ?_
        refine wp_seq ?_
        refine par_region (C := fun w => St [] w0 w (fun _ => none) []) [(0, true), (1, true), (2, true), (3, true), (4, true), (5, true), (6, true), (7, true), (8, true)] mixed (by kernel_rfl) hS (fun w hS => hS) fun w hS => ?_
        refine sp (k := 0) rfl hK (by decide) rfl rfl (fun w hS => r_move hK rfl) fun a hK => ?_
        refine sp (k := 1) rfl hK (by decide) rfl rfl (fun w hS => r_move hK rfl) fun a hK => ?_
        obtain ⟨y_100, h_101, H⟩ := bind_some H
        obtain ⟨b_102, o_103, c_104, cs_105, hv_106, hr_107, hc_108, h_1010, h_1011⟩ := h0_0.ix h_101
        subst hr_107
        refine sp (k := 2) rfl hK (by decide) rfl rfl (fun w hS => r_indexAddr_R Try.underlying22 Try.sizeOf34 hv_106 h_1010 h_1011 hK rfl rfl) fun a hK => ?_
        refine sp (k := 3) rfl hK (by decide) rfl rfl (fun w hS => r_loadA (cs := [.string y_100.Name, .int .i64 y_100.Kind]) Try.isAgg34 Try.sizeOf34 rfl hK rfl (fun j v hv => (hS.ra hRA nil_not).cell (hc_108 j v hv))) fun a hK => ?_
        refine sp (k := 4) rfl hK (by decide) rfl rfl (fun w hS => r_move hK rfl) fun a hK => ?_
        refine sp (k := 5) rfl hK (by decide) rfl rfl (fun w hS => r_move hK rfl) fun a hK => ?_
        obtain ⟨y_109, h_110, H⟩ := bind_some H
        obtain ⟨b_111, o_112, c_113, cs_114, hv_115, hr_116, hc_117, h_1100, h_1101⟩ := h1_0.ix h_110
        subst hr_116
        refine sp (k := 6) rfl hK (by decide) rfl rfl (fun w hS => r_indexAddr_R Try.underlying22 Try.sizeOf34 hv_115 h_1100 h_1101 hK rfl rfl) fun a hK => ?_
        refine sp (k := 7) rfl hK (by decide) rfl rfl (fun w hS => r_loadA (cs := [.string y_109.Name, .int .i64 y_109.Kind]) Try.isAgg34 Try.sizeOf34 rfl hK rfl (fun j v hv => (hS.ra hRA nil_not).cell (hc_117 j v hv))) fun a hK => ?_
        refine sp (k := 8) rfl hK (by decide) rfl rfl (fun w hS => r_sne (by kernel_rfl) (eqs34 y_100 y_109) hK rfl rfl) fun a hK => ?_
        refine wpPar_nil (NoP_nil ?_)
        refine wp_cond_split (hK.ev rfl) (fun (hb_118 : (!decide (y_100 = y_109)) = true) => ?_) (fun (hb_118 : (!decide (y_100 = y_109)) = false) => ?_)
        · rw [ifb_t hb_118] at H
          refine wp_seq ?_
          refine wp_region_lit ?_
          refine sl hK (by decide) rfl rfl (r_assign hK rfl) fun a hK => ?_
          refine wpList_nil ?_
          obtain rfl := Option.some.inj H
          refine wp_ret ?_
          repeat (first | refine ret_then ?_ | refine ret_block ?_ | refine ret_scope ?_)
          exact ret_1 Try.results15 hK (rv_tmp hK rfl) ⟨rfl, hS.bel⟩
        · rw [ifb_f hb_118] at H
          refine wp_skip ?_
          refine wp_region_lit ?_
          refine sl hK (by decide) rfl rfl (r_move hK rfl) fun a hK => ?_
          refine sl hK (by decide) rfl rfl (r_ibin hK rfl rfl rfl) fun a hK => ?_
          refine sl hK (by decide) rfl rfl (r_assign hK rfl) fun a hK => ?_
          refine wpList_nil ?_
          exact ⟨_, Nat.lt_succ_self _, (IntKind.i64.wrap (x_41 + 1)), H, hK.sub (all_cons rfl (all_cons rfl (all_cons rfl (all_nil)))), hS⟩
      · rw [ifb_f hb_81] at H
        refine wp_exit ?_
        refine wp_seq ?_
        refine wp_region_lit ?_
        refine sl hK (by decide) rfl rfl (r_assign hK rfl) fun a hK => ?_
        refine wpList_nil ?_
        obtain rfl := Option.some.inj H
        refine wp_ret ?_
        repeat (first | refine ret_then ?_ | refine ret_block ?_ | refine ret_scope ?_)
        exact ret_1 Try.results15 hK (rv_tmp hK rfl) ⟨rfl, hS.bel⟩

/-! ### catchment/catchmentref02.Same: function 12 -/
set_option maxHeartbeats 4000000 in
set_option maxRecDepth 100000 in
theorem ref02_Same.calls (a0 : api_Table) (a1 : api_Table) {w0 : World} {RA : Hp} {v0_0 : Value} {v0_1 : Value} {v1_0 : Value} {v1_1 : Value} (hRA : RA.sub w0) (h0_0 : SlR ty_api_Col RA v0_0 a0.Cols) (h0_1 : SlR (tySl ty_api_Value) RA v0_1 a0.Rows) (h1_0 : SlR ty_api_Col RA v1_0 a1.Cols) (h1_1 : SlR (tySl ty_api_Value) RA v1_1 a1.Rows) {r : Bool} (H : ref02_Same a0 a1 = some r) : CallsV Try.prog 12 #[.agg #[v0_0, v0_1], .agg #[v1_0, v1_1]] w0 (.bool r) := by
  unfold ref02_Same at H
  refine enter (args := [.agg #[v0_0, v0_1], .agg #[v1_0, v1_1]]) Try.func12 rfl Try.ntmps12 rfl fun a hK => ?_
  have hS := St.init (R := fun _ => none) (w := w0) (fun _ _ h => by cases h)
  have hRL := RLe.refl (M := []) w0 (fun _ => none)
  refine wp_seq ?_
  refine wp_region_lit ?_
  refine sl_box hS hK (by decide) rfl rfl (c := [v0_0, v0_1]) rfl fun a w b_1 hS hK => ?_
  refine sl_box hS hK (by decide) rfl rfl (c := [v1_0, v1_1]) rfl fun a w b_2 hS hK => ?_
  refine sl hK (by decide) rfl rfl (r_assign hK rfl) fun a hK => ?_
  refine wpList_nil ?_
  refine wp_seq ?_
  refine wp_seq ?_
  refine wp_mid (fun a w => ∃ (x_6 : Bool), ref02_Same.j0 a0 a1 x_6 = some r ∧ Kn 40 a [(2, .pointer (some ⟨b_1, 0, none⟩)), (3, .pointer (some ⟨b_2, 0, none⟩)), (20, .bool x_6)] ∧ St [] w0 w (fun _ => none) [.cells b_1 [v0_0, v0_1] 25, .cells b_2 [v1_0, v1_1] 25]) ?_ ?_
  · refine wp_region_lit ?_
    refine sl hK (by decide) rfl rfl (r_fieldAddr Try.underlying25 rfl Try.sizeOf22 hK rfl) fun a hK => ?_
    refine sl hK (by decide) rfl rfl (r_load Try.isAgg22 hK rfl (hS.cell (.tail _ (.head _)) rfl)) fun a hK => ?_
    refine sl hK (by decide) rfl rfl (r_fieldAddr Try.underlying25 rfl Try.sizeOf22 hK rfl) fun a hK => ?_
    refine sl hK (by decide) rfl rfl (r_load Try.isAgg22 hK rfl (hS.cell (.head _) rfl)) fun a hK => ?_
    obtain ⟨y_8, h_9, H⟩ := bind_some H
    refine sl_callV Try.call15 hS hK (by decide) rfl rfl rfl (ref02_SameCols.calls a0.Cols a1.Cols (lentOf_sub [] _) (h0_0.mono (hS.raLe0 hRA nil_not)) (h1_0.mono (hS.raLe0 hRA nil_not)) h_9) fun a w hS hK => ?_
    refine sl hK (by decide) rfl rfl (r_un hK rfl (u_not _)) fun a hK => ?_
    refine sl hK (by decide) rfl rfl (r_move hK rfl) fun a hK => ?_
    rcases or_b (!y_8) with hb_10 | hb_10
    · rw [ifb_t hb_10] at H
      refine sl_skip hK (by decide) (wft hb_10) rfl fun a hK => ?_
      refine sl_skip hK (by decide) (wft hb_10) rfl fun a hK => ?_
      refine sl_skip hK (by decide) (wft hb_10) rfl fun a hK => ?_
      refine sl_skip hK (by decide) (wft hb_10) rfl fun a hK => ?_
      refine sl_skip hK (by decide) (wft hb_10) rfl fun a hK => ?_
      refine sl_skip hK (by decide) (wft hb_10) rfl fun a hK => ?_
      refine sl_skip hK (by decide) (wft hb_10) rfl fun a hK => ?_
      refine sl hK (by decide) rfl rfl (r_pick_t hb_10 hK rfl rfl) fun a hK => ?_
      refine wpList_nil ?_
      have hS := hS.pk1
      exact ⟨true, H, hK.sub (all_cons rfl (all_cons rfl (all_cons rfl (all_nil)))), hS⟩
    · rw [ifb_f hb_10] at H
      refine sl hK (by decide) (wff hb_10) rfl (r_fieldAddr Try.underlying25 rfl Try.sizeOf23 hK rfl) fun a hK => ?_
      refine sl hK (by decide) (wff hb_10) rfl (r_load Try.isAgg23 hK rfl (hS.cell (.tail _ (.head _)) rfl)) fun a hK => ?_
      refine sl hK (by decide) (wff hb_10) rfl (r_len_R Try.underlying23 h0_1 hK rfl) fun a hK => ?_
      refine sl hK (by decide) (wff hb_10) rfl (r_fieldAddr Try.underlying25 rfl Try.sizeOf23 hK rfl) fun a hK => ?_
      refine sl hK (by decide) (wff hb_10) rfl (r_load Try.isAgg23 hK rfl (hS.cell (.head _) rfl)) fun a hK => ?_
      refine sl hK (by decide) (wff hb_10) rfl (r_len_R Try.underlying23 h1_1 hK rfl) fun a hK => ?_
      refine sl hK (by decide) (wff hb_10) rfl (r_ibin hK rfl rfl rfl) fun a hK => ?_
      refine sl hK (by decide) rfl rfl (r_pick_f hb_10 hK rfl rfl) fun a hK => ?_
      refine wpList_nil ?_
      have hS := hS.pk1
      exact ⟨((a0.Rows.length : Int) != (a1.Rows.length : Int)), H, hK.sub (all_cons rfl (all_cons rfl (all_cons rfl (all_nil)))), hS⟩
  · rintro a w ⟨x_6, H, hK, hS⟩
    unfold ref02_Same.j0 at H
    refine wp_cond_split (hK.ev rfl) (fun (hb_11 : x_6 = true) => ?_) (fun (hb_11 : x_6 = false) => ?_)
    · rw [ifb_t hb_11] at H
      refine wp_seq ?_
      refine wp_region_lit ?_
      refine sl hK (by decide) rfl rfl (r_assign hK rfl) fun a hK => ?_
      refine wpList_nil ?_
      obtain rfl := Option.some.inj H
      refine wp_ret ?_
      repeat (first | refine ret_then ?_ | refine ret_block ?_ | refine ret_scope ?_)
      exact ret_1 Try.results12 hK (rv_tmp hK rfl) ⟨rfl, hS.bel⟩
    · rw [ifb_f hb_11] at H
      refine wp_skip ?_
      refine wp_seq ?_
      refine wp_seq ?_
      refine wp_region_lit ?_
      refine sl hK (by decide) rfl rfl (r_assign hK rfl) fun a hK => ?_
      refine wpList_nil ?_
      refine wp_block ?_
      refine wp_loop_k (fun k_l1 a w => ∃ (x_63 : Int), ref02_Same.l1 a0 a1 k_l1 x_63 = some r ∧ Kn 40 a [(2, .pointer (some ⟨b_1, 0, none⟩)), (3, .pointer (some ⟨b_2, 0, none⟩)), (5, .int .i64 x_63)] ∧ St [] w0 w (fun _ => none) [.cells b_1 [v0_0, v0_1] 25, .cells b_2 [v1_0, v1_1] 25]) (((a0.Rows.length : Int) - 0).toNat + 1) ?_ ?_
      · have hS := hS.pk1
        have hS := hS.pk1
        exact ⟨0, H, hK.sub (all_cons rfl (all_cons rfl (all_cons rfl (all_nil)))), hS⟩
      · rintro k_l1 a w ⟨x_63, H, hK, hS⟩
        cases k_l1 with
        | zero => cases H
        | succ k_l1 =>
        rw [ref02_Same.l1.eq_2] at H
        refine wp_seq ?_
        refine wp_seq ?_
        refine wp_region_lit ?_
        refine sl hK (by decide) rfl rfl (r_move hK rfl) fun a hK => ?_
        refine sl hK (by decide) rfl rfl (r_fieldAddr Try.underlying25 rfl Try.sizeOf23 hK rfl) fun a hK => ?_
        refine sl hK (by decide) rfl rfl (r_load Try.isAgg23 hK rfl (hS.cell (.head _) rfl)) fun a hK => ?_
        refine sl hK (by decide) rfl rfl (r_len_R Try.underlying23 h0_1 hK rfl) fun a hK => ?_
        refine sl hK (by decide) rfl rfl (r_ibin hK rfl rfl rfl) fun a hK => ?_
        refine wpList_nil ?_
        refine wp_cond_split (hK.ev rfl) (fun (hb_115 : (decide (x_63 < (a0.Rows.length : Int))) = true) => ?_) (fun (hb_115 : (decide (x_63 < (a0.Rows.length : Int))) = false) => ?_)
        · rw [ifb_t hb_115] at H
          refine wp_skip ?_
          refine wp_seq ?_
          refine wp_block ?_
          refine wp_seq ?_
          refine parT_region (C := fun w => St [] w0 w (fun _ => none) [.cells b_1 [v0_0, v0_1] 25, .cells b_2 [v1_0, v1_1] 25]) 10 [(0, true), (1, true), (2, true), (3, true), (4, true), (5, true), (6, true), (7, true), (8, true), (9, true)] mixed (by kernel_rfl) hS (fun w hS => hS) fun w hS => ?_
          refine sp (k := 0) rfl hK (by decide) rfl rfl (fun w hS => r_fieldAddr Try.underlying25 rfl Try.sizeOf23 hK rfl) fun a hK => ?_
          refine sp (k := 1) rfl hK (by decide) rfl rfl (fun w hS => r_load Try.isAgg23 hK rfl (hS.cell (.head _) rfl)) fun a hK => ?_
          refine sp (k := 2) rfl hK (by decide) rfl rfl (fun w hS => r_move hK rfl) fun a hK => ?_
          obtain ⟨y_140, h_141, H⟩ := bind_some H
          obtain ⟨b_142, o_143, c_144, cs_145, hv_146, hr_147, hc_148, h_1410, h_1411⟩ := h0_1.ix h_141
          obtain ⟨v_149, rfl, hs_150⟩ := hr_147
          refine sp (k := 3) rfl hK (by decide) rfl rfl (fun w hS => r_indexAddr_R Try.underlying23 Try.sizeOf40 hv_146 h_1410 h_1411 hK rfl rfl) fun a hK => ?_
          refine sp (k := 4) rfl hK (by decide) rfl rfl (fun w hS => r_load Try.isAgg40 hK rfl ((hS.ra hRA nil_not).cell (hc_148 0 _ rfl))) fun a hK => ?_
          refine sp (k := 5) rfl hK (by decide) rfl rfl (fun w hS => r_fieldAddr Try.underlying25 rfl Try.sizeOf23 hK rfl) fun a hK => ?_
          refine sp (k := 6) rfl hK (by decide) rfl rfl (fun w hS => r_load Try.isAgg23 hK rfl (hS.cell (.tail _ (.head _)) rfl)) fun a hK => ?_
          refine sp (k := 7) rfl hK (by decide) rfl rfl (fun w hS => r_move hK rfl) fun a hK => ?_
          obtain ⟨y_151, h_152, H⟩ := bind_some H
          obtain ⟨b_153, o_154, c_155, cs_156, hv_157, hr_158, hc_159, h_1520, h_1521⟩ := h1_1.ix h_152
          obtain ⟨v_160, rfl, hs_161⟩ := hr_158
          refine sp (k := 8) rfl hK (by decide) rfl rfl (fun w hS => r_indexAddr_R Try.underlying23 Try.sizeOf40 hv_157 h_1520 h_1521 hK rfl rfl) fun a hK => ?_
          refine sp (k := 9) rfl hK (by decide) rfl rfl (fun w hS => r_load Try.isAgg40 hK rfl ((hS.ra hRA nil_not).cell (hc_159 0 _ rfl))) fun a hK => ?_
          refine thenL_nil ?_
          obtain ⟨y_162, h_163, H⟩ := bind_some H
          refine sl_callV Try.call14 hS hK (by decide) rfl rfl rfl (ref02_Row.calls y_140 y_151 (lentOf_sub [] _) (hs_150.mono (hS.raLe0 hRA nil_not)) (hs_161.mono (hS.raLe0 hRA nil_not)) h_163) fun a w hS hK => ?_
          refine sl hK (by decide) rfl rfl (r_ibin hK rfl rfl rfl) fun a hK => ?_
          refine wpList_nil (NoP_nil ?_)
          refine wp_cond_split (hK.ev rfl) (fun (hb_164 : (y_162 != 0) = true) => ?_) (fun (hb_164 : (y_162 != 0) = false) => ?_)
          · rw [ifb_t hb_164] at H
            refine wp_seq ?_
            refine wp_region_lit ?_
            refine sl hK (by decide) rfl rfl (r_assign hK rfl) fun a hK => ?_
            refine wpList_nil ?_
            obtain rfl := Option.some.inj H
            refine wp_ret ?_
            repeat (first | refine ret_then ?_ | refine ret_block ?_ | refine ret_scope ?_)
            exact ret_1 Try.results12 hK (rv_tmp hK rfl) ⟨rfl, hS.bel⟩
          · rw [ifb_f hb_164] at H
            refine wp_skip ?_
            refine wp_region_lit ?_
            refine sl hK (by decide) rfl rfl (r_move hK rfl) fun a hK => ?_
            refine sl hK (by decide) rfl rfl (r_ibin hK rfl rfl rfl) fun a hK => ?_
            refine sl hK (by decide) rfl rfl (r_assign hK rfl) fun a hK => ?_
            refine wpList_nil ?_
            have hS := hS.pk1
            have hS := hS.pk1
            exact ⟨_, Nat.lt_succ_self _, (IntKind.i64.wrap (x_63 + 1)), H, hK.sub (all_cons rfl (all_cons rfl (all_cons rfl (all_nil)))), hS⟩
        · rw [ifb_f hb_115] at H
          refine wp_exit ?_
          refine wp_seq ?_
          refine wp_region_lit ?_
          refine sl hK (by decide) rfl rfl (r_assign hK rfl) fun a hK => ?_
          refine wpList_nil ?_
          obtain rfl := Option.some.inj H
          refine wp_ret ?_
          repeat (first | refine ret_then ?_ | refine ret_block ?_ | refine ret_scope ?_)
          exact ret_1 Try.results12 hK (rv_tmp hK rfl) ⟨rfl, hS.bel⟩

end Go.Proofs.Ytabdokppkcgdlaa.M
