/- Each Go function of the laws answers as its plain Lean function tells, wherever that tells something. Printed by wip/eng/gen.py. -/
import Derived.Test.YtjklfkiaebipnaaWalk3
namespace Go.Proofs.Ytjklfkiaebipnaa.M
open Go Go.Eng Go.Proofs Go.RowKit
set_option linter.unusedVariables false
set_option linter.unusedSimpArgs false

/-! ### catchment/catchmentref15.Where: function 15 -/
set_option maxHeartbeats 4000000 in
set_option maxRecDepth 100000 in
theorem ref15_Where.calls (a0 : api_Table) (a1 : api_Query) (a2 : Int) {w0 : World} {R : Hp} {RA : Hp} {v0_0 : Value} {v0_1 : Value} {v1_0 : Value} (hRA : RA.sub w0) (hR : R.sub w0) (h0_0 : SlR ty_api_Col RA v0_0 a0.Cols) (h0_1 : SlR (tySl ty_api_Value) RA v0_1 a0.Rows) (h1_0 : SlR ty_api_Node RA v1_0 a1.N) {r : api_Table} (H : ref15_Where a0 a1 a2 = some r) : Calls Try.prog 15 #[.agg #[v0_0, v0_1], .agg #[v1_0], .int .i64 a2] w0 (Rets fun v w' => ∃ (R' : Hp) (u0 : Value) (cu0 : List Value) (u1 : Value) (cu1 : List Value), v = .agg #[u0, u1] ∧ St [] w0 w' R' [.row 57 2 u0 r.Cols.length cu0, .row 33 1 u1 r.Rows.length cu1] ∧ RLe [] w0 R R' ∧ Reps ty_api_Col R' cu0 r.Cols ∧ Reps (tySl ty_api_Value) R' cu1 r.Rows) := by
  unfold ref15_Where at H
  refine enter (args := [.agg #[v0_0, v0_1], .agg #[v1_0], .int .i64 a2]) Try.func15 rfl Try.ntmps15 rfl fun a hK => ?_
  have hS := St.init hR
  have hRL := RLe.refl (M := []) w0 R
  refine wp_seq ?_
  refine wp_region_lit ?_
  refine sl_box hS hK (by decide) rfl rfl (c := [v0_0, v0_1]) rfl fun a w b_1 hS hK => ?_
  refine sl_box hS hK (by decide) rfl rfl (c := [v1_0]) rfl fun a w b_2 hS hK => ?_
  refine sl_alloc Try.zeroValue28 hS hK (by decide) rfl rfl fun a w b_3 hS hK => ?_
  refine wpList_nil ?_
  refine wp_seq ?_
  refine wp_region_lit ?_
  refine sl_buildSliceC (zc := [.string (⟨#[]⟩ : ByteArray), .int .i64 0]) (zs := []) (ps := []) (c := []) Try.underlying25 Try.sizeOf57 Try.zeroValue57 rfl pc_nil rfl rfl (by decide) (by kernel_rfl) rfl hS hK (by decide) rfl fun a w b_4 hS hK => ?_
  refine sl hK (by decide) rfl rfl (r_fieldAddr Try.underlying28 rfl Try.sizeOf25 hK rfl) fun a hK => ?_
  refine sl hK (by decide) rfl rfl (r_load Try.isAgg25 hK rfl (hS.cell (.tail _ (.tail _ (.tail _ (.head _)))) rfl)) fun a hK => ?_
  obtain ⟨y_7, h_8, H⟩ := bind_some H
  have hS := hS.row_lit (size := 2) (m := 0) rfl (by decide)
  have hq_6 : Reps ty_api_Col R [] ([] : List api_Col) := (Reps.nil _ _)
  refine sl_append_A elT25 (by decide) rfl (fun _ _ _ _ h => h) (hS.ra hRA nil_not) hq_6 rfl h0_0 h_8 hS hK (by decide) rfl rfl rfl fun a w v_9 cs_10 hq_11 hS hK => ?_
  have ho_13 := hS.row_one (.head _)
  refine sl hK (by decide) rfl rfl (r_buildC (ps := [(0, v_9)]) (c := [v_9, .slice none 0 0]) Try.underlying28 Try.zeroValue28 places28 hK rfl (pc_cons (cells1 ho_13) pc_nil) rfl rfl) fun a hK => ?_
  refine sl_alloc Try.zeroValue28 hS hK (by decide) rfl rfl fun a w b_14 hS hK => ?_
  refine sl_storeA (vs := [v_9, .slice none 0 0]) (c' := [v_9, .slice none 0 0]) Try.sizeOf28 hS hK rfl rfl rfl rfl (all_cons (hS.row_one (.tail _ (.head _))) (all_cons rfl (all_nil))) (Nat.le_of_ble_eq_true rfl) rfl fun a w hS hK => ?_
  refine wpList_nil ?_
  refine wp_seq ?_
  refine wp_seq ?_
  refine wp_region_lit ?_
  refine sl hK (by decide) rfl rfl (r_assign hK rfl) fun a hK => ?_
  refine wpList_nil ?_
  refine wp_block ?_
  refine wp_loop_k (fun k_l0 a w => ∃ (x_195 : List (List api_Value)) (x_199 : Int) (R_200 : Hp) (v_196 : Value) (cs_197 : List Value), ref15_Where.l0 a0 a1 a2 y_7 k_l0 x_195 x_199 = some r ∧ RLe [] w0 R R_200 ∧ Reps (tySl ty_api_Value) R_200 cs_197 x_195 ∧ Kn 44 a [(2, .int .i64 a2), (3, .pointer (some ⟨b_1, 0, none⟩)), (4, .pointer (some ⟨b_2, 0, none⟩)), (6, .pointer (some ⟨b_3, 0, none⟩)), (7, .pointer (some ⟨b_14, 0, none⟩)), (8, .int .i64 x_199)] ∧ St [] w0 w R_200 [.cells b_1 [v0_0, v0_1] 28, .cells b_2 [v1_0] 24, .cells b_3 [.slice none 0 0, .slice none 0 0] 28, .row 57 2 v_9 y_7.length cs_10, .row 33 1 v_196 x_195.length cs_197, .cells b_14 [v_9, v_196] 28]) (((a0.Rows.length : Int) - 0).toNat + 1) ?_ ?_
  · have hS := hS.row_nil 33 1
    have hq_363 : Reps (tySl ty_api_Value) R [] ([] : List (List api_Value)) := Reps.nil _ _
    have hS := hS.pk1
    have hS := hS.pk1
    have hS := hS.pk2
    have hS := hS.pk3
    have hS := hS.pk4
    have hS := hS.pk5
    exact ⟨[], 0, _, _, _, H, (RLe.refl _ _), hq_363, hK.sub (all_cons rfl (all_cons rfl (all_cons rfl (all_cons rfl (all_cons rfl (all_cons rfl (all_nil))))))), hS⟩
  · rintro k_l0 a w ⟨x_195, x_199, R_200, v_196, cs_197, H, hl_201, hq_198, hK, hS⟩
    cases k_l0 with
    | zero => cases H
    | succ k_l0 =>
    rw [ref15_Where.l0.eq_2] at H
    have hRL := hRL.trans hl_201
    refine wp_seq ?_
    refine wp_seq ?_
    refine wp_region_lit ?_
    refine sl hK (by decide) rfl rfl (r_move hK rfl) fun a hK => ?_
    refine sl hK (by decide) rfl rfl (r_fieldAddr Try.underlying28 rfl Try.sizeOf26 hK rfl) fun a hK => ?_
    refine sl hK (by decide) rfl rfl (r_load Try.isAgg26 hK rfl (hS.cell (.head _) rfl)) fun a hK => ?_
    refine sl hK (by decide) rfl rfl (r_len_R Try.underlying26 h0_1 hK rfl) fun a hK => ?_
    refine sl hK (by decide) rfl rfl (r_ibin hK rfl rfl rfl) fun a hK => ?_
    refine wpList_nil ?_
    refine wp_cond_split (hK.ev rfl) (fun (hb_364 : (decide (x_199 < (a0.Rows.length : Int))) = true) => ?_) (fun (hb_364 : (decide (x_199 < (a0.Rows.length : Int))) = false) => ?_)
    · rw [ifb_t hb_364] at H
      refine wp_skip ?_
      refine wp_seq ?_
      refine wp_block ?_
      refine wp_seq ?_
      refine parT_region (C := fun w => St [] w0 w R_200 [.cells b_1 [v0_0, v0_1] 28, .cells b_2 [v1_0] 24, .cells b_3 [.slice none 0 0, .slice none 0 0] 28, .row 57 2 v_9 y_7.length cs_10, .row 33 1 v_196 x_195.length cs_197, .cells b_14 [v_9, v_196] 28]) 9 [(0, true), (1, true), (2, true), (3, true), (4, true), (5, true), (6, true), (7, true), (8, true)] mixed (by kernel_rfl) hS (fun w hS => hS) fun w hS => ?_
      refine sp (k := 0) rfl hK (by decide) rfl rfl (fun w hS => r_loadA (cs := [v1_0]) Try.isAgg24 Try.sizeOf24 rfl hK rfl (hS.cells_of (m := 1) (.tail _ (.head _)) rfl)) fun a hK => ?_
      refine sp (k := 1) rfl hK (by decide) rfl rfl (fun w hS => r_move hK rfl) fun a hK => ?_
      refine sp (k := 2) rfl hK (by decide) rfl rfl (fun w hS => r_fieldAddr Try.underlying28 rfl Try.sizeOf25 hK rfl) fun a hK => ?_
      refine sp (k := 3) rfl hK (by decide) rfl rfl (fun w hS => r_load Try.isAgg25 hK rfl (hS.cell (.head _) rfl)) fun a hK => ?_
      refine sp (k := 4) rfl hK (by decide) rfl rfl (fun w hS => r_fieldAddr Try.underlying28 rfl Try.sizeOf26 hK rfl) fun a hK => ?_
      refine sp (k := 5) rfl hK (by decide) rfl rfl (fun w hS => r_load Try.isAgg26 hK rfl (hS.cell (.head _) rfl)) fun a hK => ?_
      refine sp (k := 6) rfl hK (by decide) rfl rfl (fun w hS => r_move hK rfl) fun a hK => ?_
      obtain ⟨y_378, h_379, H⟩ := bind_some H
      obtain ⟨b_380, o_381, c_382, cs_383, hv_384, hr_385, hc_386, h_3790, h_3791⟩ := h0_1.ix h_379
      obtain ⟨v_387, rfl, hs_388⟩ := hr_385
      refine sp (k := 7) rfl hK (by decide) rfl rfl (fun w hS => r_indexAddr_R Try.underlying26 Try.sizeOf33 hv_384 h_3790 h_3791 hK rfl rfl) fun a hK => ?_
      refine sp (k := 8) rfl hK (by decide) rfl rfl (fun w hS => r_load Try.isAgg33 hK rfl ((hS.ra hRA nil_not).cell (hc_386 0 _ rfl))) fun a hK => ?_
      refine thenL_nil ?_
      obtain ⟨y_389, h_390, H⟩ := bind_some H
      refine sl_callV Try.call13 hS hK (by decide) rfl rfl rfl (ref15_Holds.calls a1 a2 a0.Cols y_378 (lentOf_sub [] _) (h1_0.mono (hS.raLe0 hRA nil_not)) (h0_0.mono (hS.raLe0 hRA nil_not)) (hs_388.mono (hS.raLe0 hRA nil_not)) h_390) fun a w hS hK => ?_
      refine wpList_nil (NoP_nil ?_)
      refine wp_mid (fun a w => ∃ (x_455 : List (List api_Value)) (R_459 : Hp) (v_456 : Value) (cs_457 : List Value), ref15_Where.j1 (ref15_Where.l0 a0 a1 a2 y_7 k_l0) a0 x_199 x_455 = some r ∧ RLe [] w0 R_200 R_459 ∧ Reps (tySl ty_api_Value) R_459 cs_457 x_455 ∧ Kn 44 a [(2, .int .i64 a2), (3, .pointer (some ⟨b_1, 0, none⟩)), (4, .pointer (some ⟨b_2, 0, none⟩)), (6, .pointer (some ⟨b_3, 0, none⟩)), (7, .pointer (some ⟨b_14, 0, none⟩)), (8, .int .i64 x_199)] ∧ St [] w0 w R_459 [.cells b_1 [v0_0, v0_1] 28, .cells b_2 [v1_0] 24, .cells b_3 [.slice none 0 0, .slice none 0 0] 28, .row 57 2 v_9 y_7.length cs_10, .row 33 1 v_456 x_455.length cs_457, .cells b_14 [v_9, v_456] 28]) ?_ ?_
      · refine wp_cond_split (hK.ev rfl) (fun (hb_461 : y_389 = true) => ?_) (fun (hb_461 : y_389 = false) => ?_)
        · rw [ifb_t hb_461] at H
          refine parT_region (C := fun w => St [] w0 w R_200 [.cells b_1 [v0_0, v0_1] 28, .cells b_2 [v1_0] 24, .cells b_3 [.slice none 0 0, .slice none 0 0] 28, .row 57 2 v_9 y_7.length cs_10, .row 33 1 v_196 x_195.length cs_197, .cells b_14 [v_9, v_196] 28]) 10 [(0, true), (1, true), (3, true), (4, true), (5, true), (6, true), (7, true), (2, false), (8, false), (9, false)] mixed (by kernel_rfl) hS (fun w hS => hS) fun w hS => ?_
          refine sp (k := 0) rfl hK (by decide) rfl rfl (fun w hS => r_fieldAddr Try.underlying28 rfl Try.sizeOf26 hK rfl) fun a hK => ?_
          refine sp (k := 1) rfl hK (by decide) rfl rfl (fun w hS => r_load Try.isAgg26 hK rfl (hS.cell (.tail _ (.tail _ (.tail _ (.tail _ (.tail _ (.head _)))))) rfl)) fun a hK => ?_
          refine sp (k := 3) rfl hK (by decide) rfl rfl (fun w hS => r_fieldAddr Try.underlying28 rfl Try.sizeOf26 hK rfl) fun a hK => ?_
          refine sp (k := 4) rfl hK (by decide) rfl rfl (fun w hS => r_load Try.isAgg26 hK rfl (hS.cell (.head _) rfl)) fun a hK => ?_
          refine sp (k := 5) rfl hK (by decide) rfl rfl (fun w hS => r_move hK rfl) fun a hK => ?_
          obtain ⟨y_493, h_494, H⟩ := bind_some H
          obtain ⟨b_495, o_496, c_497, cs_498, hv_499, hr_500, hc_501, h_4940, h_4941⟩ := h0_1.ix h_494
          obtain ⟨v_502, rfl, hs_503⟩ := hr_500
          refine sp (k := 6) rfl hK (by decide) rfl rfl (fun w hS => r_indexAddr_R Try.underlying26 Try.sizeOf33 hv_499 h_4940 h_4941 hK rfl rfl) fun a hK => ?_
          refine sp (k := 7) rfl hK (by decide) rfl rfl (fun w hS => r_load Try.isAgg33 hK rfl ((hS.ra hRA nil_not).cell (hc_501 0 _ rfl))) fun a hK => ?_
          refine spw (k := 2) rfl rfl hS ?_
          refine sl_buildSliceC (zc := [.int .i64 0, .int .i64 0, .string (⟨#[]⟩ : ByteArray), .int .i64 0, .int .i64 0, .int .i64 0, .int .i64 0, .int .i64 0, .int .i64 0, .int .i64 0, .int .i64 0]) (zs := []) (ps := []) (c := []) Try.underlying33 Try.sizeOf39 Try.zeroValue39 rfl pc_nil rfl rfl (by decide) (by kernel_rfl) rfl hS hK (by decide) rfl fun a w b_504 hS hK => ?_
          refine parK_nil (hS.pk6.pk6.pk6.pk6.pk6.pk6.trunc 6) ?_
          refine spw (k := 8) rfl rfl (hS.pk6.pk6.pk6.pk6.pk6.pk6.trunc 6) ?_
          obtain ⟨y_507, h_508, H⟩ := bind_some H
          have hS := hS.row_lit (size := 11) (m := 0) rfl (by decide)
          have hq_506 : Reps ty_api_Value R_200 [] ([] : List api_Value) := (Reps.nil _ _)
          refine sl_append_A elT33 (by decide) rfl (fun _ _ _ _ h => h) (hS.ra hRA nil_not) hq_506 rfl hs_503 h_508 hS hK (by decide) rfl rfl rfl fun a w v_509 cs_510 hq_511 hS hK => ?_
          refine parK_nil (hS.pk6.pk6.pk6.pk6.pk6.pk6.trunc 6) ?_
          refine spw (k := 9) rfl rfl (hS.pk6.pk6.pk6.pk6.pk6.pk6.trunc 6) ?_
          have ho_513 := hS.row_one (.head _)
          refine sl_buildSliceF (zc := [.slice none 0 0]) (ps := [(0, v_509)]) (c := [v_509]) [[v_509]] Try.underlying26 Try.sizeOf33 Try.zeroValue33 rfl (pc_cons (cells1 ho_513) pc_nil) rfl rfl (Nat.le_of_ble_eq_true rfl) rfl (all_cons rfl (all_nil)) rfl hS hK (by decide) rfl fun a w b_514 hS hK => ?_
          refine parK_nil (hS.pk7.pk7.pk7.pk7.pk7.pk7.trunc 6) ?_
          refine thenL_nil ?_
          have hS := hS.pk6
          have hS := hS.pk2
          obtain ⟨R_515, hS, hl_517, hs_516⟩ := hS.fz_row hq_511 rfl rfl
          have hRL := hRL.trans hl_517
          obtain ⟨y_518, h_519, H⟩ := bind_some H
          refine sl_append_L (ty := (tySl ty_api_Value)) (ys := [y_507]) elT26 (by decide) rfl (hq_198.mono hl_517.le) rfl (Reps.cons (show Ty.rep (tySl ty_api_Value) _ [v_509] y_507 from ⟨_, rfl, hs_516⟩) (Reps.nil _ _)) rfl h_519 hS hK (by decide) rfl rfl rfl fun a w v_520 cs_521 hq_522 hS hK => ?_
          refine sl hK (by decide) rfl rfl (r_fieldAddr Try.underlying28 rfl Try.sizeOf26 hK rfl) fun a hK => ?_
          have hS := hS.pk5
          refine sl_store1 (c' := [v_9, v_520]) Try.sizeOf26 hS hK rfl rfl rfl (hS.row_one (.tail _ (.head _))) (Nat.le_of_ble_eq_true rfl) rfl fun a w hS hK => ?_
          refine wpList_nil (NoP_nil ?_)
          have hS := hS.pk1
          have hS := hS.pk5
          have hS := hS.pk5
          have hS := hS.pk5
          have hS := hS.pk5
          exact ⟨y_518, _, _, _, H, hl_517, hq_522, hK.sub (all_cons rfl (all_cons rfl (all_cons rfl (all_cons rfl (all_cons rfl (all_cons rfl (all_nil))))))), hS⟩
        · rw [ifb_f hb_461] at H
          refine wp_skip ?_
          have hS := hS.pk5
          have hS := hS.pk5
          have hS := hS.pk5
          have hS := hS.pk5
          have hS := hS.pk5
          have hS := hS.pk5
          exact ⟨x_195, _, _, _, H, (RLe.refl _ _), hq_198, hK.sub (all_cons rfl (all_cons rfl (all_cons rfl (all_cons rfl (all_cons rfl (all_cons rfl (all_nil))))))), hS⟩
      · rintro a w ⟨x_455, R_459, v_456, cs_457, H, hl_460, hq_458, hK, hS⟩
        unfold ref15_Where.j1 at H
        have hRL := hRL.trans hl_460
        refine wp_region_lit ?_
        refine sl hK (by decide) rfl rfl (r_move hK rfl) fun a hK => ?_
        refine sl hK (by decide) rfl rfl (r_ibin hK rfl rfl rfl) fun a hK => ?_
        refine sl hK (by decide) rfl rfl (r_assign hK rfl) fun a hK => ?_
        refine wpList_nil ?_
        have hS := hS.pk5
        have hS := hS.pk5
        have hS := hS.pk5
        have hS := hS.pk5
        have hS := hS.pk5
        have hS := hS.pk5
        exact ⟨_, Nat.lt_succ_self _, x_455, (IntKind.i64.wrap (x_199 + 1)), _, _, _, H, (hl_201.trans hl_460), hq_458, hK.sub (all_cons rfl (all_cons rfl (all_cons rfl (all_cons rfl (all_cons rfl (all_cons rfl (all_nil))))))), hS⟩
    · rw [ifb_f hb_364] at H
      refine wp_exit ?_
      refine wp_seq ?_
      refine wp_region_lit ?_
      refine sl hK (by decide) rfl rfl (r_loadA (cs := [v_9, v_196]) Try.isAgg28 Try.sizeOf28 rfl hK rfl (hS.cells_of (m := 2) (.tail _ (.tail _ (.tail _ (.tail _ (.tail _ (.head _)))))) rfl)) fun a hK => ?_
      have hS := hS.pk2
      refine sl_storeA (vs := [v_9, v_196]) (c' := [v_9, v_196]) Try.sizeOf28 hS hK rfl rfl rfl rfl (all_cons (hS.row_one (.tail _ (.tail _ (.tail _ (.head _))))) (all_cons (hS.row_one (.tail _ (.tail _ (.tail _ (.tail _ (.head _)))))) (all_nil))) (Nat.le_of_ble_eq_true rfl) rfl fun a w hS hK => ?_
      refine wpList_nil ?_
      obtain rfl := Option.some.inj H
      refine wp_ret ?_
      repeat (first | refine ret_then ?_ | refine ret_block ?_ | refine ret_scope ?_)
      exact ret_1 Try.results15 hK (rv_cell (c := [v_9, v_196]) Try.isAgg28 Try.sizeOf28 hS (.head _) rfl hK rfl) ⟨_, rfl, _, _, _, _, _, rfl, (hS.pk4.pk4.trunc 2), hRL, (hq_11.mono hl_201.le), hq_198⟩

/-! ### catchment/catchmentlaw15.PredWhere: function 4 -/
set_option maxHeartbeats 4000000 in
set_option maxRecDepth 100000 in
theorem law15_PredWhere.calls (a0 : api_Table) (a1 : api_Query) (a2 : Int) {w0 : World} {R : Hp} {RA : Hp} {v0_0 : Value} {v0_1 : Value} {v1_0 : Value} (hRA : RA.sub w0) (hR : R.sub w0) (h0_0 : SlR ty_api_Col R v0_0 a0.Cols) (h0_1 : SlR (tySl ty_api_Value) R v0_1 a0.Rows) (h1_0 : SlR ty_api_Node R v1_0 a1.N) (hG : GF RA) (H : law15_PredWhere a0 a1 a2 = some true) : CallsV Try.prog 4 #[.agg #[v0_0, v0_1], .agg #[v1_0], .int .i64 a2] w0 (.bool true) := by
  unfold law15_PredWhere at H
  refine enter (args := [.agg #[v0_0, v0_1], .agg #[v1_0], .int .i64 a2]) Try.func4 rfl Try.ntmps4 rfl fun a hK => ?_
  have hS := St.init hR
  have hRL := RLe.refl (M := []) w0 R
  refine wp_seq ?_
  refine wp_region_lit ?_
  refine sl_box hS hK (by decide) rfl rfl (c := [v0_0, v0_1]) rfl fun a w b_1 hS hK => ?_
  refine sl_box hS hK (by decide) rfl rfl (c := [v1_0]) rfl fun a w b_2 hS hK => ?_
  refine sl hK (by decide) rfl rfl (r_assign hK rfl) fun a hK => ?_
  refine wpList_nil ?_
  refine wp_seq ?_
  refine wp_region_lit ?_
  obtain ⟨y_3, h_4, H⟩ := bind_some H
  refine sl_callV Try.call9 hS hK (by decide) rfl rfl rfl (law15_shown.calls (lentOf_sub [] _) (GF.mono (hS.raLe0 hRA nil_not) hG) h_4) fun a w hS hK => ?_
  refine sl hK (by decide) rfl rfl (r_assign hK rfl) fun a hK => ?_
  refine wpList_nil ?_
  refine wp_seq ?_
  refine wp_region_lit ?_
  refine sl hK (by decide) rfl rfl (r_loadA (cs := [v1_0]) Try.isAgg24 Try.sizeOf24 rfl hK rfl (hS.cells_of (m := 1) (.head _) rfl)) fun a hK => ?_
  obtain ⟨y_5, h_6, H⟩ := bind_some H
  refine sl_call Try.call10 hK (by decide) rfl rfl rfl (law15_few.calls a1 hS.sub h1_0 h_6) fun a v_ w hv_ hK => ?_
  obtain ⟨R_7, v_9, hv_, hr_, hl_8, hs_10⟩ := hv_
  have hv_ := hv_.symm
  subst hv_
  obtain ⟨hS, hl_8⟩ := hS.sp0.back hr_ hl_8
  have hS := hS.un0
  have hRL := hRL.trans hl_8
  refine sl_storeA (vs := [v_9]) (c' := [v_9]) Try.sizeOf24 hS hK rfl rfl rfl rfl (all_cons hs_10.one (all_nil)) (Nat.le_of_ble_eq_true rfl) rfl fun a w hS hK => ?_
  refine wpList_nil ?_
  refine wp_seq ?_
  refine wp_region_lit ?_
  refine sl hK (by decide) rfl rfl (r_loadA (cs := [v0_0, v0_1]) Try.isAgg28 Try.sizeOf28 rfl hK rfl (hS.cells_of (m := 2) (.tail _ (.head _)) rfl)) fun a hK => ?_
  obtain ⟨y_11, h_12, H⟩ := bind_some H
  refine sl_call Try.call11 hK (by decide) rfl rfl rfl (law15_cut.calls a0 hS.sub (h0_0.mono hl_8.le) (h0_1.mono hl_8.le) h_12) fun a v_ w hv_ hK => ?_
  obtain ⟨R_13, v_15, v_17, hv_, hr_, hl_14, hs_16, hs_18⟩ := hv_
  have hv_ := hv_.symm
  subst hv_
  obtain ⟨hS, hl_14⟩ := hS.sp0.back hr_ hl_14
  have hS := hS.un0
  have hRL := hRL.trans hl_14
  have hS := hS.pk1
  refine sl_storeA (vs := [v_15, v_17]) (c' := [v_15, v_17]) Try.sizeOf28 hS hK rfl rfl rfl rfl (all_cons hs_16.one (all_cons hs_18.one (all_nil))) (Nat.le_of_ble_eq_true rfl) rfl fun a w hS hK => ?_
  refine wpList_nil ?_
  refine wp_seq ?_
  refine wp_region_lit ?_
  refine sl hK (by decide) rfl rfl (r_loadA (cs := [v_15, v_17]) Try.isAgg28 Try.sizeOf28 rfl hK rfl (hS.cells_of (m := 2) (.head _) rfl)) fun a hK => ?_
  refine sl hK (by decide) rfl rfl (r_loadA (cs := [v_9]) Try.isAgg24 Try.sizeOf24 rfl hK rfl (hS.cells_of (m := 1) (.tail _ (.head _)) rfl)) fun a hK => ?_
  refine sl hK (by decide) rfl rfl (r_move hK rfl) fun a hK => ?_
  obtain ⟨y_19, h_20, H⟩ := bind_some H
  refine sl_call Try.call14 hK (by decide) rfl rfl rfl (pred_Where.calls y_11 y_5 a2 (lentOf_sub [] _) hS.sub (hs_16.mono hS.rLe0) (hs_18.mono hS.rLe0) (hs_10.mono (hl_14.le.trans hS.rLe0)) (GF.mono (hS.raLe0 hRA nil_not) hG) h_20) fun a v_ w hv_ hK => ?_
  obtain ⟨R_21, v_24, cs_25, v_28, cs_29, hv_, hr_, hl_22, hq_26, hq_30, hap_31⟩ := hv_
  have hv_ := hv_.symm
  subst hv_
  obtain ⟨hS, hl_22⟩ := hS.sp0.back hr_ hl_22
  have hS := hS.un2
  have hRL := hRL.trans hl_22
  refine sl_alloc Try.zeroValue28 hS hK (by decide) rfl rfl fun a w b_32 hS hK => ?_
  refine sl_storeA (vs := [v_24, v_28]) (c' := [v_24, v_28]) Try.sizeOf28 hS hK rfl rfl rfl rfl (all_cons (hS.row_one (.tail _ (.head _))) (all_cons (hS.row_one (.tail _ (.tail _ (.head _)))) (all_nil))) (Nat.le_of_ble_eq_true rfl) rfl fun a w hS hK => ?_
  refine wpList_nil ?_
  refine wp_seq ?_
  refine wp_region_lit ?_
  refine sl hK (by decide) rfl rfl (r_loadA (cs := [v_15, v_17]) Try.isAgg28 Try.sizeOf28 rfl hK rfl (hS.cells_of (m := 2) (.tail _ (.tail _ (.tail _ (.head _)))) rfl)) fun a hK => ?_
  refine sl hK (by decide) rfl rfl (r_loadA (cs := [v_9]) Try.isAgg24 Try.sizeOf24 rfl hK rfl (hS.cells_of (m := 1) (.tail _ (.tail _ (.tail _ (.tail _ (.head _))))) rfl)) fun a hK => ?_
  refine sl hK (by decide) rfl rfl (r_move hK rfl) fun a hK => ?_
  obtain ⟨y_33, h_34, H⟩ := bind_some H
  refine sl_call Try.call15 hK (by decide) rfl rfl rfl (ref15_Where.calls y_11 y_5 a2 (lentOf_sub [] _) (hS.sub.le hl_22.le) (hs_16.mono (hl_22.le.trans hS.rLe0)) (hs_18.mono (hl_22.le.trans hS.rLe0)) (hs_10.mono ((hl_14.le.trans hl_22.le).trans hS.rLe0)) h_34) fun a v_ w hv_ hK => ?_
  obtain ⟨R_35, v_38, cs_39, v_42, cs_43, hv_, hr_, hl_36, hq_40, hq_44⟩ := hv_
  have hv_ := hv_.symm
  subst hv_
  obtain ⟨R_45, hS, hl_46, hl_47, hl_48, hd_49⟩ := hS.sp0.backF hl_22 hr_ hl_36
  have hS := hS.un2
  have hRL := hRL.trans hl_46
  refine sl_alloc Try.zeroValue28 hS hK (by decide) rfl rfl fun a w b_50 hS hK => ?_
  refine sl_storeA (vs := [v_38, v_42]) (c' := [v_38, v_42]) Try.sizeOf28 hS hK rfl rfl rfl rfl (all_cons (hS.row_one (.tail _ (.head _))) (all_cons (hS.row_one (.tail _ (.tail _ (.head _)))) (all_nil))) (Nat.le_of_ble_eq_true rfl) rfl fun a w hS hK => ?_
  refine wpList_nil ?_
  refine wp_seq ?_
  refine wp_region_lit ?_
  refine sl hK (by decide) rfl rfl (r_loadA (cs := [v_24, v_28]) Try.isAgg28 Try.sizeOf28 rfl hK rfl (hS.cells_of (m := 2) (.tail _ (.tail _ (.tail _ (.head _)))) rfl)) fun a hK => ?_
  refine sl hK (by decide) rfl rfl (r_loadA (cs := [v_38, v_42]) Try.isAgg28 Try.sizeOf28 rfl hK rfl (hS.cells_of (m := 2) (.head _) rfl)) fun a hK => ?_
  obtain ⟨y_51, h_52, H⟩ := bind_some H
  refine sl_callV Try.call16 hS hK (by decide) rfl rfl rfl (ref02_Same.calls y_19 y_33 (lentOf_sub [] _) (hS.lend_row0 (.tail _ (.tail _ (.tail _ (.tail _ (.head _))))) (hq_26.mono hl_46.le) rfl rfl) (hS.lend_row0 (.tail _ (.tail _ (.tail _ (.tail _ (.tail _ (.head _)))))) (hq_30.mono hl_46.le) rfl rfl) (hS.lend_row0 (.tail _ (.head _)) (hq_40.mono hl_48.le) rfl rfl) (hS.lend_row0 (.tail _ (.tail _ (.head _))) (hq_44.mono hl_48.le) rfl rfl) h_52) fun a w hS hK => ?_
  refine sl hK (by decide) rfl rfl (r_assign hK rfl) fun a hK => ?_
  refine wpList_nil ?_
  refine wp_seq ?_
  refine wp_seq ?_
  refine wp_region_lit ?_
  refine sl hK (by decide) rfl rfl (r_assign hK rfl) fun a hK => ?_
  refine wpList_nil ?_
  refine wp_block ?_
  refine wp_loop_k (fun k_l0 a w => ∃ (x_190 : List (List api_Value)) (x_195 : Int) (R_196 : Hp) (v_191 : Value) (cs_192 : List Value), law15_PredWhere.l0 a2 y_3 y_5 y_11 y_19 y_33 y_51 k_l0 x_190 x_195 = some true ∧ RLe [] w0 R_35 R_196 ∧ Reps (tySl ty_api_Value) R_196 cs_192 x_190 ∧ Apart R_35 R_196 cs_192 ∧ Kn 68 a [(2, .int .i64 a2), (3, .pointer (some ⟨b_1, 0, none⟩)), (4, .pointer (some ⟨b_2, 0, none⟩)), (7, .bool y_3), (8, .pointer (some ⟨b_32, 0, none⟩)), (9, .pointer (some ⟨b_50, 0, none⟩)), (10, .bool y_51), (11, .int .i64 x_195)] ∧ St [] w0 w R_196 [.cells b_1 [v_15, v_17] 28, .cells b_2 [v_9] 24, .row 57 2 v_24 y_19.Cols.length cs_25, .row 33 1 v_191 x_190.length cs_192, .cells b_32 [v_24, v_191] 28, .row 57 2 v_38 y_33.Cols.length cs_39, .row 33 1 v_42 y_33.Rows.length cs_43, .cells b_50 [v_38, v_42] 28]) (((y_19.Rows.length : Int) - 0).toNat + 1) ?_ ?_
  · have hS := hS.pk2
    have hS := hS.pk2
    have hS := hS.pk3
    have hS := hS.pk5
    have hS := hS.pk5
    have hS := hS.pk7
    have hS := hS.pk7
    exact ⟨y_19.Rows, 0, _, _, _, H, hl_48, (hq_30.mono hl_46.le), (Apart.frame hap_31 hl_46.le hd_49), hK.sub (all_cons rfl (all_cons rfl (all_cons rfl (all_cons rfl (all_cons rfl (all_cons rfl (all_cons rfl (all_cons rfl (all_nil))))))))), hS⟩
  · rintro k_l0 a w ⟨x_190, x_195, R_196, v_191, cs_192, H, hl_197, hq_193, hap_194, hK, hS⟩
    cases k_l0 with
    | zero => cases H
    | succ k_l0 =>
    rw [law15_PredWhere.l0.eq_2] at H
    have hRL := (hl_8.trans (hl_14.trans hl_47)).trans hl_197
    refine wp_seq ?_
    refine wp_seq ?_
    refine wp_region_lit ?_
    refine sl hK (by decide) rfl rfl (r_move hK rfl) fun a hK => ?_
    refine sl hK (by decide) rfl rfl (r_fieldAddr Try.underlying28 rfl Try.sizeOf26 hK rfl) fun a hK => ?_
    refine sl hK (by decide) rfl rfl (r_load Try.isAgg26 hK rfl (hS.cell (.tail _ (.tail _ (.tail _ (.tail _ (.head _))))) rfl)) fun a hK => ?_
    refine sl hK (by decide) rfl rfl (r_len_O Try.underlying26 hS (.tail _ (.tail _ (.tail _ (.head _)))) hK rfl) fun a hK => ?_
    refine sl hK (by decide) rfl rfl (r_ibin hK rfl rfl rfl) fun a hK => ?_
    refine wpList_nil ?_
    refine wp_cond_split (hK.ev rfl) (fun (hb_333 : (decide (x_195 < (x_190.length : Int))) = true) => ?_) (fun (hb_333 : (decide (x_195 < (x_190.length : Int))) = false) => ?_)
    · rw [ifb_t hb_333] at H
      refine wp_skip ?_
      refine wp_seq ?_
      refine wp_block ?_
      refine wp_seq ?_
      refine wp_region_lit ?_
      refine sl hK (by decide) rfl rfl (r_assign hK rfl) fun a hK => ?_
      refine wpList_nil ?_
      refine wp_block ?_
      refine wp_loop_k (fun k_l1 a w => ∃ (x_374 : List (List api_Value)) (x_379 : Int) (R_380 : Hp) (v_375 : Value) (cs_376 : List Value), law15_PredWhere.l1 (law15_PredWhere.l0 a2 y_3 y_5 y_11 y_19 y_33 y_51 k_l0) y_19 x_190 x_195 k_l1 x_374 x_379 = some true ∧ RLe [] w0 R_35 R_380 ∧ Reps (tySl ty_api_Value) R_380 cs_376 x_374 ∧ Apart R_35 R_380 cs_376 ∧ Kn 68 a [(2, .int .i64 a2), (3, .pointer (some ⟨b_1, 0, none⟩)), (4, .pointer (some ⟨b_2, 0, none⟩)), (7, .bool y_3), (8, .pointer (some ⟨b_32, 0, none⟩)), (9, .pointer (some ⟨b_50, 0, none⟩)), (10, .bool y_51), (11, .int .i64 x_195), (12, .int .i64 x_379)] ∧ St [] w0 w R_380 [.cells b_1 [v_15, v_17] 28, .cells b_2 [v_9] 24, .row 57 2 v_24 y_19.Cols.length cs_25, .row 33 1 v_375 x_374.length cs_376, .cells b_32 [v_24, v_375] 28, .row 57 2 v_38 y_33.Cols.length cs_39, .row 33 1 v_42 y_33.Rows.length cs_43, .cells b_50 [v_38, v_42] 28]) (((((ix x_190 x_195).getD []).length : Int) - 0).toNat + 1) ?_ ?_
      · have hS := hS.pk7
        have hS := hS.pk7
        have hS := hS.pk7
        have hS := hS.pk7
        have hS := hS.pk7
        have hS := hS.pk7
        have hS := hS.pk7
        have hS := hS.pk7
        exact ⟨x_190, 0, _, _, _, H, hl_197, hq_193, hap_194, hK.sub (all_cons rfl (all_cons rfl (all_cons rfl (all_cons rfl (all_cons rfl (all_cons rfl (all_cons rfl (all_cons rfl (all_cons rfl (all_nil)))))))))), hS⟩
      · rintro k_l1 a w ⟨x_374, x_379, R_380, v_375, cs_376, H, hl_381, hq_377, hap_378, hK, hS⟩
        cases k_l1 with
        | zero => cases H
        | succ k_l1 =>
        rw [law15_PredWhere.l1.eq_2] at H
        have hRL := (hl_8.trans (hl_14.trans hl_47)).trans hl_381
        refine wp_seq ?_
        refine wp_seq ?_
        refine wp_region_lit ?_
        refine sl hK (by decide) rfl rfl (r_move hK rfl) fun a hK => ?_
        refine sl hK (by decide) rfl rfl (r_fieldAddr Try.underlying28 rfl Try.sizeOf26 hK rfl) fun a hK => ?_
        refine sl hK (by decide) rfl rfl (r_load Try.isAgg26 hK rfl (hS.cell (.tail _ (.tail _ (.tail _ (.tail _ (.head _))))) rfl)) fun a hK => ?_
        refine sl hK (by decide) rfl rfl (r_move hK rfl) fun a hK => ?_
        obtain ⟨y_430, h_431, H⟩ := bind_some H
        obtain ⟨b_433, c_434, cs_435, hv_432, hr_436, hc_437, h_4310, h_4311⟩ := hS.row_ix (.tail _ (.tail _ (.tail _ (.head _)))) hq_377 rfl rfl h_431
        obtain ⟨v_438, rfl, hs_439⟩ := hr_436
        refine sl hK (by decide) rfl rfl (r_indexAddr_R Try.underlying26 Try.sizeOf33 hv_432 h_4310 h_4311 hK rfl rfl) fun a hK => ?_
        refine sl hK (by decide) rfl rfl (r_load Try.isAgg33 hK rfl (hS.row_cell (.tail _ (.tail _ (.tail _ (.head _)))) hv_432 (hc_437 0 _ rfl))) fun a hK => ?_
        refine sl hK (by decide) rfl rfl (r_len_R Try.underlying33 hs_439 hK rfl) fun a hK => ?_
        refine sl hK (by decide) rfl rfl (r_ibin hK rfl rfl rfl) fun a hK => ?_
        refine wpList_nil ?_
        refine wp_cond_split (hK.ev rfl) (fun (hb_440 : (decide (x_379 < (y_430.length : Int))) = true) => ?_) (fun (hb_440 : (decide (x_379 < (y_430.length : Int))) = false) => ?_)
        · rw [ifb_t hb_440] at H
          refine wp_skip ?_
          refine wp_seq ?_
          refine wp_block ?_
          refine wp_region_lit ?_
          refine sl hK (by decide) rfl rfl (r_fieldAddr Try.underlying28 rfl Try.sizeOf26 hK rfl) fun a hK => ?_
          refine sl hK (by decide) rfl rfl (r_load Try.isAgg26 hK rfl (hS.cell (.tail _ (.tail _ (.tail _ (.tail _ (.head _))))) rfl)) fun a hK => ?_
          refine sl hK (by decide) rfl rfl (r_move hK rfl) fun a hK => ?_
          obtain ⟨y_441, h_442, H⟩ := bind_some H
          obtain ⟨b_444, c_445, cs_446, hv_443, hr_447, hc_448, h_4420, h_4421⟩ := hS.row_ix (.tail _ (.tail _ (.tail _ (.head _)))) hq_377 rfl rfl h_442
          obtain ⟨v_449, rfl, hs_450⟩ := hr_447
          refine sl hK (by decide) rfl rfl (r_indexAddr_R Try.underlying26 Try.sizeOf33 hv_443 h_4420 h_4421 hK rfl rfl) fun a hK => ?_
          refine sl hK (by decide) rfl rfl (r_load Try.isAgg33 hK rfl (hS.row_cell (.tail _ (.tail _ (.tail _ (.head _)))) hv_443 (hc_448 0 _ rfl))) fun a hK => ?_
          refine sl hK (by decide) rfl rfl (r_move hK rfl) fun a hK => ?_
          refine sl hK (by decide) rfl rfl (r_buildC (ps := [(0, .int .i64 77)]) (c := [.int .i64 77, .int .i64 0, .string (⟨#[]⟩ : ByteArray), .int .i64 0, .int .i64 0, .int .i64 0, .int .i64 0, .int .i64 0, .int .i64 0, .int .i64 0, .int .i64 0]) Try.underlying39 Try.zeroValue39 places39 hK rfl (pc_cons rfl pc_nil) rfl rfl) fun a hK => ?_
          obtain ⟨y_451, h_452, H⟩ := bind_some H
          obtain ⟨b_453, o_454, c_455, cs_456, hv_457, hr_458, hc_459, h_4520, h_4521⟩ := hs_450.ix h_452
          subst hr_458
          refine sl hK (by decide) rfl rfl (r_indexAddr_R Try.underlying33 Try.sizeOf39 hv_457 h_4520 h_4521 hK rfl rfl) fun a hK => ?_
          have hS := hS.pk3
          obtain ⟨l_460, t_461, hR_462, hS⟩ := hS.thaw hl_381 hap_378 (hc_448 0 _ rfl) hv_457
          have hlt_ : o_454 + x_379.toNat * 11 + 0 + 10 < l_460.length := (cell_len ((hc_459) 10 _ rfl) hR_462).1
          refine sl_storeA (vs := [.int .i64 77, .int .i64 0, .string (⟨#[]⟩ : ByteArray), .int .i64 0, .int .i64 0, .int .i64 0, .int .i64 0, .int .i64 0, .int .i64 0, .int .i64 0, .int .i64 0]) (c' := spl l_460 (o_454 + x_379.toNat * 11 + 0) [.int .i64 77, .int .i64 0, .string (⟨#[]⟩ : ByteArray), .int .i64 0, .int .i64 0, .int .i64 0, .int .i64 0, .int .i64 0, .int .i64 0, .int .i64 0, .int .i64 0]) Try.sizeOf39 hS hK rfl rfl rfl rfl (all_cons rfl (all_cons rfl (all_cons rfl (all_cons rfl (all_cons rfl (all_cons rfl (all_cons rfl (all_cons rfl (all_cons rfl (all_cons rfl (all_cons rfl (all_nil)))))))))))) (by omega) rfl fun a w hS hK => ?_
          obtain ⟨R_463, hS, hl_464, hq_465, hap_466⟩ := hS.refreeze (ty := ty_api_Value) (es := [.int .i64 y_451.Kind, .int .i64 y_451.N, .string y_451.S, .int .i64 y_451.H.a0, .int .i64 y_451.H.a1, .int .i64 y_451.H.a2, .int .i64 y_451.H.a3, .int .i64 y_451.H.a4, .int .i64 y_451.H.a5, .int .i64 y_451.H.a6, .int .i64 y_451.H.a7]) (vs := [.int .i64 77, .int .i64 0, .string (⟨#[]⟩ : ByteArray), .int .i64 0, .int .i64 0, .int .i64 0, .int .i64 0, .int .i64 0, .int .i64 0, .int .i64 0, .int .i64 0]) (ps := 0) (y := (⟨77, 0, (⟨#[]⟩ : ByteArray), (⟨0, 0, 0, 0, 0, 0, 0, 0⟩ : Arr8)⟩ : api_Value)) (fun _ _ _ _ h => h) hl_381 hap_378 hq_377 h_442 (hc_448 0 _ rfl) hv_457 hR_462 h_452 (show Ty.rep ty_api_Value _ [.int .i64 y_451.Kind, .int .i64 y_451.N, .string y_451.S, .int .i64 y_451.H.a0, .int .i64 y_451.H.a1, .int .i64 y_451.H.a2, .int .i64 y_451.H.a3, .int .i64 y_451.H.a4, .int .i64 y_451.H.a5, .int .i64 y_451.H.a6, .int .i64 y_451.H.a7] y_451 from rfl) (hc_459) (Nat.le_of_ble_eq_true rfl) (Nat.le_of_ble_eq_true rfl) (show Ty.rep ty_api_Value _ (spl [.int .i64 y_451.Kind, .int .i64 y_451.N, .string y_451.S, .int .i64 y_451.H.a0, .int .i64 y_451.H.a1, .int .i64 y_451.H.a2, .int .i64 y_451.H.a3, .int .i64 y_451.H.a4, .int .i64 y_451.H.a5, .int .i64 y_451.H.a6, .int .i64 y_451.H.a7] 0 [.int .i64 77, .int .i64 0, .string (⟨#[]⟩ : ByteArray), .int .i64 0, .int .i64 0, .int .i64 0, .int .i64 0, .int .i64 0, .int .i64 0, .int .i64 0, .int .i64 0]) (⟨77, 0, (⟨#[]⟩ : ByteArray), (⟨0, 0, 0, 0, 0, 0, 0, 0⟩ : Arr8)⟩ : api_Value) from rfl)
          have hS := hS.relen (show (upd x_374 x_195 (upd y_441 x_379 (⟨77, 0, (⟨#[]⟩ : ByteArray), (⟨0, 0, 0, 0, 0, 0, 0, 0⟩ : Arr8)⟩ : api_Value))).length = x_374.length from upd_length)
          have hRL := (hl_8.trans (hl_14.trans hl_47)).trans hl_464
          refine wpList_nil ?_
          refine wp_region_lit ?_
          refine sl hK (by decide) rfl rfl (r_move hK rfl) fun a hK => ?_
          refine sl hK (by decide) rfl rfl (r_ibin hK rfl rfl rfl) fun a hK => ?_
          refine sl hK (by decide) rfl rfl (r_assign hK rfl) fun a hK => ?_
          refine wpList_nil ?_
          have hS := hS.pk7
          have hS := hS.pk7
          have hS := hS.pk7
          have hS := hS.pk7
          have hS := hS.pk4
          have hS := hS.pk7
          have hS := hS.pk7
          have hS := hS.pk7
          exact ⟨_, Nat.lt_succ_self _, (upd x_374 x_195 (upd y_441 x_379 (⟨77, 0, (⟨#[]⟩ : ByteArray), (⟨0, 0, 0, 0, 0, 0, 0, 0⟩ : Arr8)⟩ : api_Value))), (IntKind.i64.wrap (x_379 + 1)), _, _, _, H, hl_464, hq_465, hap_466, hK.sub (all_cons rfl (all_cons rfl (all_cons rfl (all_cons rfl (all_cons rfl (all_cons rfl (all_cons rfl (all_cons rfl (all_cons rfl (all_nil)))))))))), hS⟩
        · rw [ifb_f hb_440] at H
          refine wp_exit ?_
          refine wp_region_lit ?_
          refine sl hK (by decide) rfl rfl (r_move hK rfl) fun a hK => ?_
          refine sl hK (by decide) rfl rfl (r_ibin hK rfl rfl rfl) fun a hK => ?_
          refine sl hK (by decide) rfl rfl (r_assign hK rfl) fun a hK => ?_
          refine wpList_nil ?_
          have hS := hS.pk7
          have hS := hS.pk7
          have hS := hS.pk7
          have hS := hS.pk7
          have hS := hS.pk7
          have hS := hS.pk7
          have hS := hS.pk7
          have hS := hS.pk7
          exact ⟨_, Nat.lt_succ_self _, x_374, (IntKind.i64.wrap (x_195 + 1)), _, _, _, H, hl_381, hq_377, hap_378, hK.sub (all_cons rfl (all_cons rfl (all_cons rfl (all_cons rfl (all_cons rfl (all_cons rfl (all_cons rfl (all_cons rfl (all_nil))))))))), hS⟩
    · rw [ifb_f hb_333] at H
      refine wp_exit ?_
      refine wp_seq ?_
      refine parT_region (C := fun w => St [] w0 w R_196 [.cells b_1 [v_15, v_17] 28, .cells b_2 [v_9] 24, .row 57 2 v_24 y_19.Cols.length cs_25, .row 33 1 v_191 x_190.length cs_192, .cells b_32 [v_24, v_191] 28, .row 57 2 v_38 y_33.Cols.length cs_39, .row 33 1 v_42 y_33.Rows.length cs_43, .cells b_50 [v_38, v_42] 28]) 5 [(0, true), (1, true), (2, true), (4, true), (3, false)] mixed (by kernel_rfl) hS (fun w hS => hS) fun w hS => ?_
      refine sp (k := 0) rfl hK (by decide) rfl rfl (fun w hS => r_loadA (cs := [v_15, v_17]) Try.isAgg28 Try.sizeOf28 rfl hK rfl (hS.cells_of (m := 2) (.head _) rfl)) fun a hK => ?_
      refine sp (k := 1) rfl hK (by decide) rfl rfl (fun w hS => r_loadA (cs := [v_9]) Try.isAgg24 Try.sizeOf24 rfl hK rfl (hS.cells_of (m := 1) (.tail _ (.head _)) rfl)) fun a hK => ?_
      refine sp (k := 2) rfl hK (by decide) rfl rfl (fun w hS => r_move hK rfl) fun a hK => ?_
      refine sp (k := 4) rfl hK (by decide) rfl rfl (fun w hS => r_loadA (cs := [v_38, v_42]) Try.isAgg28 Try.sizeOf28 rfl hK rfl (hS.cells_of (m := 2) (.tail _ (.tail _ (.tail _ (.tail _ (.tail _ (.tail _ (.tail _ (.head _)))))))) rfl)) fun a hK => ?_
      refine spw (k := 3) rfl rfl hS ?_
      obtain ⟨y_487, h_488, H⟩ := bind_some H
      refine sl_call Try.call15 hK (by decide) rfl rfl rfl (ref15_Where.calls y_11 y_5 a2 (lentOf_sub [] _) (hS.sub.le hl_197.le) (hs_16.mono ((hl_47.le.trans hl_197.le).trans hS.rLe0)) (hs_18.mono ((hl_47.le.trans hl_197.le).trans hS.rLe0)) (hs_10.mono ((hl_14.le.trans (hl_47.le.trans hl_197.le)).trans hS.rLe0)) h_488) fun a v_ w hv_ hK => ?_
      obtain ⟨R_489, v_492, cs_493, v_496, cs_497, hv_, hr_, hl_490, hq_494, hq_498⟩ := hv_
      have hv_ := hv_.symm
      subst hv_
      obtain ⟨R_499, hS, hl_500, hl_501, hl_502, hd_503⟩ := hS.sp0.backF hl_197 hr_ hl_490
      have hS := hS.un2
      have hRL := hRL.trans hl_500
      refine parK_nil ((hS.pk9.pk9.pk9.pk9.pk9.pk9.pk9.pk9.trunc 8).lower hl_500.le) ?_
      refine thenL_nil ?_
      obtain ⟨y_504, h_505, H⟩ := bind_some H
      refine sl_callV Try.call16 hS hK (by decide) rfl rfl rfl (ref02_Same.calls y_487 y_33 (lentOf_sub [] _) (hS.lend_row0 (.head _) (hq_494.mono hl_502.le) rfl rfl) (hS.lend_row0 (.tail _ (.head _)) (hq_498.mono hl_502.le) rfl rfl) (hS.lend_row0 (.tail _ (.tail _ (.tail _ (.tail _ (.tail _ (.tail _ (.tail _ (.head _)))))))) (hq_40.mono (hl_197.le.trans hl_500.le)) rfl rfl) (hS.lend_row0 (.tail _ (.tail _ (.tail _ (.tail _ (.tail _ (.tail _ (.tail _ (.tail _ (.head _))))))))) (hq_44.mono (hl_197.le.trans hl_500.le)) rfl rfl) h_505) fun a w hS hK => ?_
      refine sl hK (by decide) rfl rfl (r_assign hK rfl) fun a hK => ?_
      refine wpList_nil (NoP_nil ?_)
      refine wp_seq ?_
      refine wp_region_lit ?_
      refine sl hK (by decide) rfl rfl (r_move hK rfl) fun a hK => ?_
      refine sl hK (by decide) rfl rfl (r_move hK rfl) fun a hK => ?_
      rcases or_b y_3 with hb_506 | hb_506
      · rw [ifb_t hb_506] at H
        refine sl hK (by decide) (wtt hb_506) rfl (r_move hK rfl) fun a hK => ?_
        refine sl hK (by decide) rfl rfl (r_pick_t hb_506 hK rfl rfl) fun a hK => ?_
        refine sl hK (by decide) rfl rfl (r_move hK rfl) fun a hK => ?_
        rcases or_b y_51 with hb_507 | hb_507
        · rw [ifb_t hb_507] at H
          refine sl hK (by decide) (wtt hb_507) rfl (r_move hK rfl) fun a hK => ?_
          refine sl hK (by decide) rfl rfl (r_pick_t hb_507 hK rfl rfl) fun a hK => ?_
          refine sl hK (by decide) rfl rfl (r_assign hK rfl) fun a hK => ?_
          refine wpList_nil ?_
          have hr_ := Option.some.inj H
          refine wp_ret ?_
          repeat (first | refine ret_then ?_ | refine ret_block ?_ | refine ret_scope ?_)
          exact ret_1 Try.results4 hK (rv_tmp hK rfl) ⟨congrArg (fun b => Ending.returned (Value.bool b)) hr_, hS.bel⟩
        · rw [ifb_f hb_507] at H
          refine sl_skip hK (by decide) (wtf hb_507) rfl fun a hK => ?_
          refine sl hK (by decide) rfl rfl (r_pick_f hb_507 hK rfl rfl) fun a hK => ?_
          refine sl hK (by decide) rfl rfl (r_assign hK rfl) fun a hK => ?_
          refine wpList_nil ?_
          exact absurd (Option.some.inj H) (by decide)
      · rw [ifb_f hb_506] at H
        refine sl_skip hK (by decide) (wtf hb_506) rfl fun a hK => ?_
        refine sl hK (by decide) rfl rfl (r_pick_f hb_506 hK rfl rfl) fun a hK => ?_
        refine sl hK (by decide) rfl rfl (r_move hK rfl) fun a hK => ?_
        refine sl_skip hK (by decide) rfl rfl fun a hK => ?_
        refine sl hK (by decide) rfl rfl (r_pick hK rfl rfl rfl) fun a hK => ?_
        refine sl hK (by decide) rfl rfl (r_assign hK rfl) fun a hK => ?_
        refine wpList_nil ?_
        exact absurd (Option.some.inj H) (by decide)

end Go.Proofs.Ytjklfkiaebipnaa.M
