/- Each Go function of the laws answers as its plain Lean function tells, wherever that tells something. Printed by wip/eng/gen.py. -/
import Derived.Test.YtjimddbbpjpgdaaWalk3
namespace Go.Proofs.Ytjimddbbpjpgdaa.M
open Go Go.Eng Go.Proofs Go.RowKit
set_option linter.unusedVariables false
set_option linter.unusedSimpArgs false

/-! ### catchment/catchmentref16.Top: function 16 -/
set_option maxHeartbeats 4000000 in
set_option maxRecDepth 100000 in
theorem ref16_Top.calls (a0 : api_Table) (a1 : Int) (a2 : ByteArray) {w0 : World} {R : Hp} {v0_0 : Value} {v0_1 : Value} (hR : R.sub w0) (h0_0 : SlR ty_api_Col R v0_0 a0.Cols) (h0_1 : SlR (tySl ty_api_Value) R v0_1 a0.Rows) {r : api_Table × Int} (H : ref16_Top a0 a1 a2 = some r) : Calls Try.prog 16 #[.agg #[v0_0, v0_1], .int .i64 a1, .string a2] w0 (Rets fun v w' => ∃ (R' : Hp) (u0 : Value) (cu0 : List Value) (u1 : Value) (cu1 : List Value), v = .tuple #[.agg #[u0, u1], .int .i64 r.2] ∧ St [] w0 w' R' [.row 38 2 u0 r.1.Cols.length cu0, .row 44 1 u1 r.1.Rows.length cu1] ∧ RLe [] w0 R R' ∧ Reps ty_api_Col R' cu0 r.1.Cols ∧ Reps (tySl ty_api_Value) R' cu1 r.1.Rows) := by
  unfold ref16_Top at H
  refine enter (args := [.agg #[v0_0, v0_1], .int .i64 a1, .string a2]) Try.func16 rfl Try.ntmps16 rfl fun a hK => ?_
  have hS := St.init hR
  have hRL := RLe.refl (M := []) w0 R
  refine wp_seq ?_
  refine wp_region_lit ?_
  refine sl_box hS hK (by decide) rfl rfl (c := [v0_0, v0_1]) rfl fun a w b_1 hS hK => ?_
  refine sl_alloc Try.zeroValue25 hS hK (by decide) rfl rfl fun a w b_2 hS hK => ?_
  refine sl hK (by decide) rfl rfl (r_assign hK rfl) fun a hK => ?_
  refine wpList_nil ?_
  refine wp_seq ?_
  refine wp_region_lit ?_
  refine sl hK (by decide) rfl rfl (r_loadA (cs := [v0_0, v0_1]) Try.isAgg25 Try.sizeOf25 rfl hK rfl (hS.cells_of (m := 2) (.tail _ (.head _)) rfl)) fun a hK => ?_
  obtain ⟨y_3, h_4, H⟩ := bind_some H
  refine sl_callV Try.call17 hS hK (by decide) rfl rfl rfl (ref02_Check.calls a0 (lentOf_sub [] _) (h0_0.mono hS.rLe0) (h0_1.mono hS.rLe0) h_4) fun a w hS hK => ?_
  refine sl hK (by decide) rfl rfl (r_assign hK rfl) fun a hK => ?_
  refine wpList_nil ?_
  refine wp_seq ?_
  refine wp_seq ?_
  refine wp_region_lit ?_
  refine sl hK (by decide) rfl rfl (r_move hK rfl) fun a hK => ?_
  refine sl hK (by decide) rfl rfl (r_ibin hK rfl rfl rfl) fun a hK => ?_
  refine wpList_nil ?_
  refine wp_cond_split (hK.ev rfl) (fun (hb_5 : (y_3 != 0) = true) => ?_) (fun (hb_5 : (y_3 != 0) = false) => ?_)
  · rw [ifb_t hb_5] at H
    refine wp_seq ?_
    refine wp_region_lit ?_
    refine sl hK (by decide) rfl rfl (r_buildC (ps := []) (c := [.slice none 0 0, .slice none 0 0]) Try.underlying25 Try.zeroValue25 places25 hK rfl pc_nil rfl rfl) fun a hK => ?_
    refine sl hK (by decide) rfl rfl (r_move hK rfl) fun a hK => ?_
    refine sl_storeA (vs := [.slice none 0 0, .slice none 0 0]) (c' := [.slice none 0 0, .slice none 0 0]) Try.sizeOf25 hS hK rfl rfl rfl rfl (all_cons rfl (all_cons rfl (all_nil))) (Nat.le_of_ble_eq_true rfl) rfl fun a w hS hK => ?_
    refine sl hK (by decide) rfl rfl (r_assign hK rfl) fun a hK => ?_
    refine wpList_nil ?_
    have hS := hS.row_nil 38 2
    have hq_7 : Reps ty_api_Col R [] ([] : List api_Col) := Reps.nil _ _
    have hS := hS.row_nil 44 1
    have hq_9 : Reps (tySl ty_api_Value) R [] ([] : List (List api_Value)) := Reps.nil _ _
    obtain rfl := Option.some.inj H
    refine wp_ret ?_
    repeat (first | refine ret_then ?_ | refine ret_block ?_ | refine ret_scope ?_)
    exact ret_2 Try.results16 hK (rv_cell (c := [(.slice none 0 0), (.slice none 0 0)]) Try.isAgg25 Try.sizeOf25 hS (.tail _ (.tail _ (.head _))) rfl hK rfl) (rv_tmp hK rfl) ⟨_, rfl, _, _, _, _, _, rfl, (hS.pk1.trunc 2), hRL, hq_7, hq_9⟩
  · rw [ifb_f hb_5] at H
    refine wp_skip ?_
    refine wp_seq ?_
    refine wp_region_lit ?_
    refine sl hK (by decide) rfl rfl (r_fieldAddr Try.underlying25 rfl Try.sizeOf22 hK rfl) fun a hK => ?_
    refine sl hK (by decide) rfl rfl (r_load Try.isAgg22 hK rfl (hS.cell (.tail _ (.head _)) rfl)) fun a hK => ?_
    refine sl hK (by decide) rfl rfl (r_move hK rfl) fun a hK => ?_
    obtain ⟨y_10, h_11, H⟩ := bind_some H
    refine sl_callV Try.call28 hS hK (by decide) rfl rfl rfl (ref02_Find.calls a0.Cols a2 (lentOf_sub [] _) (h0_0.mono hS.rLe0) h_11) fun a w hS hK => ?_
    refine sl hK (by decide) rfl rfl (r_assign hK rfl) fun a hK => ?_
    refine wpList_nil ?_
    refine wp_seq ?_
    refine wp_seq ?_
    refine wp_mid (fun a w => ∃ (x_24 : Bool), ref16_Top.j0 a0 a1 y_10 x_24 = some r ∧ Kn 111 a [(1, .int .i64 a1), (3, .pointer (some ⟨b_1, 0, none⟩)), (6, .pointer (some ⟨b_2, 0, none⟩)), (9, .int .i64 y_10), (42, .bool x_24)] ∧ St [] w0 w R [.cells b_1 [v0_0, v0_1] 25, .cells b_2 [.slice none 0 0, .slice none 0 0] 25]) ?_ ?_
    · refine wp_region_lit ?_
      refine sl hK (by decide) rfl rfl (r_move hK rfl) fun a hK => ?_
      refine sl hK (by decide) rfl rfl (r_ibin hK rfl rfl rfl) fun a hK => ?_
      refine sl hK (by decide) rfl rfl (r_move hK rfl) fun a hK => ?_
      rcases or_b (decide (a1 < 1)) with hb_26 | hb_26
      · rw [ifb_t hb_26] at H
        refine sl_skip hK (by decide) (wft hb_26) rfl fun a hK => ?_
        refine sl_skip hK (by decide) (wft hb_26) rfl fun a hK => ?_
        refine sl hK (by decide) rfl rfl (r_pick_t hb_26 hK rfl rfl) fun a hK => ?_
        refine sl hK (by decide) rfl rfl (r_move hK rfl) fun a hK => ?_
        refine sl_skip hK (by decide) rfl rfl fun a hK => ?_
        refine sl_skip hK (by decide) rfl rfl fun a hK => ?_
        refine sl hK (by decide) rfl rfl (r_pick hK rfl rfl rfl) fun a hK => ?_
        refine sl hK (by decide) rfl rfl (r_move hK rfl) fun a hK => ?_
        refine sl_skip hK (by decide) rfl rfl fun a hK => ?_
        refine sl_skip hK (by decide) rfl rfl fun a hK => ?_
        refine sl_skip hK (by decide) rfl rfl fun a hK => ?_
        refine sl_skip hK (by decide) rfl rfl fun a hK => ?_
        refine sl_skip hK (by decide) rfl rfl fun a hK => ?_
        refine sl_skip hK (by decide) rfl rfl fun a hK => ?_
        refine sl_skip hK (by decide) rfl rfl fun a hK => ?_
        refine sl hK (by decide) rfl rfl (r_pick hK rfl rfl rfl) fun a hK => ?_
        refine wpList_nil ?_
        have hS := hS.pk1
        exact ⟨true, H, hK.sub (all_cons rfl (all_cons rfl (all_cons rfl (all_cons rfl (all_cons rfl (all_nil)))))), hS⟩
      · rw [ifb_f hb_26] at H
        refine sl hK (by decide) (wff hb_26) rfl (r_move hK rfl) fun a hK => ?_
        refine sl hK (by decide) (wff hb_26) rfl (r_ibin hK rfl rfl rfl) fun a hK => ?_
        refine sl hK (by decide) rfl rfl (r_pick_f hb_26 hK rfl rfl) fun a hK => ?_
        refine sl hK (by decide) rfl rfl (r_move hK rfl) fun a hK => ?_
        rcases or_b (decide (a1 > 1000)) with hb_27 | hb_27
        · rw [ifb_t hb_27] at H
          refine sl_skip hK (by decide) (wft hb_27) rfl fun a hK => ?_
          refine sl_skip hK (by decide) (wft hb_27) rfl fun a hK => ?_
          refine sl hK (by decide) rfl rfl (r_pick_t hb_27 hK rfl rfl) fun a hK => ?_
          refine sl hK (by decide) rfl rfl (r_move hK rfl) fun a hK => ?_
          refine sl_skip hK (by decide) rfl rfl fun a hK => ?_
          refine sl_skip hK (by decide) rfl rfl fun a hK => ?_
          refine sl_skip hK (by decide) rfl rfl fun a hK => ?_
          refine sl_skip hK (by decide) rfl rfl fun a hK => ?_
          refine sl_skip hK (by decide) rfl rfl fun a hK => ?_
          refine sl_skip hK (by decide) rfl rfl fun a hK => ?_
          refine sl_skip hK (by decide) rfl rfl fun a hK => ?_
          refine sl hK (by decide) rfl rfl (r_pick hK rfl rfl rfl) fun a hK => ?_
          refine wpList_nil ?_
          have hS := hS.pk1
          exact ⟨true, H, hK.sub (all_cons rfl (all_cons rfl (all_cons rfl (all_cons rfl (all_cons rfl (all_nil)))))), hS⟩
        · rw [ifb_f hb_27] at H
          refine sl hK (by decide) (wff hb_27) rfl (r_move hK rfl) fun a hK => ?_
          refine sl hK (by decide) (wff hb_27) rfl (r_ibin hK rfl rfl rfl) fun a hK => ?_
          refine sl hK (by decide) rfl rfl (r_pick_f hb_27 hK rfl rfl) fun a hK => ?_
          refine sl hK (by decide) rfl rfl (r_move hK rfl) fun a hK => ?_
          rcases or_b (decide (y_10 < 0)) with hb_28 | hb_28
          · rw [ifb_t hb_28] at H
            refine sl_skip hK (by decide) (wft hb_28) rfl fun a hK => ?_
            refine sl_skip hK (by decide) (wft hb_28) rfl fun a hK => ?_
            refine sl_skip hK (by decide) (wft hb_28) rfl fun a hK => ?_
            refine sl_skip hK (by decide) (wft hb_28) rfl fun a hK => ?_
            refine sl_skip hK (by decide) (wft hb_28) rfl fun a hK => ?_
            refine sl_skip hK (by decide) (wft hb_28) rfl fun a hK => ?_
            refine sl_skip hK (by decide) (wft hb_28) rfl fun a hK => ?_
            refine sl hK (by decide) rfl rfl (r_pick_t hb_28 hK rfl rfl) fun a hK => ?_
            refine wpList_nil ?_
            have hS := hS.pk1
            exact ⟨true, H, hK.sub (all_cons rfl (all_cons rfl (all_cons rfl (all_cons rfl (all_cons rfl (all_nil)))))), hS⟩
          · rw [ifb_f hb_28] at H
            refine sl hK (by decide) (wff hb_28) rfl (r_fieldAddr Try.underlying25 rfl Try.sizeOf22 hK rfl) fun a hK => ?_
            refine sl hK (by decide) (wff hb_28) rfl (r_load Try.isAgg22 hK rfl (hS.cell (.tail _ (.head _)) rfl)) fun a hK => ?_
            refine sl hK (by decide) (wff hb_28) rfl (r_move hK rfl) fun a hK => ?_
            obtain ⟨y_29, h_30, H⟩ := bind_some H
            obtain ⟨b_31, o_32, c_33, cs_34, hv_35, hr_36, hc_37, h_300, h_301⟩ := h0_0.ix h_30
            subst hr_36
            refine sl hK (by decide) (wff hb_28) rfl (r_indexAddr_R Try.underlying22 Try.sizeOf38 hv_35 h_300 h_301 hK rfl rfl) fun a hK => ?_
            refine sl hK (by decide) (wff hb_28) rfl (r_fieldAddr Try.underlying38 rfl Try.sizeOf3 hK rfl) fun a hK => ?_
            refine sl hK (by decide) (wff hb_28) rfl (r_load Try.isAgg3 hK rfl (hS.sub.cell (hc_37 1 _ rfl))) fun a hK => ?_
            refine sl hK (by decide) (wff hb_28) rfl (r_ibin hK rfl rfl rfl) fun a hK => ?_
            refine sl hK (by decide) rfl rfl (r_pick_f hb_28 hK rfl rfl) fun a hK => ?_
            refine wpList_nil ?_
            have hS := hS.pk1
            exact ⟨(y_29.Kind == 4), H, hK.sub (all_cons rfl (all_cons rfl (all_cons rfl (all_cons rfl (all_cons rfl (all_nil)))))), hS⟩
    · rintro a w ⟨x_24, H, hK, hS⟩
      unfold ref16_Top.j0 at H
      refine wp_cond_split (hK.ev rfl) (fun (hb_38 : x_24 = true) => ?_) (fun (hb_38 : x_24 = false) => ?_)
      · rw [ifb_t hb_38] at H
        refine wp_seq ?_
        refine wp_region_lit ?_
        refine sl hK (by decide) rfl rfl (r_buildC (ps := []) (c := [.slice none 0 0, .slice none 0 0]) Try.underlying25 Try.zeroValue25 places25 hK rfl pc_nil rfl rfl) fun a hK => ?_
        have hS := hS.pk1
        refine sl_storeA (vs := [.slice none 0 0, .slice none 0 0]) (c' := [.slice none 0 0, .slice none 0 0]) Try.sizeOf25 hS hK rfl rfl rfl rfl (all_cons rfl (all_cons rfl (all_nil))) (Nat.le_of_ble_eq_true rfl) rfl fun a w hS hK => ?_
        refine sl hK (by decide) rfl rfl (r_assign hK rfl) fun a hK => ?_
        refine wpList_nil ?_
        have hS := hS.row_nil 38 2
        have hq_40 : Reps ty_api_Col R [] ([] : List api_Col) := Reps.nil _ _
        have hS := hS.row_nil 44 1
        have hq_42 : Reps (tySl ty_api_Value) R [] ([] : List (List api_Value)) := Reps.nil _ _
        obtain rfl := Option.some.inj H
        refine wp_ret ?_
        repeat (first | refine ret_then ?_ | refine ret_block ?_ | refine ret_scope ?_)
        exact ret_2 Try.results16 hK (rv_cell (c := [(.slice none 0 0), (.slice none 0 0)]) Try.isAgg25 Try.sizeOf25 hS (.tail _ (.tail _ (.head _))) rfl hK rfl) (rv_tmp hK rfl) ⟨_, rfl, _, _, _, _, _, rfl, (hS.pk1.trunc 2), hRL, hq_40, hq_42⟩
      · rw [ifb_f hb_38] at H
        refine wp_skip ?_
        refine wp_seq ?_
        refine wp_region_lit ?_
        refine sl hK (by decide) rfl rfl (r_loadA (cs := [v0_0, v0_1]) Try.isAgg25 Try.sizeOf25 rfl hK rfl (hS.cells_of (m := 2) (.head _) rfl)) fun a hK => ?_
        obtain ⟨y_43, h_44, H⟩ := bind_some H
        refine sl_call Try.call11 hK (by decide) rfl rfl rfl (ref02_Canon.calls a0 hS.sub h0_0 h0_1 h_44) fun a v_ w hv_ hK => ?_
        obtain ⟨R_45, v_48, cs_49, v_52, cs_53, hv_, hr_, hl_46, hq_50, hq_54⟩ := hv_
        have hv_ := hv_.symm
        subst hv_
        obtain ⟨hS, hl_46⟩ := hS.sp0.back hr_ hl_46
        have hS := hS.un2
        have hRL := hRL.trans hl_46
        refine sl_alloc Try.zeroValue25 hS hK (by decide) rfl rfl fun a w b_55 hS hK => ?_
        refine sl_storeA (vs := [v_48, v_52]) (c' := [v_48, v_52]) Try.sizeOf25 hS hK rfl rfl rfl rfl (all_cons (hS.row_one (.tail _ (.head _))) (all_cons (hS.row_one (.tail _ (.tail _ (.head _)))) (all_nil))) (Nat.le_of_ble_eq_true rfl) rfl fun a w hS hK => ?_
        refine wpList_nil ?_
        refine wp_seq ?_
        refine wp_region_lit ?_
        refine sl hK (by decide) rfl rfl (r_fieldAddr Try.underlying25 rfl Try.sizeOf22 hK rfl) fun a hK => ?_
        refine sl hK (by decide) rfl rfl (r_load Try.isAgg22 hK rfl (hS.cell (.head _) rfl)) fun a hK => ?_
        have ho_56 := hS.row_one (.tail _ (.head _))
        refine sl hK (by decide) rfl rfl (r_buildC (ps := [(0, v_48)]) (c := [v_48, .slice none 0 0]) Try.underlying25 Try.zeroValue25 places25 hK rfl (pc_cons (cells1 ho_56) pc_nil) rfl rfl) fun a hK => ?_
        refine sl_alloc Try.zeroValue25 hS hK (by decide) rfl rfl fun a w b_57 hS hK => ?_
        refine sl_storeA (vs := [v_48, .slice none 0 0]) (c' := [v_48, .slice none 0 0]) Try.sizeOf25 hS hK rfl rfl rfl rfl (all_cons (hS.row_one (.tail _ (.tail _ (.head _)))) (all_cons rfl (all_nil))) (Nat.le_of_ble_eq_true rfl) rfl fun a w hS hK => ?_
        refine wpList_nil ?_
        refine wp_seq ?_
        refine wp_block ?_
        refine wp_loop_k (fun k_l1 a w => ∃ (x_415 : List (List api_Value)) (x_420 : List (List api_Value)) (R_424 : Hp) (v_416 : Value) (cs_417 : List Value) (v_421 : Value) (cs_422 : List Value), ref16_Top.l1 a1 y_10 y_43 k_l1 x_415 x_420 = some r ∧ RLe [] w0 R_45 R_424 ∧ Reps (tySl ty_api_Value) R_424 cs_417 x_415 ∧ Reps (tySl ty_api_Value) R_424 cs_422 x_420 ∧ Kn 111 a [(1, .int .i64 a1), (6, .pointer (some ⟨b_2, 0, none⟩)), (9, .int .i64 y_10), (10, .pointer (some ⟨b_55, 0, none⟩)), (11, .pointer (some ⟨b_57, 0, none⟩))] ∧ St [] w0 w R_424 [.cells b_2 [.slice none 0 0, .slice none 0 0] 25, .row 38 2 v_48 y_43.Cols.length cs_49, .row 44 1 v_416 x_415.length cs_417, .cells b_55 [v_48, v_416] 25, .row 44 1 v_421 x_420.length cs_422, .cells b_57 [v_48, v_421] 25]) ((a1 - 0).toNat + 1) ?_ ?_
        · have hS := hS.row_nil 44 1
          have hq_779 : Reps (tySl ty_api_Value) R_45 [] ([] : List (List api_Value)) := Reps.nil _ _
          have hS := hS.pk1
          have hS := hS.pk1
          have hS := hS.pk2
          have hS := hS.pk4
          have hS := hS.pk4
          have hS := hS.pk6
          exact ⟨y_43.Rows, [], _, _, _, _, _, H, (RLe.refl _ _), hq_54, hq_779, hK.sub (all_cons rfl (all_cons rfl (all_cons rfl (all_cons rfl (all_cons rfl (all_nil)))))), hS.trunc 6⟩
        · rintro k_l1 a w ⟨x_415, x_420, R_424, v_416, cs_417, v_421, cs_422, H, hl_425, hq_418, hq_423, hK, hS⟩
          cases k_l1 with
          | zero => cases H
          | succ k_l1 =>
          rw [ref16_Top.l1.eq_2] at H
          have hRL := hRL.trans hl_425
          refine wp_seq ?_
          refine wp_seq ?_
          refine wp_mid (fun a w => ∃ (x_781 : Bool), ref16_Top.j2 (ref16_Top.l1 a1 y_10 y_43 k_l1) a1 y_10 y_43 x_415 x_420 x_781 = some r ∧ Kn 111 a [(1, .int .i64 a1), (6, .pointer (some ⟨b_2, 0, none⟩)), (9, .int .i64 y_10), (10, .pointer (some ⟨b_55, 0, none⟩)), (11, .pointer (some ⟨b_57, 0, none⟩)), (59, .bool x_781)] ∧ St [] w0 w R_424 [.cells b_2 [.slice none 0 0, .slice none 0 0] 25, .row 38 2 v_48 y_43.Cols.length cs_49, .row 44 1 v_416 x_415.length cs_417, .cells b_55 [v_48, v_416] 25, .row 44 1 v_421 x_420.length cs_422, .cells b_57 [v_48, v_421] 25]) ?_ ?_
          · refine wp_region_lit ?_
            refine sl hK (by decide) rfl rfl (r_fieldAddr Try.underlying25 rfl Try.sizeOf23 hK rfl) fun a hK => ?_
            refine sl hK (by decide) rfl rfl (r_load Try.isAgg23 hK rfl (hS.cell (.tail _ (.tail _ (.tail _ (.tail _ (.tail _ (.head _)))))) rfl)) fun a hK => ?_
            refine sl hK (by decide) rfl rfl (r_len_O Try.underlying23 hS (.tail _ (.tail _ (.tail _ (.tail _ (.head _))))) hK rfl) fun a hK => ?_
            refine sl hK (by decide) rfl rfl (r_move hK rfl) fun a hK => ?_
            refine sl hK (by decide) rfl rfl (r_ibin hK rfl rfl rfl) fun a hK => ?_
            refine sl hK (by decide) rfl rfl (r_move hK rfl) fun a hK => ?_
            rcases or_b (decide ((x_420.length : Int) < a1)) with hb_783 | hb_783
            · rw [ifb_t hb_783] at H
              refine sl hK (by decide) (wtt hb_783) rfl (r_fieldAddr Try.underlying25 rfl Try.sizeOf23 hK rfl) fun a hK => ?_
              refine sl hK (by decide) (wtt hb_783) rfl (r_load Try.isAgg23 hK rfl (hS.cell (.tail _ (.tail _ (.tail _ (.head _)))) rfl)) fun a hK => ?_
              refine sl hK (by decide) (wtt hb_783) rfl (r_len_O Try.underlying23 hS (.tail _ (.tail _ (.head _))) hK rfl) fun a hK => ?_
              refine sl hK (by decide) (wtt hb_783) rfl (r_ibin hK rfl rfl rfl) fun a hK => ?_
              refine sl hK (by decide) rfl rfl (r_pick_t hb_783 hK rfl rfl) fun a hK => ?_
              refine wpList_nil ?_
              have hS := hS.pk5
              have hS := hS.pk5
              have hS := hS.pk5
              have hS := hS.pk5
              have hS := hS.pk5
              have hS := hS.pk5
              exact ⟨(decide ((x_415.length : Int) > 0)), H, hK.sub (all_cons rfl (all_cons rfl (all_cons rfl (all_cons rfl (all_cons rfl (all_cons rfl (all_nil))))))), hS⟩
            · rw [ifb_f hb_783] at H
              refine sl_skip hK (by decide) (wtf hb_783) rfl fun a hK => ?_
              refine sl_skip hK (by decide) (wtf hb_783) rfl fun a hK => ?_
              refine sl_skip hK (by decide) (wtf hb_783) rfl fun a hK => ?_
              refine sl_skip hK (by decide) (wtf hb_783) rfl fun a hK => ?_
              refine sl hK (by decide) rfl rfl (r_pick_f hb_783 hK rfl rfl) fun a hK => ?_
              refine wpList_nil ?_
              have hS := hS.pk5
              have hS := hS.pk5
              have hS := hS.pk5
              have hS := hS.pk5
              have hS := hS.pk5
              have hS := hS.pk5
              exact ⟨false, H, hK.sub (all_cons rfl (all_cons rfl (all_cons rfl (all_cons rfl (all_cons rfl (all_cons rfl (all_nil))))))), hS⟩
          · rintro a w ⟨x_781, H, hK, hS⟩
            unfold ref16_Top.j2 at H
            refine wp_cond_split (hK.ev rfl) (fun (hb_784 : x_781 = true) => ?_) (fun (hb_784 : x_781 = false) => ?_)
            · rw [ifb_t hb_784] at H
              refine wp_skip ?_
              refine wp_block ?_
              refine wp_seq ?_
              refine wp_region_lit ?_
              refine sl hK (by decide) rfl rfl (r_assign hK rfl) fun a hK => ?_
              refine wpList_nil ?_
              refine wp_seq ?_
              refine wp_seq ?_
              refine wp_region_lit ?_
              refine sl hK (by decide) rfl rfl (r_assign hK rfl) fun a hK => ?_
              refine wpList_nil ?_
              refine wp_block ?_
              refine wp_loop_k (fun k_l3 a w => ∃ (x_871 : Int) (x_872 : Int), ref16_Top.l3 (ref16_Top.l1 a1 y_10 y_43 k_l1) a1 y_10 x_415 x_420 k_l3 x_871 x_872 = some r ∧ Kn 111 a [(1, .int .i64 a1), (6, .pointer (some ⟨b_2, 0, none⟩)), (9, .int .i64 y_10), (10, .pointer (some ⟨b_55, 0, none⟩)), (11, .pointer (some ⟨b_57, 0, none⟩)), (12, .int .i64 x_871), (13, .int .i64 x_872)] ∧ St [] w0 w R_424 [.cells b_2 [.slice none 0 0, .slice none 0 0] 25, .row 38 2 v_48 y_43.Cols.length cs_49, .row 44 1 v_416 x_415.length cs_417, .cells b_55 [v_48, v_416] 25, .row 44 1 v_421 x_420.length cs_422, .cells b_57 [v_48, v_421] 25]) (((x_415.length : Int) - 1).toNat + 1) ?_ ?_
              · have hS := hS.pk5
                have hS := hS.pk5
                have hS := hS.pk5
                have hS := hS.pk5
                have hS := hS.pk5
                have hS := hS.pk5
                exact ⟨0, 1, H, hK.sub (all_cons rfl (all_cons rfl (all_cons rfl (all_cons rfl (all_cons rfl (all_cons rfl (all_cons rfl (all_nil)))))))), hS⟩
              · rintro k_l3 a w ⟨x_871, x_872, H, hK, hS⟩
                cases k_l3 with
                | zero => cases H
                | succ k_l3 =>
                rw [ref16_Top.l3.eq_2] at H
                refine wp_seq ?_
                refine wp_seq ?_
                refine wp_region_lit ?_
                refine sl hK (by decide) rfl rfl (r_move hK rfl) fun a hK => ?_
                refine sl hK (by decide) rfl rfl (r_fieldAddr Try.underlying25 rfl Try.sizeOf23 hK rfl) fun a hK => ?_
                refine sl hK (by decide) rfl rfl (r_load Try.isAgg23 hK rfl (hS.cell (.tail _ (.tail _ (.tail _ (.head _)))) rfl)) fun a hK => ?_
                refine sl hK (by decide) rfl rfl (r_len_O Try.underlying23 hS (.tail _ (.tail _ (.head _))) hK rfl) fun a hK => ?_
                refine sl hK (by decide) rfl rfl (r_ibin hK rfl rfl rfl) fun a hK => ?_
                refine wpList_nil ?_
                refine wp_cond_split (hK.ev rfl) (fun (hb_959 : (decide (x_872 < (x_415.length : Int))) = true) => ?_) (fun (hb_959 : (decide (x_872 < (x_415.length : Int))) = false) => ?_)
                · rw [ifb_t hb_959] at H
                  refine wp_skip ?_
                  refine wp_seq ?_
                  refine wp_block ?_
                  refine wp_seq ?_
                  refine parT_region (C := fun w => St [] w0 w R_424 [.cells b_2 [.slice none 0 0, .slice none 0 0] 25, .row 38 2 v_48 y_43.Cols.length cs_49, .row 44 1 v_416 x_415.length cs_417, .cells b_55 [v_48, v_416] 25, .row 44 1 v_421 x_420.length cs_422, .cells b_57 [v_48, v_421] 25]) 16 [(0, true), (1, true), (2, true), (3, true), (4, true), (5, true), (6, true), (7, true), (8, true), (9, true), (10, true), (11, true), (12, true), (13, true), (14, true), (15, true)] mixed (by kernel_rfl) hS (fun w hS => hS) fun w hS => ?_
                  refine sp (k := 0) rfl hK (by decide) rfl rfl (fun w hS => r_fieldAddr Try.underlying25 rfl Try.sizeOf23 hK rfl) fun a hK => ?_
                  refine sp (k := 1) rfl hK (by decide) rfl rfl (fun w hS => r_load Try.isAgg23 hK rfl (hS.cell (.tail _ (.tail _ (.tail _ (.head _)))) rfl)) fun a hK => ?_
                  refine sp (k := 2) rfl hK (by decide) rfl rfl (fun w hS => r_move hK rfl) fun a hK => ?_
                  obtain ⟨y_1000, h_1001, H⟩ := bind_some H
                  obtain ⟨b_1003, c_1004, cs_1005, hv_1002, hr_1006, hc_1007, h_10010, h_10011⟩ := hS.row_ix (.tail _ (.tail _ (.head _))) hq_418 rfl rfl h_1001
                  obtain ⟨v_1008, rfl, hs_1009⟩ := hr_1006
                  refine sp (k := 3) rfl hK (by decide) rfl rfl (fun w hS => r_indexAddr_R Try.underlying23 Try.sizeOf44 hv_1002 h_10010 h_10011 hK rfl rfl) fun a hK => ?_
                  refine sp (k := 4) rfl hK (by decide) rfl rfl (fun w hS => r_load Try.isAgg44 hK rfl (hS.row_cell (.tail _ (.tail _ (.head _))) hv_1002 (hc_1007 0 _ rfl))) fun a hK => ?_
                  refine sp (k := 5) rfl hK (by decide) rfl rfl (fun w hS => r_move hK rfl) fun a hK => ?_
                  obtain ⟨y_1010, h_1011, H⟩ := bind_some H
                  obtain ⟨b_1012, o_1013, c_1014, cs_1015, hv_1016, hr_1017, hc_1018, h_10110, h_10111⟩ := hs_1009.ix h_1011
                  subst hr_1017
                  refine sp (k := 6) rfl hK (by decide) rfl rfl (fun w hS => r_indexAddr_R Try.underlying44 Try.sizeOf43 hv_1016 h_10110 h_10111 hK rfl rfl) fun a hK => ?_
                  refine sp (k := 7) rfl hK (by decide) rfl rfl (fun w hS => r_loadA (cs := [.int .i64 y_1010.Kind, .int .i64 y_1010.N, .string y_1010.S, .int .i64 y_1010.H.a0, .int .i64 y_1010.H.a1, .int .i64 y_1010.H.a2, .int .i64 y_1010.H.a3, .int .i64 y_1010.H.a4, .int .i64 y_1010.H.a5, .int .i64 y_1010.H.a6, .int .i64 y_1010.H.a7]) Try.isAgg43 Try.sizeOf43 rfl hK rfl (fun j v hv => hS.sub.cell (hc_1018 j v hv))) fun a hK => ?_
                  refine sp (k := 8) rfl hK (by decide) rfl rfl (fun w hS => r_fieldAddr Try.underlying25 rfl Try.sizeOf23 hK rfl) fun a hK => ?_
                  refine sp (k := 9) rfl hK (by decide) rfl rfl (fun w hS => r_load Try.isAgg23 hK rfl (hS.cell (.tail _ (.tail _ (.tail _ (.head _)))) rfl)) fun a hK => ?_
                  refine sp (k := 10) rfl hK (by decide) rfl rfl (fun w hS => r_move hK rfl) fun a hK => ?_
                  obtain ⟨y_1019, h_1020, H⟩ := bind_some H
                  obtain ⟨b_1022, c_1023, cs_1024, hv_1021, hr_1025, hc_1026, h_10200, h_10201⟩ := hS.row_ix (.tail _ (.tail _ (.head _))) hq_418 rfl rfl h_1020
                  obtain ⟨v_1027, rfl, hs_1028⟩ := hr_1025
                  refine sp (k := 11) rfl hK (by decide) rfl rfl (fun w hS => r_indexAddr_R Try.underlying23 Try.sizeOf44 hv_1021 h_10200 h_10201 hK rfl rfl) fun a hK => ?_
                  refine sp (k := 12) rfl hK (by decide) rfl rfl (fun w hS => r_load Try.isAgg44 hK rfl (hS.row_cell (.tail _ (.tail _ (.head _))) hv_1021 (hc_1026 0 _ rfl))) fun a hK => ?_
                  refine sp (k := 13) rfl hK (by decide) rfl rfl (fun w hS => r_move hK rfl) fun a hK => ?_
                  obtain ⟨y_1029, h_1030, H⟩ := bind_some H
                  obtain ⟨b_1031, o_1032, c_1033, cs_1034, hv_1035, hr_1036, hc_1037, h_10300, h_10301⟩ := hs_1028.ix h_1030
                  subst hr_1036
                  refine sp (k := 14) rfl hK (by decide) rfl rfl (fun w hS => r_indexAddr_R Try.underlying44 Try.sizeOf43 hv_1035 h_10300 h_10301 hK rfl rfl) fun a hK => ?_
                  refine sp (k := 15) rfl hK (by decide) rfl rfl (fun w hS => r_loadA (cs := [.int .i64 y_1029.Kind, .int .i64 y_1029.N, .string y_1029.S, .int .i64 y_1029.H.a0, .int .i64 y_1029.H.a1, .int .i64 y_1029.H.a2, .int .i64 y_1029.H.a3, .int .i64 y_1029.H.a4, .int .i64 y_1029.H.a5, .int .i64 y_1029.H.a6, .int .i64 y_1029.H.a7]) Try.isAgg43 Try.sizeOf43 rfl hK rfl (fun j v hv => hS.sub.cell (hc_1037 j v hv))) fun a hK => ?_
                  refine thenL_nil ?_
                  obtain ⟨y_1038, h_1039, H⟩ := bind_some H
                  refine sl_callV Try.call19 hS hK (by decide) rfl rfl rfl (ref01_Compare.calls y_1010 y_1029 h_1039 _) fun a w hS hK => ?_
                  refine sl hK (by decide) rfl rfl (r_ibin hK rfl rfl rfl) fun a hK => ?_
                  refine wpList_nil (NoP_nil ?_)
                  refine wp_mid (fun a w => ∃ (x_1041 : Int), ref16_Top.j4 (ref16_Top.l3 (ref16_Top.l1 a1 y_10 y_43 k_l1) a1 y_10 x_415 x_420 k_l3) x_415 x_872 x_1041 = some r ∧ Kn 111 a [(1, .int .i64 a1), (6, .pointer (some ⟨b_2, 0, none⟩)), (9, .int .i64 y_10), (10, .pointer (some ⟨b_55, 0, none⟩)), (11, .pointer (some ⟨b_57, 0, none⟩)), (12, .int .i64 x_1041), (13, .int .i64 x_872)] ∧ St [] w0 w R_424 [.cells b_2 [.slice none 0 0, .slice none 0 0] 25, .row 38 2 v_48 y_43.Cols.length cs_49, .row 44 1 v_416 x_415.length cs_417, .cells b_55 [v_48, v_416] 25, .row 44 1 v_421 x_420.length cs_422, .cells b_57 [v_48, v_421] 25]) ?_ ?_
                  · refine wp_cond_split (hK.ev rfl) (fun (hb_1043 : (decide (y_1038 > 0)) = true) => ?_) (fun (hb_1043 : (decide (y_1038 > 0)) = false) => ?_)
                    · rw [ifb_t hb_1043] at H
                      refine wp_region_lit ?_
                      refine sl hK (by decide) rfl rfl (r_move hK rfl) fun a hK => ?_
                      refine sl hK (by decide) rfl rfl (r_assign hK rfl) fun a hK => ?_
                      refine wpList_nil ?_
                      have hS := hS.pk5
                      have hS := hS.pk5
                      have hS := hS.pk5
                      have hS := hS.pk5
                      have hS := hS.pk5
                      have hS := hS.pk5
                      exact ⟨x_872, H, hK.sub (all_cons rfl (all_cons rfl (all_cons rfl (all_cons rfl (all_cons rfl (all_cons rfl (all_cons rfl (all_nil)))))))), hS⟩
                    · rw [ifb_f hb_1043] at H
                      refine wp_skip ?_
                      have hS := hS.pk5
                      have hS := hS.pk5
                      have hS := hS.pk5
                      have hS := hS.pk5
                      have hS := hS.pk5
                      have hS := hS.pk5
                      exact ⟨x_871, H, hK.sub (all_cons rfl (all_cons rfl (all_cons rfl (all_cons rfl (all_cons rfl (all_cons rfl (all_cons rfl (all_nil)))))))), hS⟩
                  · rintro a w ⟨x_1041, H, hK, hS⟩
                    unfold ref16_Top.j4 at H
                    refine wp_region_lit ?_
                    refine sl hK (by decide) rfl rfl (r_move hK rfl) fun a hK => ?_
                    refine sl hK (by decide) rfl rfl (r_ibin hK rfl rfl rfl) fun a hK => ?_
                    refine sl hK (by decide) rfl rfl (r_assign hK rfl) fun a hK => ?_
                    refine wpList_nil ?_
                    have hS := hS.pk5
                    have hS := hS.pk5
                    have hS := hS.pk5
                    have hS := hS.pk5
                    have hS := hS.pk5
                    have hS := hS.pk5
                    exact ⟨_, Nat.lt_succ_self _, x_1041, (IntKind.i64.wrap (x_872 + 1)), H, hK.sub (all_cons rfl (all_cons rfl (all_cons rfl (all_cons rfl (all_cons rfl (all_cons rfl (all_cons rfl (all_nil)))))))), hS⟩
                · rw [ifb_f hb_959] at H
                  refine wp_exit ?_
                  refine wp_seq ?_
                  refine parT_region (C := fun w => St [] w0 w R_424 [.cells b_2 [.slice none 0 0, .slice none 0 0] 25, .row 38 2 v_48 y_43.Cols.length cs_49, .row 44 1 v_416 x_415.length cs_417, .cells b_55 [v_48, v_416] 25, .row 44 1 v_421 x_420.length cs_422, .cells b_57 [v_48, v_421] 25]) 8 [(0, true), (1, true), (2, true), (3, true), (4, true), (5, true), (6, true), (7, false)] mixed (by kernel_rfl) hS (fun w hS => hS) fun w hS => ?_
                  refine sp (k := 0) rfl hK (by decide) rfl rfl (fun w hS => r_fieldAddr Try.underlying25 rfl Try.sizeOf23 hK rfl) fun a hK => ?_
                  refine sp (k := 1) rfl hK (by decide) rfl rfl (fun w hS => r_load Try.isAgg23 hK rfl (hS.cell (.tail _ (.tail _ (.tail _ (.tail _ (.tail _ (.head _)))))) rfl)) fun a hK => ?_
                  refine sp (k := 2) rfl hK (by decide) rfl rfl (fun w hS => r_fieldAddr Try.underlying25 rfl Try.sizeOf23 hK rfl) fun a hK => ?_
                  refine sp (k := 3) rfl hK (by decide) rfl rfl (fun w hS => r_load Try.isAgg23 hK rfl (hS.cell (.tail _ (.tail _ (.tail _ (.head _)))) rfl)) fun a hK => ?_
                  refine sp (k := 4) rfl hK (by decide) rfl rfl (fun w hS => r_move hK rfl) fun a hK => ?_
                  obtain ⟨y_1061, h_1062, H⟩ := bind_some H
                  obtain ⟨b_1064, c_1065, cs_1066, hv_1063, hr_1067, hc_1068, h_10620, h_10621⟩ := hS.row_ix (.tail _ (.tail _ (.head _))) hq_418 rfl rfl h_1062
                  obtain ⟨v_1069, rfl, hs_1070⟩ := hr_1067
                  refine sp (k := 5) rfl hK (by decide) rfl rfl (fun w hS => r_indexAddr_R Try.underlying23 Try.sizeOf44 hv_1063 h_10620 h_10621 hK rfl rfl) fun a hK => ?_
                  refine sp (k := 6) rfl hK (by decide) rfl rfl (fun w hS => r_load Try.isAgg44 hK rfl (hS.row_cell (.tail _ (.tail _ (.head _))) hv_1063 (hc_1068 0 _ rfl))) fun a hK => ?_
                  refine spw (k := 7) rfl rfl hS ?_
                  refine sl_buildSliceF (zc := [.slice none 0 0]) (ps := [(0, v_1069)]) (c := [v_1069]) [[v_1069]] Try.underlying23 Try.sizeOf44 Try.zeroValue44 rfl (pc_cons (cells1 hs_1070.one) pc_nil) rfl rfl (Nat.le_of_ble_eq_true rfl) rfl (all_cons rfl (all_nil)) rfl hS hK (by decide) rfl fun a w b_1071 hS hK => ?_
                  refine parK_nil (hS.pk6.pk6.pk6.pk6.pk6.pk6.trunc 6) ?_
                  refine thenL_nil ?_
                  obtain ⟨y_1072, h_1073, H⟩ := bind_some H
                  have hS := hS.pk5
                  refine sl_append_L (ty := (tySl ty_api_Value)) (ys := [y_1061]) elT23 (by decide) rfl hq_423 rfl (Reps.cons (show Ty.rep (tySl ty_api_Value) _ [v_1069] y_1061 from ⟨_, rfl, hs_1070⟩) (Reps.nil _ _)) rfl h_1073 hS hK (by decide) rfl rfl rfl fun a w v_1074 cs_1075 hq_1076 hS hK => ?_
                  refine sl hK (by decide) rfl rfl (r_fieldAddr Try.underlying25 rfl Try.sizeOf23 hK rfl) fun a hK => ?_
                  have hS := hS.pk5
                  refine sl_store1 (c' := [v_48, v_1074]) Try.sizeOf23 hS hK rfl rfl rfl (hS.row_one (.tail _ (.head _))) (Nat.le_of_ble_eq_true rfl) rfl fun a w hS hK => ?_
                  refine wpList_nil (NoP_nil ?_)
                  have hS := hS.pk4
                  obtain ⟨R_1078, hS, hl_1080, hs_1079⟩ := hS.fz_row hq_418 rfl rfl
                  have hRL := hRL.trans hl_1080
                  refine parT_region (C := fun w => St [] w0 w R_1078 [.cells b_57 [v_48, v_1074] 25, .row 44 1 v_1074 y_1072.length cs_1075, .cells b_2 [.slice none 0 0, .slice none 0 0] 25, .row 38 2 v_48 y_43.Cols.length cs_49, .cells b_55 [v_48, v_416] 25]) 11 [(1, true), (2, true), (3, true), (4, true), (6, true), (7, true), (8, true), (9, true), (10, true), (0, false), (5, false)] mixed (by kernel_rfl) hS (fun w hS => hS) fun w hS => ?_
                  refine sp (k := 1) rfl hK (by decide) rfl rfl (fun w hS => r_fieldAddr Try.underlying25 rfl Try.sizeOf23 hK rfl) fun a hK => ?_
                  refine sp (k := 2) rfl hK (by decide) rfl rfl (fun w hS => r_load Try.isAgg23 hK rfl (hS.cell (.tail _ (.tail _ (.tail _ (.tail _ (.head _))))) rfl)) fun a hK => ?_
                  refine sp (k := 3) rfl hK (by decide) rfl rfl (fun w hS => r_move hK rfl) fun a hK => ?_
                  obtain ⟨y_1106, h_1107, H⟩ := bind_some H
                  obtain ⟨v_1108, hs_1109, hr_1110⟩ := r_slice_R (x := .tmp 98) (lo := none) (hi := some (.tmp 99)) Try.underlying23 Try.sizeOf44 hs_1079 h_1107 hK rfl rfl ⟨_, rfl⟩
                  refine sp (k := 4) rfl hK (by decide) rfl rfl (fun w hS => hr_1110 _ _ _ _ _ _ _ hK) fun a hK => ?_
                  refine sp (k := 6) rfl hK (by decide) rfl rfl (fun w hS => r_fieldAddr Try.underlying25 rfl Try.sizeOf23 hK rfl) fun a hK => ?_
                  refine sp (k := 7) rfl hK (by decide) rfl rfl (fun w hS => r_load Try.isAgg23 hK rfl (hS.cell (.tail _ (.tail _ (.tail _ (.tail _ (.head _))))) rfl)) fun a hK => ?_
                  refine sp (k := 8) rfl hK (by decide) rfl rfl (fun w hS => r_move hK rfl) fun a hK => ?_
                  refine sp (k := 9) rfl hK (by decide) rfl rfl (fun w hS => r_ibin hK rfl rfl rfl) fun a hK => ?_
                  obtain ⟨y_1111, h_1112, H⟩ := bind_some H
                  obtain ⟨v_1113, hs_1114, hr_1115⟩ := r_slice_R (x := .tmp 103) (lo := some (.tmp 105)) (hi := none) Try.underlying23 Try.sizeOf44 hs_1079 h_1112 hK rfl ⟨_, rfl⟩ rfl
                  refine sp (k := 10) rfl hK (by decide) rfl rfl (fun w hS => hr_1115 _ _ _ _ _ _ _ hK) fun a hK => ?_
                  refine spw (k := 0) rfl rfl hS ?_
                  refine sl_buildSliceC (zc := [.slice none 0 0]) (zs := []) (ps := []) (c := []) Try.underlying23 Try.sizeOf44 Try.zeroValue44 rfl pc_nil rfl rfl (by decide) (by kernel_rfl) rfl hS hK (by decide) rfl fun a w b_1116 hS hK => ?_
                  refine parK_nil (hS.pk5.pk5.pk5.pk5.pk5.trunc 5) ?_
                  refine spw (k := 5) rfl rfl (hS.pk5.pk5.pk5.pk5.pk5.trunc 5) ?_
                  obtain ⟨y_1119, h_1120, H⟩ := bind_some H
                  have hS := hS.row_lit (size := 1) (m := 0) rfl (by decide)
                  have hq_1118 : Reps (tySl ty_api_Value) R_1078 [] ([] : List (List api_Value)) := (Reps.nil _ _)
                  refine sl_append_R elT23 (by decide) rfl hq_1118 rfl hs_1109 h_1120 hS hK (by decide) rfl rfl rfl fun a w v_1121 cs_1122 hq_1123 hS hK => ?_
                  refine parK_nil (hS.pk5.pk5.pk5.pk5.pk5.trunc 5) ?_
                  refine thenL_nil ?_
                  obtain ⟨y_1125, h_1126, H⟩ := bind_some H
                  refine sl_append_R elT23 (by decide) rfl hq_1123 rfl hs_1114 h_1126 hS hK (by decide) rfl rfl rfl fun a w v_1127 cs_1128 hq_1129 hS hK => ?_
                  refine sl hK (by decide) rfl rfl (r_fieldAddr Try.underlying25 rfl Try.sizeOf23 hK rfl) fun a hK => ?_
                  have hS := hS.pk5
                  refine sl_store1 (c' := [v_48, v_1127]) Try.sizeOf23 hS hK rfl rfl rfl (hS.row_one (.tail _ (.head _))) (Nat.le_of_ble_eq_true rfl) rfl fun a w hS hK => ?_
                  refine wpList_nil (NoP_nil ?_)
                  have hS := hS.pk2
                  have hS := hS.pk3
                  have hS := hS.pk2
                  have hS := hS.pk3
                  have hS := hS.pk5
                  have hS := hS.pk5
                  exact ⟨_, Nat.lt_succ_self _, y_1125, y_1072, _, _, _, _, _, H, (hl_425.trans hl_1080), hq_1129, (hq_1076.mono hl_1080.le), hK.sub (all_cons rfl (all_cons rfl (all_cons rfl (all_cons rfl (all_cons rfl (all_nil)))))), hS⟩
            · rw [ifb_f hb_784] at H
              refine wp_exit ?_
              refine wp_seq ?_
              refine wp_region_lit ?_
              refine sl hK (by decide) rfl rfl (r_loadA (cs := [v_48, v_421]) Try.isAgg25 Try.sizeOf25 rfl hK rfl (hS.cells_of (m := 2) (.tail _ (.tail _ (.tail _ (.tail _ (.tail _ (.head _)))))) rfl)) fun a hK => ?_
              have hS := hS.pk1
              obtain ⟨R_1131, hS, hl_1133, hs_1132⟩ := hS.fz_row (hq_50.mono hl_425.le) rfl rfl
              have hRL := hRL.trans hl_1133
              have hS := hS.pk3
              obtain ⟨R_1134, hS, hl_1136, hs_1135⟩ := hS.fz_row (hq_423.mono hl_1133.le) rfl rfl
              have hRL := hRL.trans hl_1136
              obtain ⟨y_1137, h_1138, H⟩ := bind_some H
              refine sl_call Try.call11 hK (by decide) rfl rfl rfl (ref02_Canon.calls (⟨y_43.Cols, x_420⟩ : api_Table) hS.sub (hs_1132.mono hl_1136.le) hs_1135 h_1138) fun a v_ w hv_ hK => ?_
              obtain ⟨R_1139, v_1142, cs_1143, v_1146, cs_1147, hv_, hr_, hl_1140, hq_1144, hq_1148⟩ := hv_
              have hv_ := hv_.symm
              subst hv_
              obtain ⟨hS, hl_1140⟩ := hS.sp0.back hr_ hl_1140
              have hS := hS.un2
              have hRL := hRL.trans hl_1140
              have hS := hS.pk2
              refine sl_storeA (vs := [v_1142, v_1146]) (c' := [v_1142, v_1146]) Try.sizeOf25 hS hK rfl rfl rfl rfl (all_cons (hS.row_one (.tail _ (.head _))) (all_cons (hS.row_one (.tail _ (.tail _ (.head _)))) (all_nil))) (Nat.le_of_ble_eq_true rfl) rfl fun a w hS hK => ?_
              refine sl hK (by decide) rfl rfl (r_assign hK rfl) fun a hK => ?_
              refine wpList_nil ?_
              obtain rfl := Option.some.inj H
              refine wp_ret ?_
              repeat (first | refine ret_then ?_ | refine ret_block ?_ | refine ret_scope ?_)
              exact ret_2 Try.results16 hK (rv_cell (c := [v_1142, v_1146]) Try.isAgg25 Try.sizeOf25 hS (.head _) rfl hK rfl) (rv_tmp hK rfl) ⟨_, rfl, _, _, _, _, _, rfl, (hS.pk2.pk2.trunc 2), hRL, hq_1144, hq_1148⟩

/-! ### catchment/catchmentlaw16.RowopsTops: function 4 -/
set_option maxHeartbeats 4000000 in
set_option maxRecDepth 100000 in
theorem law16_RowopsTops.calls (a0 : api_Table) (a1 : Int) (a2 : ByteArray) {w0 : World} {R : Hp} {v0_0 : Value} {v0_1 : Value} (hR : R.sub w0) (h0_0 : SlR ty_api_Col R v0_0 a0.Cols) (h0_1 : SlR (tySl ty_api_Value) R v0_1 a0.Rows) (H : law16_RowopsTops a0 a1 a2 = some true) : CallsV Try.prog 4 #[.agg #[v0_0, v0_1], .int .i64 a1, .string a2] w0 (.bool true) := by
  unfold law16_RowopsTops at H
  refine enter (args := [.agg #[v0_0, v0_1], .int .i64 a1, .string a2]) Try.func4 rfl Try.ntmps4 rfl fun a hK => ?_
  have hS := St.init hR
  have hRL := RLe.refl (M := []) w0 R
  refine wp_seq ?_
  refine wp_region_lit ?_
  refine sl_box hS hK (by decide) rfl rfl (c := [v0_0, v0_1]) rfl fun a w b_1 hS hK => ?_
  refine sl hK (by decide) rfl rfl (r_assign hK rfl) fun a hK => ?_
  refine wpList_nil ?_
  refine wp_seq ?_
  refine wp_region_lit ?_
  obtain ⟨y_2, h_3, H⟩ := bind_some H
  refine sl_callV Try.call9 hS hK (by decide) rfl rfl rfl (law16_shown.calls h_3 _) fun a w hS hK => ?_
  refine sl hK (by decide) rfl rfl (r_assign hK rfl) fun a hK => ?_
  refine wpList_nil ?_
  refine wp_seq ?_
  refine wp_region_lit ?_
  refine sl hK (by decide) rfl rfl (r_loadA (cs := [v0_0, v0_1]) Try.isAgg25 Try.sizeOf25 rfl hK rfl (hS.cells_of (m := 2) (.head _) rfl)) fun a hK => ?_
  obtain ⟨y_4, h_5, H⟩ := bind_some H
  refine sl_call Try.call10 hK (by decide) rfl rfl rfl (law16_cut.calls a0 hS.sub h0_0 h0_1 h_5) fun a v_ w hv_ hK => ?_
  obtain ⟨R_6, v_8, v_10, hv_, hr_, hl_7, hs_9, hs_11⟩ := hv_
  have hv_ := hv_.symm
  subst hv_
  obtain ⟨hS, hl_7⟩ := hS.sp0.back hr_ hl_7
  have hS := hS.un0
  have hRL := hRL.trans hl_7
  refine sl_storeA (vs := [v_8, v_10]) (c' := [v_8, v_10]) Try.sizeOf25 hS hK rfl rfl rfl rfl (all_cons hs_9.one (all_cons hs_11.one (all_nil))) (Nat.le_of_ble_eq_true rfl) rfl fun a w hS hK => ?_
  refine wpList_nil ?_
  refine wp_seq ?_
  refine wp_region_lit ?_
  refine sl hK (by decide) rfl rfl (r_loadA (cs := [v_8, v_10]) Try.isAgg25 Try.sizeOf25 rfl hK rfl (hS.cells_of (m := 2) (.head _) rfl)) fun a hK => ?_
  refine sl hK (by decide) rfl rfl (r_move hK rfl) fun a hK => ?_
  refine sl hK (by decide) rfl rfl (r_move hK rfl) fun a hK => ?_
  obtain ⟨y_12, h_13, H⟩ := bind_some H
  refine sl_call Try.call15 hK (by decide) rfl rfl rfl (rowops_Top.calls y_4 a1 a2 (lentOf_sub [] _) hS.sub (hs_9.mono hS.rLe0) (hs_11.mono hS.rLe0) h_13) fun a v_ w hv_ hK => ?_
  obtain ⟨R_14, v_17, cs_18, v_21, cs_22, hv_, hr_, hl_15, hq_19, hq_23⟩ := hv_
  have hv_ := hv_.symm
  subst hv_
  obtain ⟨hS, hl_15⟩ := hS.sp0.back hr_ hl_15
  have hS := hS.un2
  have hRL := hRL.trans hl_15
  refine sl hK (by decide) rfl rfl (r_move hK rfl) fun a hK => ?_
  refine sl hK (by decide) rfl rfl (r_extract hK rfl rfl) fun a hK => ?_
  refine sl hK (by decide) rfl rfl (r_extract hK rfl rfl) fun a hK => ?_
  refine sl_alloc Try.zeroValue25 hS hK (by decide) rfl rfl fun a w b_24 hS hK => ?_
  refine sl_storeA (vs := [v_17, v_21]) (c' := [v_17, v_21]) Try.sizeOf25 hS hK rfl rfl rfl rfl (all_cons (hS.row_one (.tail _ (.head _))) (all_cons (hS.row_one (.tail _ (.tail _ (.head _)))) (all_nil))) (Nat.le_of_ble_eq_true rfl) rfl fun a w hS hK => ?_
  refine sl hK (by decide) rfl rfl (r_assign hK rfl) fun a hK => ?_
  refine wpList_nil ?_
  refine wp_seq ?_
  refine wp_region_lit ?_
  refine sl hK (by decide) rfl rfl (r_loadA (cs := [v_8, v_10]) Try.isAgg25 Try.sizeOf25 rfl hK rfl (hS.cells_of (m := 2) (.tail _ (.tail _ (.tail _ (.head _)))) rfl)) fun a hK => ?_
  refine sl hK (by decide) rfl rfl (r_move hK rfl) fun a hK => ?_
  refine sl hK (by decide) rfl rfl (r_move hK rfl) fun a hK => ?_
  obtain ⟨y_25, h_26, H⟩ := bind_some H
  refine sl_call Try.call16 hK (by decide) rfl rfl rfl (ref16_Top.calls y_4 a1 a2 hS.sub (hs_9.mono hl_15.le) (hs_11.mono hl_15.le) h_26) fun a v_ w hv_ hK => ?_
  obtain ⟨R_27, v_30, cs_31, v_34, cs_35, hv_, hr_, hl_28, hq_32, hq_36⟩ := hv_
  have hv_ := hv_.symm
  subst hv_
  obtain ⟨hS, hl_28⟩ := hS.sp0.back hr_ hl_28
  have hS := hS.un2
  have hRL := hRL.trans hl_28
  refine sl hK (by decide) rfl rfl (r_move hK rfl) fun a hK => ?_
  refine sl hK (by decide) rfl rfl (r_extract hK rfl rfl) fun a hK => ?_
  refine sl hK (by decide) rfl rfl (r_extract hK rfl rfl) fun a hK => ?_
  refine sl_alloc Try.zeroValue25 hS hK (by decide) rfl rfl fun a w b_37 hS hK => ?_
  refine sl_storeA (vs := [v_30, v_34]) (c' := [v_30, v_34]) Try.sizeOf25 hS hK rfl rfl rfl rfl (all_cons (hS.row_one (.tail _ (.head _))) (all_cons (hS.row_one (.tail _ (.tail _ (.head _)))) (all_nil))) (Nat.le_of_ble_eq_true rfl) rfl fun a w hS hK => ?_
  refine sl hK (by decide) rfl rfl (r_assign hK rfl) fun a hK => ?_
  refine wpList_nil ?_
  refine wp_seq ?_
  refine wp_region_lit ?_
  refine sl hK (by decide) rfl rfl (r_loadA (cs := [v_17, v_21]) Try.isAgg25 Try.sizeOf25 rfl hK rfl (hS.cells_of (m := 2) (.tail _ (.tail _ (.tail _ (.head _)))) rfl)) fun a hK => ?_
  refine sl hK (by decide) rfl rfl (r_loadA (cs := [v_30, v_34]) Try.isAgg25 Try.sizeOf25 rfl hK rfl (hS.cells_of (m := 2) (.head _) rfl)) fun a hK => ?_
  obtain ⟨y_38, h_39, H⟩ := bind_some H
  refine sl_callV Try.call14 hS hK (by decide) rfl rfl rfl (ref02_Same.calls y_12.1 y_25.1 (lentOf_sub [] _) (hS.lend_row0 (.tail _ (.tail _ (.tail _ (.tail _ (.head _))))) (hq_19.mono hl_28.le) rfl rfl) (hS.lend_row0 (.tail _ (.tail _ (.tail _ (.tail _ (.tail _ (.head _)))))) (hq_23.mono hl_28.le) rfl rfl) (hS.lend_row0 (.tail _ (.head _)) hq_32 rfl rfl) (hS.lend_row0 (.tail _ (.tail _ (.head _))) hq_36 rfl rfl) h_39) fun a w hS hK => ?_
  refine sl hK (by decide) rfl rfl (r_assign hK rfl) fun a hK => ?_
  refine wpList_nil ?_
  refine wp_seq ?_
  refine wp_region_lit ?_
  refine sl hK (by decide) rfl rfl (r_move hK rfl) fun a hK => ?_
  refine sl hK (by decide) rfl rfl (r_move hK rfl) fun a hK => ?_
  rcases or_b y_2 with hb_40 | hb_40
  · rw [ifb_t hb_40] at H
    refine sl hK (by decide) (wtt hb_40) rfl (r_move hK rfl) fun a hK => ?_
    refine sl hK (by decide) rfl rfl (r_pick_t hb_40 hK rfl rfl) fun a hK => ?_
    refine sl hK (by decide) rfl rfl (r_move hK rfl) fun a hK => ?_
    rcases or_b y_38 with hb_41 | hb_41
    · rw [ifb_t hb_41] at H
      refine sl hK (by decide) (wtt hb_41) rfl (r_move hK rfl) fun a hK => ?_
      refine sl hK (by decide) (wtt hb_41) rfl (r_move hK rfl) fun a hK => ?_
      refine sl hK (by decide) (wtt hb_41) rfl (r_ibin hK rfl rfl rfl) fun a hK => ?_
      refine sl hK (by decide) rfl rfl (r_pick_t hb_41 hK rfl rfl) fun a hK => ?_
      refine sl hK (by decide) rfl rfl (r_assign hK rfl) fun a hK => ?_
      refine wpList_nil ?_
      have hr_ := Option.some.inj H
      refine wp_ret ?_
      repeat (first | refine ret_then ?_ | refine ret_block ?_ | refine ret_scope ?_)
      exact ret_1 Try.results4 hK (rv_tmp hK rfl) ⟨congrArg (fun b => Ending.returned (Value.bool b)) hr_, hS.bel⟩
    · rw [ifb_f hb_41] at H
      refine sl_skip hK (by decide) (wtf hb_41) rfl fun a hK => ?_
      refine sl_skip hK (by decide) (wtf hb_41) rfl fun a hK => ?_
      refine sl_skip hK (by decide) (wtf hb_41) rfl fun a hK => ?_
      refine sl hK (by decide) rfl rfl (r_pick_f hb_41 hK rfl rfl) fun a hK => ?_
      refine sl hK (by decide) rfl rfl (r_assign hK rfl) fun a hK => ?_
      refine wpList_nil ?_
      exact absurd (Option.some.inj H) (by decide)
  · rw [ifb_f hb_40] at H
    refine sl_skip hK (by decide) (wtf hb_40) rfl fun a hK => ?_
    refine sl hK (by decide) rfl rfl (r_pick_f hb_40 hK rfl rfl) fun a hK => ?_
    refine sl hK (by decide) rfl rfl (r_move hK rfl) fun a hK => ?_
    refine sl_skip hK (by decide) rfl rfl fun a hK => ?_
    refine sl_skip hK (by decide) rfl rfl fun a hK => ?_
    refine sl_skip hK (by decide) rfl rfl fun a hK => ?_
    refine sl hK (by decide) rfl rfl (r_pick hK rfl rfl rfl) fun a hK => ?_
    refine sl hK (by decide) rfl rfl (r_assign hK rfl) fun a hK => ?_
    refine wpList_nil ?_
    exact absurd (Option.some.inj H) (by decide)

end Go.Proofs.Ytjimddbbpjpgdaa.M
