/- Each Go function of the laws answers as its plain Lean function tells, wherever that tells something. Printed by wip/eng/gen.py. -/
import Derived.Test.YtjimddbbpjpgdaaWalk3
namespace Go.Proofs.Ytjimddbbpjpgdaa.M
open Go Go.Eng Go.Proofs Go.RowKit
set_option linter.unusedVariables false
set_option linter.unusedSimpArgs false

/-! ### catchment/catchmentref16.down: function 29 -/
set_option maxHeartbeats 4000000 in
set_option maxRecDepth 100000 in
theorem ref16_down.calls (a0 : Int) (a1 : Int) {r : Int} (H : ref16_down a0 a1 = some r) (w0 : World) : CallsV Try.prog 29 #[.int .i64 a0, .int .i64 a1] w0 (.int .i64 r) := by
  unfold ref16_down at H
  refine enter (args := [.int .i64 a0, .int .i64 a1]) Try.func29 rfl Try.ntmps29 rfl fun a hK => ?_
  have hS := St.init (R := fun _ => none) (w := w0) (fun _ _ h => by cases h)
  have hRL := RLe.refl (M := []) w0 (fun _ => none)
  refine wp_seq ?_
  refine wp_region_lit ?_
  refine sl hK (by decide) rfl rfl (r_assign hK rfl) fun a hK => ?_
  refine wpList_nil ?_
  refine wp_seq ?_
  refine wp_region_lit ?_
  refine sl hK (by decide) rfl rfl (r_move hK rfl) fun a hK => ?_
  refine sl hK (by decide) rfl rfl (r_move hK rfl) fun a hK => ?_
  rcases or_b (a1 != 0) with hn_1 | hn_1
  · rw [ifb_t hn_1] at H
    refine sl hK (by decide) rfl rfl (r_rem hK rfl rfl (ne_of_bne hn_1)) fun a hK => ?_
    refine sl hK (by decide) rfl rfl (r_assign hK rfl) fun a hK => ?_
    refine wpList_nil ?_
    refine wp_seq ?_
    refine wp_seq ?_
    refine wp_region_lit ?_
    refine sl hK (by decide) rfl rfl (r_move hK rfl) fun a hK => ?_
    refine sl hK (by decide) rfl rfl (r_ibin hK rfl rfl rfl) fun a hK => ?_
    refine wpList_nil ?_
    refine wp_mid (fun a w => ∃ (x_3 : Int), ref16_down.j0 a0 x_3 = some r ∧ Kn 22 a [(0, .int .i64 a0), (5, .int .i64 x_3)] ∧ St [] w0 w (fun _ => none) []) ?_ ?_
    · refine wp_cond_split (hK.ev rfl) (fun (hb_5 : (decide ((a0.tmod a1) < 0)) = true) => ?_) (fun (hb_5 : (decide ((a0.tmod a1) < 0)) = false) => ?_)
      · rw [ifb_t hb_5] at H
        refine wp_region_lit ?_
        refine sl hK (by decide) rfl rfl (r_move hK rfl) fun a hK => ?_
        refine sl hK (by decide) rfl rfl (r_move hK rfl) fun a hK => ?_
        refine sl hK (by decide) rfl rfl (r_ibin hK rfl rfl rfl) fun a hK => ?_
        refine sl hK (by decide) rfl rfl (r_assign hK rfl) fun a hK => ?_
        refine wpList_nil ?_
        exact ⟨(IntKind.i64.wrap ((a0.tmod a1) + a1)), H, hK.sub (all_cons rfl (all_cons rfl (all_nil))), hS⟩
      · rw [ifb_f hb_5] at H
        refine wp_skip ?_
        exact ⟨(a0.tmod a1), H, hK.sub (all_cons rfl (all_cons rfl (all_nil))), hS⟩
    · rintro a w ⟨x_3, H, hK, hS⟩
      unfold ref16_down.j0 at H
      refine wp_seq ?_
      refine wp_seq ?_
      refine wp_region_lit ?_
      refine sl hK (by decide) rfl rfl (r_move hK rfl) fun a hK => ?_
      refine sl hK (by decide) rfl rfl (r_move hK rfl) fun a hK => ?_
      refine sl hK (by decide) rfl rfl (r_ibin hK rfl rfl rfl) fun a hK => ?_
      refine sl hK (by decide) rfl rfl (r_ibin hK rfl rfl rfl) fun a hK => ?_
      refine wpList_nil ?_
      refine wp_cond_split (hK.ev rfl) (fun (hb_6 : (decide (a0 < (IntKind.i64.wrap ((-9223372036854775808) + x_3)))) = true) => ?_) (fun (hb_6 : (decide (a0 < (IntKind.i64.wrap ((-9223372036854775808) + x_3)))) = false) => ?_)
      · rw [ifb_t hb_6] at H
        refine wp_seq ?_
        refine wp_region_lit ?_
        refine sl hK (by decide) rfl rfl (r_move hK rfl) fun a hK => ?_
        refine sl hK (by decide) rfl rfl (r_assign hK rfl) fun a hK => ?_
        refine wpList_nil ?_
        obtain rfl := Option.some.inj H
        refine wp_ret ?_
        repeat (first | refine ret_then ?_ | refine ret_block ?_ | refine ret_scope ?_)
        exact ret_1 Try.results29 hK (rv_tmp hK rfl) ⟨rfl, hS.bel⟩
      · rw [ifb_f hb_6] at H
        refine wp_skip ?_
        refine wp_seq ?_
        refine wp_region_lit ?_
        refine sl hK (by decide) rfl rfl (r_move hK rfl) fun a hK => ?_
        refine sl hK (by decide) rfl rfl (r_move hK rfl) fun a hK => ?_
        refine sl hK (by decide) rfl rfl (r_ibin hK rfl rfl rfl) fun a hK => ?_
        refine sl hK (by decide) rfl rfl (r_assign hK rfl) fun a hK => ?_
        refine wpList_nil ?_
        obtain rfl := Option.some.inj H
        refine wp_ret ?_
        repeat (first | refine ret_then ?_ | refine ret_block ?_ | refine ret_scope ?_)
        exact ret_1 Try.results29 hK (rv_tmp hK rfl) ⟨rfl, hS.bel⟩
  · rw [ifb_f hn_1] at H
    cases H

/-! ### catchment/catchmentref16.Align: function 13 -/
set_option maxHeartbeats 4000000 in
set_option maxRecDepth 100000 in
theorem ref16_Align.calls (a0 : api_Table) (a1 : Int) {w0 : World} {R : Hp} {v0_0 : Value} {v0_1 : Value} (hR : R.sub w0) (h0_0 : SlR ty_api_Col R v0_0 a0.Cols) (h0_1 : SlR (tySl ty_api_Value) R v0_1 a0.Rows) {r : api_Table × Int} (H : ref16_Align a0 a1 = some r) : Calls Try.prog 13 #[.agg #[v0_0, v0_1], .int .i64 a1] w0 (Rets fun v w' => ∃ (R' : Hp) (u0 : Value) (cu0 : List Value) (u1 : Value) (cu1 : List Value), v = .tuple #[.agg #[u0, u1], .int .i64 r.2] ∧ St [] w0 w' R' [.row 38 2 u0 r.1.Cols.length cu0, .row 44 1 u1 r.1.Rows.length cu1] ∧ RLe [] w0 R R' ∧ Reps ty_api_Col R' cu0 r.1.Cols ∧ Reps (tySl ty_api_Value) R' cu1 r.1.Rows) := by
  unfold ref16_Align at H
  refine enter (args := [.agg #[v0_0, v0_1], .int .i64 a1]) Try.func13 rfl Try.ntmps13 rfl fun a hK => ?_
  have hS := St.init hR
  have hRL := RLe.refl (M := []) w0 R
  refine wp_seq ?_
  refine wp_region_lit ?_
  refine sl_box hS hK (by decide) rfl rfl (c := [v0_0, v0_1]) rfl fun a w b_1 hS hK => ?_
  refine sl_alloc Try.zeroValue25 hS hK (by decide) rfl rfl fun a w b_2 hS hK => ?_
  refine sl hK (by decide) rfl rfl (r_assign hK rfl) fun a hK => ?_
  refine wpList_nil ?_
  refine wp_seq ?_
  refine wp_region_lit ?_
  refine sl hK (by decide) rfl rfl (r_loadA (cs := [v0_0, v0_1]) Try.isAgg25 Try.sizeOf25 rfl hK rfl (hS.cells_of (m := 2) (.tail _ (.head _)) rfl)) fun a hK => ?_
  obtain ⟨y_3, h_4, H⟩ := bind_some H
  refine sl_callV Try.call17 hS hK (by decide) rfl rfl rfl (ref02_Check.calls a0 (lentOf_sub [] _) (h0_0.mono hS.rLe0) (h0_1.mono hS.rLe0) h_4) fun a w hS hK => ?_
  refine sl hK (by decide) rfl rfl (r_assign hK rfl) fun a hK => ?_
  refine wpList_nil ?_
  refine wp_seq ?_
  refine wp_seq ?_
  refine wp_region_lit ?_
  refine sl hK (by decide) rfl rfl (r_move hK rfl) fun a hK => ?_
  refine sl hK (by decide) rfl rfl (r_ibin hK rfl rfl rfl) fun a hK => ?_
  refine wpList_nil ?_
  refine wp_cond_split (hK.ev rfl) (fun (hb_5 : (y_3 != 0) = true) => ?_) (fun (hb_5 : (y_3 != 0) = false) => ?_)
  · rw [ifb_t hb_5] at H
    refine wp_seq ?_
    refine wp_region_lit ?_
    refine sl hK (by decide) rfl rfl (r_buildC (ps := []) (c := [.slice none 0 0, .slice none 0 0]) Try.underlying25 Try.zeroValue25 places25 hK rfl pc_nil rfl rfl) fun a hK => ?_
    refine sl hK (by decide) rfl rfl (r_move hK rfl) fun a hK => ?_
    refine sl_storeA (vs := [.slice none 0 0, .slice none 0 0]) (c' := [.slice none 0 0, .slice none 0 0]) Try.sizeOf25 hS hK rfl rfl rfl rfl (all_cons rfl (all_cons rfl (all_nil))) (Nat.le_of_ble_eq_true rfl) rfl fun a w hS hK => ?_
    refine sl hK (by decide) rfl rfl (r_assign hK rfl) fun a hK => ?_
    refine wpList_nil ?_
    have hS := hS.row_nil 38 2
    have hq_7 : Reps ty_api_Col R [] ([] : List api_Col) := Reps.nil _ _
    have hS := hS.row_nil 44 1
    have hq_9 : Reps (tySl ty_api_Value) R [] ([] : List (List api_Value)) := Reps.nil _ _
    obtain rfl := Option.some.inj H
    refine wp_ret ?_
    repeat (first | refine ret_then ?_ | refine ret_block ?_ | refine ret_scope ?_)
    exact ret_2 Try.results13 hK (rv_cell (c := [(.slice none 0 0), (.slice none 0 0)]) Try.isAgg25 Try.sizeOf25 hS (.tail _ (.tail _ (.head _))) rfl hK rfl) (rv_tmp hK rfl) ⟨_, rfl, _, _, _, _, _, rfl, (hS.pk1.trunc 2), hRL, hq_7, hq_9⟩
  · rw [ifb_f hb_5] at H
    refine wp_skip ?_
    refine wp_seq ?_
    refine wp_region_lit ?_
    refine sl hK (by decide) rfl rfl (r_fieldAddr Try.underlying25 rfl Try.sizeOf22 hK rfl) fun a hK => ?_
    refine sl hK (by decide) rfl rfl (r_load Try.isAgg22 hK rfl (hS.cell (.tail _ (.head _)) rfl)) fun a hK => ?_
    obtain ⟨y_10, h_11, H⟩ := bind_some H
    refine sl_callV Try.call28 hS hK (by decide) rfl rfl rfl (ref02_Find.calls a0.Cols (⟨#[116, 105, 109, 101]⟩ : ByteArray) (lentOf_sub [] _) (h0_0.mono hS.rLe0) h_11) fun a w hS hK => ?_
    refine sl hK (by decide) rfl rfl (r_assign hK rfl) fun a hK => ?_
    refine wpList_nil ?_
    refine wp_seq ?_
    refine wp_seq ?_
    refine wp_mid (fun a w => ∃ (x_23 : Bool), ref16_Align.j0 a0 a1 y_10 x_23 = some r ∧ Kn 72 a [(1, .int .i64 a1), (2, .pointer (some ⟨b_1, 0, none⟩)), (4, .pointer (some ⟨b_2, 0, none⟩)), (7, .int .i64 y_10), (34, .bool x_23)] ∧ St [] w0 w R [.cells b_1 [v0_0, v0_1] 25, .cells b_2 [.slice none 0 0, .slice none 0 0] 25]) ?_ ?_
    · refine wp_region_lit ?_
      refine sl hK (by decide) rfl rfl (r_move hK rfl) fun a hK => ?_
      refine sl hK (by decide) rfl rfl (r_ibin hK rfl rfl rfl) fun a hK => ?_
      refine sl hK (by decide) rfl rfl (r_move hK rfl) fun a hK => ?_
      rcases or_b (decide (a1 < 1)) with hb_25 | hb_25
      · rw [ifb_t hb_25] at H
        refine sl_skip hK (by decide) (wft hb_25) rfl fun a hK => ?_
        refine sl_skip hK (by decide) (wft hb_25) rfl fun a hK => ?_
        refine sl hK (by decide) rfl rfl (r_pick_t hb_25 hK rfl rfl) fun a hK => ?_
        refine sl hK (by decide) rfl rfl (r_move hK rfl) fun a hK => ?_
        refine sl_skip hK (by decide) rfl rfl fun a hK => ?_
        refine sl_skip hK (by decide) rfl rfl fun a hK => ?_
        refine sl_skip hK (by decide) rfl rfl fun a hK => ?_
        refine sl_skip hK (by decide) rfl rfl fun a hK => ?_
        refine sl_skip hK (by decide) rfl rfl fun a hK => ?_
        refine sl_skip hK (by decide) rfl rfl fun a hK => ?_
        refine sl_skip hK (by decide) rfl rfl fun a hK => ?_
        refine sl hK (by decide) rfl rfl (r_pick hK rfl rfl rfl) fun a hK => ?_
        refine wpList_nil ?_
        have hS := hS.pk1
        exact ⟨true, H, hK.sub (all_cons rfl (all_cons rfl (all_cons rfl (all_cons rfl (all_cons rfl (all_nil)))))), hS⟩
      · rw [ifb_f hb_25] at H
        refine sl hK (by decide) (wff hb_25) rfl (r_move hK rfl) fun a hK => ?_
        refine sl hK (by decide) (wff hb_25) rfl (r_ibin hK rfl rfl rfl) fun a hK => ?_
        refine sl hK (by decide) rfl rfl (r_pick_f hb_25 hK rfl rfl) fun a hK => ?_
        refine sl hK (by decide) rfl rfl (r_move hK rfl) fun a hK => ?_
        rcases or_b (decide (y_10 < 0)) with hb_26 | hb_26
        · rw [ifb_t hb_26] at H
          refine sl_skip hK (by decide) (wft hb_26) rfl fun a hK => ?_
          refine sl_skip hK (by decide) (wft hb_26) rfl fun a hK => ?_
          refine sl_skip hK (by decide) (wft hb_26) rfl fun a hK => ?_
          refine sl_skip hK (by decide) (wft hb_26) rfl fun a hK => ?_
          refine sl_skip hK (by decide) (wft hb_26) rfl fun a hK => ?_
          refine sl_skip hK (by decide) (wft hb_26) rfl fun a hK => ?_
          refine sl_skip hK (by decide) (wft hb_26) rfl fun a hK => ?_
          refine sl hK (by decide) rfl rfl (r_pick_t hb_26 hK rfl rfl) fun a hK => ?_
          refine wpList_nil ?_
          have hS := hS.pk1
          exact ⟨true, H, hK.sub (all_cons rfl (all_cons rfl (all_cons rfl (all_cons rfl (all_cons rfl (all_nil)))))), hS⟩
        · rw [ifb_f hb_26] at H
          refine sl hK (by decide) (wff hb_26) rfl (r_fieldAddr Try.underlying25 rfl Try.sizeOf22 hK rfl) fun a hK => ?_
          refine sl hK (by decide) (wff hb_26) rfl (r_load Try.isAgg22 hK rfl (hS.cell (.tail _ (.head _)) rfl)) fun a hK => ?_
          refine sl hK (by decide) (wff hb_26) rfl (r_move hK rfl) fun a hK => ?_
          obtain ⟨y_27, h_28, H⟩ := bind_some H
          obtain ⟨b_29, o_30, c_31, cs_32, hv_33, hr_34, hc_35, h_280, h_281⟩ := h0_0.ix h_28
          subst hr_34
          refine sl hK (by decide) (wff hb_26) rfl (r_indexAddr_R Try.underlying22 Try.sizeOf38 hv_33 h_280 h_281 hK rfl rfl) fun a hK => ?_
          refine sl hK (by decide) (wff hb_26) rfl (r_fieldAddr Try.underlying38 rfl Try.sizeOf3 hK rfl) fun a hK => ?_
          refine sl hK (by decide) (wff hb_26) rfl (r_load Try.isAgg3 hK rfl (hS.sub.cell (hc_35 1 _ rfl))) fun a hK => ?_
          refine sl hK (by decide) (wff hb_26) rfl (r_ibin hK rfl rfl rfl) fun a hK => ?_
          refine sl hK (by decide) rfl rfl (r_pick_f hb_26 hK rfl rfl) fun a hK => ?_
          refine wpList_nil ?_
          have hS := hS.pk1
          exact ⟨(y_27.Kind != 1), H, hK.sub (all_cons rfl (all_cons rfl (all_cons rfl (all_cons rfl (all_cons rfl (all_nil)))))), hS⟩
    · rintro a w ⟨x_23, H, hK, hS⟩
      unfold ref16_Align.j0 at H
      refine wp_cond_split (hK.ev rfl) (fun (hb_36 : x_23 = true) => ?_) (fun (hb_36 : x_23 = false) => ?_)
      · rw [ifb_t hb_36] at H
        refine wp_seq ?_
        refine wp_region_lit ?_
        refine sl hK (by decide) rfl rfl (r_buildC (ps := []) (c := [.slice none 0 0, .slice none 0 0]) Try.underlying25 Try.zeroValue25 places25 hK rfl pc_nil rfl rfl) fun a hK => ?_
        have hS := hS.pk1
        refine sl_storeA (vs := [.slice none 0 0, .slice none 0 0]) (c' := [.slice none 0 0, .slice none 0 0]) Try.sizeOf25 hS hK rfl rfl rfl rfl (all_cons rfl (all_cons rfl (all_nil))) (Nat.le_of_ble_eq_true rfl) rfl fun a w hS hK => ?_
        refine sl hK (by decide) rfl rfl (r_assign hK rfl) fun a hK => ?_
        refine wpList_nil ?_
        have hS := hS.row_nil 38 2
        have hq_38 : Reps ty_api_Col R [] ([] : List api_Col) := Reps.nil _ _
        have hS := hS.row_nil 44 1
        have hq_40 : Reps (tySl ty_api_Value) R [] ([] : List (List api_Value)) := Reps.nil _ _
        obtain rfl := Option.some.inj H
        refine wp_ret ?_
        repeat (first | refine ret_then ?_ | refine ret_block ?_ | refine ret_scope ?_)
        exact ret_2 Try.results13 hK (rv_cell (c := [(.slice none 0 0), (.slice none 0 0)]) Try.isAgg25 Try.sizeOf25 hS (.tail _ (.tail _ (.head _))) rfl hK rfl) (rv_tmp hK rfl) ⟨_, rfl, _, _, _, _, _, rfl, (hS.pk1.trunc 2), hRL, hq_38, hq_40⟩
      · rw [ifb_f hb_36] at H
        refine wp_skip ?_
        refine wp_seq ?_
        refine wp_region_lit ?_
        refine sl hK (by decide) rfl rfl (r_fieldAddr Try.underlying25 rfl Try.sizeOf22 hK rfl) fun a hK => ?_
        refine sl hK (by decide) rfl rfl (r_load Try.isAgg22 hK rfl (hS.cell (.head _) rfl)) fun a hK => ?_
        refine sl hK (by decide) rfl rfl (r_buildC (ps := [(0, v0_0)]) (c := [v0_0, .slice none 0 0]) Try.underlying25 Try.zeroValue25 places25 hK rfl (pc_cons (cells1 h0_0.one) pc_nil) rfl rfl) fun a hK => ?_
        refine sl_alloc Try.zeroValue25 hS hK (by decide) rfl rfl fun a w b_41 hS hK => ?_
        refine sl_storeA (vs := [v0_0, .slice none 0 0]) (c' := [v0_0, .slice none 0 0]) Try.sizeOf25 hS hK rfl rfl rfl rfl (all_cons h0_0.one (all_cons rfl (all_nil))) (Nat.le_of_ble_eq_true rfl) rfl fun a w hS hK => ?_
        refine wpList_nil ?_
        refine wp_seq ?_
        refine wp_seq ?_
        refine wp_region_lit ?_
        refine sl hK (by decide) rfl rfl (r_assign hK rfl) fun a hK => ?_
        refine wpList_nil ?_
        refine wp_block ?_
        refine wp_loop_k (fun k_l1 a w => ∃ (x_110 : List (List api_Value)) (x_114 : Int) (R_115 : Hp) (v_111 : Value) (cs_112 : List Value), ref16_Align.l1 a0 a1 y_10 k_l1 x_110 x_114 = some r ∧ RLe [] w0 R R_115 ∧ Reps (tySl ty_api_Value) R_115 cs_112 x_110 ∧ Kn 72 a [(1, .int .i64 a1), (2, .pointer (some ⟨b_1, 0, none⟩)), (4, .pointer (some ⟨b_2, 0, none⟩)), (7, .int .i64 y_10), (8, .pointer (some ⟨b_41, 0, none⟩)), (9, .int .i64 x_114)] ∧ St [] w0 w R_115 [.cells b_1 [v0_0, v0_1] 25, .cells b_2 [.slice none 0 0, .slice none 0 0] 25, .row 44 1 v_111 x_110.length cs_112, .cells b_41 [v0_0, v_111] 25]) (((a0.Rows.length : Int) - 0).toNat + 1) ?_ ?_
        · have hS := hS.row_nil 44 1
          have hq_180 : Reps (tySl ty_api_Value) R [] ([] : List (List api_Value)) := Reps.nil _ _
          have hS := hS.pk1
          have hS := hS.pk1
          have hS := hS.pk3
          have hS := hS.pk3
          exact ⟨[], 0, _, _, _, H, (RLe.refl _ _), hq_180, hK.sub (all_cons rfl (all_cons rfl (all_cons rfl (all_cons rfl (all_cons rfl (all_cons rfl (all_nil))))))), hS⟩
        · rintro k_l1 a w ⟨x_110, x_114, R_115, v_111, cs_112, H, hl_116, hq_113, hK, hS⟩
          cases k_l1 with
          | zero => cases H
          | succ k_l1 =>
          rw [ref16_Align.l1.eq_2] at H
          have hRL := hRL.trans hl_116
          refine wp_seq ?_
          refine wp_seq ?_
          refine wp_region_lit ?_
          refine sl hK (by decide) rfl rfl (r_move hK rfl) fun a hK => ?_
          refine sl hK (by decide) rfl rfl (r_fieldAddr Try.underlying25 rfl Try.sizeOf23 hK rfl) fun a hK => ?_
          refine sl hK (by decide) rfl rfl (r_load Try.isAgg23 hK rfl (hS.cell (.head _) rfl)) fun a hK => ?_
          refine sl hK (by decide) rfl rfl (r_len_R Try.underlying23 h0_1 hK rfl) fun a hK => ?_
          refine sl hK (by decide) rfl rfl (r_ibin hK rfl rfl rfl) fun a hK => ?_
          refine wpList_nil ?_
          refine wp_cond_split (hK.ev rfl) (fun (hb_181 : (decide (x_114 < (a0.Rows.length : Int))) = true) => ?_) (fun (hb_181 : (decide (x_114 < (a0.Rows.length : Int))) = false) => ?_)
          · rw [ifb_t hb_181] at H
            refine wp_skip ?_
            refine wp_seq ?_
            refine wp_block ?_
            refine wp_seq ?_
            refine wp_region_lit ?_
            refine sl_buildSliceC (zc := [.int .i64 0, .int .i64 0, .string (⟨#[]⟩ : ByteArray), .int .i64 0, .int .i64 0, .int .i64 0, .int .i64 0, .int .i64 0, .int .i64 0, .int .i64 0, .int .i64 0]) (zs := []) (ps := []) (c := []) Try.underlying44 Try.sizeOf43 Try.zeroValue43 rfl pc_nil rfl rfl (by decide) (by kernel_rfl) rfl hS hK (by decide) rfl fun a w b_182 hS hK => ?_
            refine sl hK (by decide) rfl rfl (r_fieldAddr Try.underlying25 rfl Try.sizeOf23 hK rfl) fun a hK => ?_
            refine sl hK (by decide) rfl rfl (r_load Try.isAgg23 hK rfl (hS.cell (.tail _ (.head _)) rfl)) fun a hK => ?_
            refine sl hK (by decide) rfl rfl (r_move hK rfl) fun a hK => ?_
            obtain ⟨y_183, h_184, H⟩ := bind_some H
            obtain ⟨b_185, o_186, c_187, cs_188, hv_189, hr_190, hc_191, h_1840, h_1841⟩ := h0_1.ix h_184
            obtain ⟨v_192, rfl, hs_193⟩ := hr_190
            refine sl hK (by decide) rfl rfl (r_indexAddr_R Try.underlying23 Try.sizeOf44 hv_189 h_1840 h_1841 hK rfl rfl) fun a hK => ?_
            refine sl hK (by decide) rfl rfl (r_load Try.isAgg44 hK rfl ((hS.sub.le hl_116.le).cell (hc_191 0 _ rfl))) fun a hK => ?_
            obtain ⟨y_196, h_197, H⟩ := bind_some H
            have hS := hS.row_lit (size := 11) (m := 0) rfl (by decide)
            have hq_195 : Reps ty_api_Value R_115 [] ([] : List api_Value) := (Reps.nil _ _)
            refine sl_append_R elT44 (by decide) rfl hq_195 rfl (hs_193.mono hl_116.le) h_197 hS hK (by decide) rfl rfl rfl fun a w v_198 cs_199 hq_200 hS hK => ?_
            refine sl hK (by decide) rfl rfl (r_assign hK rfl) fun a hK => ?_
            refine wpList_nil ?_
            refine wp_seq ?_
            refine wp_region_lit ?_
            refine sl hK (by decide) rfl rfl (r_move hK rfl) fun a hK => ?_
            refine sl hK (by decide) rfl rfl (r_move hK rfl) fun a hK => ?_
            refine sl hK (by decide) rfl rfl (r_move hK rfl) fun a hK => ?_
            refine sl hK (by decide) rfl rfl (r_move hK rfl) fun a hK => ?_
            obtain ⟨y_202, h_203, H⟩ := bind_some H
            obtain ⟨b_205, c_206, cs_207, hv_204, hr_208, hc_209, h_2030, h_2031⟩ := hS.row_ix (.head _) hq_200 rfl rfl h_203
            subst hr_208
            refine sl hK (by decide) rfl rfl (r_indexAddr_R Try.underlying44 Try.sizeOf43 hv_204 h_2030 h_2031 hK rfl rfl) fun a hK => ?_
            refine sl hK (by decide) rfl rfl (r_fieldAddr Try.underlying43 rfl Try.sizeOf3 hK rfl) fun a hK => ?_
            refine sl hK (by decide) rfl rfl (r_load Try.isAgg3 hK rfl (by have h_ := hS.row_cell (.head _) hv_204 (hc_209 1 _ rfl); simpa [Nat.add_assoc] using h_)) fun a hK => ?_
            refine sl hK (by decide) rfl rfl (r_move hK rfl) fun a hK => ?_
            obtain ⟨y_210, h_211, H⟩ := bind_some H
            refine sl_callV Try.call29 hS hK (by decide) rfl rfl rfl (ref16_down.calls y_202.N a1 h_211 _) fun a w hS hK => ?_
            obtain ⟨y_212, h_213, H⟩ := bind_some H
            obtain ⟨b_215, c_216, cs_217, hv_214, hr_218, hc_219, h_2130, h_2131⟩ := hS.row_ix (.head _) hq_200 rfl rfl h_213
            subst hr_218
            refine sl hK (by decide) rfl rfl (r_indexAddr_R Try.underlying44 Try.sizeOf43 hv_214 h_2130 h_2131 hK rfl rfl) fun a hK => ?_
            refine sl hK (by decide) rfl rfl (r_fieldAddr Try.underlying43 rfl Try.sizeOf3 hK rfl) fun a hK => ?_
            refine sl_store_rowP (es := [.int .i64 y_212.Kind, .int .i64 y_212.N, .string y_212.S, .int .i64 y_212.H.a0, .int .i64 y_212.H.a1, .int .i64 y_212.H.a2, .int .i64 y_212.H.a3, .int .i64 y_212.H.a4, .int .i64 y_212.H.a5, .int .i64 y_212.H.a6, .int .i64 y_212.H.a7]) (ps := 1) Try.sizeOf3 hv_214 h_213 rfl rfl hc_219 (Nat.le_of_ble_eq_true rfl) (show Ty.rep ty_api_Value _ (spl [.int .i64 y_212.Kind, .int .i64 y_212.N, .string y_212.S, .int .i64 y_212.H.a0, .int .i64 y_212.H.a1, .int .i64 y_212.H.a2, .int .i64 y_212.H.a3, .int .i64 y_212.H.a4, .int .i64 y_212.H.a5, .int .i64 y_212.H.a6, .int .i64 y_212.H.a7] 1 [.int .i64 y_210]) (⟨y_212.Kind, y_210, y_212.S, y_212.H⟩ : api_Value) from rfl) hq_200 rfl hS hK rfl rfl rfl rfl fun a w cs_220 hq_221 hS hK => ?_
            obtain ⟨z_225, h_223⟩ := ix_upd y_10 (⟨y_212.Kind, y_210, y_212.S, y_212.H⟩ : api_Value) h_203
            have hv_224 : v_198 = Value.slice (some ⟨b_205, 0, none⟩) (upd y_196 y_10 (⟨y_212.Kind, y_210, y_212.S, y_212.H⟩ : api_Value)).length c_206 := by rw [upd_length]; exact hv_204
            obtain ⟨z_228, h_226⟩ := ix_upd y_10 (⟨y_212.Kind, y_210, y_212.S, y_212.H⟩ : api_Value) h_203
            have hv_227 : v_198 = Value.slice (some ⟨b_205, 0, none⟩) (upd y_196 y_10 (⟨y_212.Kind, y_210, y_212.S, y_212.H⟩ : api_Value)).length c_206 := by rw [upd_length]; exact hv_204
            obtain ⟨z_231, h_229⟩ := ix_upd y_10 (⟨y_212.Kind, y_210, y_212.S, y_212.H⟩ : api_Value) h_213
            have hv_230 : v_198 = Value.slice (some ⟨b_215, 0, none⟩) (upd y_196 y_10 (⟨y_212.Kind, y_210, y_212.S, y_212.H⟩ : api_Value)).length c_216 := by rw [upd_length]; exact hv_214
            refine wpList_nil ?_
            refine wp_region_lit ?_
            refine sl hK (by decide) rfl rfl (r_fieldAddr Try.underlying25 rfl Try.sizeOf23 hK rfl) fun a hK => ?_
            refine sl hK (by decide) rfl rfl (r_load Try.isAgg23 hK rfl (hS.cell (.tail _ (.tail _ (.tail _ (.tail _ (.head _))))) rfl)) fun a hK => ?_
            refine sl hK (by decide) rfl rfl (r_move hK rfl) fun a hK => ?_
            have ho_232 := hS.row_one (.head _)
            refine sl_buildSliceF (zc := [.slice none 0 0]) (ps := [(0, v_198)]) (c := [v_198]) [[v_198]] Try.underlying23 Try.sizeOf44 Try.zeroValue44 rfl (pc_cons (cells1 ho_232) pc_nil) rfl rfl (Nat.le_of_ble_eq_true rfl) rfl (all_cons rfl (all_nil)) rfl hS hK (by decide) rfl fun a w b_233 hS hK => ?_
            have hS := hS.pk4
            have hS := hS.pk2
            obtain ⟨R_234, hS, hl_236, hs_235⟩ := hS.fz_row hq_221 rfl rfl
            have hRL := hRL.trans hl_236
            obtain ⟨y_237, h_238, H⟩ := bind_some H
            refine sl_append_L (ty := (tySl ty_api_Value)) (ys := [upd y_196 y_10 (⟨y_212.Kind, y_210, y_212.S, y_212.H⟩ : api_Value)]) elT23 (by decide) rfl (hq_113.mono hl_236.le) rfl (Reps.cons (show Ty.rep (tySl ty_api_Value) _ [v_198] (upd y_196 y_10 (⟨y_212.Kind, y_210, y_212.S, y_212.H⟩ : api_Value)) from ⟨_, rfl, hs_235⟩) (Reps.nil _ _)) rfl h_238 hS hK (by decide) rfl rfl rfl fun a w v_239 cs_240 hq_241 hS hK => ?_
            refine sl hK (by decide) rfl rfl (r_fieldAddr Try.underlying25 rfl Try.sizeOf23 hK rfl) fun a hK => ?_
            have hS := hS.pk3
            refine sl_store1 (c' := [v0_0, v_239]) Try.sizeOf23 hS hK rfl rfl rfl (hS.row_one (.tail _ (.head _))) (Nat.le_of_ble_eq_true rfl) rfl fun a w hS hK => ?_
            refine wpList_nil ?_
            refine wp_region_lit ?_
            refine sl hK (by decide) rfl rfl (r_move hK rfl) fun a hK => ?_
            refine sl hK (by decide) rfl rfl (r_ibin hK rfl rfl rfl) fun a hK => ?_
            refine sl hK (by decide) rfl rfl (r_assign hK rfl) fun a hK => ?_
            refine wpList_nil ?_
            have hS := hS.pk1
            have hS := hS.pk3
            have hS := hS.pk3
            exact ⟨_, Nat.lt_succ_self _, y_237, (IntKind.i64.wrap (x_114 + 1)), _, _, _, H, (hl_116.trans hl_236), hq_241, hK.sub (all_cons rfl (all_cons rfl (all_cons rfl (all_cons rfl (all_cons rfl (all_cons rfl (all_nil))))))), hS⟩
          · rw [ifb_f hb_181] at H
            refine wp_exit ?_
            refine wp_seq ?_
            refine wp_region_lit ?_
            refine sl hK (by decide) rfl rfl (r_loadA (cs := [v0_0, v_111]) Try.isAgg25 Try.sizeOf25 rfl hK rfl (hS.cells_of (m := 2) (.tail _ (.tail _ (.tail _ (.head _)))) rfl)) fun a hK => ?_
            have hS := hS.pk2
            obtain ⟨R_243, hS, hl_245, hs_244⟩ := hS.fz_row hq_113 rfl rfl
            have hRL := hRL.trans hl_245
            obtain ⟨y_246, h_247, H⟩ := bind_some H
            refine sl_call Try.call11 hK (by decide) rfl rfl rfl (ref02_Canon.calls (⟨a0.Cols, x_110⟩ : api_Table) hS.sub (h0_0.mono (hl_116.le.trans hl_245.le)) hs_244 h_247) fun a v_ w hv_ hK => ?_
            obtain ⟨R_248, v_251, cs_252, v_255, cs_256, hv_, hr_, hl_249, hq_253, hq_257⟩ := hv_
            have hv_ := hv_.symm
            subst hv_
            obtain ⟨hS, hl_249⟩ := hS.sp0.back hr_ hl_249
            have hS := hS.un2
            have hRL := hRL.trans hl_249
            have hS := hS.pk3
            refine sl_storeA (vs := [v_251, v_255]) (c' := [v_251, v_255]) Try.sizeOf25 hS hK rfl rfl rfl rfl (all_cons (hS.row_one (.tail _ (.head _))) (all_cons (hS.row_one (.tail _ (.tail _ (.head _)))) (all_nil))) (Nat.le_of_ble_eq_true rfl) rfl fun a w hS hK => ?_
            refine sl hK (by decide) rfl rfl (r_assign hK rfl) fun a hK => ?_
            refine wpList_nil ?_
            obtain rfl := Option.some.inj H
            refine wp_ret ?_
            repeat (first | refine ret_then ?_ | refine ret_block ?_ | refine ret_scope ?_)
            exact ret_2 Try.results13 hK (rv_cell (c := [v_251, v_255]) Try.isAgg25 Try.sizeOf25 hS (.head _) rfl hK rfl) (rv_tmp hK rfl) ⟨_, rfl, _, _, _, _, _, rfl, (hS.pk2.pk2.trunc 2), hRL, hq_253, hq_257⟩

/-! ### catchment/catchmentlaw16.RowopsAligns: function 3 -/
set_option maxHeartbeats 4000000 in
set_option maxRecDepth 100000 in
theorem law16_RowopsAligns.calls (a0 : api_Table) (a1 : Int) {w0 : World} {R : Hp} {v0_0 : Value} {v0_1 : Value} (hR : R.sub w0) (h0_0 : SlR ty_api_Col R v0_0 a0.Cols) (h0_1 : SlR (tySl ty_api_Value) R v0_1 a0.Rows) (H : law16_RowopsAligns a0 a1 = some true) : CallsV Try.prog 3 #[.agg #[v0_0, v0_1], .int .i64 a1] w0 (.bool true) := by
  unfold law16_RowopsAligns at H
  refine enter (args := [.agg #[v0_0, v0_1], .int .i64 a1]) Try.func3 rfl Try.ntmps3 rfl fun a hK => ?_
  have hS := St.init hR
  have hRL := RLe.refl (M := []) w0 R
  refine wp_seq ?_
  refine wp_region_lit ?_
  refine sl_box hS hK (by decide) rfl rfl (c := [v0_0, v0_1]) rfl fun a w b_1 hS hK => ?_
  refine sl hK (by decide) rfl rfl (r_assign hK rfl) fun a hK => ?_
  refine wpList_nil ?_
  refine wp_seq ?_
  refine wp_region_lit ?_
  obtain ⟨y_2, h_3, H⟩ := bind_some H
  refine sl_callV Try.call9 hS hK (by decide) rfl rfl rfl (law16_shown.calls h_3 _) fun a w hS hK => ?_
  refine sl hK (by decide) rfl rfl (r_assign hK rfl) fun a hK => ?_
  refine wpList_nil ?_
  refine wp_seq ?_
  refine wp_region_lit ?_
  refine sl hK (by decide) rfl rfl (r_loadA (cs := [v0_0, v0_1]) Try.isAgg25 Try.sizeOf25 rfl hK rfl (hS.cells_of (m := 2) (.head _) rfl)) fun a hK => ?_
  obtain ⟨y_4, h_5, H⟩ := bind_some H
  refine sl_call Try.call10 hK (by decide) rfl rfl rfl (law16_cut.calls a0 hS.sub h0_0 h0_1 h_5) fun a v_ w hv_ hK => ?_
  obtain ⟨R_6, v_8, v_10, hv_, hr_, hl_7, hs_9, hs_11⟩ := hv_
  have hv_ := hv_.symm
  subst hv_
  obtain ⟨hS, hl_7⟩ := hS.sp0.back hr_ hl_7
  have hS := hS.un0
  have hRL := hRL.trans hl_7
  refine sl_storeA (vs := [v_8, v_10]) (c' := [v_8, v_10]) Try.sizeOf25 hS hK rfl rfl rfl rfl (all_cons hs_9.one (all_cons hs_11.one (all_nil))) (Nat.le_of_ble_eq_true rfl) rfl fun a w hS hK => ?_
  refine wpList_nil ?_
  refine wp_seq ?_
  refine wp_region_lit ?_
  refine sl hK (by decide) rfl rfl (r_loadA (cs := [v_8, v_10]) Try.isAgg25 Try.sizeOf25 rfl hK rfl (hS.cells_of (m := 2) (.head _) rfl)) fun a hK => ?_
  obtain ⟨y_12, h_13, H⟩ := bind_some H
  refine sl_call Try.call11 hK (by decide) rfl rfl rfl (ref02_Canon.calls y_4 hS.sub hs_9 hs_11 h_13) fun a v_ w hv_ hK => ?_
  obtain ⟨R_14, v_17, cs_18, v_21, cs_22, hv_, hr_, hl_15, hq_19, hq_23⟩ := hv_
  have hv_ := hv_.symm
  subst hv_
  obtain ⟨hS, hl_15⟩ := hS.sp0.back hr_ hl_15
  have hS := hS.un2
  have hRL := hRL.trans hl_15
  refine sl_alloc Try.zeroValue25 hS hK (by decide) rfl rfl fun a w b_24 hS hK => ?_
  refine sl_storeA (vs := [v_17, v_21]) (c' := [v_17, v_21]) Try.sizeOf25 hS hK rfl rfl rfl rfl (all_cons (hS.row_one (.tail _ (.head _))) (all_cons (hS.row_one (.tail _ (.tail _ (.head _)))) (all_nil))) (Nat.le_of_ble_eq_true rfl) rfl fun a w hS hK => ?_
  refine wpList_nil ?_
  refine wp_seq ?_
  refine wp_region_lit ?_
  refine sl hK (by decide) rfl rfl (r_loadA (cs := [v_8, v_10]) Try.isAgg25 Try.sizeOf25 rfl hK rfl (hS.cells_of (m := 2) (.tail _ (.tail _ (.tail _ (.head _)))) rfl)) fun a hK => ?_
  refine sl hK (by decide) rfl rfl (r_move hK rfl) fun a hK => ?_
  obtain ⟨y_25, h_26, H⟩ := bind_some H
  refine sl_call Try.call12 hK (by decide) rfl rfl rfl (rowops_Align.calls y_4 a1 (lentOf_sub [] _) hS.sub (hs_9.mono (hl_15.le.trans hS.rLe0)) (hs_11.mono (hl_15.le.trans hS.rLe0)) h_26) fun a v_ w hv_ hK => ?_
  obtain ⟨R_27, v_30, cs_31, v_34, cs_35, hv_, hr_, hl_28, hq_32, hq_36⟩ := hv_
  have hv_ := hv_.symm
  subst hv_
  obtain ⟨hS, hl_28⟩ := hS.sp0.back hr_ hl_28
  have hS := hS.un2
  have hRL := hRL.trans hl_28
  refine sl hK (by decide) rfl rfl (r_move hK rfl) fun a hK => ?_
  refine sl hK (by decide) rfl rfl (r_extract hK rfl rfl) fun a hK => ?_
  refine sl hK (by decide) rfl rfl (r_extract hK rfl rfl) fun a hK => ?_
  refine sl_alloc Try.zeroValue25 hS hK (by decide) rfl rfl fun a w b_37 hS hK => ?_
  refine sl_storeA (vs := [v_30, v_34]) (c' := [v_30, v_34]) Try.sizeOf25 hS hK rfl rfl rfl rfl (all_cons (hS.row_one (.tail _ (.head _))) (all_cons (hS.row_one (.tail _ (.tail _ (.head _)))) (all_nil))) (Nat.le_of_ble_eq_true rfl) rfl fun a w hS hK => ?_
  refine sl hK (by decide) rfl rfl (r_assign hK rfl) fun a hK => ?_
  refine wpList_nil ?_
  refine wp_seq ?_
  refine wp_region_lit ?_
  refine sl hK (by decide) rfl rfl (r_loadA (cs := [v_8, v_10]) Try.isAgg25 Try.sizeOf25 rfl hK rfl (hS.cells_of (m := 2) (.tail _ (.tail _ (.tail _ (.tail _ (.tail _ (.tail _ (.head _))))))) rfl)) fun a hK => ?_
  refine sl hK (by decide) rfl rfl (r_move hK rfl) fun a hK => ?_
  obtain ⟨y_38, h_39, H⟩ := bind_some H
  refine sl_call Try.call13 hK (by decide) rfl rfl rfl (ref16_Align.calls y_4 a1 hS.sub (hs_9.mono (hl_15.le.trans hl_28.le)) (hs_11.mono (hl_15.le.trans hl_28.le)) h_39) fun a v_ w hv_ hK => ?_
  obtain ⟨R_40, v_43, cs_44, v_47, cs_48, hv_, hr_, hl_41, hq_45, hq_49⟩ := hv_
  have hv_ := hv_.symm
  subst hv_
  obtain ⟨hS, hl_41⟩ := hS.sp0.back hr_ hl_41
  have hS := hS.un2
  have hRL := hRL.trans hl_41
  refine sl hK (by decide) rfl rfl (r_move hK rfl) fun a hK => ?_
  refine sl hK (by decide) rfl rfl (r_extract hK rfl rfl) fun a hK => ?_
  refine sl hK (by decide) rfl rfl (r_extract hK rfl rfl) fun a hK => ?_
  refine sl_alloc Try.zeroValue25 hS hK (by decide) rfl rfl fun a w b_50 hS hK => ?_
  refine sl_storeA (vs := [v_43, v_47]) (c' := [v_43, v_47]) Try.sizeOf25 hS hK rfl rfl rfl rfl (all_cons (hS.row_one (.tail _ (.head _))) (all_cons (hS.row_one (.tail _ (.tail _ (.head _)))) (all_nil))) (Nat.le_of_ble_eq_true rfl) rfl fun a w hS hK => ?_
  refine sl hK (by decide) rfl rfl (r_assign hK rfl) fun a hK => ?_
  refine wpList_nil ?_
  refine wp_seq ?_
  refine wp_region_lit ?_
  refine sl hK (by decide) rfl rfl (r_loadA (cs := [v_30, v_34]) Try.isAgg25 Try.sizeOf25 rfl hK rfl (hS.cells_of (m := 2) (.tail _ (.tail _ (.tail _ (.head _)))) rfl)) fun a hK => ?_
  refine sl hK (by decide) rfl rfl (r_loadA (cs := [v_43, v_47]) Try.isAgg25 Try.sizeOf25 rfl hK rfl (hS.cells_of (m := 2) (.head _) rfl)) fun a hK => ?_
  obtain ⟨y_51, h_52, H⟩ := bind_some H
  refine sl_callV Try.call14 hS hK (by decide) rfl rfl rfl (ref02_Same.calls y_25.1 y_38.1 (lentOf_sub [] _) (hS.lend_row0 (.tail _ (.tail _ (.tail _ (.tail _ (.head _))))) (hq_32.mono hl_41.le) rfl rfl) (hS.lend_row0 (.tail _ (.tail _ (.tail _ (.tail _ (.tail _ (.head _)))))) (hq_36.mono hl_41.le) rfl rfl) (hS.lend_row0 (.tail _ (.head _)) hq_45 rfl rfl) (hS.lend_row0 (.tail _ (.tail _ (.head _))) hq_49 rfl rfl) h_52) fun a w hS hK => ?_
  refine sl hK (by decide) rfl rfl (r_assign hK rfl) fun a hK => ?_
  refine wpList_nil ?_
  refine wp_seq ?_
  refine parT_region (C := fun w => St [] w0 w R_40 [.cells b_50 [v_43, v_47] 25, .row 38 2 v_43 y_38.1.Cols.length cs_44, .row 44 1 v_47 y_38.1.Rows.length cs_48, .cells b_37 [v_30, v_34] 25, .row 38 2 v_30 y_25.1.Cols.length cs_31, .row 44 1 v_34 y_25.1.Rows.length cs_35, .cells b_24 [v_17, v_21] 25, .row 38 2 v_17 y_12.Cols.length cs_18, .row 44 1 v_21 y_12.Rows.length cs_22, .cells b_1 [v_8, v_10] 25]) 3 [(0, true), (2, true), (1, false)] mixed (by kernel_rfl) hS (fun w hS => hS) fun w hS => ?_
  refine sp (k := 0) rfl hK (by decide) rfl rfl (fun w hS => r_loadA (cs := [v_8, v_10]) Try.isAgg25 Try.sizeOf25 rfl hK rfl (hS.cells_of (m := 2) (.tail _ (.tail _ (.tail _ (.tail _ (.tail _ (.tail _ (.tail _ (.tail _ (.tail _ (.head _)))))))))) rfl)) fun a hK => ?_
  refine sp (k := 2) rfl hK (by decide) rfl rfl (fun w hS => r_loadA (cs := [v_17, v_21]) Try.isAgg25 Try.sizeOf25 rfl hK rfl (hS.cells_of (m := 2) (.tail _ (.tail _ (.tail _ (.tail _ (.tail _ (.tail _ (.head _))))))) rfl)) fun a hK => ?_
  refine spw (k := 1) rfl rfl hS ?_
  obtain ⟨y_67, h_68, H⟩ := bind_some H
  refine sl_call Try.call11 hK (by decide) rfl rfl rfl (ref02_Canon.calls y_4 hS.sub (hs_9.mono (hl_15.le.trans (hl_28.le.trans hl_41.le))) (hs_11.mono (hl_15.le.trans (hl_28.le.trans hl_41.le))) h_68) fun a v_ w hv_ hK => ?_
  obtain ⟨R_69, v_72, cs_73, v_76, cs_77, hv_, hr_, hl_70, hq_74, hq_78⟩ := hv_
  have hv_ := hv_.symm
  subst hv_
  obtain ⟨hS, hl_70⟩ := hS.sp0.back hr_ hl_70
  have hS := hS.un2
  have hRL := hRL.trans hl_70
  refine parK_nil ((hS.pk11.pk11.pk11.pk11.pk11.pk11.pk11.pk11.pk11.pk11.trunc 10).lower hl_70.le) ?_
  refine thenL_nil ?_
  obtain ⟨y_79, h_80, H⟩ := bind_some H
  refine sl_callV Try.call14 hS hK (by decide) rfl rfl rfl (ref02_Same.calls y_67 y_12 (lentOf_sub [] _) (hS.lend_row0 (.head _) hq_74 rfl rfl) (hS.lend_row0 (.tail _ (.head _)) hq_78 rfl rfl) (hS.lend_row0 (.tail _ (.tail _ (.tail _ (.tail _ (.tail _ (.tail _ (.tail _ (.tail _ (.tail _ (.head _)))))))))) (hq_19.mono (hl_28.le.trans (hl_41.le.trans hl_70.le))) rfl rfl) (hS.lend_row0 (.tail _ (.tail _ (.tail _ (.tail _ (.tail _ (.tail _ (.tail _ (.tail _ (.tail _ (.tail _ (.head _))))))))))) (hq_23.mono (hl_28.le.trans (hl_41.le.trans hl_70.le))) rfl rfl) h_80) fun a w hS hK => ?_
  refine sl hK (by decide) rfl rfl (r_assign hK rfl) fun a hK => ?_
  refine wpList_nil (NoP_nil ?_)
  refine wp_seq ?_
  refine wp_seq ?_
  refine wp_region_lit ?_
  refine sl hK (by decide) rfl rfl (r_move hK rfl) fun a hK => ?_
  refine sl hK (by decide) rfl rfl (r_ibin hK rfl rfl rfl) fun a hK => ?_
  refine wpList_nil ?_
  refine wp_mid (fun a w => ∃ (R_102 : Hp), law16_RowopsAligns.j0 y_2 y_25 y_38 y_51 y_79 = some true ∧ RLe [] w0 R_69 R_102 ∧ Kn 69 a [(5, .bool y_2), (8, .int .i64 y_25.2), (10, .int .i64 y_38.2), (11, .bool y_51), (12, .bool y_79)] ∧ St [] w0 w R_102 []) ?_ ?_
  · refine wp_cond_split (hK.ev rfl) (fun (hb_104 : (y_25.2 == 0) = true) => ?_) (fun (hb_104 : (y_25.2 == 0) = false) => ?_)
    · rw [ifb_t hb_104] at H
      refine wp_seq ?_
      refine wp_region_lit ?_
      refine sl hK (by decide) rfl rfl (r_loadA (cs := [v_30, v_34]) Try.isAgg25 Try.sizeOf25 rfl hK rfl (hS.cells_of (m := 2) (.tail _ (.tail _ (.tail _ (.tail _ (.tail _ (.head _)))))) rfl)) fun a hK => ?_
      refine sl hK (by decide) rfl rfl (r_move hK rfl) fun a hK => ?_
      obtain ⟨y_105, h_106, H⟩ := bind_some H
      refine sl_call Try.call12 hK (by decide) rfl rfl rfl (rowops_Align.calls y_25.1 a1 (lentOf_sub [] _) hS.sub (hS.lend_row0 (.tail _ (.tail _ (.tail _ (.tail _ (.tail _ (.tail _ (.head _))))))) (hq_32.mono (hl_41.le.trans hl_70.le)) rfl rfl) (hS.lend_row0 (.tail _ (.tail _ (.tail _ (.tail _ (.tail _ (.tail _ (.tail _ (.head _)))))))) (hq_36.mono (hl_41.le.trans hl_70.le)) rfl rfl) h_106) fun a v_ w hv_ hK => ?_
      obtain ⟨R_107, v_110, cs_111, v_114, cs_115, hv_, hr_, hl_108, hq_112, hq_116⟩ := hv_
      have hv_ := hv_.symm
      subst hv_
      obtain ⟨hS, hl_108⟩ := hS.sp0.back hr_ hl_108
      have hS := hS.un2
      have hRL := hRL.trans hl_108
      refine sl hK (by decide) rfl rfl (r_move hK rfl) fun a hK => ?_
      refine sl hK (by decide) rfl rfl (r_extract hK rfl rfl) fun a hK => ?_
      refine sl hK (by decide) rfl rfl (r_extract hK rfl rfl) fun a hK => ?_
      refine sl_alloc Try.zeroValue25 hS hK (by decide) rfl rfl fun a w b_117 hS hK => ?_
      refine sl_storeA (vs := [v_110, v_114]) (c' := [v_110, v_114]) Try.sizeOf25 hS hK rfl rfl rfl rfl (all_cons (hS.row_one (.tail _ (.head _))) (all_cons (hS.row_one (.tail _ (.tail _ (.head _)))) (all_nil))) (Nat.le_of_ble_eq_true rfl) rfl fun a w hS hK => ?_
      refine sl hK (by decide) rfl rfl (r_assign hK rfl) fun a hK => ?_
      refine wpList_nil ?_
      refine wp_seq ?_
      refine wp_region_lit ?_
      refine sl hK (by decide) rfl rfl (r_loadA (cs := [v_30, v_34]) Try.isAgg25 Try.sizeOf25 rfl hK rfl (hS.cells_of (m := 2) (.tail _ (.tail _ (.tail _ (.tail _ (.tail _ (.tail _ (.tail _ (.tail _ (.head _))))))))) rfl)) fun a hK => ?_
      refine sl hK (by decide) rfl rfl (r_loadA (cs := [v_110, v_114]) Try.isAgg25 Try.sizeOf25 rfl hK rfl (hS.cells_of (m := 2) (.head _) rfl)) fun a hK => ?_
      obtain ⟨y_118, h_119, H⟩ := bind_some H
      refine sl_callV Try.call14 hS hK (by decide) rfl rfl rfl (ref02_Same.calls y_25.1 y_105.1 (lentOf_sub [] _) (hS.lend_row0 (.tail _ (.tail _ (.tail _ (.tail _ (.tail _ (.tail _ (.tail _ (.tail _ (.tail _ (.head _)))))))))) (hq_32.mono (hl_41.le.trans (hl_70.le.trans hl_108.le))) rfl rfl) (hS.lend_row0 (.tail _ (.tail _ (.tail _ (.tail _ (.tail _ (.tail _ (.tail _ (.tail _ (.tail _ (.tail _ (.head _))))))))))) (hq_36.mono (hl_41.le.trans (hl_70.le.trans hl_108.le))) rfl rfl) (hS.lend_row0 (.tail _ (.head _)) hq_112 rfl rfl) (hS.lend_row0 (.tail _ (.tail _ (.head _))) hq_116 rfl rfl) h_119) fun a w hS hK => ?_
      refine sl hK (by decide) rfl rfl (r_assign hK rfl) fun a hK => ?_
      refine wpList_nil ?_
      refine wp_seq ?_
      refine wp_mid (fun a w => ∃ (x_121 : Bool), law16_RowopsAligns.j1 y_2 y_25 y_38 y_51 y_79 x_121 = some true ∧ Kn 69 a [(5, .bool y_2), (8, .int .i64 y_25.2), (10, .int .i64 y_38.2), (11, .bool y_51), (12, .bool y_79), (56, .bool x_121)] ∧ St [] w0 w R_107 []) ?_ ?_
      · refine wp_region_lit ?_
        refine sl hK (by decide) rfl rfl (r_move hK rfl) fun a hK => ?_
        refine sl hK (by decide) rfl rfl (r_ibin hK rfl rfl rfl) fun a hK => ?_
        refine sl hK (by decide) rfl rfl (r_move hK rfl) fun a hK => ?_
        rcases or_b (y_105.2 != 0) with hb_123 | hb_123
        · rw [ifb_t hb_123] at H
          refine sl_skip hK (by decide) (wft hb_123) rfl fun a hK => ?_
          refine sl_skip hK (by decide) (wft hb_123) rfl fun a hK => ?_
          refine sl hK (by decide) rfl rfl (r_pick_t hb_123 hK rfl rfl) fun a hK => ?_
          refine wpList_nil ?_
          exact ⟨true, H, hK.sub (all_cons rfl (all_cons rfl (all_cons rfl (all_cons rfl (all_cons rfl (all_cons rfl (all_nil))))))), hS.trunc 0⟩
        · rw [ifb_f hb_123] at H
          refine sl hK (by decide) (wff hb_123) rfl (r_move hK rfl) fun a hK => ?_
          refine sl hK (by decide) (wff hb_123) rfl (r_un hK rfl (u_not _)) fun a hK => ?_
          refine sl hK (by decide) rfl rfl (r_pick_f hb_123 hK rfl rfl) fun a hK => ?_
          refine wpList_nil ?_
          exact ⟨(!y_118), H, hK.sub (all_cons rfl (all_cons rfl (all_cons rfl (all_cons rfl (all_cons rfl (all_cons rfl (all_nil))))))), hS.trunc 0⟩
      · rintro a w ⟨x_121, H, hK, hS⟩
        unfold law16_RowopsAligns.j1 at H
        refine wp_cond_split (hK.ev rfl) (fun (hb_124 : x_121 = true) => ?_) (fun (hb_124 : x_121 = false) => ?_)
        · rw [ifb_t hb_124] at H
          refine wp_seq ?_
          refine wp_region_lit ?_
          refine sl hK (by decide) rfl rfl (r_assign hK rfl) fun a hK => ?_
          refine wpList_nil ?_
          exact absurd (Option.some.inj H) (by decide)
        · rw [ifb_f hb_124] at H
          refine wp_skip ?_
          exact ⟨_, H, hl_108, hK.sub (all_cons rfl (all_cons rfl (all_cons rfl (all_cons rfl (all_cons rfl (all_nil)))))), hS⟩
    · rw [ifb_f hb_104] at H
      refine wp_skip ?_
      exact ⟨_, H, (RLe.refl _ _), hK.sub (all_cons rfl (all_cons rfl (all_cons rfl (all_cons rfl (all_cons rfl (all_nil)))))), hS.trunc 0⟩
  · rintro a w ⟨R_102, H, hl_103, hK, hS⟩
    unfold law16_RowopsAligns.j0 at H
    have hRL := hRL.trans hl_103
    refine wp_seq ?_
    refine wp_region_lit ?_
    refine sl hK (by decide) rfl rfl (r_move hK rfl) fun a hK => ?_
    refine sl hK (by decide) rfl rfl (r_move hK rfl) fun a hK => ?_
    rcases or_b y_2 with hb_125 | hb_125
    · rw [ifb_t hb_125] at H
      refine sl hK (by decide) (wtt hb_125) rfl (r_move hK rfl) fun a hK => ?_
      refine sl hK (by decide) rfl rfl (r_pick_t hb_125 hK rfl rfl) fun a hK => ?_
      refine sl hK (by decide) rfl rfl (r_move hK rfl) fun a hK => ?_
      rcases or_b y_51 with hb_126 | hb_126
      · rw [ifb_t hb_126] at H
        refine sl hK (by decide) (wtt hb_126) rfl (r_move hK rfl) fun a hK => ?_
        refine sl hK (by decide) (wtt hb_126) rfl (r_move hK rfl) fun a hK => ?_
        refine sl hK (by decide) (wtt hb_126) rfl (r_ibin hK rfl rfl rfl) fun a hK => ?_
        refine sl hK (by decide) rfl rfl (r_pick_t hb_126 hK rfl rfl) fun a hK => ?_
        refine sl hK (by decide) rfl rfl (r_move hK rfl) fun a hK => ?_
        rcases or_b (y_25.2 == y_38.2) with hb_127 | hb_127
        · rw [ifb_t hb_127] at H
          refine sl hK (by decide) (wtt hb_127) rfl (r_move hK rfl) fun a hK => ?_
          refine sl hK (by decide) rfl rfl (r_pick_t hb_127 hK rfl rfl) fun a hK => ?_
          refine sl hK (by decide) rfl rfl (r_assign hK rfl) fun a hK => ?_
          refine wpList_nil ?_
          have hr_ := Option.some.inj H
          refine wp_ret ?_
          repeat (first | refine ret_then ?_ | refine ret_block ?_ | refine ret_scope ?_)
          exact ret_1 Try.results3 hK (rv_tmp hK rfl) ⟨congrArg (fun b => Ending.returned (Value.bool b)) hr_, hS.bel⟩
        · rw [ifb_f hb_127] at H
          refine sl_skip hK (by decide) (wtf hb_127) rfl fun a hK => ?_
          refine sl hK (by decide) rfl rfl (r_pick_f hb_127 hK rfl rfl) fun a hK => ?_
          refine sl hK (by decide) rfl rfl (r_assign hK rfl) fun a hK => ?_
          refine wpList_nil ?_
          exact absurd (Option.some.inj H) (by decide)
      · rw [ifb_f hb_126] at H
        refine sl_skip hK (by decide) (wtf hb_126) rfl fun a hK => ?_
        refine sl_skip hK (by decide) (wtf hb_126) rfl fun a hK => ?_
        refine sl_skip hK (by decide) (wtf hb_126) rfl fun a hK => ?_
        refine sl hK (by decide) rfl rfl (r_pick_f hb_126 hK rfl rfl) fun a hK => ?_
        refine sl hK (by decide) rfl rfl (r_move hK rfl) fun a hK => ?_
        refine sl_skip hK (by decide) rfl rfl fun a hK => ?_
        refine sl hK (by decide) rfl rfl (r_pick hK rfl rfl rfl) fun a hK => ?_
        refine sl hK (by decide) rfl rfl (r_assign hK rfl) fun a hK => ?_
        refine wpList_nil ?_
        exact absurd (Option.some.inj H) (by decide)
    · rw [ifb_f hb_125] at H
      refine sl_skip hK (by decide) (wtf hb_125) rfl fun a hK => ?_
      refine sl hK (by decide) rfl rfl (r_pick_f hb_125 hK rfl rfl) fun a hK => ?_
      refine sl hK (by decide) rfl rfl (r_move hK rfl) fun a hK => ?_
      refine sl_skip hK (by decide) rfl rfl fun a hK => ?_
      refine sl_skip hK (by decide) rfl rfl fun a hK => ?_
      refine sl_skip hK (by decide) rfl rfl fun a hK => ?_
      refine sl hK (by decide) rfl rfl (r_pick hK rfl rfl rfl) fun a hK => ?_
      refine sl hK (by decide) rfl rfl (r_move hK rfl) fun a hK => ?_
      refine sl_skip hK (by decide) rfl rfl fun a hK => ?_
      refine sl hK (by decide) rfl rfl (r_pick hK rfl rfl rfl) fun a hK => ?_
      refine sl hK (by decide) rfl rfl (r_assign hK rfl) fun a hK => ?_
      refine wpList_nil ?_
      exact absurd (Option.some.inj H) (by decide)

end Go.Proofs.Ytjimddbbpjpgdaa.M
