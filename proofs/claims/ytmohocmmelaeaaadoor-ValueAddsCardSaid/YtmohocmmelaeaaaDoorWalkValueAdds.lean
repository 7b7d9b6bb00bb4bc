/- Each Go function of the laws answers as its plain Lean function tells, wherever that tells something. Printed by wip/eng/gen.py. -/
import Derived.Test.YtmohocmmelaeaaaDoorWalk1
namespace Go.Proofs.YtmohocmmelaeaaaDoor.M
open Go Go.Eng Go.Proofs Go.RowKit
set_option linter.unusedVariables false
set_option linter.unusedSimpArgs false

/-! ### catchment/catchmentref01.Valid: function 15 -/
set_option maxHeartbeats 4000000 in
set_option maxRecDepth 100000 in
theorem ref01_Valid.calls (a0 : api_Value) {r : Bool} (H : ref01_Valid a0 = some r) (w0 : World) : CallsV Tryd.prog 15 #[.agg #[.int .i64 a0.Kind, .int .i64 a0.N, .string a0.S, .int .i64 a0.H.a0, .int .i64 a0.H.a1, .int .i64 a0.H.a2, .int .i64 a0.H.a3, .int .i64 a0.H.a4, .int .i64 a0.H.a5, .int .i64 a0.H.a6, .int .i64 a0.H.a7]] w0 (.bool r) := by
  unfold ref01_Valid at H
  refine enter (args := [.agg #[.int .i64 a0.Kind, .int .i64 a0.N, .string a0.S, .int .i64 a0.H.a0, .int .i64 a0.H.a1, .int .i64 a0.H.a2, .int .i64 a0.H.a3, .int .i64 a0.H.a4, .int .i64 a0.H.a5, .int .i64 a0.H.a6, .int .i64 a0.H.a7]]) Tryd.func15 rfl Tryd.ntmps15 rfl fun a hK => ?_
  have hS := St.init (R := fun _ => none) (w := w0) (fun _ _ h => by cases h)
  have hRL := RLe.refl (M := []) w0 (fun _ => none)
  refine wp_seq ?_
  refine wp_region_lit ?_
  refine sl_box hS hK (by decide) rfl rfl (c := [.int .i64 a0.Kind, .int .i64 a0.N, .string a0.S, .int .i64 a0.H.a0, .int .i64 a0.H.a1, .int .i64 a0.H.a2, .int .i64 a0.H.a3, .int .i64 a0.H.a4, .int .i64 a0.H.a5, .int .i64 a0.H.a6, .int .i64 a0.H.a7]) rfl fun a w b_1 hS hK => ?_
  refine sl hK (by decide) rfl rfl (r_assign hK rfl) fun a hK => ?_
  refine wpList_nil ?_
  refine wp_seq ?_
  refine wp_region_lit ?_
  refine sl hK (by decide) rfl rfl (r_fieldAddr Tryd.underlying24 rfl Tryd.sizeOf22 hK rfl) fun a hK => ?_
  refine sl hK (by decide) rfl rfl (r_loadA (cs := [.int .i64 a0.H.a0, .int .i64 a0.H.a1, .int .i64 a0.H.a2, .int .i64 a0.H.a3, .int .i64 a0.H.a4, .int .i64 a0.H.a5, .int .i64 a0.H.a6, .int .i64 a0.H.a7]) Tryd.isAgg22 Tryd.sizeOf22 rfl hK rfl (hS.cells_of (m := 8) (.head _) rfl)) fun a hK => ?_
  refine sl hK (by decide) rfl rfl (r_buildAC (ps := []) (c := [.int .i64 0, .int .i64 0, .int .i64 0, .int .i64 0, .int .i64 0, .int .i64 0, .int .i64 0, .int .i64 0]) Tryd.underlying22 Tryd.zeroValue22 Tryd.sizeOf3 hK rfl pc_nil rfl rfl) fun a hK => ?_
  refine sl hK (by decide) rfl rfl (r_seq (by kernel_rfl) (eqs22 a0.H (⟨0, 0, 0, 0, 0, 0, 0, 0⟩ : Arr8)) hK rfl rfl) fun a hK => ?_
  refine sl hK (by decide) rfl rfl (r_assign hK rfl) fun a hK => ?_
  refine wpList_nil ?_
  refine wp_seq ?_
  refine wp_seq ?_
  refine wp_region_lit ?_
  refine sl hK (by decide) rfl rfl (r_fieldAddr Tryd.underlying24 rfl Tryd.sizeOf3 hK rfl) fun a hK => ?_
  refine sl hK (by decide) rfl rfl (r_load Tryd.isAgg3 hK rfl (hS.cell (.head _) rfl)) fun a hK => ?_
  refine wpList_nil ?_
  refine wp_block ?_
  refine wp_seq ?_
  refine wp_region_lit ?_
  refine sl hK (by decide) rfl rfl (r_ibin hK rfl rfl rfl) fun a hK => ?_
  refine sl hK (by decide) rfl rfl (r_assign hK rfl) fun a hK => ?_
  refine wpList_nil ?_
  refine wp_cond_split (hK.ev rfl) (fun (hb_2 : (a0.Kind == 1) = true) => ?_) (fun (hb_2 : (a0.Kind == 1) = false) => ?_)
  · rw [ifb_t hb_2] at H
    refine wp_seq ?_
    refine wp_region_lit ?_
    refine sl hK (by decide) rfl rfl (r_fieldAddr Tryd.underlying24 rfl Tryd.sizeOf9 hK rfl) fun a hK => ?_
    refine sl hK (by decide) rfl rfl (r_load Tryd.isAgg9 hK rfl (hS.cell (.head _) rfl)) fun a hK => ?_
    refine sl hK (by decide) rfl rfl (r_sbin hK rfl rfl rfl) fun a hK => ?_
    refine sl hK (by decide) rfl rfl (r_move hK rfl) fun a hK => ?_
    rcases or_b (a0.S.toList == (⟨#[]⟩ : ByteArray).toList) with hb_3 | hb_3
    · rw [ifb_t hb_3] at H
      refine sl hK (by decide) (wtt hb_3) rfl (r_move hK rfl) fun a hK => ?_
      refine sl hK (by decide) rfl rfl (r_pick_t hb_3 hK rfl rfl) fun a hK => ?_
      refine sl hK (by decide) rfl rfl (r_assign hK rfl) fun a hK => ?_
      refine wpList_nil ?_
      obtain rfl := Option.some.inj H
      refine wp_ret ?_
      repeat (first | refine ret_then ?_ | refine ret_block ?_ | refine ret_scope ?_)
      exact ret_1 Tryd.results15 hK (rv_tmp hK rfl) ⟨rfl, hS.bel⟩
    · rw [ifb_f hb_3] at H
      refine sl_skip hK (by decide) (wtf hb_3) rfl fun a hK => ?_
      refine sl hK (by decide) rfl rfl (r_pick_f hb_3 hK rfl rfl) fun a hK => ?_
      refine sl hK (by decide) rfl rfl (r_assign hK rfl) fun a hK => ?_
      refine wpList_nil ?_
      obtain rfl := Option.some.inj H
      refine wp_ret ?_
      repeat (first | refine ret_then ?_ | refine ret_block ?_ | refine ret_scope ?_)
      exact ret_1 Tryd.results15 hK (rv_tmp hK rfl) ⟨rfl, hS.bel⟩
  · rw [ifb_f hb_2] at H
    refine wp_seq ?_
    refine wp_region_lit ?_
    refine sl hK (by decide) rfl rfl (r_ibin hK rfl rfl rfl) fun a hK => ?_
    refine sl hK (by decide) rfl rfl (r_assign hK rfl) fun a hK => ?_
    refine wpList_nil ?_
    refine wp_cond_split (hK.ev rfl) (fun (hb_4 : (a0.Kind == 2) = true) => ?_) (fun (hb_4 : (a0.Kind == 2) = false) => ?_)
    · rw [ifb_t hb_4] at H
      refine wp_seq ?_
      refine wp_region_lit ?_
      refine sl hK (by decide) rfl rfl (r_fieldAddr Tryd.underlying24 rfl Tryd.sizeOf3 hK rfl) fun a hK => ?_
      refine sl hK (by decide) rfl rfl (r_load Tryd.isAgg3 hK rfl (hS.cell (.head _) rfl)) fun a hK => ?_
      refine sl hK (by decide) rfl rfl (r_ibin hK rfl rfl rfl) fun a hK => ?_
      refine sl hK (by decide) rfl rfl (r_move hK rfl) fun a hK => ?_
      rcases or_b (a0.N == 0) with hb_5 | hb_5
      · rw [ifb_t hb_5] at H
        refine sl hK (by decide) (wtt hb_5) rfl (r_move hK rfl) fun a hK => ?_
        refine sl hK (by decide) rfl rfl (r_pick_t hb_5 hK rfl rfl) fun a hK => ?_
        refine sl hK (by decide) rfl rfl (r_move hK rfl) fun a hK => ?_
        rcases or_b (decide (a0.H = (⟨0, 0, 0, 0, 0, 0, 0, 0⟩ : Arr8))) with hb_6 | hb_6
        · rw [ifb_t hb_6] at H
          refine sl hK (by decide) (wtt hb_6) rfl (r_fieldAddr Tryd.underlying24 rfl Tryd.sizeOf9 hK rfl) fun a hK => ?_
          refine sl hK (by decide) (wtt hb_6) rfl (r_load Tryd.isAgg9 hK rfl (hS.cell (.head _) rfl)) fun a hK => ?_
          refine sl hK (by decide) (wtt hb_6) rfl (r_len_str Tryd.underlying9 hK rfl) fun a hK => ?_
          refine sl hK (by decide) (wtt hb_6) rfl (r_ibin hK rfl rfl rfl) fun a hK => ?_
          refine sl hK (by decide) rfl rfl (r_pick_t hb_6 hK rfl rfl) fun a hK => ?_
          refine sl hK (by decide) rfl rfl (r_assign hK rfl) fun a hK => ?_
          refine wpList_nil ?_
          obtain rfl := Option.some.inj H
          refine wp_ret ?_
          repeat (first | refine ret_then ?_ | refine ret_block ?_ | refine ret_scope ?_)
          exact ret_1 Tryd.results15 hK (rv_tmp hK rfl) ⟨rfl, hS.bel⟩
        · rw [ifb_f hb_6] at H
          refine sl_skip hK (by decide) (wtf hb_6) rfl fun a hK => ?_
          refine sl_skip hK (by decide) (wtf hb_6) rfl fun a hK => ?_
          refine sl_skip hK (by decide) (wtf hb_6) rfl fun a hK => ?_
          refine sl_skip hK (by decide) (wtf hb_6) rfl fun a hK => ?_
          refine sl hK (by decide) rfl rfl (r_pick_f hb_6 hK rfl rfl) fun a hK => ?_
          refine sl hK (by decide) rfl rfl (r_assign hK rfl) fun a hK => ?_
          refine wpList_nil ?_
          obtain rfl := Option.some.inj H
          refine wp_ret ?_
          repeat (first | refine ret_then ?_ | refine ret_block ?_ | refine ret_scope ?_)
          exact ret_1 Tryd.results15 hK (rv_tmp hK rfl) ⟨rfl, hS.bel⟩
      · rw [ifb_f hb_5] at H
        refine sl_skip hK (by decide) (wtf hb_5) rfl fun a hK => ?_
        refine sl hK (by decide) rfl rfl (r_pick_f hb_5 hK rfl rfl) fun a hK => ?_
        refine sl hK (by decide) rfl rfl (r_move hK rfl) fun a hK => ?_
        refine sl_skip hK (by decide) rfl rfl fun a hK => ?_
        refine sl_skip hK (by decide) rfl rfl fun a hK => ?_
        refine sl_skip hK (by decide) rfl rfl fun a hK => ?_
        refine sl_skip hK (by decide) rfl rfl fun a hK => ?_
        refine sl hK (by decide) rfl rfl (r_pick hK rfl rfl rfl) fun a hK => ?_
        refine sl hK (by decide) rfl rfl (r_assign hK rfl) fun a hK => ?_
        refine wpList_nil ?_
        obtain rfl := Option.some.inj H
        refine wp_ret ?_
        repeat (first | refine ret_then ?_ | refine ret_block ?_ | refine ret_scope ?_)
        exact ret_1 Tryd.results15 hK (rv_tmp hK rfl) ⟨rfl, hS.bel⟩
    · rw [ifb_f hb_4] at H
      refine wp_seq ?_
      refine wp_region_lit ?_
      refine sl hK (by decide) rfl rfl (r_ibin hK rfl rfl rfl) fun a hK => ?_
      refine sl hK (by decide) rfl rfl (r_assign hK rfl) fun a hK => ?_
      refine wpList_nil ?_
      refine wp_cond_split (hK.ev rfl) (fun (hb_7 : (a0.Kind == 3) = true) => ?_) (fun (hb_7 : (a0.Kind == 3) = false) => ?_)
      · rw [ifb_t hb_7] at H
        refine wp_seq ?_
        refine wp_region_lit ?_
        refine sl hK (by decide) rfl rfl (r_fieldAddr Tryd.underlying24 rfl Tryd.sizeOf3 hK rfl) fun a hK => ?_
        refine sl hK (by decide) rfl rfl (r_load Tryd.isAgg3 hK rfl (hS.cell (.head _) rfl)) fun a hK => ?_
        refine sl hK (by decide) rfl rfl (r_ibin hK rfl rfl rfl) fun a hK => ?_
        refine sl hK (by decide) rfl rfl (r_move hK rfl) fun a hK => ?_
        rcases or_b (a0.N == 0) with hb_8 | hb_8
        · rw [ifb_t hb_8] at H
          refine sl_skip hK (by decide) (wft hb_8) rfl fun a hK => ?_
          refine sl_skip hK (by decide) (wft hb_8) rfl fun a hK => ?_
          refine sl_skip hK (by decide) (wft hb_8) rfl fun a hK => ?_
          refine sl hK (by decide) rfl rfl (r_pick_t hb_8 hK rfl rfl) fun a hK => ?_
          refine sl hK (by decide) rfl rfl (r_move hK rfl) fun a hK => ?_
          refine sl hK (by decide) rfl rfl (r_fieldAddr Tryd.underlying24 rfl Tryd.sizeOf9 hK rfl) fun a hK => ?_
          refine sl hK (by decide) rfl rfl (r_load Tryd.isAgg9 hK rfl (hS.cell (.head _) rfl)) fun a hK => ?_
          refine sl hK (by decide) rfl rfl (r_sbin hK rfl rfl rfl) fun a hK => ?_
          refine sl hK (by decide) rfl rfl (r_pick hK rfl rfl rfl) fun a hK => ?_
          refine sl hK (by decide) rfl rfl (r_move hK rfl) fun a hK => ?_
          rcases or_b (a0.S.toList == (⟨#[]⟩ : ByteArray).toList) with hb_9 | hb_9
          · rw [ifb_t hb_9] at H
            refine sl hK (by decide) (wtt hb_9) rfl (r_move hK rfl) fun a hK => ?_
            refine sl hK (by decide) rfl rfl (r_pick_t hb_9 hK rfl rfl) fun a hK => ?_
            refine sl hK (by decide) rfl rfl (r_assign hK rfl) fun a hK => ?_
            refine wpList_nil ?_
            obtain rfl := Option.some.inj H
            refine wp_ret ?_
            repeat (first | refine ret_then ?_ | refine ret_block ?_ | refine ret_scope ?_)
            exact ret_1 Tryd.results15 hK (rv_tmp hK rfl) ⟨rfl, hS.bel⟩
          · rw [ifb_f hb_9] at H
            refine sl_skip hK (by decide) (wtf hb_9) rfl fun a hK => ?_
            refine sl hK (by decide) rfl rfl (r_pick_f hb_9 hK rfl rfl) fun a hK => ?_
            refine sl hK (by decide) rfl rfl (r_assign hK rfl) fun a hK => ?_
            refine wpList_nil ?_
            obtain rfl := Option.some.inj H
            refine wp_ret ?_
            repeat (first | refine ret_then ?_ | refine ret_block ?_ | refine ret_scope ?_)
            exact ret_1 Tryd.results15 hK (rv_tmp hK rfl) ⟨rfl, hS.bel⟩
        · rw [ifb_f hb_8] at H
          refine sl hK (by decide) (wff hb_8) rfl (r_fieldAddr Tryd.underlying24 rfl Tryd.sizeOf3 hK rfl) fun a hK => ?_
          refine sl hK (by decide) (wff hb_8) rfl (r_load Tryd.isAgg3 hK rfl (hS.cell (.head _) rfl)) fun a hK => ?_
          refine sl hK (by decide) (wff hb_8) rfl (r_ibin hK rfl rfl rfl) fun a hK => ?_
          refine sl hK (by decide) rfl rfl (r_pick_f hb_8 hK rfl rfl) fun a hK => ?_
          refine sl hK (by decide) rfl rfl (r_move hK rfl) fun a hK => ?_
          rcases or_b (a0.N == 1) with hb_10 | hb_10
          · rw [ifb_t hb_10] at H
            refine sl hK (by decide) (wtt hb_10) rfl (r_fieldAddr Tryd.underlying24 rfl Tryd.sizeOf9 hK rfl) fun a hK => ?_
            refine sl hK (by decide) (wtt hb_10) rfl (r_load Tryd.isAgg9 hK rfl (hS.cell (.head _) rfl)) fun a hK => ?_
            refine sl hK (by decide) (wtt hb_10) rfl (r_sbin hK rfl rfl rfl) fun a hK => ?_
            refine sl hK (by decide) rfl rfl (r_pick_t hb_10 hK rfl rfl) fun a hK => ?_
            refine sl hK (by decide) rfl rfl (r_move hK rfl) fun a hK => ?_
            rcases or_b (a0.S.toList == (⟨#[]⟩ : ByteArray).toList) with hb_11 | hb_11
            · rw [ifb_t hb_11] at H
              refine sl hK (by decide) (wtt hb_11) rfl (r_move hK rfl) fun a hK => ?_
              refine sl hK (by decide) rfl rfl (r_pick_t hb_11 hK rfl rfl) fun a hK => ?_
              refine sl hK (by decide) rfl rfl (r_assign hK rfl) fun a hK => ?_
              refine wpList_nil ?_
              obtain rfl := Option.some.inj H
              refine wp_ret ?_
              repeat (first | refine ret_then ?_ | refine ret_block ?_ | refine ret_scope ?_)
              exact ret_1 Tryd.results15 hK (rv_tmp hK rfl) ⟨rfl, hS.bel⟩
            · rw [ifb_f hb_11] at H
              refine sl_skip hK (by decide) (wtf hb_11) rfl fun a hK => ?_
              refine sl hK (by decide) rfl rfl (r_pick_f hb_11 hK rfl rfl) fun a hK => ?_
              refine sl hK (by decide) rfl rfl (r_assign hK rfl) fun a hK => ?_
              refine wpList_nil ?_
              obtain rfl := Option.some.inj H
              refine wp_ret ?_
              repeat (first | refine ret_then ?_ | refine ret_block ?_ | refine ret_scope ?_)
              exact ret_1 Tryd.results15 hK (rv_tmp hK rfl) ⟨rfl, hS.bel⟩
          · rw [ifb_f hb_10] at H
            refine sl_skip hK (by decide) (wtf hb_10) rfl fun a hK => ?_
            refine sl_skip hK (by decide) (wtf hb_10) rfl fun a hK => ?_
            refine sl_skip hK (by decide) (wtf hb_10) rfl fun a hK => ?_
            refine sl hK (by decide) rfl rfl (r_pick_f hb_10 hK rfl rfl) fun a hK => ?_
            refine sl hK (by decide) rfl rfl (r_move hK rfl) fun a hK => ?_
            refine sl_skip hK (by decide) rfl rfl fun a hK => ?_
            refine sl hK (by decide) rfl rfl (r_pick hK rfl rfl rfl) fun a hK => ?_
            refine sl hK (by decide) rfl rfl (r_assign hK rfl) fun a hK => ?_
            refine wpList_nil ?_
            obtain rfl := Option.some.inj H
            refine wp_ret ?_
            repeat (first | refine ret_then ?_ | refine ret_block ?_ | refine ret_scope ?_)
            exact ret_1 Tryd.results15 hK (rv_tmp hK rfl) ⟨rfl, hS.bel⟩
      · rw [ifb_f hb_7] at H
        refine wp_seq ?_
        refine wp_region_lit ?_
        refine sl hK (by decide) rfl rfl (r_ibin hK rfl rfl rfl) fun a hK => ?_
        refine sl hK (by decide) rfl rfl (r_assign hK rfl) fun a hK => ?_
        refine wpList_nil ?_
        refine wp_cond_split (hK.ev rfl) (fun (hb_12 : (a0.Kind == 4) = true) => ?_) (fun (hb_12 : (a0.Kind == 4) = false) => ?_)
        · rw [ifb_t hb_12] at H
          refine wp_seq ?_
          refine wp_region_lit ?_
          refine sl hK (by decide) rfl rfl (r_fieldAddr Tryd.underlying24 rfl Tryd.sizeOf3 hK rfl) fun a hK => ?_
          refine sl hK (by decide) rfl rfl (r_load Tryd.isAgg3 hK rfl (hS.cell (.head _) rfl)) fun a hK => ?_
          refine sl hK (by decide) rfl rfl (r_ibin hK rfl rfl rfl) fun a hK => ?_
          refine sl hK (by decide) rfl rfl (r_move hK rfl) fun a hK => ?_
          rcases or_b (a0.N == 0) with hb_13 | hb_13
          · rw [ifb_t hb_13] at H
            refine sl hK (by decide) (wtt hb_13) rfl (r_fieldAddr Tryd.underlying24 rfl Tryd.sizeOf9 hK rfl) fun a hK => ?_
            refine sl hK (by decide) (wtt hb_13) rfl (r_load Tryd.isAgg9 hK rfl (hS.cell (.head _) rfl)) fun a hK => ?_
            refine sl hK (by decide) (wtt hb_13) rfl (r_sbin hK rfl rfl rfl) fun a hK => ?_
            refine sl hK (by decide) rfl rfl (r_pick_t hb_13 hK rfl rfl) fun a hK => ?_
            refine sl hK (by decide) rfl rfl (r_assign hK rfl) fun a hK => ?_
            refine wpList_nil ?_
            obtain rfl := Option.some.inj H
            refine wp_ret ?_
            repeat (first | refine ret_then ?_ | refine ret_block ?_ | refine ret_scope ?_)
            exact ret_1 Tryd.results15 hK (rv_tmp hK rfl) ⟨rfl, hS.bel⟩
          · rw [ifb_f hb_13] at H
            refine sl_skip hK (by decide) (wtf hb_13) rfl fun a hK => ?_
            refine sl_skip hK (by decide) (wtf hb_13) rfl fun a hK => ?_
            refine sl_skip hK (by decide) (wtf hb_13) rfl fun a hK => ?_
            refine sl hK (by decide) rfl rfl (r_pick_f hb_13 hK rfl rfl) fun a hK => ?_
            refine sl hK (by decide) rfl rfl (r_assign hK rfl) fun a hK => ?_
            refine wpList_nil ?_
            obtain rfl := Option.some.inj H
            refine wp_ret ?_
            repeat (first | refine ret_then ?_ | refine ret_block ?_ | refine ret_scope ?_)
            exact ret_1 Tryd.results15 hK (rv_tmp hK rfl) ⟨rfl, hS.bel⟩
        · rw [ifb_f hb_12] at H
          refine wp_skip ?_
          refine wp_seq ?_
          refine wp_region_lit ?_
          refine sl hK (by decide) rfl rfl (r_assign hK rfl) fun a hK => ?_
          refine wpList_nil ?_
          obtain rfl := Option.some.inj H
          refine wp_ret ?_
          repeat (first | refine ret_then ?_ | refine ret_block ?_ | refine ret_scope ?_)
          exact ret_1 Tryd.results15 hK (rv_tmp hK rfl) ⟨rfl, hS.bel⟩

/-! ### catchment/catchmentref01.Add: function 23 -/
set_option maxHeartbeats 4000000 in
set_option maxRecDepth 100000 in
theorem ref01_Add.calls (a0 : api_Value) (a1 : api_Value) {r : api_Value × Int} (H : ref01_Add a0 a1 = some r) (w0 : World) : CallsV Tryd.prog 23 #[.agg #[.int .i64 a0.Kind, .int .i64 a0.N, .string a0.S, .int .i64 a0.H.a0, .int .i64 a0.H.a1, .int .i64 a0.H.a2, .int .i64 a0.H.a3, .int .i64 a0.H.a4, .int .i64 a0.H.a5, .int .i64 a0.H.a6, .int .i64 a0.H.a7], .agg #[.int .i64 a1.Kind, .int .i64 a1.N, .string a1.S, .int .i64 a1.H.a0, .int .i64 a1.H.a1, .int .i64 a1.H.a2, .int .i64 a1.H.a3, .int .i64 a1.H.a4, .int .i64 a1.H.a5, .int .i64 a1.H.a6, .int .i64 a1.H.a7]] w0 (.tuple #[.agg #[.int .i64 r.1.Kind, .int .i64 r.1.N, .string r.1.S, .int .i64 r.1.H.a0, .int .i64 r.1.H.a1, .int .i64 r.1.H.a2, .int .i64 r.1.H.a3, .int .i64 r.1.H.a4, .int .i64 r.1.H.a5, .int .i64 r.1.H.a6, .int .i64 r.1.H.a7], .int .i64 r.2]) := by
  unfold ref01_Add at H
  refine enter (args := [.agg #[.int .i64 a0.Kind, .int .i64 a0.N, .string a0.S, .int .i64 a0.H.a0, .int .i64 a0.H.a1, .int .i64 a0.H.a2, .int .i64 a0.H.a3, .int .i64 a0.H.a4, .int .i64 a0.H.a5, .int .i64 a0.H.a6, .int .i64 a0.H.a7], .agg #[.int .i64 a1.Kind, .int .i64 a1.N, .string a1.S, .int .i64 a1.H.a0, .int .i64 a1.H.a1, .int .i64 a1.H.a2, .int .i64 a1.H.a3, .int .i64 a1.H.a4, .int .i64 a1.H.a5, .int .i64 a1.H.a6, .int .i64 a1.H.a7]]) Tryd.func23 rfl Tryd.ntmps23 rfl fun a hK => ?_
  have hS := St.init (R := fun _ => none) (w := w0) (fun _ _ h => by cases h)
  have hRL := RLe.refl (M := []) w0 (fun _ => none)
  refine wp_seq ?_
  refine wp_region_lit ?_
  refine sl_box hS hK (by decide) rfl rfl (c := [.int .i64 a0.Kind, .int .i64 a0.N, .string a0.S, .int .i64 a0.H.a0, .int .i64 a0.H.a1, .int .i64 a0.H.a2, .int .i64 a0.H.a3, .int .i64 a0.H.a4, .int .i64 a0.H.a5, .int .i64 a0.H.a6, .int .i64 a0.H.a7]) rfl fun a w b_1 hS hK => ?_
  refine sl_box hS hK (by decide) rfl rfl (c := [.int .i64 a1.Kind, .int .i64 a1.N, .string a1.S, .int .i64 a1.H.a0, .int .i64 a1.H.a1, .int .i64 a1.H.a2, .int .i64 a1.H.a3, .int .i64 a1.H.a4, .int .i64 a1.H.a5, .int .i64 a1.H.a6, .int .i64 a1.H.a7]) rfl fun a w b_2 hS hK => ?_
  refine sl_alloc Tryd.zeroValue24 hS hK (by decide) rfl rfl fun a w b_3 hS hK => ?_
  refine sl hK (by decide) rfl rfl (r_assign hK rfl) fun a hK => ?_
  refine wpList_nil ?_
  refine wp_seq ?_
  refine wp_seq ?_
  refine wp_mid (fun a w => ∃ (x_12 : Bool), ref01_Add.j0 a0 a1 x_12 = some r ∧ Kn 58 a [(2, .pointer (some ⟨b_1, 0, none⟩)), (3, .pointer (some ⟨b_2, 0, none⟩)), (4, .pointer (some ⟨b_3, 0, none⟩)), (32, .bool x_12)] ∧ St [] w0 w (fun _ => none) [.cells b_1 [.int .i64 a0.Kind, .int .i64 a0.N, .string a0.S, .int .i64 a0.H.a0, .int .i64 a0.H.a1, .int .i64 a0.H.a2, .int .i64 a0.H.a3, .int .i64 a0.H.a4, .int .i64 a0.H.a5, .int .i64 a0.H.a6, .int .i64 a0.H.a7] 24, .cells b_2 [.int .i64 a1.Kind, .int .i64 a1.N, .string a1.S, .int .i64 a1.H.a0, .int .i64 a1.H.a1, .int .i64 a1.H.a2, .int .i64 a1.H.a3, .int .i64 a1.H.a4, .int .i64 a1.H.a5, .int .i64 a1.H.a6, .int .i64 a1.H.a7] 24, .cells b_3 [.int .i64 0, .int .i64 0, .string (⟨#[]⟩ : ByteArray), .int .i64 0, .int .i64 0, .int .i64 0, .int .i64 0, .int .i64 0, .int .i64 0, .int .i64 0, .int .i64 0] 24]) ?_ ?_
  · refine wp_region_lit ?_
    refine sl hK (by decide) rfl rfl (r_loadA (cs := [.int .i64 a0.Kind, .int .i64 a0.N, .string a0.S, .int .i64 a0.H.a0, .int .i64 a0.H.a1, .int .i64 a0.H.a2, .int .i64 a0.H.a3, .int .i64 a0.H.a4, .int .i64 a0.H.a5, .int .i64 a0.H.a6, .int .i64 a0.H.a7]) Tryd.isAgg24 Tryd.sizeOf24 rfl hK rfl (hS.cells_of (m := 11) (.tail _ (.tail _ (.head _))) rfl)) fun a hK => ?_
    obtain ⟨y_14, h_15, H⟩ := bind_some H
    refine sl_callV Tryd.call15 hS hK (by decide) rfl rfl rfl (ref01_Valid.calls a0 h_15 _) fun a w hS hK => ?_
    refine sl hK (by decide) rfl rfl (r_un hK rfl (u_not _)) fun a hK => ?_
    refine sl hK (by decide) rfl rfl (r_move hK rfl) fun a hK => ?_
    rcases or_b (!y_14) with hb_16 | hb_16
    · rw [ifb_t hb_16] at H
      refine sl_skip hK (by decide) (wft hb_16) rfl fun a hK => ?_
      refine sl_skip hK (by decide) (wft hb_16) rfl fun a hK => ?_
      refine sl_skip hK (by decide) (wft hb_16) rfl fun a hK => ?_
      refine sl hK (by decide) rfl rfl (r_pick_t hb_16 hK rfl rfl) fun a hK => ?_
      refine sl hK (by decide) rfl rfl (r_move hK rfl) fun a hK => ?_
      refine sl_skip hK (by decide) rfl rfl fun a hK => ?_
      refine sl_skip hK (by decide) rfl rfl fun a hK => ?_
      refine sl_skip hK (by decide) rfl rfl fun a hK => ?_
      refine sl_skip hK (by decide) rfl rfl fun a hK => ?_
      refine sl_skip hK (by decide) rfl rfl fun a hK => ?_
      refine sl hK (by decide) rfl rfl (r_pick hK rfl rfl rfl) fun a hK => ?_
      refine sl hK (by decide) rfl rfl (r_move hK rfl) fun a hK => ?_
      refine sl_skip hK (by decide) rfl rfl fun a hK => ?_
      refine sl_skip hK (by decide) rfl rfl fun a hK => ?_
      refine sl_skip hK (by decide) rfl rfl fun a hK => ?_
      refine sl_skip hK (by decide) rfl rfl fun a hK => ?_
      refine sl_skip hK (by decide) rfl rfl fun a hK => ?_
      refine sl_skip hK (by decide) rfl rfl fun a hK => ?_
      refine sl_skip hK (by decide) rfl rfl fun a hK => ?_
      refine sl_skip hK (by decide) rfl rfl fun a hK => ?_
      refine sl hK (by decide) rfl rfl (r_pick hK rfl rfl rfl) fun a hK => ?_
      refine wpList_nil ?_
      have hS := hS.pk1
      have hS := hS.pk2
      exact ⟨true, H, hK.sub (all_cons rfl (all_cons rfl (all_cons rfl (all_cons rfl (all_nil))))), hS⟩
    · rw [ifb_f hb_16] at H
      refine sl hK (by decide) (wff hb_16) rfl (r_loadA (cs := [.int .i64 a1.Kind, .int .i64 a1.N, .string a1.S, .int .i64 a1.H.a0, .int .i64 a1.H.a1, .int .i64 a1.H.a2, .int .i64 a1.H.a3, .int .i64 a1.H.a4, .int .i64 a1.H.a5, .int .i64 a1.H.a6, .int .i64 a1.H.a7]) Tryd.isAgg24 Tryd.sizeOf24 rfl hK rfl (hS.cells_of (m := 11) (.tail _ (.head _)) rfl)) fun a hK => ?_
      obtain ⟨y_17, h_18, H⟩ := bind_some H
      refine sl_callV Tryd.call15 hS hK (by decide) (wff hb_16) rfl rfl (ref01_Valid.calls a1 h_18 _) fun a w hS hK => ?_
      refine sl hK (by decide) (wff hb_16) rfl (r_un hK rfl (u_not _)) fun a hK => ?_
      refine sl hK (by decide) rfl rfl (r_pick_f hb_16 hK rfl rfl) fun a hK => ?_
      refine sl hK (by decide) rfl rfl (r_move hK rfl) fun a hK => ?_
      rcases or_b (!y_17) with hb_19 | hb_19
      · rw [ifb_t hb_19] at H
        refine sl_skip hK (by decide) (wft hb_19) rfl fun a hK => ?_
        refine sl_skip hK (by decide) (wft hb_19) rfl fun a hK => ?_
        refine sl_skip hK (by decide) (wft hb_19) rfl fun a hK => ?_
        refine sl_skip hK (by decide) (wft hb_19) rfl fun a hK => ?_
        refine sl_skip hK (by decide) (wft hb_19) rfl fun a hK => ?_
        refine sl hK (by decide) rfl rfl (r_pick_t hb_19 hK rfl rfl) fun a hK => ?_
        refine sl hK (by decide) rfl rfl (r_move hK rfl) fun a hK => ?_
        refine sl_skip hK (by decide) rfl rfl fun a hK => ?_
        refine sl_skip hK (by decide) rfl rfl fun a hK => ?_
        refine sl_skip hK (by decide) rfl rfl fun a hK => ?_
        refine sl_skip hK (by decide) rfl rfl fun a hK => ?_
        refine sl_skip hK (by decide) rfl rfl fun a hK => ?_
        refine sl_skip hK (by decide) rfl rfl fun a hK => ?_
        refine sl_skip hK (by decide) rfl rfl fun a hK => ?_
        refine sl_skip hK (by decide) rfl rfl fun a hK => ?_
        refine sl hK (by decide) rfl rfl (r_pick hK rfl rfl rfl) fun a hK => ?_
        refine wpList_nil ?_
        have hS := hS.pk1
        have hS := hS.pk2
        exact ⟨true, H, hK.sub (all_cons rfl (all_cons rfl (all_cons rfl (all_cons rfl (all_nil))))), hS⟩
      · rw [ifb_f hb_19] at H
        refine sl hK (by decide) (wff hb_19) rfl (r_fieldAddr Tryd.underlying24 rfl Tryd.sizeOf3 hK rfl) fun a hK => ?_
        refine sl hK (by decide) (wff hb_19) rfl (r_load Tryd.isAgg3 hK rfl (hS.cell (.tail _ (.tail _ (.head _))) rfl)) fun a hK => ?_
        refine sl hK (by decide) (wff hb_19) rfl (r_fieldAddr Tryd.underlying24 rfl Tryd.sizeOf3 hK rfl) fun a hK => ?_
        refine sl hK (by decide) (wff hb_19) rfl (r_load Tryd.isAgg3 hK rfl (hS.cell (.tail _ (.head _)) rfl)) fun a hK => ?_
        refine sl hK (by decide) (wff hb_19) rfl (r_ibin hK rfl rfl rfl) fun a hK => ?_
        refine sl hK (by decide) rfl rfl (r_pick_f hb_19 hK rfl rfl) fun a hK => ?_
        refine sl hK (by decide) rfl rfl (r_move hK rfl) fun a hK => ?_
        rcases or_b (a0.Kind != a1.Kind) with hb_20 | hb_20
        · rw [ifb_t hb_20] at H
          refine sl_skip hK (by decide) (wft hb_20) rfl fun a hK => ?_
          refine sl_skip hK (by decide) (wft hb_20) rfl fun a hK => ?_
          refine sl_skip hK (by decide) (wft hb_20) rfl fun a hK => ?_
          refine sl_skip hK (by decide) (wft hb_20) rfl fun a hK => ?_
          refine sl_skip hK (by decide) rfl rfl fun a hK => ?_
          refine sl_skip hK (by decide) rfl rfl fun a hK => ?_
          refine sl_skip hK (by decide) rfl rfl fun a hK => ?_
          refine sl_skip hK (by decide) (wft hb_20) rfl fun a hK => ?_
          refine sl hK (by decide) rfl rfl (r_pick_t hb_20 hK rfl rfl) fun a hK => ?_
          refine wpList_nil ?_
          have hS := hS.pk1
          have hS := hS.pk2
          exact ⟨true, H, hK.sub (all_cons rfl (all_cons rfl (all_cons rfl (all_cons rfl (all_nil))))), hS⟩
        · rw [ifb_f hb_20] at H
          refine sl hK (by decide) (wff hb_20) rfl (r_fieldAddr Tryd.underlying24 rfl Tryd.sizeOf3 hK rfl) fun a hK => ?_
          refine sl hK (by decide) (wff hb_20) rfl (r_load Tryd.isAgg3 hK rfl (hS.cell (.tail _ (.tail _ (.head _))) rfl)) fun a hK => ?_
          refine sl hK (by decide) (wff hb_20) rfl (r_ibin hK rfl rfl rfl) fun a hK => ?_
          refine sl hK (by decide) (wff hb_20) rfl (r_move hK rfl) fun a hK => ?_
          rcases or_b (a0.Kind != 1) with hb_21 | hb_21
          · rw [ifb_t hb_21] at H
            refine sl hK (by decide) (wtt hb_21) rfl (r_fieldAddr Tryd.underlying24 rfl Tryd.sizeOf3 hK rfl) fun a hK => ?_
            refine sl hK (by decide) (wtt hb_21) rfl (r_load Tryd.isAgg3 hK rfl (hS.cell (.tail _ (.tail _ (.head _))) rfl)) fun a hK => ?_
            refine sl hK (by decide) (wtt hb_21) rfl (r_ibin hK rfl rfl rfl) fun a hK => ?_
            refine sl hK (by decide) (wff hb_20) rfl (r_pick_t hb_21 hK rfl rfl) fun a hK => ?_
            refine sl hK (by decide) rfl rfl (r_pick_f hb_20 hK rfl rfl) fun a hK => ?_
            refine wpList_nil ?_
            have hS := hS.pk1
            have hS := hS.pk2
            exact ⟨(a0.Kind != 4), H, hK.sub (all_cons rfl (all_cons rfl (all_cons rfl (all_cons rfl (all_nil))))), hS⟩
          · rw [ifb_f hb_21] at H
            refine sl_skip hK (by decide) (wtf hb_21) rfl fun a hK => ?_
            refine sl_skip hK (by decide) (wtf hb_21) rfl fun a hK => ?_
            refine sl_skip hK (by decide) (wtf hb_21) rfl fun a hK => ?_
            refine sl hK (by decide) (wff hb_20) rfl (r_pick_f hb_21 hK rfl rfl) fun a hK => ?_
            refine sl hK (by decide) rfl rfl (r_pick_f hb_20 hK rfl rfl) fun a hK => ?_
            refine wpList_nil ?_
            have hS := hS.pk1
            have hS := hS.pk2
            exact ⟨false, H, hK.sub (all_cons rfl (all_cons rfl (all_cons rfl (all_cons rfl (all_nil))))), hS⟩
  · rintro a w ⟨x_12, H, hK, hS⟩
    unfold ref01_Add.j0 at H
    refine wp_cond_split (hK.ev rfl) (fun (hb_22 : x_12 = true) => ?_) (fun (hb_22 : x_12 = false) => ?_)
    · rw [ifb_t hb_22] at H
      refine wp_seq ?_
      refine wp_region_lit ?_
      refine sl hK (by decide) rfl rfl (r_buildC (ps := []) (c := [.int .i64 0, .int .i64 0, .string (⟨#[]⟩ : ByteArray), .int .i64 0, .int .i64 0, .int .i64 0, .int .i64 0, .int .i64 0, .int .i64 0, .int .i64 0, .int .i64 0]) Tryd.underlying24 Tryd.zeroValue24 places24 hK rfl pc_nil rfl rfl) fun a hK => ?_
      have hS := hS.pk2
      refine sl_storeA (vs := [.int .i64 0, .int .i64 0, .string (⟨#[]⟩ : ByteArray), .int .i64 0, .int .i64 0, .int .i64 0, .int .i64 0, .int .i64 0, .int .i64 0, .int .i64 0, .int .i64 0]) (c' := [.int .i64 0, .int .i64 0, .string (⟨#[]⟩ : ByteArray), .int .i64 0, .int .i64 0, .int .i64 0, .int .i64 0, .int .i64 0, .int .i64 0, .int .i64 0, .int .i64 0]) Tryd.sizeOf24 hS hK rfl rfl rfl rfl (all_cons rfl (all_cons rfl (all_cons rfl (all_cons rfl (all_cons rfl (all_cons rfl (all_cons rfl (all_cons rfl (all_cons rfl (all_cons rfl (all_cons rfl (all_nil)))))))))))) (Nat.le_of_ble_eq_true rfl) rfl fun a w hS hK => ?_
      refine sl hK (by decide) rfl rfl (r_assign hK rfl) fun a hK => ?_
      refine wpList_nil ?_
      obtain rfl := Option.some.inj H
      refine wp_ret ?_
      repeat (first | refine ret_then ?_ | refine ret_block ?_ | refine ret_scope ?_)
      exact ret_2 Tryd.results23 hK (rv_cell (c := [.int .i64 0, .int .i64 0, .string (⟨#[]⟩ : ByteArray), .int .i64 0, .int .i64 0, .int .i64 0, .int .i64 0, .int .i64 0, .int .i64 0, .int .i64 0, .int .i64 0]) Tryd.isAgg24 Tryd.sizeOf24 hS (.head _) rfl hK rfl) (rv_tmp hK rfl) ⟨rfl, hS.bel⟩
    · rw [ifb_f hb_22] at H
      refine wp_skip ?_
      refine wp_seq ?_
      refine wp_region_lit ?_
      refine sl hK (by decide) rfl rfl (r_loadA (cs := [.int .i64 a0.Kind, .int .i64 a0.N, .string a0.S, .int .i64 a0.H.a0, .int .i64 a0.H.a1, .int .i64 a0.H.a2, .int .i64 a0.H.a3, .int .i64 a0.H.a4, .int .i64 a0.H.a5, .int .i64 a0.H.a6, .int .i64 a0.H.a7]) Tryd.isAgg24 Tryd.sizeOf24 rfl hK rfl (hS.cells_of (m := 11) (.head _) rfl)) fun a hK => ?_
      refine sl_alloc Tryd.zeroValue24 hS hK (by decide) rfl rfl fun a w b_23 hS hK => ?_
      refine sl_storeA (vs := [.int .i64 a0.Kind, .int .i64 a0.N, .string a0.S, .int .i64 a0.H.a0, .int .i64 a0.H.a1, .int .i64 a0.H.a2, .int .i64 a0.H.a3, .int .i64 a0.H.a4, .int .i64 a0.H.a5, .int .i64 a0.H.a6, .int .i64 a0.H.a7]) (c' := [.int .i64 a0.Kind, .int .i64 a0.N, .string a0.S, .int .i64 a0.H.a0, .int .i64 a0.H.a1, .int .i64 a0.H.a2, .int .i64 a0.H.a3, .int .i64 a0.H.a4, .int .i64 a0.H.a5, .int .i64 a0.H.a6, .int .i64 a0.H.a7]) Tryd.sizeOf24 hS hK rfl rfl rfl rfl (all_cons rfl (all_cons rfl (all_cons rfl (all_cons rfl (all_cons rfl (all_cons rfl (all_cons rfl (all_cons rfl (all_cons rfl (all_cons rfl (all_cons rfl (all_nil)))))))))))) (Nat.le_of_ble_eq_true rfl) rfl fun a w hS hK => ?_
      refine wpList_nil ?_
      refine wp_seq ?_
      refine wp_region_lit ?_
      refine sl hK (by decide) rfl rfl (r_fieldAddr Tryd.underlying24 rfl Tryd.sizeOf3 hK rfl) fun a hK => ?_
      refine sl hK (by decide) rfl rfl (r_load Tryd.isAgg3 hK rfl (hS.cell (.tail _ (.head _)) rfl)) fun a hK => ?_
      refine sl hK (by decide) rfl rfl (r_fieldAddr Tryd.underlying24 rfl Tryd.sizeOf3 hK rfl) fun a hK => ?_
      refine sl hK (by decide) rfl rfl (r_load Tryd.isAgg3 hK rfl (hS.cell (.tail _ (.tail _ (.head _))) rfl)) fun a hK => ?_
      refine sl hK (by decide) rfl rfl (r_ibin hK rfl rfl rfl) fun a hK => ?_
      refine sl hK (by decide) rfl rfl (r_fieldAddr Tryd.underlying24 rfl Tryd.sizeOf3 hK rfl) fun a hK => ?_
      refine sl_store1 (c' := [.int .i64 a0.Kind, .int .i64 (IntKind.i64.wrap (a0.N + a1.N)), .string a0.S, .int .i64 a0.H.a0, .int .i64 a0.H.a1, .int .i64 a0.H.a2, .int .i64 a0.H.a3, .int .i64 a0.H.a4, .int .i64 a0.H.a5, .int .i64 a0.H.a6, .int .i64 a0.H.a7]) Tryd.sizeOf3 hS hK rfl rfl rfl rfl (Nat.le_of_ble_eq_true rfl) rfl fun a w hS hK => ?_
      refine wpList_nil ?_
      refine wp_seq ?_
      refine wp_seq ?_
      refine wp_region_lit ?_
      refine sl hK (by decide) rfl rfl (r_assign hK rfl) fun a hK => ?_
      refine wpList_nil ?_
      refine wp_block ?_
      refine wp_loop_k (fun k_l1 a w => ∃ (x_25 : Arr8) (x_26 : Int), ref01_Add.l1 a0 a1 k_l1 x_25 x_26 = some r ∧ Kn 58 a [(2, .pointer (some ⟨b_1, 0, none⟩)), (3, .pointer (some ⟨b_2, 0, none⟩)), (4, .pointer (some ⟨b_3, 0, none⟩)), (6, .pointer (some ⟨b_23, 0, none⟩)), (7, .int .i64 x_26)] ∧ St [] w0 w (fun _ => none) [.cells b_1 [.int .i64 a0.Kind, .int .i64 a0.N, .string a0.S, .int .i64 a0.H.a0, .int .i64 a0.H.a1, .int .i64 a0.H.a2, .int .i64 a0.H.a3, .int .i64 a0.H.a4, .int .i64 a0.H.a5, .int .i64 a0.H.a6, .int .i64 a0.H.a7] 24, .cells b_2 [.int .i64 a1.Kind, .int .i64 a1.N, .string a1.S, .int .i64 a1.H.a0, .int .i64 a1.H.a1, .int .i64 a1.H.a2, .int .i64 a1.H.a3, .int .i64 a1.H.a4, .int .i64 a1.H.a5, .int .i64 a1.H.a6, .int .i64 a1.H.a7] 24, .cells b_3 [.int .i64 0, .int .i64 0, .string (⟨#[]⟩ : ByteArray), .int .i64 0, .int .i64 0, .int .i64 0, .int .i64 0, .int .i64 0, .int .i64 0, .int .i64 0, .int .i64 0] 24, .cells b_23 [.int .i64 a0.Kind, .int .i64 (IntKind.i64.wrap (a0.N + a1.N)), .string a0.S, .int .i64 x_25.a0, .int .i64 x_25.a1, .int .i64 x_25.a2, .int .i64 x_25.a3, .int .i64 x_25.a4, .int .i64 x_25.a5, .int .i64 x_25.a6, .int .i64 x_25.a7] 24]) (((8 : Int) - 0).toNat + 1) ?_ ?_
      · have hS := hS.pk3
        have hS := hS.pk3
        have hS := hS.pk3
        exact ⟨a0.H, 0, H, hK.sub (all_cons rfl (all_cons rfl (all_cons rfl (all_cons rfl (all_cons rfl (all_nil)))))), hS⟩
      · rintro k_l1 a w ⟨x_25, x_26, H, hK, hS⟩
        cases k_l1 with
        | zero => cases H
        | succ k_l1 =>
        rw [ref01_Add.l1.eq_2] at H
        refine wp_seq ?_
        refine wp_seq ?_
        refine wp_region_lit ?_
        refine sl hK (by decide) rfl rfl (r_move hK rfl) fun a hK => ?_
        refine sl hK (by decide) rfl rfl (r_ibin hK rfl rfl rfl) fun a hK => ?_
        refine wpList_nil ?_
        refine wp_cond_split (hK.ev rfl) (fun (hb_45 : (decide (x_26 < 8)) = true) => ?_) (fun (hb_45 : (decide (x_26 < 8)) = false) => ?_)
        · rw [ifb_t hb_45] at H
          refine wp_skip ?_
          refine wp_seq ?_
          refine wp_block ?_
          refine parT_region (C := fun w => St [] w0 w (fun _ => none) [.cells b_1 [.int .i64 a0.Kind, .int .i64 a0.N, .string a0.S, .int .i64 a0.H.a0, .int .i64 a0.H.a1, .int .i64 a0.H.a2, .int .i64 a0.H.a3, .int .i64 a0.H.a4, .int .i64 a0.H.a5, .int .i64 a0.H.a6, .int .i64 a0.H.a7] 24, .cells b_2 [.int .i64 a1.Kind, .int .i64 a1.N, .string a1.S, .int .i64 a1.H.a0, .int .i64 a1.H.a1, .int .i64 a1.H.a2, .int .i64 a1.H.a3, .int .i64 a1.H.a4, .int .i64 a1.H.a5, .int .i64 a1.H.a6, .int .i64 a1.H.a7] 24, .cells b_3 [.int .i64 0, .int .i64 0, .string (⟨#[]⟩ : ByteArray), .int .i64 0, .int .i64 0, .int .i64 0, .int .i64 0, .int .i64 0, .int .i64 0, .int .i64 0, .int .i64 0] 24, .cells b_23 [.int .i64 a0.Kind, .int .i64 (IntKind.i64.wrap (a0.N + a1.N)), .string a0.S, .int .i64 x_25.a0, .int .i64 x_25.a1, .int .i64 x_25.a2, .int .i64 x_25.a3, .int .i64 x_25.a4, .int .i64 x_25.a5, .int .i64 x_25.a6, .int .i64 x_25.a7] 24]) 11 [(0, true), (1, true), (2, true), (3, true), (4, true), (5, true), (6, true), (7, true), (8, true), (9, true), (10, true)] mixed (by kernel_rfl) hS (fun w hS => hS) fun w hS => ?_
          refine sp (k := 0) rfl hK (by decide) rfl rfl (fun w hS => r_move hK rfl) fun a hK => ?_
          refine sp (k := 1) rfl hK (by decide) rfl rfl (fun w hS => r_move hK rfl) fun a hK => ?_
          refine sp (k := 2) rfl hK (by decide) rfl rfl (fun w hS => r_fieldAddr Tryd.underlying24 rfl Tryd.sizeOf22 hK rfl) fun a hK => ?_
          obtain ⟨y_54, h_55, H⟩ := bind_some H
          refine sp (k := 3) rfl hK (by decide) rfl rfl (fun w hS => r_indexAddr_arr Tryd.underlying22 Tryd.sizeOf3 hK rfl rfl (Arr8.ix_lt h_55).1 (Arr8.ix_lt h_55).2) fun a hK => ?_
          refine sp (k := 4) rfl hK (by decide) rfl rfl (fun w hS => r_load Tryd.isAgg3 hK rfl (hS.cell (.head _) (Arr8.ix_cells h_55 [.int .i64 a0.Kind, .int .i64 a0.N, .string a0.S] [] rfl))) fun a hK => ?_
          refine sp (k := 5) rfl hK (by decide) rfl rfl (fun w hS => r_move hK rfl) fun a hK => ?_
          refine sp (k := 6) rfl hK (by decide) rfl rfl (fun w hS => r_fieldAddr Tryd.underlying24 rfl Tryd.sizeOf22 hK rfl) fun a hK => ?_
          obtain ⟨y_56, h_57, H⟩ := bind_some H
          refine sp (k := 7) rfl hK (by decide) rfl rfl (fun w hS => r_indexAddr_arr Tryd.underlying22 Tryd.sizeOf3 hK rfl rfl (Arr8.ix_lt h_57).1 (Arr8.ix_lt h_57).2) fun a hK => ?_
          refine sp (k := 8) rfl hK (by decide) rfl rfl (fun w hS => r_load Tryd.isAgg3 hK rfl (hS.cell (.tail _ (.head _)) (Arr8.ix_cells h_57 [.int .i64 a1.Kind, .int .i64 a1.N, .string a1.S] [] rfl))) fun a hK => ?_
          refine sp (k := 9) rfl hK (by decide) rfl rfl (fun w hS => r_ibin hK rfl rfl rfl) fun a hK => ?_
          refine sp (k := 10) rfl hK (by decide) rfl rfl (fun w hS => r_fieldAddr Tryd.underlying24 rfl Tryd.sizeOf22 hK rfl) fun a hK => ?_
          refine thenL_nil ?_
          obtain ⟨y_58, h_59, H⟩ := bind_some H
          refine sl hK (by decide) rfl rfl (r_indexAddr_arr Tryd.underlying22 Tryd.sizeOf3 hK rfl rfl (Arr8.ix_lt h_59).1 (Arr8.ix_lt h_59).2) fun a hK => ?_
          obtain ⟨y_60, h_61, H⟩ := bind_some H
          have hS := hS.pk3
          refine sl_store1 (c' := [.int .i64 a0.Kind, .int .i64 (IntKind.i64.wrap (a0.N + a1.N)), .string a0.S, .int .i64 y_60.a0, .int .i64 y_60.a1, .int .i64 y_60.a2, .int .i64 y_60.a3, .int .i64 y_60.a4, .int .i64 y_60.a5, .int .i64 y_60.a6, .int .i64 y_60.a7]) Tryd.sizeOf3 hS hK rfl rfl rfl rfl (Arr8.put_lt h_61 (Nat.le_of_ble_eq_true rfl)) (Arr8.put_cells h_61 [.int .i64 a0.Kind, .int .i64 (IntKind.i64.wrap (a0.N + a1.N)), .string a0.S] [] rfl) fun a w hS hK => ?_
          refine wpList_nil (NoP_nil ?_)
          refine wp_region_lit ?_
          refine sl hK (by decide) rfl rfl (r_move hK rfl) fun a hK => ?_
          refine sl hK (by decide) rfl rfl (r_ibin hK rfl rfl rfl) fun a hK => ?_
          refine sl hK (by decide) rfl rfl (r_assign hK rfl) fun a hK => ?_
          refine wpList_nil ?_
          have hS := hS.pk3
          have hS := hS.pk3
          have hS := hS.pk3
          exact ⟨_, Nat.lt_succ_self _, y_60, (IntKind.i64.wrap (x_26 + 1)), H, hK.sub (all_cons rfl (all_cons rfl (all_cons rfl (all_cons rfl (all_cons rfl (all_nil)))))), hS⟩
        · rw [ifb_f hb_45] at H
          refine wp_exit ?_
          refine wp_seq ?_
          refine wp_region_lit ?_
          refine sl hK (by decide) rfl rfl (r_loadA (cs := [.int .i64 a0.Kind, .int .i64 (IntKind.i64.wrap (a0.N + a1.N)), .string a0.S, .int .i64 x_25.a0, .int .i64 x_25.a1, .int .i64 x_25.a2, .int .i64 x_25.a3, .int .i64 x_25.a4, .int .i64 x_25.a5, .int .i64 x_25.a6, .int .i64 x_25.a7]) Tryd.isAgg24 Tryd.sizeOf24 rfl hK rfl (hS.cells_of (m := 11) (.tail _ (.tail _ (.tail _ (.head _)))) rfl)) fun a hK => ?_
          have hS := hS.pk2
          refine sl_storeA (vs := [.int .i64 a0.Kind, .int .i64 (IntKind.i64.wrap (a0.N + a1.N)), .string a0.S, .int .i64 x_25.a0, .int .i64 x_25.a1, .int .i64 x_25.a2, .int .i64 x_25.a3, .int .i64 x_25.a4, .int .i64 x_25.a5, .int .i64 x_25.a6, .int .i64 x_25.a7]) (c' := [.int .i64 a0.Kind, .int .i64 (IntKind.i64.wrap (a0.N + a1.N)), .string a0.S, .int .i64 x_25.a0, .int .i64 x_25.a1, .int .i64 x_25.a2, .int .i64 x_25.a3, .int .i64 x_25.a4, .int .i64 x_25.a5, .int .i64 x_25.a6, .int .i64 x_25.a7]) Tryd.sizeOf24 hS hK rfl rfl rfl rfl (all_cons rfl (all_cons rfl (all_cons rfl (all_cons rfl (all_cons rfl (all_cons rfl (all_cons rfl (all_cons rfl (all_cons rfl (all_cons rfl (all_cons rfl (all_nil)))))))))))) (Nat.le_of_ble_eq_true rfl) rfl fun a w hS hK => ?_
          refine sl hK (by decide) rfl rfl (r_assign hK rfl) fun a hK => ?_
          refine wpList_nil ?_
          obtain rfl := Option.some.inj H
          refine wp_ret ?_
          repeat (first | refine ret_then ?_ | refine ret_block ?_ | refine ret_scope ?_)
          exact ret_2 Tryd.results23 hK (rv_cell (c := [.int .i64 a0.Kind, .int .i64 (IntKind.i64.wrap (a0.N + a1.N)), .string a0.S, .int .i64 x_25.a0, .int .i64 x_25.a1, .int .i64 x_25.a2, .int .i64 x_25.a3, .int .i64 x_25.a4, .int .i64 x_25.a5, .int .i64 x_25.a6, .int .i64 x_25.a7]) Tryd.isAgg24 Tryd.sizeOf24 hS (.head _) rfl hK rfl) (rv_tmp hK rfl) ⟨rfl, hS.bel⟩

/-! ### catchment/catchmentlaw01.ValueAdds: function 6 -/
set_option maxHeartbeats 4000000 in
set_option maxRecDepth 100000 in
theorem law01_ValueAdds.calls (a0 : api_Value) (a1 : api_Value) {w0 : World} {RA : Hp} (hRA : RA.sub w0) (hG : GF RA) (H : law01_ValueAdds a0 a1 = some true) : CallsV Tryd.prog 6 #[.agg #[.int .i64 a0.Kind, .int .i64 a0.N, .string a0.S, .int .i64 a0.H.a0, .int .i64 a0.H.a1, .int .i64 a0.H.a2, .int .i64 a0.H.a3, .int .i64 a0.H.a4, .int .i64 a0.H.a5, .int .i64 a0.H.a6, .int .i64 a0.H.a7], .agg #[.int .i64 a1.Kind, .int .i64 a1.N, .string a1.S, .int .i64 a1.H.a0, .int .i64 a1.H.a1, .int .i64 a1.H.a2, .int .i64 a1.H.a3, .int .i64 a1.H.a4, .int .i64 a1.H.a5, .int .i64 a1.H.a6, .int .i64 a1.H.a7]] w0 (.bool true) := by
  unfold law01_ValueAdds at H
  refine enter (args := [.agg #[.int .i64 a0.Kind, .int .i64 a0.N, .string a0.S, .int .i64 a0.H.a0, .int .i64 a0.H.a1, .int .i64 a0.H.a2, .int .i64 a0.H.a3, .int .i64 a0.H.a4, .int .i64 a0.H.a5, .int .i64 a0.H.a6, .int .i64 a0.H.a7], .agg #[.int .i64 a1.Kind, .int .i64 a1.N, .string a1.S, .int .i64 a1.H.a0, .int .i64 a1.H.a1, .int .i64 a1.H.a2, .int .i64 a1.H.a3, .int .i64 a1.H.a4, .int .i64 a1.H.a5, .int .i64 a1.H.a6, .int .i64 a1.H.a7]]) Tryd.func6 rfl Tryd.ntmps6 rfl fun a hK => ?_
  have hS := St.init (R := fun _ => none) (w := w0) (fun _ _ h => by cases h)
  have hRL := RLe.refl (M := []) w0 (fun _ => none)
  refine wp_seq ?_
  refine wp_region_lit ?_
  refine sl_box hS hK (by decide) rfl rfl (c := [.int .i64 a0.Kind, .int .i64 a0.N, .string a0.S, .int .i64 a0.H.a0, .int .i64 a0.H.a1, .int .i64 a0.H.a2, .int .i64 a0.H.a3, .int .i64 a0.H.a4, .int .i64 a0.H.a5, .int .i64 a0.H.a6, .int .i64 a0.H.a7]) rfl fun a w b_1 hS hK => ?_
  refine sl_box hS hK (by decide) rfl rfl (c := [.int .i64 a1.Kind, .int .i64 a1.N, .string a1.S, .int .i64 a1.H.a0, .int .i64 a1.H.a1, .int .i64 a1.H.a2, .int .i64 a1.H.a3, .int .i64 a1.H.a4, .int .i64 a1.H.a5, .int .i64 a1.H.a6, .int .i64 a1.H.a7]) rfl fun a w b_2 hS hK => ?_
  refine sl hK (by decide) rfl rfl (r_assign hK rfl) fun a hK => ?_
  refine wpList_nil ?_
  refine wp_seq ?_
  refine wp_region_lit ?_
  obtain ⟨y_3, h_4, H⟩ := bind_some H
  refine sl_callV Tryd.call13 hS hK (by decide) rfl rfl rfl (law01_shown.calls (lentOf_sub [] _) (GF.mono (hS.raLe0 hRA nil_not) hG) h_4) fun a w hS hK => ?_
  refine sl hK (by decide) rfl rfl (r_assign hK rfl) fun a hK => ?_
  refine wpList_nil ?_
  refine wp_seq ?_
  refine wp_region_lit ?_
  refine sl hK (by decide) rfl rfl (r_loadA (cs := [.int .i64 a0.Kind, .int .i64 a0.N, .string a0.S, .int .i64 a0.H.a0, .int .i64 a0.H.a1, .int .i64 a0.H.a2, .int .i64 a0.H.a3, .int .i64 a0.H.a4, .int .i64 a0.H.a5, .int .i64 a0.H.a6, .int .i64 a0.H.a7]) Tryd.isAgg24 Tryd.sizeOf24 rfl hK rfl (hS.cells_of (m := 11) (.tail _ (.head _)) rfl)) fun a hK => ?_
  refine sl hK (by decide) rfl rfl (r_loadA (cs := [.int .i64 a1.Kind, .int .i64 a1.N, .string a1.S, .int .i64 a1.H.a0, .int .i64 a1.H.a1, .int .i64 a1.H.a2, .int .i64 a1.H.a3, .int .i64 a1.H.a4, .int .i64 a1.H.a5, .int .i64 a1.H.a6, .int .i64 a1.H.a7]) Tryd.isAgg24 Tryd.sizeOf24 rfl hK rfl (hS.cells_of (m := 11) (.head _) rfl)) fun a hK => ?_
  obtain ⟨y_5, h_6, H⟩ := bind_some H
  refine sl_callV Tryd.call22 hS hK (by decide) rfl rfl rfl (value_Add.calls a0 a1 h_6 _) fun a w hS hK => ?_
  refine sl hK (by decide) rfl rfl (r_move hK rfl) fun a hK => ?_
  refine sl hK (by decide) rfl rfl (r_extract hK rfl rfl) fun a hK => ?_
  refine sl hK (by decide) rfl rfl (r_extract hK rfl rfl) fun a hK => ?_
  refine sl_alloc Tryd.zeroValue24 hS hK (by decide) rfl rfl fun a w b_7 hS hK => ?_
  refine sl_storeA (vs := [.int .i64 y_5.1.Kind, .int .i64 y_5.1.N, .string y_5.1.S, .int .i64 y_5.1.H.a0, .int .i64 y_5.1.H.a1, .int .i64 y_5.1.H.a2, .int .i64 y_5.1.H.a3, .int .i64 y_5.1.H.a4, .int .i64 y_5.1.H.a5, .int .i64 y_5.1.H.a6, .int .i64 y_5.1.H.a7]) (c' := [.int .i64 y_5.1.Kind, .int .i64 y_5.1.N, .string y_5.1.S, .int .i64 y_5.1.H.a0, .int .i64 y_5.1.H.a1, .int .i64 y_5.1.H.a2, .int .i64 y_5.1.H.a3, .int .i64 y_5.1.H.a4, .int .i64 y_5.1.H.a5, .int .i64 y_5.1.H.a6, .int .i64 y_5.1.H.a7]) Tryd.sizeOf24 hS hK rfl rfl rfl rfl (all_cons rfl (all_cons rfl (all_cons rfl (all_cons rfl (all_cons rfl (all_cons rfl (all_cons rfl (all_cons rfl (all_cons rfl (all_cons rfl (all_cons rfl (all_nil)))))))))))) (Nat.le_of_ble_eq_true rfl) rfl fun a w hS hK => ?_
  refine sl hK (by decide) rfl rfl (r_assign hK rfl) fun a hK => ?_
  refine wpList_nil ?_
  refine wp_seq ?_
  refine wp_region_lit ?_
  refine sl hK (by decide) rfl rfl (r_loadA (cs := [.int .i64 a0.Kind, .int .i64 a0.N, .string a0.S, .int .i64 a0.H.a0, .int .i64 a0.H.a1, .int .i64 a0.H.a2, .int .i64 a0.H.a3, .int .i64 a0.H.a4, .int .i64 a0.H.a5, .int .i64 a0.H.a6, .int .i64 a0.H.a7]) Tryd.isAgg24 Tryd.sizeOf24 rfl hK rfl (hS.cells_of (m := 11) (.tail _ (.tail _ (.head _))) rfl)) fun a hK => ?_
  refine sl hK (by decide) rfl rfl (r_loadA (cs := [.int .i64 a1.Kind, .int .i64 a1.N, .string a1.S, .int .i64 a1.H.a0, .int .i64 a1.H.a1, .int .i64 a1.H.a2, .int .i64 a1.H.a3, .int .i64 a1.H.a4, .int .i64 a1.H.a5, .int .i64 a1.H.a6, .int .i64 a1.H.a7]) Tryd.isAgg24 Tryd.sizeOf24 rfl hK rfl (hS.cells_of (m := 11) (.tail _ (.head _)) rfl)) fun a hK => ?_
  obtain ⟨y_8, h_9, H⟩ := bind_some H
  refine sl_callV Tryd.call23 hS hK (by decide) rfl rfl rfl (ref01_Add.calls a0 a1 h_9 _) fun a w hS hK => ?_
  refine sl hK (by decide) rfl rfl (r_move hK rfl) fun a hK => ?_
  refine sl hK (by decide) rfl rfl (r_extract hK rfl rfl) fun a hK => ?_
  refine sl hK (by decide) rfl rfl (r_extract hK rfl rfl) fun a hK => ?_
  refine sl_alloc Tryd.zeroValue24 hS hK (by decide) rfl rfl fun a w b_10 hS hK => ?_
  refine sl_storeA (vs := [.int .i64 y_8.1.Kind, .int .i64 y_8.1.N, .string y_8.1.S, .int .i64 y_8.1.H.a0, .int .i64 y_8.1.H.a1, .int .i64 y_8.1.H.a2, .int .i64 y_8.1.H.a3, .int .i64 y_8.1.H.a4, .int .i64 y_8.1.H.a5, .int .i64 y_8.1.H.a6, .int .i64 y_8.1.H.a7]) (c' := [.int .i64 y_8.1.Kind, .int .i64 y_8.1.N, .string y_8.1.S, .int .i64 y_8.1.H.a0, .int .i64 y_8.1.H.a1, .int .i64 y_8.1.H.a2, .int .i64 y_8.1.H.a3, .int .i64 y_8.1.H.a4, .int .i64 y_8.1.H.a5, .int .i64 y_8.1.H.a6, .int .i64 y_8.1.H.a7]) Tryd.sizeOf24 hS hK rfl rfl rfl rfl (all_cons rfl (all_cons rfl (all_cons rfl (all_cons rfl (all_cons rfl (all_cons rfl (all_cons rfl (all_cons rfl (all_cons rfl (all_cons rfl (all_cons rfl (all_nil)))))))))))) (Nat.le_of_ble_eq_true rfl) rfl fun a w hS hK => ?_
  refine sl hK (by decide) rfl rfl (r_assign hK rfl) fun a hK => ?_
  refine wpList_nil ?_
  refine wp_seq ?_
  refine wp_region_lit ?_
  refine sl hK (by decide) rfl rfl (r_loadA (cs := [.int .i64 a1.Kind, .int .i64 a1.N, .string a1.S, .int .i64 a1.H.a0, .int .i64 a1.H.a1, .int .i64 a1.H.a2, .int .i64 a1.H.a3, .int .i64 a1.H.a4, .int .i64 a1.H.a5, .int .i64 a1.H.a6, .int .i64 a1.H.a7]) Tryd.isAgg24 Tryd.sizeOf24 rfl hK rfl (hS.cells_of (m := 11) (.tail _ (.tail _ (.head _))) rfl)) fun a hK => ?_
  refine sl hK (by decide) rfl rfl (r_loadA (cs := [.int .i64 a0.Kind, .int .i64 a0.N, .string a0.S, .int .i64 a0.H.a0, .int .i64 a0.H.a1, .int .i64 a0.H.a2, .int .i64 a0.H.a3, .int .i64 a0.H.a4, .int .i64 a0.H.a5, .int .i64 a0.H.a6, .int .i64 a0.H.a7]) Tryd.isAgg24 Tryd.sizeOf24 rfl hK rfl (hS.cells_of (m := 11) (.tail _ (.tail _ (.tail _ (.head _)))) rfl)) fun a hK => ?_
  obtain ⟨y_11, h_12, H⟩ := bind_some H
  refine sl_callV Tryd.call22 hS hK (by decide) rfl rfl rfl (value_Add.calls a1 a0 h_12 _) fun a w hS hK => ?_
  refine sl hK (by decide) rfl rfl (r_move hK rfl) fun a hK => ?_
  refine sl hK (by decide) rfl rfl (r_extract hK rfl rfl) fun a hK => ?_
  refine sl hK (by decide) rfl rfl (r_extract hK rfl rfl) fun a hK => ?_
  refine sl_alloc Tryd.zeroValue24 hS hK (by decide) rfl rfl fun a w b_13 hS hK => ?_
  refine sl_storeA (vs := [.int .i64 y_11.1.Kind, .int .i64 y_11.1.N, .string y_11.1.S, .int .i64 y_11.1.H.a0, .int .i64 y_11.1.H.a1, .int .i64 y_11.1.H.a2, .int .i64 y_11.1.H.a3, .int .i64 y_11.1.H.a4, .int .i64 y_11.1.H.a5, .int .i64 y_11.1.H.a6, .int .i64 y_11.1.H.a7]) (c' := [.int .i64 y_11.1.Kind, .int .i64 y_11.1.N, .string y_11.1.S, .int .i64 y_11.1.H.a0, .int .i64 y_11.1.H.a1, .int .i64 y_11.1.H.a2, .int .i64 y_11.1.H.a3, .int .i64 y_11.1.H.a4, .int .i64 y_11.1.H.a5, .int .i64 y_11.1.H.a6, .int .i64 y_11.1.H.a7]) Tryd.sizeOf24 hS hK rfl rfl rfl rfl (all_cons rfl (all_cons rfl (all_cons rfl (all_cons rfl (all_cons rfl (all_cons rfl (all_cons rfl (all_cons rfl (all_cons rfl (all_cons rfl (all_cons rfl (all_nil)))))))))))) (Nat.le_of_ble_eq_true rfl) rfl fun a w hS hK => ?_
  refine sl hK (by decide) rfl rfl (r_assign hK rfl) fun a hK => ?_
  refine wpList_nil ?_
  refine wp_seq ?_
  refine wp_region_lit ?_
  refine sl hK (by decide) rfl rfl (r_move hK rfl) fun a hK => ?_
  refine sl hK (by decide) rfl rfl (r_move hK rfl) fun a hK => ?_
  rcases or_b y_3 with hb_14 | hb_14
  · rw [ifb_t hb_14] at H
    refine sl hK (by decide) (wtt hb_14) rfl (r_loadA (cs := [.int .i64 y_5.1.Kind, .int .i64 y_5.1.N, .string y_5.1.S, .int .i64 y_5.1.H.a0, .int .i64 y_5.1.H.a1, .int .i64 y_5.1.H.a2, .int .i64 y_5.1.H.a3, .int .i64 y_5.1.H.a4, .int .i64 y_5.1.H.a5, .int .i64 y_5.1.H.a6, .int .i64 y_5.1.H.a7]) Tryd.isAgg24 Tryd.sizeOf24 rfl hK rfl (hS.cells_of (m := 11) (.tail _ (.tail _ (.head _))) rfl)) fun a hK => ?_
    refine sl hK (by decide) (wtt hb_14) rfl (r_loadA (cs := [.int .i64 y_8.1.Kind, .int .i64 y_8.1.N, .string y_8.1.S, .int .i64 y_8.1.H.a0, .int .i64 y_8.1.H.a1, .int .i64 y_8.1.H.a2, .int .i64 y_8.1.H.a3, .int .i64 y_8.1.H.a4, .int .i64 y_8.1.H.a5, .int .i64 y_8.1.H.a6, .int .i64 y_8.1.H.a7]) Tryd.isAgg24 Tryd.sizeOf24 rfl hK rfl (hS.cells_of (m := 11) (.tail _ (.head _)) rfl)) fun a hK => ?_
    refine sl hK (by decide) (wtt hb_14) rfl (r_seq (by kernel_rfl) (eqs24 y_5.1 y_8.1) hK rfl rfl) fun a hK => ?_
    refine sl hK (by decide) rfl rfl (r_pick_t hb_14 hK rfl rfl) fun a hK => ?_
    refine sl hK (by decide) rfl rfl (r_move hK rfl) fun a hK => ?_
    rcases or_b (decide (y_5.1 = y_8.1)) with hb_15 | hb_15
    · rw [ifb_t hb_15] at H
      refine sl hK (by decide) (wtt hb_15) rfl (r_move hK rfl) fun a hK => ?_
      refine sl hK (by decide) (wtt hb_15) rfl (r_move hK rfl) fun a hK => ?_
      refine sl hK (by decide) (wtt hb_15) rfl (r_ibin hK rfl rfl rfl) fun a hK => ?_
      refine sl hK (by decide) rfl rfl (r_pick_t hb_15 hK rfl rfl) fun a hK => ?_
      refine sl hK (by decide) rfl rfl (r_move hK rfl) fun a hK => ?_
      rcases or_b (y_5.2 == y_8.2) with hb_16 | hb_16
      · rw [ifb_t hb_16] at H
        refine sl hK (by decide) (wtt hb_16) rfl (r_loadA (cs := [.int .i64 y_5.1.Kind, .int .i64 y_5.1.N, .string y_5.1.S, .int .i64 y_5.1.H.a0, .int .i64 y_5.1.H.a1, .int .i64 y_5.1.H.a2, .int .i64 y_5.1.H.a3, .int .i64 y_5.1.H.a4, .int .i64 y_5.1.H.a5, .int .i64 y_5.1.H.a6, .int .i64 y_5.1.H.a7]) Tryd.isAgg24 Tryd.sizeOf24 rfl hK rfl (hS.cells_of (m := 11) (.tail _ (.tail _ (.head _))) rfl)) fun a hK => ?_
        refine sl hK (by decide) (wtt hb_16) rfl (r_loadA (cs := [.int .i64 y_11.1.Kind, .int .i64 y_11.1.N, .string y_11.1.S, .int .i64 y_11.1.H.a0, .int .i64 y_11.1.H.a1, .int .i64 y_11.1.H.a2, .int .i64 y_11.1.H.a3, .int .i64 y_11.1.H.a4, .int .i64 y_11.1.H.a5, .int .i64 y_11.1.H.a6, .int .i64 y_11.1.H.a7]) Tryd.isAgg24 Tryd.sizeOf24 rfl hK rfl (hS.cells_of (m := 11) (.head _) rfl)) fun a hK => ?_
        refine sl hK (by decide) (wtt hb_16) rfl (r_seq (by kernel_rfl) (eqs24 y_5.1 y_11.1) hK rfl rfl) fun a hK => ?_
        refine sl hK (by decide) rfl rfl (r_pick_t hb_16 hK rfl rfl) fun a hK => ?_
        refine sl hK (by decide) rfl rfl (r_move hK rfl) fun a hK => ?_
        rcases or_b (decide (y_5.1 = y_11.1)) with hb_17 | hb_17
        · rw [ifb_t hb_17] at H
          refine sl hK (by decide) (wtt hb_17) rfl (r_move hK rfl) fun a hK => ?_
          refine sl hK (by decide) (wtt hb_17) rfl (r_move hK rfl) fun a hK => ?_
          refine sl hK (by decide) (wtt hb_17) rfl (r_ibin hK rfl rfl rfl) fun a hK => ?_
          refine sl hK (by decide) rfl rfl (r_pick_t hb_17 hK rfl rfl) fun a hK => ?_
          refine sl hK (by decide) rfl rfl (r_assign hK rfl) fun a hK => ?_
          refine wpList_nil ?_
          have hr_ := Option.some.inj H
          refine wp_ret ?_
          repeat (first | refine ret_then ?_ | refine ret_block ?_ | refine ret_scope ?_)
          exact ret_1 Tryd.results6 hK (rv_tmp hK rfl) ⟨congrArg (fun b => Ending.returned (Value.bool b)) hr_, hS.bel⟩
        · rw [ifb_f hb_17] at H
          refine sl_skip hK (by decide) (wtf hb_17) rfl fun a hK => ?_
          refine sl_skip hK (by decide) (wtf hb_17) rfl fun a hK => ?_
          refine sl_skip hK (by decide) (wtf hb_17) rfl fun a hK => ?_
          refine sl hK (by decide) rfl rfl (r_pick_f hb_17 hK rfl rfl) fun a hK => ?_
          refine sl hK (by decide) rfl rfl (r_assign hK rfl) fun a hK => ?_
          refine wpList_nil ?_
          exact absurd (Option.some.inj H) (by decide)
      · rw [ifb_f hb_16] at H
        refine sl_skip hK (by decide) (wtf hb_16) rfl fun a hK => ?_
        refine sl_skip hK (by decide) (wtf hb_16) rfl fun a hK => ?_
        refine sl_skip hK (by decide) (wtf hb_16) rfl fun a hK => ?_
        refine sl hK (by decide) rfl rfl (r_pick_f hb_16 hK rfl rfl) fun a hK => ?_
        refine sl hK (by decide) rfl rfl (r_move hK rfl) fun a hK => ?_
        refine sl_skip hK (by decide) rfl rfl fun a hK => ?_
        refine sl_skip hK (by decide) rfl rfl fun a hK => ?_
        refine sl_skip hK (by decide) rfl rfl fun a hK => ?_
        refine sl hK (by decide) rfl rfl (r_pick hK rfl rfl rfl) fun a hK => ?_
        refine sl hK (by decide) rfl rfl (r_assign hK rfl) fun a hK => ?_
        refine wpList_nil ?_
        exact absurd (Option.some.inj H) (by decide)
    · rw [ifb_f hb_15] at H
      refine sl_skip hK (by decide) (wtf hb_15) rfl fun a hK => ?_
      refine sl_skip hK (by decide) (wtf hb_15) rfl fun a hK => ?_
      refine sl_skip hK (by decide) (wtf hb_15) rfl fun a hK => ?_
      refine sl hK (by decide) rfl rfl (r_pick_f hb_15 hK rfl rfl) fun a hK => ?_
      refine sl hK (by decide) rfl rfl (r_move hK rfl) fun a hK => ?_
      refine sl_skip hK (by decide) rfl rfl fun a hK => ?_
      refine sl_skip hK (by decide) rfl rfl fun a hK => ?_
      refine sl_skip hK (by decide) rfl rfl fun a hK => ?_
      refine sl hK (by decide) rfl rfl (r_pick hK rfl rfl rfl) fun a hK => ?_
      refine sl hK (by decide) rfl rfl (r_move hK rfl) fun a hK => ?_
      refine sl_skip hK (by decide) rfl rfl fun a hK => ?_
      refine sl_skip hK (by decide) rfl rfl fun a hK => ?_
      refine sl_skip hK (by decide) rfl rfl fun a hK => ?_
      refine sl hK (by decide) rfl rfl (r_pick hK rfl rfl rfl) fun a hK => ?_
      refine sl hK (by decide) rfl rfl (r_assign hK rfl) fun a hK => ?_
      refine wpList_nil ?_
      exact absurd (Option.some.inj H) (by decide)
  · rw [ifb_f hb_14] at H
    refine sl_skip hK (by decide) (wtf hb_14) rfl fun a hK => ?_
    refine sl_skip hK (by decide) (wtf hb_14) rfl fun a hK => ?_
    refine sl_skip hK (by decide) (wtf hb_14) rfl fun a hK => ?_
    refine sl hK (by decide) rfl rfl (r_pick_f hb_14 hK rfl rfl) fun a hK => ?_
    refine sl hK (by decide) rfl rfl (r_move hK rfl) fun a hK => ?_
    refine sl_skip hK (by decide) rfl rfl fun a hK => ?_
    refine sl_skip hK (by decide) rfl rfl fun a hK => ?_
    refine sl_skip hK (by decide) rfl rfl fun a hK => ?_
    refine sl hK (by decide) rfl rfl (r_pick hK rfl rfl rfl) fun a hK => ?_
    refine sl hK (by decide) rfl rfl (r_move hK rfl) fun a hK => ?_
    refine sl_skip hK (by decide) rfl rfl fun a hK => ?_
    refine sl_skip hK (by decide) rfl rfl fun a hK => ?_
    refine sl_skip hK (by decide) rfl rfl fun a hK => ?_
    refine sl hK (by decide) rfl rfl (r_pick hK rfl rfl rfl) fun a hK => ?_
    refine sl hK (by decide) rfl rfl (r_move hK rfl) fun a hK => ?_
    refine sl_skip hK (by decide) rfl rfl fun a hK => ?_
    refine sl_skip hK (by decide) rfl rfl fun a hK => ?_
    refine sl_skip hK (by decide) rfl rfl fun a hK => ?_
    refine sl hK (by decide) rfl rfl (r_pick hK rfl rfl rfl) fun a hK => ?_
    refine sl hK (by decide) rfl rfl (r_assign hK rfl) fun a hK => ?_
    refine wpList_nil ?_
    exact absurd (Option.some.inj H) (by decide)

end Go.Proofs.YtmohocmmelaeaaaDoor.M
