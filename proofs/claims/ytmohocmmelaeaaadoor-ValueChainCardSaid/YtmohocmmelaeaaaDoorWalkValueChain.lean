/- Each Go function of the laws answers as its plain Lean function tells, wherever that tells something. Printed by wip/eng/gen.py. -/
import Derived.Test.YtmohocmmelaeaaaDoorWalk1
namespace Go.Proofs.YtmohocmmelaeaaaDoor.M
open Go Go.Eng Go.Proofs Go.RowKit
set_option linter.unusedVariables false
set_option linter.unusedSimpArgs false

/-! ### catchment/catchmentlaw01.ValueChain: function 5 -/
set_option maxHeartbeats 4000000 in
set_option maxRecDepth 100000 in
theorem law01_ValueChain.calls (a0 : api_Value) (a1 : api_Value) (a2 : api_Value) {w0 : World} {RA : Hp} (hRA : RA.sub w0) (hG : GF RA) (H : law01_ValueChain a0 a1 a2 = some true) : CallsV Tryd.prog 5 #[.agg #[.int .i64 a0.Kind, .int .i64 a0.N, .string a0.S, .int .i64 a0.H.a0, .int .i64 a0.H.a1, .int .i64 a0.H.a2, .int .i64 a0.H.a3, .int .i64 a0.H.a4, .int .i64 a0.H.a5, .int .i64 a0.H.a6, .int .i64 a0.H.a7], .agg #[.int .i64 a1.Kind, .int .i64 a1.N, .string a1.S, .int .i64 a1.H.a0, .int .i64 a1.H.a1, .int .i64 a1.H.a2, .int .i64 a1.H.a3, .int .i64 a1.H.a4, .int .i64 a1.H.a5, .int .i64 a1.H.a6, .int .i64 a1.H.a7], .agg #[.int .i64 a2.Kind, .int .i64 a2.N, .string a2.S, .int .i64 a2.H.a0, .int .i64 a2.H.a1, .int .i64 a2.H.a2, .int .i64 a2.H.a3, .int .i64 a2.H.a4, .int .i64 a2.H.a5, .int .i64 a2.H.a6, .int .i64 a2.H.a7]] w0 (.bool true) := by
  unfold law01_ValueChain at H
  refine enter (args := [.agg #[.int .i64 a0.Kind, .int .i64 a0.N, .string a0.S, .int .i64 a0.H.a0, .int .i64 a0.H.a1, .int .i64 a0.H.a2, .int .i64 a0.H.a3, .int .i64 a0.H.a4, .int .i64 a0.H.a5, .int .i64 a0.H.a6, .int .i64 a0.H.a7], .agg #[.int .i64 a1.Kind, .int .i64 a1.N, .string a1.S, .int .i64 a1.H.a0, .int .i64 a1.H.a1, .int .i64 a1.H.a2, .int .i64 a1.H.a3, .int .i64 a1.H.a4, .int .i64 a1.H.a5, .int .i64 a1.H.a6, .int .i64 a1.H.a7], .agg #[.int .i64 a2.Kind, .int .i64 a2.N, .string a2.S, .int .i64 a2.H.a0, .int .i64 a2.H.a1, .int .i64 a2.H.a2, .int .i64 a2.H.a3, .int .i64 a2.H.a4, .int .i64 a2.H.a5, .int .i64 a2.H.a6, .int .i64 a2.H.a7]]) Tryd.func5 rfl Tryd.ntmps5 rfl fun a hK => ?_
  have hS := St.init (R := fun _ => none) (w := w0) (fun _ _ h => by cases h)
  have hRL := RLe.refl (M := []) w0 (fun _ => none)
  refine wp_seq ?_
  refine wp_region_lit ?_
  refine sl_box hS hK (by decide) rfl rfl (c := [.int .i64 a0.Kind, .int .i64 a0.N, .string a0.S, .int .i64 a0.H.a0, .int .i64 a0.H.a1, .int .i64 a0.H.a2, .int .i64 a0.H.a3, .int .i64 a0.H.a4, .int .i64 a0.H.a5, .int .i64 a0.H.a6, .int .i64 a0.H.a7]) rfl fun a w b_1 hS hK => ?_
  refine sl_box hS hK (by decide) rfl rfl (c := [.int .i64 a1.Kind, .int .i64 a1.N, .string a1.S, .int .i64 a1.H.a0, .int .i64 a1.H.a1, .int .i64 a1.H.a2, .int .i64 a1.H.a3, .int .i64 a1.H.a4, .int .i64 a1.H.a5, .int .i64 a1.H.a6, .int .i64 a1.H.a7]) rfl fun a w b_2 hS hK => ?_
  refine sl_box hS hK (by decide) rfl rfl (c := [.int .i64 a2.Kind, .int .i64 a2.N, .string a2.S, .int .i64 a2.H.a0, .int .i64 a2.H.a1, .int .i64 a2.H.a2, .int .i64 a2.H.a3, .int .i64 a2.H.a4, .int .i64 a2.H.a5, .int .i64 a2.H.a6, .int .i64 a2.H.a7]) rfl fun a w b_3 hS hK => ?_
  refine sl hK (by decide) rfl rfl (r_assign hK rfl) fun a hK => ?_
  refine wpList_nil ?_
  refine wp_seq ?_
  refine wp_region_lit ?_
  obtain ⟨y_4, h_5, H⟩ := bind_some H
  refine sl_callV Tryd.call13 hS hK (by decide) rfl rfl rfl (law01_shown.calls (lentOf_sub [] _) (GF.mono (hS.raLe0 hRA nil_not) hG) h_5) fun a w hS hK => ?_
  refine sl hK (by decide) rfl rfl (r_assign hK rfl) fun a hK => ?_
  refine wpList_nil ?_
  refine wp_seq ?_
  refine wp_region_lit ?_
  refine sl hK (by decide) rfl rfl (r_loadA (cs := [.int .i64 a0.Kind, .int .i64 a0.N, .string a0.S, .int .i64 a0.H.a0, .int .i64 a0.H.a1, .int .i64 a0.H.a2, .int .i64 a0.H.a3, .int .i64 a0.H.a4, .int .i64 a0.H.a5, .int .i64 a0.H.a6, .int .i64 a0.H.a7]) Tryd.isAgg24 Tryd.sizeOf24 rfl hK rfl (hS.cells_of (m := 11) (.tail _ (.tail _ (.head _))) rfl)) fun a hK => ?_
  refine sl hK (by decide) rfl rfl (r_loadA (cs := [.int .i64 a1.Kind, .int .i64 a1.N, .string a1.S, .int .i64 a1.H.a0, .int .i64 a1.H.a1, .int .i64 a1.H.a2, .int .i64 a1.H.a3, .int .i64 a1.H.a4, .int .i64 a1.H.a5, .int .i64 a1.H.a6, .int .i64 a1.H.a7]) Tryd.isAgg24 Tryd.sizeOf24 rfl hK rfl (hS.cells_of (m := 11) (.tail _ (.head _)) rfl)) fun a hK => ?_
  obtain ⟨y_6, h_7, H⟩ := bind_some H
  refine sl_callV Tryd.call18 hS hK (by decide) rfl rfl rfl (value_Compare.calls a0 a1 h_7 _) fun a w hS hK => ?_
  refine sl hK (by decide) rfl rfl (r_assign hK rfl) fun a hK => ?_
  refine wpList_nil ?_
  refine wp_seq ?_
  refine wp_region_lit ?_
  refine sl hK (by decide) rfl rfl (r_loadA (cs := [.int .i64 a1.Kind, .int .i64 a1.N, .string a1.S, .int .i64 a1.H.a0, .int .i64 a1.H.a1, .int .i64 a1.H.a2, .int .i64 a1.H.a3, .int .i64 a1.H.a4, .int .i64 a1.H.a5, .int .i64 a1.H.a6, .int .i64 a1.H.a7]) Tryd.isAgg24 Tryd.sizeOf24 rfl hK rfl (hS.cells_of (m := 11) (.tail _ (.head _)) rfl)) fun a hK => ?_
  refine sl hK (by decide) rfl rfl (r_loadA (cs := [.int .i64 a2.Kind, .int .i64 a2.N, .string a2.S, .int .i64 a2.H.a0, .int .i64 a2.H.a1, .int .i64 a2.H.a2, .int .i64 a2.H.a3, .int .i64 a2.H.a4, .int .i64 a2.H.a5, .int .i64 a2.H.a6, .int .i64 a2.H.a7]) Tryd.isAgg24 Tryd.sizeOf24 rfl hK rfl (hS.cells_of (m := 11) (.head _) rfl)) fun a hK => ?_
  obtain ⟨y_8, h_9, H⟩ := bind_some H
  refine sl_callV Tryd.call18 hS hK (by decide) rfl rfl rfl (value_Compare.calls a1 a2 h_9 _) fun a w hS hK => ?_
  refine sl hK (by decide) rfl rfl (r_assign hK rfl) fun a hK => ?_
  refine wpList_nil ?_
  refine wp_seq ?_
  refine wp_region_lit ?_
  refine sl hK (by decide) rfl rfl (r_loadA (cs := [.int .i64 a0.Kind, .int .i64 a0.N, .string a0.S, .int .i64 a0.H.a0, .int .i64 a0.H.a1, .int .i64 a0.H.a2, .int .i64 a0.H.a3, .int .i64 a0.H.a4, .int .i64 a0.H.a5, .int .i64 a0.H.a6, .int .i64 a0.H.a7]) Tryd.isAgg24 Tryd.sizeOf24 rfl hK rfl (hS.cells_of (m := 11) (.tail _ (.tail _ (.head _))) rfl)) fun a hK => ?_
  refine sl hK (by decide) rfl rfl (r_loadA (cs := [.int .i64 a2.Kind, .int .i64 a2.N, .string a2.S, .int .i64 a2.H.a0, .int .i64 a2.H.a1, .int .i64 a2.H.a2, .int .i64 a2.H.a3, .int .i64 a2.H.a4, .int .i64 a2.H.a5, .int .i64 a2.H.a6, .int .i64 a2.H.a7]) Tryd.isAgg24 Tryd.sizeOf24 rfl hK rfl (hS.cells_of (m := 11) (.head _) rfl)) fun a hK => ?_
  obtain ⟨y_10, h_11, H⟩ := bind_some H
  refine sl_callV Tryd.call18 hS hK (by decide) rfl rfl rfl (value_Compare.calls a0 a2 h_11 _) fun a w hS hK => ?_
  refine sl hK (by decide) rfl rfl (r_assign hK rfl) fun a hK => ?_
  refine wpList_nil ?_
  refine wp_seq ?_
  refine wp_seq ?_
  refine wp_mid (fun a w => ∃ (x_21 : Bool), law01_ValueChain.j0 a0 a1 a2 y_4 y_6 y_8 x_21 = some true ∧ Kn 69 a [(3, .pointer (some ⟨b_1, 0, none⟩)), (4, .pointer (some ⟨b_2, 0, none⟩)), (5, .pointer (some ⟨b_3, 0, none⟩)), (7, .bool y_4), (8, .int .i64 y_6), (9, .int .i64 y_8), (42, .bool x_21)] ∧ St [] w0 w (fun _ => none) [.cells b_1 [.int .i64 a0.Kind, .int .i64 a0.N, .string a0.S, .int .i64 a0.H.a0, .int .i64 a0.H.a1, .int .i64 a0.H.a2, .int .i64 a0.H.a3, .int .i64 a0.H.a4, .int .i64 a0.H.a5, .int .i64 a0.H.a6, .int .i64 a0.H.a7] 24, .cells b_2 [.int .i64 a1.Kind, .int .i64 a1.N, .string a1.S, .int .i64 a1.H.a0, .int .i64 a1.H.a1, .int .i64 a1.H.a2, .int .i64 a1.H.a3, .int .i64 a1.H.a4, .int .i64 a1.H.a5, .int .i64 a1.H.a6, .int .i64 a1.H.a7] 24, .cells b_3 [.int .i64 a2.Kind, .int .i64 a2.N, .string a2.S, .int .i64 a2.H.a0, .int .i64 a2.H.a1, .int .i64 a2.H.a2, .int .i64 a2.H.a3, .int .i64 a2.H.a4, .int .i64 a2.H.a5, .int .i64 a2.H.a6, .int .i64 a2.H.a7] 24]) ?_ ?_
  · refine wp_region_lit ?_
    refine sl hK (by decide) rfl rfl (r_move hK rfl) fun a hK => ?_
    refine sl hK (by decide) rfl rfl (r_ibin hK rfl rfl rfl) fun a hK => ?_
    refine sl hK (by decide) rfl rfl (r_move hK rfl) fun a hK => ?_
    rcases or_b (decide (y_6 ≤ 0)) with hb_23 | hb_23
    · rw [ifb_t hb_23] at H
      refine sl hK (by decide) (wtt hb_23) rfl (r_move hK rfl) fun a hK => ?_
      refine sl hK (by decide) (wtt hb_23) rfl (r_ibin hK rfl rfl rfl) fun a hK => ?_
      refine sl hK (by decide) rfl rfl (r_pick_t hb_23 hK rfl rfl) fun a hK => ?_
      refine sl hK (by decide) rfl rfl (r_move hK rfl) fun a hK => ?_
      rcases or_b (decide (y_8 ≤ 0)) with hb_24 | hb_24
      · rw [ifb_t hb_24] at H
        refine sl hK (by decide) (wtt hb_24) rfl (r_move hK rfl) fun a hK => ?_
        refine sl hK (by decide) (wtt hb_24) rfl (r_ibin hK rfl rfl rfl) fun a hK => ?_
        refine sl hK (by decide) rfl rfl (r_pick_t hb_24 hK rfl rfl) fun a hK => ?_
        refine sl hK (by decide) rfl rfl (r_move hK rfl) fun a hK => ?_
        rcases or_b (decide (y_10 > 0)) with hb_25 | hb_25
        · rw [ifb_t hb_25] at H
          refine sl_skip hK (by decide) (wft hb_25) rfl fun a hK => ?_
          refine sl_skip hK (by decide) (wft hb_25) rfl fun a hK => ?_
          refine sl_skip hK (by decide) (wft hb_25) rfl fun a hK => ?_
          refine sl_skip hK (by decide) rfl rfl fun a hK => ?_
          refine sl_skip hK (by decide) rfl rfl fun a hK => ?_
          refine sl_skip hK (by decide) (wft hb_25) rfl fun a hK => ?_
          refine sl_skip hK (by decide) (wft hb_25) rfl fun a hK => ?_
          refine sl_skip hK (by decide) rfl rfl fun a hK => ?_
          refine sl_skip hK (by decide) rfl rfl fun a hK => ?_
          refine sl_skip hK (by decide) (wft hb_25) rfl fun a hK => ?_
          refine sl hK (by decide) rfl rfl (r_pick_t hb_25 hK rfl rfl) fun a hK => ?_
          refine wpList_nil ?_
          have hS := hS.pk1
          have hS := hS.pk2
          exact ⟨true, H, hK.sub (all_cons rfl (all_cons rfl (all_cons rfl (all_cons rfl (all_cons rfl (all_cons rfl (all_cons rfl (all_nil)))))))), hS⟩
        · rw [ifb_f hb_25] at H
          refine sl hK (by decide) (wff hb_25) rfl (r_move hK rfl) fun a hK => ?_
          refine sl hK (by decide) (wff hb_25) rfl (r_ibin hK rfl rfl rfl) fun a hK => ?_
          refine sl hK (by decide) (wff hb_25) rfl (r_move hK rfl) fun a hK => ?_
          rcases or_b (decide (y_6 ≥ 0)) with hb_26 | hb_26
          · rw [ifb_t hb_26] at H
            refine sl hK (by decide) (wtt hb_26) rfl (r_move hK rfl) fun a hK => ?_
            refine sl hK (by decide) (wtt hb_26) rfl (r_ibin hK rfl rfl rfl) fun a hK => ?_
            refine sl hK (by decide) (wff hb_25) rfl (r_pick_t hb_26 hK rfl rfl) fun a hK => ?_
            refine sl hK (by decide) (wff hb_25) rfl (r_move hK rfl) fun a hK => ?_
            rcases or_b (decide (y_8 ≥ 0)) with hb_27 | hb_27
            · rw [ifb_t hb_27] at H
              refine sl hK (by decide) (wtt hb_27) rfl (r_move hK rfl) fun a hK => ?_
              refine sl hK (by decide) (wtt hb_27) rfl (r_ibin hK rfl rfl rfl) fun a hK => ?_
              refine sl hK (by decide) (wff hb_25) rfl (r_pick_t hb_27 hK rfl rfl) fun a hK => ?_
              refine sl hK (by decide) rfl rfl (r_pick_f hb_25 hK rfl rfl) fun a hK => ?_
              refine wpList_nil ?_
              have hS := hS.pk1
              have hS := hS.pk2
              exact ⟨(decide (y_10 < 0)), H, hK.sub (all_cons rfl (all_cons rfl (all_cons rfl (all_cons rfl (all_cons rfl (all_cons rfl (all_cons rfl (all_nil)))))))), hS⟩
            · rw [ifb_f hb_27] at H
              refine sl_skip hK (by decide) (wtf hb_27) rfl fun a hK => ?_
              refine sl_skip hK (by decide) (wtf hb_27) rfl fun a hK => ?_
              refine sl hK (by decide) (wff hb_25) rfl (r_pick_f hb_27 hK rfl rfl) fun a hK => ?_
              refine sl hK (by decide) rfl rfl (r_pick_f hb_25 hK rfl rfl) fun a hK => ?_
              refine wpList_nil ?_
              have hS := hS.pk1
              have hS := hS.pk2
              exact ⟨false, H, hK.sub (all_cons rfl (all_cons rfl (all_cons rfl (all_cons rfl (all_cons rfl (all_cons rfl (all_cons rfl (all_nil)))))))), hS⟩
          · rw [ifb_f hb_26] at H
            refine sl_skip hK (by decide) (wtf hb_26) rfl fun a hK => ?_
            refine sl_skip hK (by decide) (wtf hb_26) rfl fun a hK => ?_
            refine sl hK (by decide) (wff hb_25) rfl (r_pick_f hb_26 hK rfl rfl) fun a hK => ?_
            refine sl hK (by decide) (wff hb_25) rfl (r_move hK rfl) fun a hK => ?_
            refine sl_skip hK (by decide) rfl rfl fun a hK => ?_
            refine sl_skip hK (by decide) rfl rfl fun a hK => ?_
            refine sl hK (by decide) (wff hb_25) rfl (r_pick hK rfl rfl rfl) fun a hK => ?_
            refine sl hK (by decide) rfl rfl (r_pick_f hb_25 hK rfl rfl) fun a hK => ?_
            refine wpList_nil ?_
            have hS := hS.pk1
            have hS := hS.pk2
            exact ⟨false, H, hK.sub (all_cons rfl (all_cons rfl (all_cons rfl (all_cons rfl (all_cons rfl (all_cons rfl (all_cons rfl (all_nil)))))))), hS⟩
      · rw [ifb_f hb_24] at H
        refine sl_skip hK (by decide) (wtf hb_24) rfl fun a hK => ?_
        refine sl_skip hK (by decide) (wtf hb_24) rfl fun a hK => ?_
        refine sl hK (by decide) rfl rfl (r_pick_f hb_24 hK rfl rfl) fun a hK => ?_
        refine sl hK (by decide) rfl rfl (r_move hK rfl) fun a hK => ?_
        refine sl hK (by decide) rfl rfl (r_move hK rfl) fun a hK => ?_
        refine sl hK (by decide) rfl rfl (r_ibin hK rfl rfl rfl) fun a hK => ?_
        refine sl hK (by decide) rfl rfl (r_move hK rfl) fun a hK => ?_
        rcases or_b (decide (y_6 ≥ 0)) with hb_28 | hb_28
        · rw [ifb_t hb_28] at H
          refine sl hK (by decide) (wtt hb_28) rfl (r_move hK rfl) fun a hK => ?_
          refine sl hK (by decide) (wtt hb_28) rfl (r_ibin hK rfl rfl rfl) fun a hK => ?_
          refine sl hK (by decide) rfl rfl (r_pick_t hb_28 hK rfl rfl) fun a hK => ?_
          refine sl hK (by decide) rfl rfl (r_move hK rfl) fun a hK => ?_
          rcases or_b (decide (y_8 ≥ 0)) with hb_29 | hb_29
          · rw [ifb_t hb_29] at H
            refine sl hK (by decide) (wtt hb_29) rfl (r_move hK rfl) fun a hK => ?_
            refine sl hK (by decide) (wtt hb_29) rfl (r_ibin hK rfl rfl rfl) fun a hK => ?_
            refine sl hK (by decide) rfl rfl (r_pick_t hb_29 hK rfl rfl) fun a hK => ?_
            refine sl hK (by decide) rfl rfl (r_pick hK rfl rfl rfl) fun a hK => ?_
            refine wpList_nil ?_
            have hS := hS.pk1
            have hS := hS.pk2
            exact ⟨(decide (y_10 < 0)), H, hK.sub (all_cons rfl (all_cons rfl (all_cons rfl (all_cons rfl (all_cons rfl (all_cons rfl (all_cons rfl (all_nil)))))))), hS⟩
          · rw [ifb_f hb_29] at H
            refine sl_skip hK (by decide) (wtf hb_29) rfl fun a hK => ?_
            refine sl_skip hK (by decide) (wtf hb_29) rfl fun a hK => ?_
            refine sl hK (by decide) rfl rfl (r_pick_f hb_29 hK rfl rfl) fun a hK => ?_
            refine sl hK (by decide) rfl rfl (r_pick hK rfl rfl rfl) fun a hK => ?_
            refine wpList_nil ?_
            have hS := hS.pk1
            have hS := hS.pk2
            exact ⟨false, H, hK.sub (all_cons rfl (all_cons rfl (all_cons rfl (all_cons rfl (all_cons rfl (all_cons rfl (all_cons rfl (all_nil)))))))), hS⟩
        · rw [ifb_f hb_28] at H
          refine sl_skip hK (by decide) (wtf hb_28) rfl fun a hK => ?_
          refine sl_skip hK (by decide) (wtf hb_28) rfl fun a hK => ?_
          refine sl hK (by decide) rfl rfl (r_pick_f hb_28 hK rfl rfl) fun a hK => ?_
          refine sl hK (by decide) rfl rfl (r_move hK rfl) fun a hK => ?_
          refine sl_skip hK (by decide) rfl rfl fun a hK => ?_
          refine sl_skip hK (by decide) rfl rfl fun a hK => ?_
          refine sl hK (by decide) rfl rfl (r_pick hK rfl rfl rfl) fun a hK => ?_
          refine sl hK (by decide) rfl rfl (r_pick hK rfl rfl rfl) fun a hK => ?_
          refine wpList_nil ?_
          have hS := hS.pk1
          have hS := hS.pk2
          exact ⟨false, H, hK.sub (all_cons rfl (all_cons rfl (all_cons rfl (all_cons rfl (all_cons rfl (all_cons rfl (all_cons rfl (all_nil)))))))), hS⟩
    · rw [ifb_f hb_23] at H
      refine sl_skip hK (by decide) (wtf hb_23) rfl fun a hK => ?_
      refine sl_skip hK (by decide) (wtf hb_23) rfl fun a hK => ?_
      refine sl hK (by decide) rfl rfl (r_pick_f hb_23 hK rfl rfl) fun a hK => ?_
      refine sl hK (by decide) rfl rfl (r_move hK rfl) fun a hK => ?_
      refine sl_skip hK (by decide) rfl rfl fun a hK => ?_
      refine sl_skip hK (by decide) rfl rfl fun a hK => ?_
      refine sl hK (by decide) rfl rfl (r_pick hK rfl rfl rfl) fun a hK => ?_
      refine sl hK (by decide) rfl rfl (r_move hK rfl) fun a hK => ?_
      refine sl hK (by decide) rfl rfl (r_move hK rfl) fun a hK => ?_
      refine sl hK (by decide) rfl rfl (r_ibin hK rfl rfl rfl) fun a hK => ?_
      refine sl hK (by decide) rfl rfl (r_move hK rfl) fun a hK => ?_
      rcases or_b (decide (y_6 ≥ 0)) with hb_30 | hb_30
      · rw [ifb_t hb_30] at H
        refine sl hK (by decide) (wtt hb_30) rfl (r_move hK rfl) fun a hK => ?_
        refine sl hK (by decide) (wtt hb_30) rfl (r_ibin hK rfl rfl rfl) fun a hK => ?_
        refine sl hK (by decide) rfl rfl (r_pick_t hb_30 hK rfl rfl) fun a hK => ?_
        refine sl hK (by decide) rfl rfl (r_move hK rfl) fun a hK => ?_
        rcases or_b (decide (y_8 ≥ 0)) with hb_31 | hb_31
        · rw [ifb_t hb_31] at H
          refine sl hK (by decide) (wtt hb_31) rfl (r_move hK rfl) fun a hK => ?_
          refine sl hK (by decide) (wtt hb_31) rfl (r_ibin hK rfl rfl rfl) fun a hK => ?_
          refine sl hK (by decide) rfl rfl (r_pick_t hb_31 hK rfl rfl) fun a hK => ?_
          refine sl hK (by decide) rfl rfl (r_pick hK rfl rfl rfl) fun a hK => ?_
          refine wpList_nil ?_
          have hS := hS.pk1
          have hS := hS.pk2
          exact ⟨(decide (y_10 < 0)), H, hK.sub (all_cons rfl (all_cons rfl (all_cons rfl (all_cons rfl (all_cons rfl (all_cons rfl (all_cons rfl (all_nil)))))))), hS⟩
        · rw [ifb_f hb_31] at H
          refine sl_skip hK (by decide) (wtf hb_31) rfl fun a hK => ?_
          refine sl_skip hK (by decide) (wtf hb_31) rfl fun a hK => ?_
          refine sl hK (by decide) rfl rfl (r_pick_f hb_31 hK rfl rfl) fun a hK => ?_
          refine sl hK (by decide) rfl rfl (r_pick hK rfl rfl rfl) fun a hK => ?_
          refine wpList_nil ?_
          have hS := hS.pk1
          have hS := hS.pk2
          exact ⟨false, H, hK.sub (all_cons rfl (all_cons rfl (all_cons rfl (all_cons rfl (all_cons rfl (all_cons rfl (all_cons rfl (all_nil)))))))), hS⟩
      · rw [ifb_f hb_30] at H
        refine sl_skip hK (by decide) (wtf hb_30) rfl fun a hK => ?_
        refine sl_skip hK (by decide) (wtf hb_30) rfl fun a hK => ?_
        refine sl hK (by decide) rfl rfl (r_pick_f hb_30 hK rfl rfl) fun a hK => ?_
        refine sl hK (by decide) rfl rfl (r_move hK rfl) fun a hK => ?_
        refine sl_skip hK (by decide) rfl rfl fun a hK => ?_
        refine sl_skip hK (by decide) rfl rfl fun a hK => ?_
        refine sl hK (by decide) rfl rfl (r_pick hK rfl rfl rfl) fun a hK => ?_
        refine sl hK (by decide) rfl rfl (r_pick hK rfl rfl rfl) fun a hK => ?_
        refine wpList_nil ?_
        have hS := hS.pk1
        have hS := hS.pk2
        exact ⟨false, H, hK.sub (all_cons rfl (all_cons rfl (all_cons rfl (all_cons rfl (all_cons rfl (all_cons rfl (all_cons rfl (all_nil)))))))), hS⟩
  · rintro a w ⟨x_21, H, hK, hS⟩
    unfold law01_ValueChain.j0 at H
    refine wp_cond_split (hK.ev rfl) (fun (hb_32 : x_21 = true) => ?_) (fun (hb_32 : x_21 = false) => ?_)
    · rw [ifb_t hb_32] at H
      refine wp_seq ?_
      refine wp_region_lit ?_
      refine sl hK (by decide) rfl rfl (r_assign hK rfl) fun a hK => ?_
      refine wpList_nil ?_
      exact absurd (Option.some.inj H) (by decide)
    · rw [ifb_f hb_32] at H
      refine wp_skip ?_
      refine wp_seq ?_
      refine wp_region_lit ?_
      refine sl hK (by decide) rfl rfl (r_move hK rfl) fun a hK => ?_
      refine sl hK (by decide) rfl rfl (r_move hK rfl) fun a hK => ?_
      rcases or_b y_4 with hb_33 | hb_33
      · rw [ifb_t hb_33] at H
        refine sl hK (by decide) (wtt hb_33) rfl (r_move hK rfl) fun a hK => ?_
        refine sl hK (by decide) (wtt hb_33) rfl (r_ibin hK rfl rfl rfl) fun a hK => ?_
        refine sl hK (by decide) (wtt hb_33) rfl (r_loadA (cs := [.int .i64 a0.Kind, .int .i64 a0.N, .string a0.S, .int .i64 a0.H.a0, .int .i64 a0.H.a1, .int .i64 a0.H.a2, .int .i64 a0.H.a3, .int .i64 a0.H.a4, .int .i64 a0.H.a5, .int .i64 a0.H.a6, .int .i64 a0.H.a7]) Tryd.isAgg24 Tryd.sizeOf24 rfl hK rfl (hS.cells_of (m := 11) (.head _) rfl)) fun a hK => ?_
        refine sl hK (by decide) (wtt hb_33) rfl (r_loadA (cs := [.int .i64 a1.Kind, .int .i64 a1.N, .string a1.S, .int .i64 a1.H.a0, .int .i64 a1.H.a1, .int .i64 a1.H.a2, .int .i64 a1.H.a3, .int .i64 a1.H.a4, .int .i64 a1.H.a5, .int .i64 a1.H.a6, .int .i64 a1.H.a7]) Tryd.isAgg24 Tryd.sizeOf24 rfl hK rfl (hS.cells_of (m := 11) (.tail _ (.head _)) rfl)) fun a hK => ?_
        refine sl hK (by decide) (wtt hb_33) rfl (r_seq (by kernel_rfl) (eqs24 a0 a1) hK rfl rfl) fun a hK => ?_
        refine sl hK (by decide) (wtt hb_33) rfl (r_beq Tryd.underlying4 hK rfl rfl) fun a hK => ?_
        refine sl hK (by decide) rfl rfl (r_pick_t hb_33 hK rfl rfl) fun a hK => ?_
        refine sl hK (by decide) rfl rfl (r_move hK rfl) fun a hK => ?_
        rcases or_b ((y_6 == 0) == (decide (a0 = a1))) with hb_34 | hb_34
        · rw [ifb_t hb_34] at H
          refine sl hK (by decide) (wtt hb_34) rfl (r_move hK rfl) fun a hK => ?_
          refine sl hK (by decide) (wtt hb_34) rfl (r_ibin hK rfl rfl rfl) fun a hK => ?_
          refine sl hK (by decide) (wtt hb_34) rfl (r_move hK rfl) fun a hK => ?_
          rcases or_b (y_6 == 0) with hb_35 | hb_35
          · rw [ifb_t hb_35] at H
            refine sl hK (by decide) (wtt hb_35) rfl (r_move hK rfl) fun a hK => ?_
            refine sl hK (by decide) (wtt hb_35) rfl (r_ibin hK rfl rfl rfl) fun a hK => ?_
            refine sl hK (by decide) (wtt hb_34) rfl (r_pick_t hb_35 hK rfl rfl) fun a hK => ?_
            refine sl hK (by decide) (wtt hb_34) rfl (r_loadA (cs := [.int .i64 a0.Kind, .int .i64 a0.N, .string a0.S, .int .i64 a0.H.a0, .int .i64 a0.H.a1, .int .i64 a0.H.a2, .int .i64 a0.H.a3, .int .i64 a0.H.a4, .int .i64 a0.H.a5, .int .i64 a0.H.a6, .int .i64 a0.H.a7]) Tryd.isAgg24 Tryd.sizeOf24 rfl hK rfl (hS.cells_of (m := 11) (.head _) rfl)) fun a hK => ?_
            refine sl hK (by decide) (wtt hb_34) rfl (r_loadA (cs := [.int .i64 a1.Kind, .int .i64 a1.N, .string a1.S, .int .i64 a1.H.a0, .int .i64 a1.H.a1, .int .i64 a1.H.a2, .int .i64 a1.H.a3, .int .i64 a1.H.a4, .int .i64 a1.H.a5, .int .i64 a1.H.a6, .int .i64 a1.H.a7]) Tryd.isAgg24 Tryd.sizeOf24 rfl hK rfl (hS.cells_of (m := 11) (.tail _ (.head _)) rfl)) fun a hK => ?_
            refine sl hK (by decide) (wtt hb_34) rfl (r_seq (by kernel_rfl) (eqs24 a0 a1) hK rfl rfl) fun a hK => ?_
            refine sl hK (by decide) (wtt hb_34) rfl (r_move hK rfl) fun a hK => ?_
            rcases or_b (decide (a0 = a1)) with hb_36 | hb_36
            · rw [ifb_t hb_36] at H
              refine sl hK (by decide) (wtt hb_36) rfl (r_loadA (cs := [.int .i64 a1.Kind, .int .i64 a1.N, .string a1.S, .int .i64 a1.H.a0, .int .i64 a1.H.a1, .int .i64 a1.H.a2, .int .i64 a1.H.a3, .int .i64 a1.H.a4, .int .i64 a1.H.a5, .int .i64 a1.H.a6, .int .i64 a1.H.a7]) Tryd.isAgg24 Tryd.sizeOf24 rfl hK rfl (hS.cells_of (m := 11) (.tail _ (.head _)) rfl)) fun a hK => ?_
              refine sl hK (by decide) (wtt hb_36) rfl (r_loadA (cs := [.int .i64 a2.Kind, .int .i64 a2.N, .string a2.S, .int .i64 a2.H.a0, .int .i64 a2.H.a1, .int .i64 a2.H.a2, .int .i64 a2.H.a3, .int .i64 a2.H.a4, .int .i64 a2.H.a5, .int .i64 a2.H.a6, .int .i64 a2.H.a7]) Tryd.isAgg24 Tryd.sizeOf24 rfl hK rfl (hS.cells_of (m := 11) (.tail _ (.tail _ (.head _))) rfl)) fun a hK => ?_
              refine sl hK (by decide) (wtt hb_36) rfl (r_seq (by kernel_rfl) (eqs24 a1 a2) hK rfl rfl) fun a hK => ?_
              refine sl hK (by decide) (wtt hb_34) rfl (r_pick_t hb_36 hK rfl rfl) fun a hK => ?_
              refine sl hK (by decide) (wtt hb_34) rfl (r_beq Tryd.underlying4 hK rfl rfl) fun a hK => ?_
              refine sl hK (by decide) rfl rfl (r_pick_t hb_34 hK rfl rfl) fun a hK => ?_
              refine sl hK (by decide) rfl rfl (r_assign hK rfl) fun a hK => ?_
              refine wpList_nil ?_
              have hr_ := Option.some.inj H
              refine wp_ret ?_
              repeat (first | refine ret_then ?_ | refine ret_block ?_ | refine ret_scope ?_)
              exact ret_1 Tryd.results5 hK (rv_tmp hK rfl) ⟨congrArg (fun b => Ending.returned (Value.bool b)) hr_, hS.bel⟩
            · rw [ifb_f hb_36] at H
              refine sl_skip hK (by decide) (wtf hb_36) rfl fun a hK => ?_
              refine sl_skip hK (by decide) (wtf hb_36) rfl fun a hK => ?_
              refine sl_skip hK (by decide) (wtf hb_36) rfl fun a hK => ?_
              refine sl hK (by decide) (wtt hb_34) rfl (r_pick_f hb_36 hK rfl rfl) fun a hK => ?_
              refine sl hK (by decide) (wtt hb_34) rfl (r_beq Tryd.underlying4 hK rfl rfl) fun a hK => ?_
              refine sl hK (by decide) rfl rfl (r_pick_t hb_34 hK rfl rfl) fun a hK => ?_
              refine sl hK (by decide) rfl rfl (r_assign hK rfl) fun a hK => ?_
              refine wpList_nil ?_
              have hr_ := Option.some.inj H
              refine wp_ret ?_
              repeat (first | refine ret_then ?_ | refine ret_block ?_ | refine ret_scope ?_)
              exact ret_1 Tryd.results5 hK (rv_tmp hK rfl) ⟨congrArg (fun b => Ending.returned (Value.bool b)) hr_, hS.bel⟩
          · rw [ifb_f hb_35] at H
            refine sl_skip hK (by decide) (wtf hb_35) rfl fun a hK => ?_
            refine sl_skip hK (by decide) (wtf hb_35) rfl fun a hK => ?_
            refine sl hK (by decide) (wtt hb_34) rfl (r_pick_f hb_35 hK rfl rfl) fun a hK => ?_
            refine sl hK (by decide) (wtt hb_34) rfl (r_loadA (cs := [.int .i64 a0.Kind, .int .i64 a0.N, .string a0.S, .int .i64 a0.H.a0, .int .i64 a0.H.a1, .int .i64 a0.H.a2, .int .i64 a0.H.a3, .int .i64 a0.H.a4, .int .i64 a0.H.a5, .int .i64 a0.H.a6, .int .i64 a0.H.a7]) Tryd.isAgg24 Tryd.sizeOf24 rfl hK rfl (hS.cells_of (m := 11) (.head _) rfl)) fun a hK => ?_
            refine sl hK (by decide) (wtt hb_34) rfl (r_loadA (cs := [.int .i64 a1.Kind, .int .i64 a1.N, .string a1.S, .int .i64 a1.H.a0, .int .i64 a1.H.a1, .int .i64 a1.H.a2, .int .i64 a1.H.a3, .int .i64 a1.H.a4, .int .i64 a1.H.a5, .int .i64 a1.H.a6, .int .i64 a1.H.a7]) Tryd.isAgg24 Tryd.sizeOf24 rfl hK rfl (hS.cells_of (m := 11) (.tail _ (.head _)) rfl)) fun a hK => ?_
            refine sl hK (by decide) (wtt hb_34) rfl (r_seq (by kernel_rfl) (eqs24 a0 a1) hK rfl rfl) fun a hK => ?_
            refine sl hK (by decide) (wtt hb_34) rfl (r_move hK rfl) fun a hK => ?_
            rcases or_b (decide (a0 = a1)) with hb_37 | hb_37
            · rw [ifb_t hb_37] at H
              refine sl hK (by decide) (wtt hb_37) rfl (r_loadA (cs := [.int .i64 a1.Kind, .int .i64 a1.N, .string a1.S, .int .i64 a1.H.a0, .int .i64 a1.H.a1, .int .i64 a1.H.a2, .int .i64 a1.H.a3, .int .i64 a1.H.a4, .int .i64 a1.H.a5, .int .i64 a1.H.a6, .int .i64 a1.H.a7]) Tryd.isAgg24 Tryd.sizeOf24 rfl hK rfl (hS.cells_of (m := 11) (.tail _ (.head _)) rfl)) fun a hK => ?_
              refine sl hK (by decide) (wtt hb_37) rfl (r_loadA (cs := [.int .i64 a2.Kind, .int .i64 a2.N, .string a2.S, .int .i64 a2.H.a0, .int .i64 a2.H.a1, .int .i64 a2.H.a2, .int .i64 a2.H.a3, .int .i64 a2.H.a4, .int .i64 a2.H.a5, .int .i64 a2.H.a6, .int .i64 a2.H.a7]) Tryd.isAgg24 Tryd.sizeOf24 rfl hK rfl (hS.cells_of (m := 11) (.tail _ (.tail _ (.head _))) rfl)) fun a hK => ?_
              refine sl hK (by decide) (wtt hb_37) rfl (r_seq (by kernel_rfl) (eqs24 a1 a2) hK rfl rfl) fun a hK => ?_
              refine sl hK (by decide) (wtt hb_34) rfl (r_pick_t hb_37 hK rfl rfl) fun a hK => ?_
              refine sl hK (by decide) (wtt hb_34) rfl (r_beq Tryd.underlying4 hK rfl rfl) fun a hK => ?_
              refine sl hK (by decide) rfl rfl (r_pick_t hb_34 hK rfl rfl) fun a hK => ?_
              refine sl hK (by decide) rfl rfl (r_assign hK rfl) fun a hK => ?_
              refine wpList_nil ?_
              have hr_ := Option.some.inj H
              refine wp_ret ?_
              repeat (first | refine ret_then ?_ | refine ret_block ?_ | refine ret_scope ?_)
              exact ret_1 Tryd.results5 hK (rv_tmp hK rfl) ⟨congrArg (fun b => Ending.returned (Value.bool b)) hr_, hS.bel⟩
            · rw [ifb_f hb_37] at H
              refine sl_skip hK (by decide) (wtf hb_37) rfl fun a hK => ?_
              refine sl_skip hK (by decide) (wtf hb_37) rfl fun a hK => ?_
              refine sl_skip hK (by decide) (wtf hb_37) rfl fun a hK => ?_
              refine sl hK (by decide) (wtt hb_34) rfl (r_pick_f hb_37 hK rfl rfl) fun a hK => ?_
              refine sl hK (by decide) (wtt hb_34) rfl (r_beq Tryd.underlying4 hK rfl rfl) fun a hK => ?_
              refine sl hK (by decide) rfl rfl (r_pick_t hb_34 hK rfl rfl) fun a hK => ?_
              refine sl hK (by decide) rfl rfl (r_assign hK rfl) fun a hK => ?_
              refine wpList_nil ?_
              have hr_ := Option.some.inj H
              refine wp_ret ?_
              repeat (first | refine ret_then ?_ | refine ret_block ?_ | refine ret_scope ?_)
              exact ret_1 Tryd.results5 hK (rv_tmp hK rfl) ⟨congrArg (fun b => Ending.returned (Value.bool b)) hr_, hS.bel⟩
        · rw [ifb_f hb_34] at H
          refine sl_skip hK (by decide) (wtf hb_34) rfl fun a hK => ?_
          refine sl_skip hK (by decide) (wtf hb_34) rfl fun a hK => ?_
          refine sl_skip hK (by decide) (wtf hb_34) rfl fun a hK => ?_
          refine sl_skip hK (by decide) rfl rfl fun a hK => ?_
          refine sl_skip hK (by decide) rfl rfl fun a hK => ?_
          refine sl_skip hK (by decide) (wtf hb_34) rfl fun a hK => ?_
          refine sl_skip hK (by decide) (wtf hb_34) rfl fun a hK => ?_
          refine sl_skip hK (by decide) (wtf hb_34) rfl fun a hK => ?_
          refine sl_skip hK (by decide) (wtf hb_34) rfl fun a hK => ?_
          refine sl_skip hK (by decide) (wtf hb_34) rfl fun a hK => ?_
          refine sl_skip hK (by decide) rfl rfl fun a hK => ?_
          refine sl_skip hK (by decide) rfl rfl fun a hK => ?_
          refine sl_skip hK (by decide) rfl rfl fun a hK => ?_
          refine sl_skip hK (by decide) (wtf hb_34) rfl fun a hK => ?_
          refine sl_skip hK (by decide) (wtf hb_34) rfl fun a hK => ?_
          refine sl hK (by decide) rfl rfl (r_pick_f hb_34 hK rfl rfl) fun a hK => ?_
          refine sl hK (by decide) rfl rfl (r_assign hK rfl) fun a hK => ?_
          refine wpList_nil ?_
          exact absurd (Option.some.inj H) (by decide)
      · rw [ifb_f hb_33] at H
        refine sl_skip hK (by decide) (wtf hb_33) rfl fun a hK => ?_
        refine sl_skip hK (by decide) (wtf hb_33) rfl fun a hK => ?_
        refine sl_skip hK (by decide) (wtf hb_33) rfl fun a hK => ?_
        refine sl_skip hK (by decide) (wtf hb_33) rfl fun a hK => ?_
        refine sl_skip hK (by decide) (wtf hb_33) rfl fun a hK => ?_
        refine sl_skip hK (by decide) (wtf hb_33) rfl fun a hK => ?_
        refine sl hK (by decide) rfl rfl (r_pick_f hb_33 hK rfl rfl) fun a hK => ?_
        refine sl hK (by decide) rfl rfl (r_move hK rfl) fun a hK => ?_
        refine sl_skip hK (by decide) rfl rfl fun a hK => ?_
        refine sl_skip hK (by decide) rfl rfl fun a hK => ?_
        refine sl_skip hK (by decide) rfl rfl fun a hK => ?_
        refine sl_skip hK (by decide) rfl rfl fun a hK => ?_
        refine sl_skip hK (by decide) rfl rfl fun a hK => ?_
        refine sl_skip hK (by decide) rfl rfl fun a hK => ?_
        refine sl_skip hK (by decide) rfl rfl fun a hK => ?_
        refine sl_skip hK (by decide) rfl rfl fun a hK => ?_
        refine sl_skip hK (by decide) rfl rfl fun a hK => ?_
        refine sl_skip hK (by decide) rfl rfl fun a hK => ?_
        refine sl_skip hK (by decide) rfl rfl fun a hK => ?_
        refine sl_skip hK (by decide) rfl rfl fun a hK => ?_
        refine sl_skip hK (by decide) rfl rfl fun a hK => ?_
        refine sl_skip hK (by decide) rfl rfl fun a hK => ?_
        refine sl_skip hK (by decide) rfl rfl fun a hK => ?_
        refine sl hK (by decide) rfl rfl (r_pick hK rfl rfl rfl) fun a hK => ?_
        refine sl hK (by decide) rfl rfl (r_assign hK rfl) fun a hK => ?_
        refine wpList_nil ?_
        exact absurd (Option.some.inj H) (by decide)

end Go.Proofs.YtmohocmmelaeaaaDoor.M
