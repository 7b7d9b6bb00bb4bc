/- Each Go function of the laws answers as its plain Lean function tells, wherever that tells something. Printed by wip/eng/gen.py. -/
import Derived.Test.YtmohocmmelaeaaaDoorWalk1
namespace Go.Proofs.YtmohocmmelaeaaaDoor.M
open Go Go.Eng Go.Proofs Go.RowKit
set_option linter.unusedVariables false
set_option linter.unusedSimpArgs false

/-! ### catchment/catchmentlaw01.ValueTells: function 11 -/
set_option maxHeartbeats 4000000 in
set_option maxRecDepth 100000 in
theorem law01_ValueTells.calls (a0 : api_Value) (a1 : api_Value) {w0 : World} {RA : Hp} (hRA : RA.sub w0) (hG : GF RA) (H : law01_ValueTells a0 a1 = some true) : CallsV Tryd.prog 11 #[.agg #[.int .i64 a0.Kind, .int .i64 a0.N, .string a0.S, .int .i64 a0.H.a0, .int .i64 a0.H.a1, .int .i64 a0.H.a2, .int .i64 a0.H.a3, .int .i64 a0.H.a4, .int .i64 a0.H.a5, .int .i64 a0.H.a6, .int .i64 a0.H.a7], .agg #[.int .i64 a1.Kind, .int .i64 a1.N, .string a1.S, .int .i64 a1.H.a0, .int .i64 a1.H.a1, .int .i64 a1.H.a2, .int .i64 a1.H.a3, .int .i64 a1.H.a4, .int .i64 a1.H.a5, .int .i64 a1.H.a6, .int .i64 a1.H.a7]] w0 (.bool true) := by
  unfold law01_ValueTells at H
  refine enter (args := [.agg #[.int .i64 a0.Kind, .int .i64 a0.N, .string a0.S, .int .i64 a0.H.a0, .int .i64 a0.H.a1, .int .i64 a0.H.a2, .int .i64 a0.H.a3, .int .i64 a0.H.a4, .int .i64 a0.H.a5, .int .i64 a0.H.a6, .int .i64 a0.H.a7], .agg #[.int .i64 a1.Kind, .int .i64 a1.N, .string a1.S, .int .i64 a1.H.a0, .int .i64 a1.H.a1, .int .i64 a1.H.a2, .int .i64 a1.H.a3, .int .i64 a1.H.a4, .int .i64 a1.H.a5, .int .i64 a1.H.a6, .int .i64 a1.H.a7]]) Tryd.func11 rfl Tryd.ntmps11 rfl fun a hK => ?_
  have hS := St.init (R := fun _ => none) (w := w0) (fun _ _ h => by cases h)
  have hRL := RLe.refl (M := []) w0 (fun _ => none)
  refine wp_seq ?_
  refine wp_region_lit ?_
  refine sl_box hS hK (by decide) rfl rfl (c := [.int .i64 a0.Kind, .int .i64 a0.N, .string a0.S, .int .i64 a0.H.a0, .int .i64 a0.H.a1, .int .i64 a0.H.a2, .int .i64 a0.H.a3, .int .i64 a0.H.a4, .int .i64 a0.H.a5, .int .i64 a0.H.a6, .int .i64 a0.H.a7]) rfl fun a w b_1 hS hK => ?_
  refine sl_box hS hK (by decide) rfl rfl (c := [.int .i64 a1.Kind, .int .i64 a1.N, .string a1.S, .int .i64 a1.H.a0, .int .i64 a1.H.a1, .int .i64 a1.H.a2, .int .i64 a1.H.a3, .int .i64 a1.H.a4, .int .i64 a1.H.a5, .int .i64 a1.H.a6, .int .i64 a1.H.a7]) rfl fun a w b_2 hS hK => ?_
  refine sl hK (by decide) rfl rfl (r_assign hK rfl) fun a hK => ?_
  refine wpList_nil ?_
  refine wp_seq ?_
  refine wp_region_lit ?_
  obtain ⟨y_3, h_4, H⟩ := bind_some H
  refine sl_callV Tryd.call13 hS hK (by decide) rfl rfl rfl (law01_shown.calls (lentOf_sub [] _) (GF.mono (hS.raLe0 hRA nil_not) hG) h_4) fun a w hS hK => ?_
  refine sl hK (by decide) rfl rfl (r_assign hK rfl) fun a hK => ?_
  refine wpList_nil ?_
  refine wp_seq ?_
  refine wp_seq ?_
  refine wp_mid (fun a w => ∃ (x_10 : Bool), law01_ValueTells.j0 a0 a1 y_3 x_10 = some true ∧ Kn 33 a [(2, .pointer (some ⟨b_1, 0, none⟩)), (3, .pointer (some ⟨b_2, 0, none⟩)), (5, .bool y_3), (14, .bool x_10)] ∧ St [] w0 w (fun _ => none) [.cells b_1 [.int .i64 a0.Kind, .int .i64 a0.N, .string a0.S, .int .i64 a0.H.a0, .int .i64 a0.H.a1, .int .i64 a0.H.a2, .int .i64 a0.H.a3, .int .i64 a0.H.a4, .int .i64 a0.H.a5, .int .i64 a0.H.a6, .int .i64 a0.H.a7] 24, .cells b_2 [.int .i64 a1.Kind, .int .i64 a1.N, .string a1.S, .int .i64 a1.H.a0, .int .i64 a1.H.a1, .int .i64 a1.H.a2, .int .i64 a1.H.a3, .int .i64 a1.H.a4, .int .i64 a1.H.a5, .int .i64 a1.H.a6, .int .i64 a1.H.a7] 24]) ?_ ?_
  · refine wp_region_lit ?_
    refine sl hK (by decide) rfl rfl (r_loadA (cs := [.int .i64 a0.Kind, .int .i64 a0.N, .string a0.S, .int .i64 a0.H.a0, .int .i64 a0.H.a1, .int .i64 a0.H.a2, .int .i64 a0.H.a3, .int .i64 a0.H.a4, .int .i64 a0.H.a5, .int .i64 a0.H.a6, .int .i64 a0.H.a7]) Tryd.isAgg24 Tryd.sizeOf24 rfl hK rfl (hS.cells_of (m := 11) (.tail _ (.head _)) rfl)) fun a hK => ?_
    obtain ⟨y_12, h_13, H⟩ := bind_some H
    refine sl_callV Tryd.call14 hS hK (by decide) rfl rfl rfl (value_Valid.calls a0 h_13 _) fun a w hS hK => ?_
    refine sl hK (by decide) rfl rfl (r_un hK rfl (u_not _)) fun a hK => ?_
    refine sl hK (by decide) rfl rfl (r_move hK rfl) fun a hK => ?_
    rcases or_b (!y_12) with hb_14 | hb_14
    · rw [ifb_t hb_14] at H
      refine sl_skip hK (by decide) (wft hb_14) rfl fun a hK => ?_
      refine sl_skip hK (by decide) (wft hb_14) rfl fun a hK => ?_
      refine sl_skip hK (by decide) (wft hb_14) rfl fun a hK => ?_
      refine sl hK (by decide) rfl rfl (r_pick_t hb_14 hK rfl rfl) fun a hK => ?_
      refine wpList_nil ?_
      have hS := hS.pk1
      exact ⟨true, H, hK.sub (all_cons rfl (all_cons rfl (all_cons rfl (all_cons rfl (all_nil))))), hS⟩
    · rw [ifb_f hb_14] at H
      refine sl hK (by decide) (wff hb_14) rfl (r_loadA (cs := [.int .i64 a1.Kind, .int .i64 a1.N, .string a1.S, .int .i64 a1.H.a0, .int .i64 a1.H.a1, .int .i64 a1.H.a2, .int .i64 a1.H.a3, .int .i64 a1.H.a4, .int .i64 a1.H.a5, .int .i64 a1.H.a6, .int .i64 a1.H.a7]) Tryd.isAgg24 Tryd.sizeOf24 rfl hK rfl (hS.cells_of (m := 11) (.head _) rfl)) fun a hK => ?_
      obtain ⟨y_15, h_16, H⟩ := bind_some H
      refine sl_callV Tryd.call14 hS hK (by decide) (wff hb_14) rfl rfl (value_Valid.calls a1 h_16 _) fun a w hS hK => ?_
      refine sl hK (by decide) (wff hb_14) rfl (r_un hK rfl (u_not _)) fun a hK => ?_
      refine sl hK (by decide) rfl rfl (r_pick_f hb_14 hK rfl rfl) fun a hK => ?_
      refine wpList_nil ?_
      have hS := hS.pk1
      exact ⟨(!y_15), H, hK.sub (all_cons rfl (all_cons rfl (all_cons rfl (all_cons rfl (all_nil))))), hS⟩
  · rintro a w ⟨x_10, H, hK, hS⟩
    unfold law01_ValueTells.j0 at H
    refine wp_cond_split (hK.ev rfl) (fun (hb_17 : x_10 = true) => ?_) (fun (hb_17 : x_10 = false) => ?_)
    · rw [ifb_t hb_17] at H
      refine wp_seq ?_
      refine wp_region_lit ?_
      refine sl hK (by decide) rfl rfl (r_move hK rfl) fun a hK => ?_
      refine sl hK (by decide) rfl rfl (r_assign hK rfl) fun a hK => ?_
      refine wpList_nil ?_
      have hr_ := Option.some.inj H
      refine wp_ret ?_
      repeat (first | refine ret_then ?_ | refine ret_block ?_ | refine ret_scope ?_)
      exact ret_1 Tryd.results11 hK (rv_tmp hK rfl) ⟨congrArg (fun b => Ending.returned (Value.bool b)) hr_, hS.bel⟩
    · rw [ifb_f hb_17] at H
      refine wp_skip ?_
      refine wp_seq ?_
      refine parT_region (C := fun w => St [] w0 w (fun _ => none) [.cells b_1 [.int .i64 a0.Kind, .int .i64 a0.N, .string a0.S, .int .i64 a0.H.a0, .int .i64 a0.H.a1, .int .i64 a0.H.a2, .int .i64 a0.H.a3, .int .i64 a0.H.a4, .int .i64 a0.H.a5, .int .i64 a0.H.a6, .int .i64 a0.H.a7] 24, .cells b_2 [.int .i64 a1.Kind, .int .i64 a1.N, .string a1.S, .int .i64 a1.H.a0, .int .i64 a1.H.a1, .int .i64 a1.H.a2, .int .i64 a1.H.a3, .int .i64 a1.H.a4, .int .i64 a1.H.a5, .int .i64 a1.H.a6, .int .i64 a1.H.a7] 24]) 10 [(0, true), (1, true), (2, true), (4, true), (7, true), (8, true), (9, true), (3, false), (5, false), (6, true)] mixed (by kernel_rfl) hS (fun w hS => hS) fun w hS => ?_
      refine sp (k := 0) rfl hK (by decide) rfl rfl (fun w hS => r_move hK rfl) fun a hK => ?_
      refine sp (k := 1) rfl hK (by decide) rfl rfl (fun w hS => r_move hK rfl) fun a hK => ?_
      rcases or_b y_3 with hb_26 | hb_26
      · rw [ifb_t hb_26] at H
        refine sp (k := 2) rfl hK (by decide) (wtt hb_26) rfl (fun w hS => r_loadA (cs := [.int .i64 a0.Kind, .int .i64 a0.N, .string a0.S, .int .i64 a0.H.a0, .int .i64 a0.H.a1, .int .i64 a0.H.a2, .int .i64 a0.H.a3, .int .i64 a0.H.a4, .int .i64 a0.H.a5, .int .i64 a0.H.a6, .int .i64 a0.H.a7]) Tryd.isAgg24 Tryd.sizeOf24 rfl hK rfl (hS.cells_of (m := 11) (.head _) rfl)) fun a hK => ?_
        refine sp (k := 4) rfl hK (by decide) (wtt hb_26) rfl (fun w hS => r_loadA (cs := [.int .i64 a1.Kind, .int .i64 a1.N, .string a1.S, .int .i64 a1.H.a0, .int .i64 a1.H.a1, .int .i64 a1.H.a2, .int .i64 a1.H.a3, .int .i64 a1.H.a4, .int .i64 a1.H.a5, .int .i64 a1.H.a6, .int .i64 a1.H.a7]) Tryd.isAgg24 Tryd.sizeOf24 rfl hK rfl (hS.cells_of (m := 11) (.tail _ (.head _)) rfl)) fun a hK => ?_
        refine sp (k := 7) rfl hK (by decide) (wtt hb_26) rfl (fun w hS => r_loadA (cs := [.int .i64 a0.Kind, .int .i64 a0.N, .string a0.S, .int .i64 a0.H.a0, .int .i64 a0.H.a1, .int .i64 a0.H.a2, .int .i64 a0.H.a3, .int .i64 a0.H.a4, .int .i64 a0.H.a5, .int .i64 a0.H.a6, .int .i64 a0.H.a7]) Tryd.isAgg24 Tryd.sizeOf24 rfl hK rfl (hS.cells_of (m := 11) (.head _) rfl)) fun a hK => ?_
        refine sp (k := 8) rfl hK (by decide) (wtt hb_26) rfl (fun w hS => r_loadA (cs := [.int .i64 a1.Kind, .int .i64 a1.N, .string a1.S, .int .i64 a1.H.a0, .int .i64 a1.H.a1, .int .i64 a1.H.a2, .int .i64 a1.H.a3, .int .i64 a1.H.a4, .int .i64 a1.H.a5, .int .i64 a1.H.a6, .int .i64 a1.H.a7]) Tryd.isAgg24 Tryd.sizeOf24 rfl hK rfl (hS.cells_of (m := 11) (.tail _ (.head _)) rfl)) fun a hK => ?_
        refine sp (k := 9) rfl hK (by decide) (wtt hb_26) rfl (fun w hS => r_seq (by kernel_rfl) (eqs24 a0 a1) hK rfl rfl) fun a hK => ?_
        refine spw (k := 3) rfl rfl hS ?_
        obtain ⟨y_27, h_28, H⟩ := bind_some H
        refine sl_callV Tryd.call16 hS hK (by decide) (wtt hb_26) rfl rfl (value_Text.calls a0 (lentOf_sub [] _) (GF.mono (hS.raLe0 hRA nil_not) hG) h_28) fun a w hS hK => ?_
        refine parK_nil hS ?_
        refine spw (k := 5) rfl rfl hS ?_
        obtain ⟨y_29, h_30, H⟩ := bind_some H
        refine sl_callV Tryd.call16 hS hK (by decide) (wtt hb_26) rfl rfl (value_Text.calls a1 (lentOf_sub [] _) (GF.mono (hS.raLe0 hRA nil_not) hG) h_30) fun a w hS hK => ?_
        refine parK_nil hS ?_
        refine sp (k := 6) rfl hK (by decide) (wtt hb_26) rfl (fun w hS => r_sbin hK rfl rfl rfl) fun a hK => ?_
        refine thenL_nil ?_
        refine sl hK (by decide) (wtt hb_26) rfl (r_beq Tryd.underlying4 hK rfl rfl) fun a hK => ?_
        refine sl hK (by decide) rfl rfl (r_pick_t hb_26 hK rfl rfl) fun a hK => ?_
        refine sl hK (by decide) rfl rfl (r_move hK rfl) fun a hK => ?_
        rcases or_b ((y_27.toList == y_29.toList) == (decide (a0 = a1))) with hb_31 | hb_31
        · rw [ifb_t hb_31] at H
          refine sl hK (by decide) (wtt hb_31) rfl (r_loadA (cs := [.int .i64 a0.Kind, .int .i64 a0.N, .string a0.S, .int .i64 a0.H.a0, .int .i64 a0.H.a1, .int .i64 a0.H.a2, .int .i64 a0.H.a3, .int .i64 a0.H.a4, .int .i64 a0.H.a5, .int .i64 a0.H.a6, .int .i64 a0.H.a7]) Tryd.isAgg24 Tryd.sizeOf24 rfl hK rfl (hS.cells_of (m := 11) (.head _) rfl)) fun a hK => ?_
          obtain ⟨y_32, h_33, H⟩ := bind_some H
          refine sl_callV Tryd.call16 hS hK (by decide) (wtt hb_31) rfl rfl (value_Text.calls a0 (lentOf_sub [] _) (GF.mono (hS.raLe0 hRA nil_not) hG) h_33) fun a w hS hK => ?_
          refine sl hK (by decide) (wtt hb_31) rfl (r_sbin hK rfl rfl rfl) fun a hK => ?_
          refine sl hK (by decide) rfl rfl (r_pick_t hb_31 hK rfl rfl) fun a hK => ?_
          refine sl hK (by decide) rfl rfl (r_assign hK rfl) fun a hK => ?_
          refine wpList_nil (NoP_nil ?_)
          have hr_ := Option.some.inj H
          refine wp_ret ?_
          repeat (first | refine ret_then ?_ | refine ret_block ?_ | refine ret_scope ?_)
          exact ret_1 Tryd.results11 hK (rv_tmp hK rfl) ⟨congrArg (fun b => Ending.returned (Value.bool b)) hr_, hS.bel⟩
        · rw [ifb_f hb_31] at H
          refine sl_skip hK (by decide) (wtf hb_31) rfl fun a hK => ?_
          refine sl_skip hK (by decide) (wtf hb_31) rfl fun a hK => ?_
          refine sl_skip hK (by decide) (wtf hb_31) rfl fun a hK => ?_
          refine sl hK (by decide) rfl rfl (r_pick_f hb_31 hK rfl rfl) fun a hK => ?_
          refine sl hK (by decide) rfl rfl (r_assign hK rfl) fun a hK => ?_
          refine wpList_nil (NoP_nil ?_)
          exact absurd (Option.some.inj H) (by decide)
      · rw [ifb_f hb_26] at H
        refine sp_skip (k := 2) rfl hK (by decide) (wtf hb_26) rfl fun a hK => ?_
        refine sp_skip (k := 4) rfl hK (by decide) (wtf hb_26) rfl fun a hK => ?_
        refine sp_skip (k := 7) rfl hK (by decide) (wtf hb_26) rfl fun a hK => ?_
        refine sp_skip (k := 8) rfl hK (by decide) (wtf hb_26) rfl fun a hK => ?_
        refine sp_skip (k := 9) rfl hK (by decide) (wtf hb_26) rfl fun a hK => ?_
        refine spw (k := 3) rfl rfl hS ?_
        refine sl_skip hK (by decide) (wtf hb_26) rfl fun a hK => ?_
        refine parK_nil hS ?_
        refine spw (k := 5) rfl rfl hS ?_
        refine sl_skip hK (by decide) (wtf hb_26) rfl fun a hK => ?_
        refine parK_nil hS ?_
        refine sp_skip (k := 6) rfl hK (by decide) (wtf hb_26) rfl fun a hK => ?_
        refine thenL_nil ?_
        refine sl_skip hK (by decide) (wtf hb_26) rfl fun a hK => ?_
        refine sl hK (by decide) rfl rfl (r_pick_f hb_26 hK rfl rfl) fun a hK => ?_
        refine sl hK (by decide) rfl rfl (r_move hK rfl) fun a hK => ?_
        refine sl_skip hK (by decide) rfl rfl fun a hK => ?_
        refine sl_skip hK (by decide) rfl rfl fun a hK => ?_
        refine sl_skip hK (by decide) rfl rfl fun a hK => ?_
        refine sl hK (by decide) rfl rfl (r_pick hK rfl rfl rfl) fun a hK => ?_
        refine sl hK (by decide) rfl rfl (r_assign hK rfl) fun a hK => ?_
        refine wpList_nil (NoP_nil ?_)
        exact absurd (Option.some.inj H) (by decide)

end Go.Proofs.YtmohocmmelaeaaaDoor.M
