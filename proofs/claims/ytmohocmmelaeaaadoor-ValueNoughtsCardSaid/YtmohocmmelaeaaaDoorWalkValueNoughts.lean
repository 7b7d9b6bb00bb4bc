/- Each Go function of the laws answers as its plain Lean function tells, wherever that tells something. Printed by wip/eng/gen.py. -/
import Derived.Test.YtmohocmmelaeaaaDoorWalk1
namespace Go.Proofs.YtmohocmmelaeaaaDoor.M
open Go Go.Eng Go.Proofs Go.RowKit
set_option linter.unusedVariables false
set_option linter.unusedSimpArgs false

/-! ### catchment/catchmentlaw01.ValueNoughts: function 12 -/
set_option maxHeartbeats 4000000 in
set_option maxRecDepth 100000 in
theorem law01_ValueNoughts.calls (a0 : Int) (a1 : Arr8) {w0 : World} {RA : Hp} (hRA : RA.sub w0) (hG : GF RA) (H : law01_ValueNoughts a0 a1 = some true) : CallsV Tryd.prog 12 #[.int .i64 a0, .agg #[.int .i64 a1.a0, .int .i64 a1.a1, .int .i64 a1.a2, .int .i64 a1.a3, .int .i64 a1.a4, .int .i64 a1.a5, .int .i64 a1.a6, .int .i64 a1.a7]] w0 (.bool true) := by
  unfold law01_ValueNoughts at H
  refine enter (args := [.int .i64 a0, .agg #[.int .i64 a1.a0, .int .i64 a1.a1, .int .i64 a1.a2, .int .i64 a1.a3, .int .i64 a1.a4, .int .i64 a1.a5, .int .i64 a1.a6, .int .i64 a1.a7]]) Tryd.func12 rfl Tryd.ntmps12 rfl fun a hK => ?_
  have hS := St.init (R := fun _ => none) (w := w0) (fun _ _ h => by cases h)
  have hRL := RLe.refl (M := []) w0 (fun _ => none)
  refine wp_seq ?_
  refine wp_region_lit ?_
  refine sl_box hS hK (by decide) rfl rfl (c := [.int .i64 a1.a0, .int .i64 a1.a1, .int .i64 a1.a2, .int .i64 a1.a3, .int .i64 a1.a4, .int .i64 a1.a5, .int .i64 a1.a6, .int .i64 a1.a7]) rfl fun a w b_1 hS hK => ?_
  refine sl hK (by decide) rfl rfl (r_assign hK rfl) fun a hK => ?_
  refine wpList_nil ?_
  refine wp_seq ?_
  refine wp_region_lit ?_
  obtain ⟨y_2, h_3, H⟩ := bind_some H
  refine sl_callV Tryd.call13 hS hK (by decide) rfl rfl rfl (law01_shown.calls (lentOf_sub [] _) (GF.mono (hS.raLe0 hRA nil_not) hG) h_3) fun a w hS hK => ?_
  refine sl hK (by decide) rfl rfl (r_assign hK rfl) fun a hK => ?_
  refine wpList_nil ?_
  refine wp_seq ?_
  refine wp_region_lit ?_
  refine sl hK (by decide) rfl rfl (r_move hK rfl) fun a hK => ?_
  obtain ⟨y_4, h_5, H⟩ := bind_some H
  refine sl_callV Tryd.call24 hS hK (by decide) rfl rfl rfl (value_OfInt.calls a0 h_5 _) fun a w hS hK => ?_
  obtain ⟨y_6, h_7, H⟩ := bind_some H
  refine sl_callV Tryd.call24 hS hK (by decide) rfl rfl rfl (value_OfInt.calls 0 h_7 _) fun a w hS hK => ?_
  obtain ⟨y_8, h_9, H⟩ := bind_some H
  refine sl_callV Tryd.call22 hS hK (by decide) rfl rfl rfl (value_Add.calls y_4 y_6 h_9 _) fun a w hS hK => ?_
  refine sl hK (by decide) rfl rfl (r_move hK rfl) fun a hK => ?_
  refine sl hK (by decide) rfl rfl (r_extract hK rfl rfl) fun a hK => ?_
  refine sl hK (by decide) rfl rfl (r_extract hK rfl rfl) fun a hK => ?_
  refine sl_alloc Tryd.zeroValue24 hS hK (by decide) rfl rfl fun a w b_10 hS hK => ?_
  refine sl_storeA (vs := [.int .i64 y_8.1.Kind, .int .i64 y_8.1.N, .string y_8.1.S, .int .i64 y_8.1.H.a0, .int .i64 y_8.1.H.a1, .int .i64 y_8.1.H.a2, .int .i64 y_8.1.H.a3, .int .i64 y_8.1.H.a4, .int .i64 y_8.1.H.a5, .int .i64 y_8.1.H.a6, .int .i64 y_8.1.H.a7]) (c' := [.int .i64 y_8.1.Kind, .int .i64 y_8.1.N, .string y_8.1.S, .int .i64 y_8.1.H.a0, .int .i64 y_8.1.H.a1, .int .i64 y_8.1.H.a2, .int .i64 y_8.1.H.a3, .int .i64 y_8.1.H.a4, .int .i64 y_8.1.H.a5, .int .i64 y_8.1.H.a6, .int .i64 y_8.1.H.a7]) Tryd.sizeOf24 hS hK rfl rfl rfl rfl (all_cons rfl (all_cons rfl (all_cons rfl (all_cons rfl (all_cons rfl (all_cons rfl (all_cons rfl (all_cons rfl (all_cons rfl (all_cons rfl (all_cons rfl (all_nil)))))))))))) (Nat.le_of_ble_eq_true rfl) rfl fun a w hS hK => ?_
  refine sl hK (by decide) rfl rfl (r_assign hK rfl) fun a hK => ?_
  refine wpList_nil ?_
  refine wp_seq ?_
  refine wp_region_lit ?_
  refine sl hK (by decide) rfl rfl (r_move hK rfl) fun a hK => ?_
  obtain ⟨y_11, h_12, H⟩ := bind_some H
  refine sl_callV Tryd.call24 hS hK (by decide) rfl rfl rfl (value_OfInt.calls a0 h_12 _) fun a w hS hK => ?_
  refine sl hK (by decide) rfl rfl (r_move hK rfl) fun a hK => ?_
  refine sl hK (by decide) rfl rfl (r_un hK rfl (u_neg _ _)) fun a hK => ?_
  obtain ⟨y_13, h_14, H⟩ := bind_some H
  refine sl_callV Tryd.call24 hS hK (by decide) rfl rfl rfl (value_OfInt.calls (IntKind.i64.wrap (0 - a0)) h_14 _) fun a w hS hK => ?_
  obtain ⟨y_15, h_16, H⟩ := bind_some H
  refine sl_callV Tryd.call22 hS hK (by decide) rfl rfl rfl (value_Add.calls y_11 y_13 h_16 _) fun a w hS hK => ?_
  refine sl hK (by decide) rfl rfl (r_move hK rfl) fun a hK => ?_
  refine sl hK (by decide) rfl rfl (r_extract hK rfl rfl) fun a hK => ?_
  refine sl hK (by decide) rfl rfl (r_extract hK rfl rfl) fun a hK => ?_
  refine sl_alloc Tryd.zeroValue24 hS hK (by decide) rfl rfl fun a w b_17 hS hK => ?_
  refine sl_storeA (vs := [.int .i64 y_15.1.Kind, .int .i64 y_15.1.N, .string y_15.1.S, .int .i64 y_15.1.H.a0, .int .i64 y_15.1.H.a1, .int .i64 y_15.1.H.a2, .int .i64 y_15.1.H.a3, .int .i64 y_15.1.H.a4, .int .i64 y_15.1.H.a5, .int .i64 y_15.1.H.a6, .int .i64 y_15.1.H.a7]) (c' := [.int .i64 y_15.1.Kind, .int .i64 y_15.1.N, .string y_15.1.S, .int .i64 y_15.1.H.a0, .int .i64 y_15.1.H.a1, .int .i64 y_15.1.H.a2, .int .i64 y_15.1.H.a3, .int .i64 y_15.1.H.a4, .int .i64 y_15.1.H.a5, .int .i64 y_15.1.H.a6, .int .i64 y_15.1.H.a7]) Tryd.sizeOf24 hS hK rfl rfl rfl rfl (all_cons rfl (all_cons rfl (all_cons rfl (all_cons rfl (all_cons rfl (all_cons rfl (all_cons rfl (all_cons rfl (all_cons rfl (all_cons rfl (all_cons rfl (all_nil)))))))))))) (Nat.le_of_ble_eq_true rfl) rfl fun a w hS hK => ?_
  refine sl hK (by decide) rfl rfl (r_assign hK rfl) fun a hK => ?_
  refine wpList_nil ?_
  refine wp_seq ?_
  refine wp_region_lit ?_
  refine sl hK (by decide) rfl rfl (r_loadA (cs := [.int .i64 a1.a0, .int .i64 a1.a1, .int .i64 a1.a2, .int .i64 a1.a3, .int .i64 a1.a4, .int .i64 a1.a5, .int .i64 a1.a6, .int .i64 a1.a7]) Tryd.isAgg22 Tryd.sizeOf22 rfl hK rfl (hS.cells_of (m := 8) (.tail _ (.tail _ (.head _))) rfl)) fun a hK => ?_
  refine sl hK (by decide) rfl rfl (r_buildC (ps := [(0, .int .i64 4), (3, .agg #[.int .i64 a1.a0, .int .i64 a1.a1, .int .i64 a1.a2, .int .i64 a1.a3, .int .i64 a1.a4, .int .i64 a1.a5, .int .i64 a1.a6, .int .i64 a1.a7])]) (c := [.int .i64 4, .int .i64 0, .string (⟨#[]⟩ : ByteArray), .int .i64 a1.a0, .int .i64 a1.a1, .int .i64 a1.a2, .int .i64 a1.a3, .int .i64 a1.a4, .int .i64 a1.a5, .int .i64 a1.a6, .int .i64 a1.a7]) Tryd.underlying24 Tryd.zeroValue24 places24 hK rfl (pc_cons rfl (pc_cons rfl pc_nil)) rfl rfl) fun a hK => ?_
  refine sl_alloc Tryd.zeroValue24 hS hK (by decide) rfl rfl fun a w b_18 hS hK => ?_
  refine sl_storeA (vs := [.int .i64 4, .int .i64 0, .string (⟨#[]⟩ : ByteArray), .int .i64 a1.a0, .int .i64 a1.a1, .int .i64 a1.a2, .int .i64 a1.a3, .int .i64 a1.a4, .int .i64 a1.a5, .int .i64 a1.a6, .int .i64 a1.a7]) (c' := [.int .i64 4, .int .i64 0, .string (⟨#[]⟩ : ByteArray), .int .i64 a1.a0, .int .i64 a1.a1, .int .i64 a1.a2, .int .i64 a1.a3, .int .i64 a1.a4, .int .i64 a1.a5, .int .i64 a1.a6, .int .i64 a1.a7]) Tryd.sizeOf24 hS hK rfl rfl rfl rfl (all_cons rfl (all_cons rfl (all_cons rfl (all_cons rfl (all_cons rfl (all_cons rfl (all_cons rfl (all_cons rfl (all_cons rfl (all_cons rfl (all_cons rfl (all_nil)))))))))))) (Nat.le_of_ble_eq_true rfl) rfl fun a w hS hK => ?_
  refine wpList_nil ?_
  refine wp_seq ?_
  refine wp_region_lit ?_
  refine sl hK (by decide) rfl rfl (r_loadA (cs := [.int .i64 4, .int .i64 0, .string (⟨#[]⟩ : ByteArray), .int .i64 a1.a0, .int .i64 a1.a1, .int .i64 a1.a2, .int .i64 a1.a3, .int .i64 a1.a4, .int .i64 a1.a5, .int .i64 a1.a6, .int .i64 a1.a7]) Tryd.isAgg24 Tryd.sizeOf24 rfl hK rfl (hS.cells_of (m := 11) (.head _) rfl)) fun a hK => ?_
  refine sl hK (by decide) rfl rfl (r_buildC (ps := [(0, .int .i64 4)]) (c := [.int .i64 4, .int .i64 0, .string (⟨#[]⟩ : ByteArray), .int .i64 0, .int .i64 0, .int .i64 0, .int .i64 0, .int .i64 0, .int .i64 0, .int .i64 0, .int .i64 0]) Tryd.underlying24 Tryd.zeroValue24 places24 hK rfl (pc_cons rfl pc_nil) rfl rfl) fun a hK => ?_
  obtain ⟨y_19, h_20, H⟩ := bind_some H
  refine sl_callV Tryd.call22 hS hK (by decide) rfl rfl rfl (value_Add.calls (⟨4, 0, (⟨#[]⟩ : ByteArray), a1⟩ : api_Value) (⟨4, 0, (⟨#[]⟩ : ByteArray), (⟨0, 0, 0, 0, 0, 0, 0, 0⟩ : Arr8)⟩ : api_Value) h_20 _) fun a w hS hK => ?_
  refine sl hK (by decide) rfl rfl (r_move hK rfl) fun a hK => ?_
  refine sl hK (by decide) rfl rfl (r_extract hK rfl rfl) fun a hK => ?_
  refine sl hK (by decide) rfl rfl (r_extract hK rfl rfl) fun a hK => ?_
  refine sl_alloc Tryd.zeroValue24 hS hK (by decide) rfl rfl fun a w b_21 hS hK => ?_
  refine sl_storeA (vs := [.int .i64 y_19.1.Kind, .int .i64 y_19.1.N, .string y_19.1.S, .int .i64 y_19.1.H.a0, .int .i64 y_19.1.H.a1, .int .i64 y_19.1.H.a2, .int .i64 y_19.1.H.a3, .int .i64 y_19.1.H.a4, .int .i64 y_19.1.H.a5, .int .i64 y_19.1.H.a6, .int .i64 y_19.1.H.a7]) (c' := [.int .i64 y_19.1.Kind, .int .i64 y_19.1.N, .string y_19.1.S, .int .i64 y_19.1.H.a0, .int .i64 y_19.1.H.a1, .int .i64 y_19.1.H.a2, .int .i64 y_19.1.H.a3, .int .i64 y_19.1.H.a4, .int .i64 y_19.1.H.a5, .int .i64 y_19.1.H.a6, .int .i64 y_19.1.H.a7]) Tryd.sizeOf24 hS hK rfl rfl rfl rfl (all_cons rfl (all_cons rfl (all_cons rfl (all_cons rfl (all_cons rfl (all_cons rfl (all_cons rfl (all_cons rfl (all_cons rfl (all_cons rfl (all_cons rfl (all_nil)))))))))))) (Nat.le_of_ble_eq_true rfl) rfl fun a w hS hK => ?_
  refine sl hK (by decide) rfl rfl (r_assign hK rfl) fun a hK => ?_
  refine wpList_nil ?_
  refine wp_seq ?_
  refine parT_region (C := fun w => St [] w0 w (fun _ => none) [.cells b_21 [.int .i64 y_19.1.Kind, .int .i64 y_19.1.N, .string y_19.1.S, .int .i64 y_19.1.H.a0, .int .i64 y_19.1.H.a1, .int .i64 y_19.1.H.a2, .int .i64 y_19.1.H.a3, .int .i64 y_19.1.H.a4, .int .i64 y_19.1.H.a5, .int .i64 y_19.1.H.a6, .int .i64 y_19.1.H.a7] 24, .cells b_18 [.int .i64 4, .int .i64 0, .string (⟨#[]⟩ : ByteArray), .int .i64 a1.a0, .int .i64 a1.a1, .int .i64 a1.a2, .int .i64 a1.a3, .int .i64 a1.a4, .int .i64 a1.a5, .int .i64 a1.a6, .int .i64 a1.a7] 24, .cells b_17 [.int .i64 y_15.1.Kind, .int .i64 y_15.1.N, .string y_15.1.S, .int .i64 y_15.1.H.a0, .int .i64 y_15.1.H.a1, .int .i64 y_15.1.H.a2, .int .i64 y_15.1.H.a3, .int .i64 y_15.1.H.a4, .int .i64 y_15.1.H.a5, .int .i64 y_15.1.H.a6, .int .i64 y_15.1.H.a7] 24, .cells b_10 [.int .i64 y_8.1.Kind, .int .i64 y_8.1.N, .string y_8.1.S, .int .i64 y_8.1.H.a0, .int .i64 y_8.1.H.a1, .int .i64 y_8.1.H.a2, .int .i64 y_8.1.H.a3, .int .i64 y_8.1.H.a4, .int .i64 y_8.1.H.a5, .int .i64 y_8.1.H.a6, .int .i64 y_8.1.H.a7] 24, .cells b_1 [.int .i64 a1.a0, .int .i64 a1.a1, .int .i64 a1.a2, .int .i64 a1.a3, .int .i64 a1.a4, .int .i64 a1.a5, .int .i64 a1.a6, .int .i64 a1.a7] 22]) 27 [(0, true), (1, true), (2, true), (3, true), (4, true), (5, true), (6, true), (7, true), (8, true), (9, true), (10, true), (11, true), (12, true), (13, true), (14, true), (15, true), (16, false), (17, true), (18, true), (19, true), (20, true), (21, false), (22, true), (23, true), (24, true), (25, true), (26, true)] mixed (by kernel_rfl) hS (fun w hS => hS) fun w hS => ?_
  refine sp (k := 0) rfl hK (by decide) rfl rfl (fun w hS => r_move hK rfl) fun a hK => ?_
  refine sp (k := 1) rfl hK (by decide) rfl rfl (fun w hS => r_move hK rfl) fun a hK => ?_
  rcases or_b y_2 with hb_32 | hb_32
  · rw [ifb_t hb_32] at H
    refine sp (k := 2) rfl hK (by decide) (wtt hb_32) rfl (fun w hS => r_move hK rfl) fun a hK => ?_
    refine sp (k := 3) rfl hK (by decide) (wtt hb_32) rfl (fun w hS => r_ibin hK rfl rfl rfl) fun a hK => ?_
    refine sp (k := 4) rfl hK (by decide) rfl rfl (fun w hS => r_pick_t hb_32 hK rfl rfl) fun a hK => ?_
    refine sp (k := 5) rfl hK (by decide) rfl rfl (fun w hS => r_move hK rfl) fun a hK => ?_
    rcases or_b (y_8.2 == 0) with hb_33 | hb_33
    · rw [ifb_t hb_33] at H
      refine sp (k := 6) rfl hK (by decide) (wtt hb_33) rfl (fun w hS => r_move hK rfl) fun a hK => ?_
      refine sp (k := 7) rfl hK (by decide) (wtt hb_33) rfl (fun w hS => r_ibin hK rfl rfl rfl) fun a hK => ?_
      refine sp (k := 8) rfl hK (by decide) rfl rfl (fun w hS => r_pick_t hb_33 hK rfl rfl) fun a hK => ?_
      refine sp (k := 9) rfl hK (by decide) rfl rfl (fun w hS => r_move hK rfl) fun a hK => ?_
      rcases or_b (y_15.2 == 0) with hb_34 | hb_34
      · rw [ifb_t hb_34] at H
        refine sp (k := 10) rfl hK (by decide) (wtt hb_34) rfl (fun w hS => r_move hK rfl) fun a hK => ?_
        refine sp (k := 11) rfl hK (by decide) (wtt hb_34) rfl (fun w hS => r_ibin hK rfl rfl rfl) fun a hK => ?_
        refine sp (k := 12) rfl hK (by decide) rfl rfl (fun w hS => r_pick_t hb_34 hK rfl rfl) fun a hK => ?_
        refine sp (k := 13) rfl hK (by decide) rfl rfl (fun w hS => r_move hK rfl) fun a hK => ?_
        rcases or_b (y_19.2 == 0) with hb_35 | hb_35
        · rw [ifb_t hb_35] at H
          refine sp (k := 14) rfl hK (by decide) (wtt hb_35) rfl (fun w hS => r_loadA (cs := [.int .i64 y_8.1.Kind, .int .i64 y_8.1.N, .string y_8.1.S, .int .i64 y_8.1.H.a0, .int .i64 y_8.1.H.a1, .int .i64 y_8.1.H.a2, .int .i64 y_8.1.H.a3, .int .i64 y_8.1.H.a4, .int .i64 y_8.1.H.a5, .int .i64 y_8.1.H.a6, .int .i64 y_8.1.H.a7]) Tryd.isAgg24 Tryd.sizeOf24 rfl hK rfl (hS.cells_of (m := 11) (.tail _ (.tail _ (.tail _ (.head _)))) rfl)) fun a hK => ?_
          refine sp (k := 15) rfl hK (by decide) (wtt hb_35) rfl (fun w hS => r_move hK rfl) fun a hK => ?_
          refine spw (k := 16) rfl rfl hS ?_
          obtain ⟨y_36, h_37, H⟩ := bind_some H
          refine sl_callV Tryd.call24 hS hK (by decide) (wtt hb_35) rfl rfl (value_OfInt.calls a0 h_37 _) fun a w hS hK => ?_
          refine parK_nil hS ?_
          refine sp (k := 17) rfl hK (by decide) (wtt hb_35) rfl (fun w hS => r_seq (by kernel_rfl) (eqs24 y_8.1 y_36) hK rfl rfl) fun a hK => ?_
          refine sp (k := 18) rfl hK (by decide) rfl rfl (fun w hS => r_pick_t hb_35 hK rfl rfl) fun a hK => ?_
          refine sp (k := 19) rfl hK (by decide) rfl rfl (fun w hS => r_move hK rfl) fun a hK => ?_
          rcases or_b (decide (y_8.1 = y_36)) with hb_38 | hb_38
          · rw [ifb_t hb_38] at H
            refine sp (k := 20) rfl hK (by decide) (wtt hb_38) rfl (fun w hS => r_loadA (cs := [.int .i64 y_15.1.Kind, .int .i64 y_15.1.N, .string y_15.1.S, .int .i64 y_15.1.H.a0, .int .i64 y_15.1.H.a1, .int .i64 y_15.1.H.a2, .int .i64 y_15.1.H.a3, .int .i64 y_15.1.H.a4, .int .i64 y_15.1.H.a5, .int .i64 y_15.1.H.a6, .int .i64 y_15.1.H.a7]) Tryd.isAgg24 Tryd.sizeOf24 rfl hK rfl (hS.cells_of (m := 11) (.tail _ (.tail _ (.head _))) rfl)) fun a hK => ?_
            refine spw (k := 21) rfl rfl hS ?_
            obtain ⟨y_39, h_40, H⟩ := bind_some H
            refine sl_callV Tryd.call24 hS hK (by decide) (wtt hb_38) rfl rfl (value_OfInt.calls 0 h_40 _) fun a w hS hK => ?_
            refine parK_nil hS ?_
            refine sp (k := 22) rfl hK (by decide) (wtt hb_38) rfl (fun w hS => r_seq (by kernel_rfl) (eqs24 y_15.1 y_39) hK rfl rfl) fun a hK => ?_
            refine sp (k := 23) rfl hK (by decide) rfl rfl (fun w hS => r_pick_t hb_38 hK rfl rfl) fun a hK => ?_
            refine sp (k := 24) rfl hK (by decide) rfl rfl (fun w hS => r_move hK rfl) fun a hK => ?_
            rcases or_b (decide (y_15.1 = y_39)) with hb_41 | hb_41
            · rw [ifb_t hb_41] at H
              refine sp (k := 25) rfl hK (by decide) (wtt hb_41) rfl (fun w hS => r_loadA (cs := [.int .i64 y_19.1.Kind, .int .i64 y_19.1.N, .string y_19.1.S, .int .i64 y_19.1.H.a0, .int .i64 y_19.1.H.a1, .int .i64 y_19.1.H.a2, .int .i64 y_19.1.H.a3, .int .i64 y_19.1.H.a4, .int .i64 y_19.1.H.a5, .int .i64 y_19.1.H.a6, .int .i64 y_19.1.H.a7]) Tryd.isAgg24 Tryd.sizeOf24 rfl hK rfl (hS.cells_of (m := 11) (.head _) rfl)) fun a hK => ?_
              refine sp (k := 26) rfl hK (by decide) (wtt hb_41) rfl (fun w hS => r_loadA (cs := [.int .i64 4, .int .i64 0, .string (⟨#[]⟩ : ByteArray), .int .i64 a1.a0, .int .i64 a1.a1, .int .i64 a1.a2, .int .i64 a1.a3, .int .i64 a1.a4, .int .i64 a1.a5, .int .i64 a1.a6, .int .i64 a1.a7]) Tryd.isAgg24 Tryd.sizeOf24 rfl hK rfl (hS.cells_of (m := 11) (.tail _ (.head _)) rfl)) fun a hK => ?_
              refine thenL_nil ?_
              refine sl hK (by decide) (wtt hb_41) rfl (r_seq (by kernel_rfl) (eqs24 y_19.1 (⟨4, 0, (⟨#[]⟩ : ByteArray), a1⟩ : api_Value)) hK rfl rfl) fun a hK => ?_
              refine sl hK (by decide) rfl rfl (r_pick_t hb_41 hK rfl rfl) fun a hK => ?_
              refine sl hK (by decide) rfl rfl (r_assign hK rfl) fun a hK => ?_
              refine wpList_nil (NoP_nil ?_)
              have hr_ := Option.some.inj H
              refine wp_ret ?_
              repeat (first | refine ret_then ?_ | refine ret_block ?_ | refine ret_scope ?_)
              exact ret_1 Tryd.results12 hK (rv_tmp hK rfl) ⟨congrArg (fun b => Ending.returned (Value.bool b)) hr_, hS.bel⟩
            · rw [ifb_f hb_41] at H
              refine sp_skip (k := 25) rfl hK (by decide) (wtf hb_41) rfl fun a hK => ?_
              refine sp_skip (k := 26) rfl hK (by decide) (wtf hb_41) rfl fun a hK => ?_
              refine thenL_nil ?_
              refine sl_skip hK (by decide) (wtf hb_41) rfl fun a hK => ?_
              refine sl hK (by decide) rfl rfl (r_pick_f hb_41 hK rfl rfl) fun a hK => ?_
              refine sl hK (by decide) rfl rfl (r_assign hK rfl) fun a hK => ?_
              refine wpList_nil (NoP_nil ?_)
              exact absurd (Option.some.inj H) (by decide)
          · rw [ifb_f hb_38] at H
            refine sp_skip (k := 20) rfl hK (by decide) (wtf hb_38) rfl fun a hK => ?_
            refine spw (k := 21) rfl rfl hS ?_
            refine sl_skip hK (by decide) (wtf hb_38) rfl fun a hK => ?_
            refine parK_nil hS ?_
            refine sp_skip (k := 22) rfl hK (by decide) (wtf hb_38) rfl fun a hK => ?_
            refine sp (k := 23) rfl hK (by decide) rfl rfl (fun w hS => r_pick_f hb_38 hK rfl rfl) fun a hK => ?_
            refine sp (k := 24) rfl hK (by decide) rfl rfl (fun w hS => r_move hK rfl) fun a hK => ?_
            refine sp_skip (k := 25) rfl hK (by decide) rfl rfl fun a hK => ?_
            refine sp_skip (k := 26) rfl hK (by decide) rfl rfl fun a hK => ?_
            refine thenL_nil ?_
            refine sl_skip hK (by decide) rfl rfl fun a hK => ?_
            refine sl hK (by decide) rfl rfl (r_pick hK rfl rfl rfl) fun a hK => ?_
            refine sl hK (by decide) rfl rfl (r_assign hK rfl) fun a hK => ?_
            refine wpList_nil (NoP_nil ?_)
            exact absurd (Option.some.inj H) (by decide)
        · rw [ifb_f hb_35] at H
          refine sp_skip (k := 14) rfl hK (by decide) (wtf hb_35) rfl fun a hK => ?_
          refine sp_skip (k := 15) rfl hK (by decide) (wtf hb_35) rfl fun a hK => ?_
          refine spw (k := 16) rfl rfl hS ?_
          refine sl_skip hK (by decide) (wtf hb_35) rfl fun a hK => ?_
          refine parK_nil hS ?_
          refine sp_skip (k := 17) rfl hK (by decide) (wtf hb_35) rfl fun a hK => ?_
          refine sp (k := 18) rfl hK (by decide) rfl rfl (fun w hS => r_pick_f hb_35 hK rfl rfl) fun a hK => ?_
          refine sp (k := 19) rfl hK (by decide) rfl rfl (fun w hS => r_move hK rfl) fun a hK => ?_
          refine sp_skip (k := 20) rfl hK (by decide) rfl rfl fun a hK => ?_
          refine spw (k := 21) rfl rfl hS ?_
          refine sl_skip hK (by decide) rfl rfl fun a hK => ?_
          refine parK_nil hS ?_
          refine sp_skip (k := 22) rfl hK (by decide) rfl rfl fun a hK => ?_
          refine sp (k := 23) rfl hK (by decide) rfl rfl (fun w hS => r_pick hK rfl rfl rfl) fun a hK => ?_
          refine sp (k := 24) rfl hK (by decide) rfl rfl (fun w hS => r_move hK rfl) fun a hK => ?_
          refine sp_skip (k := 25) rfl hK (by decide) rfl rfl fun a hK => ?_
          refine sp_skip (k := 26) rfl hK (by decide) rfl rfl fun a hK => ?_
          refine thenL_nil ?_
          refine sl_skip hK (by decide) rfl rfl fun a hK => ?_
          refine sl hK (by decide) rfl rfl (r_pick hK rfl rfl rfl) fun a hK => ?_
          refine sl hK (by decide) rfl rfl (r_assign hK rfl) fun a hK => ?_
          refine wpList_nil (NoP_nil ?_)
          exact absurd (Option.some.inj H) (by decide)
      · rw [ifb_f hb_34] at H
        refine sp_skip (k := 10) rfl hK (by decide) (wtf hb_34) rfl fun a hK => ?_
        refine sp_skip (k := 11) rfl hK (by decide) (wtf hb_34) rfl fun a hK => ?_
        refine sp (k := 12) rfl hK (by decide) rfl rfl (fun w hS => r_pick_f hb_34 hK rfl rfl) fun a hK => ?_
        refine sp (k := 13) rfl hK (by decide) rfl rfl (fun w hS => r_move hK rfl) fun a hK => ?_
        refine sp_skip (k := 14) rfl hK (by decide) rfl rfl fun a hK => ?_
        refine sp_skip (k := 15) rfl hK (by decide) rfl rfl fun a hK => ?_
        refine spw (k := 16) rfl rfl hS ?_
        refine sl_skip hK (by decide) rfl rfl fun a hK => ?_
        refine parK_nil hS ?_
        refine sp_skip (k := 17) rfl hK (by decide) rfl rfl fun a hK => ?_
        refine sp (k := 18) rfl hK (by decide) rfl rfl (fun w hS => r_pick hK rfl rfl rfl) fun a hK => ?_
        refine sp (k := 19) rfl hK (by decide) rfl rfl (fun w hS => r_move hK rfl) fun a hK => ?_
        refine sp_skip (k := 20) rfl hK (by decide) rfl rfl fun a hK => ?_
        refine spw (k := 21) rfl rfl hS ?_
        refine sl_skip hK (by decide) rfl rfl fun a hK => ?_
        refine parK_nil hS ?_
        refine sp_skip (k := 22) rfl hK (by decide) rfl rfl fun a hK => ?_
        refine sp (k := 23) rfl hK (by decide) rfl rfl (fun w hS => r_pick hK rfl rfl rfl) fun a hK => ?_
        refine sp (k := 24) rfl hK (by decide) rfl rfl (fun w hS => r_move hK rfl) fun a hK => ?_
        refine sp_skip (k := 25) rfl hK (by decide) rfl rfl fun a hK => ?_
        refine sp_skip (k := 26) rfl hK (by decide) rfl rfl fun a hK => ?_
        refine thenL_nil ?_
        refine sl_skip hK (by decide) rfl rfl fun a hK => ?_
        refine sl hK (by decide) rfl rfl (r_pick hK rfl rfl rfl) fun a hK => ?_
        refine sl hK (by decide) rfl rfl (r_assign hK rfl) fun a hK => ?_
        refine wpList_nil (NoP_nil ?_)
        exact absurd (Option.some.inj H) (by decide)
    · rw [ifb_f hb_33] at H
      refine sp_skip (k := 6) rfl hK (by decide) (wtf hb_33) rfl fun a hK => ?_
      refine sp_skip (k := 7) rfl hK (by decide) (wtf hb_33) rfl fun a hK => ?_
      refine sp (k := 8) rfl hK (by decide) rfl rfl (fun w hS => r_pick_f hb_33 hK rfl rfl) fun a hK => ?_
      refine sp (k := 9) rfl hK (by decide) rfl rfl (fun w hS => r_move hK rfl) fun a hK => ?_
      refine sp_skip (k := 10) rfl hK (by decide) rfl rfl fun a hK => ?_
      refine sp_skip (k := 11) rfl hK (by decide) rfl rfl fun a hK => ?_
      refine sp (k := 12) rfl hK (by decide) rfl rfl (fun w hS => r_pick hK rfl rfl rfl) fun a hK => ?_
      refine sp (k := 13) rfl hK (by decide) rfl rfl (fun w hS => r_move hK rfl) fun a hK => ?_
      refine sp_skip (k := 14) rfl hK (by decide) rfl rfl fun a hK => ?_
      refine sp_skip (k := 15) rfl hK (by decide) rfl rfl fun a hK => ?_
      refine spw (k := 16) rfl rfl hS ?_
      refine sl_skip hK (by decide) rfl rfl fun a hK => ?_
      refine parK_nil hS ?_
      refine sp_skip (k := 17) rfl hK (by decide) rfl rfl fun a hK => ?_
      refine sp (k := 18) rfl hK (by decide) rfl rfl (fun w hS => r_pick hK rfl rfl rfl) fun a hK => ?_
      refine sp (k := 19) rfl hK (by decide) rfl rfl (fun w hS => r_move hK rfl) fun a hK => ?_
      refine sp_skip (k := 20) rfl hK (by decide) rfl rfl fun a hK => ?_
      refine spw (k := 21) rfl rfl hS ?_
      refine sl_skip hK (by decide) rfl rfl fun a hK => ?_
      refine parK_nil hS ?_
      refine sp_skip (k := 22) rfl hK (by decide) rfl rfl fun a hK => ?_
      refine sp (k := 23) rfl hK (by decide) rfl rfl (fun w hS => r_pick hK rfl rfl rfl) fun a hK => ?_
      refine sp (k := 24) rfl hK (by decide) rfl rfl (fun w hS => r_move hK rfl) fun a hK => ?_
      refine sp_skip (k := 25) rfl hK (by decide) rfl rfl fun a hK => ?_
      refine sp_skip (k := 26) rfl hK (by decide) rfl rfl fun a hK => ?_
      refine thenL_nil ?_
      refine sl_skip hK (by decide) rfl rfl fun a hK => ?_
      refine sl hK (by decide) rfl rfl (r_pick hK rfl rfl rfl) fun a hK => ?_
      refine sl hK (by decide) rfl rfl (r_assign hK rfl) fun a hK => ?_
      refine wpList_nil (NoP_nil ?_)
      exact absurd (Option.some.inj H) (by decide)
  · rw [ifb_f hb_32] at H
    refine sp_skip (k := 2) rfl hK (by decide) (wtf hb_32) rfl fun a hK => ?_
    refine sp_skip (k := 3) rfl hK (by decide) (wtf hb_32) rfl fun a hK => ?_
    refine sp (k := 4) rfl hK (by decide) rfl rfl (fun w hS => r_pick_f hb_32 hK rfl rfl) fun a hK => ?_
    refine sp (k := 5) rfl hK (by decide) rfl rfl (fun w hS => r_move hK rfl) fun a hK => ?_
    refine sp_skip (k := 6) rfl hK (by decide) rfl rfl fun a hK => ?_
    refine sp_skip (k := 7) rfl hK (by decide) rfl rfl fun a hK => ?_
    refine sp (k := 8) rfl hK (by decide) rfl rfl (fun w hS => r_pick hK rfl rfl rfl) fun a hK => ?_
    refine sp (k := 9) rfl hK (by decide) rfl rfl (fun w hS => r_move hK rfl) fun a hK => ?_
    refine sp_skip (k := 10) rfl hK (by decide) rfl rfl fun a hK => ?_
    refine sp_skip (k := 11) rfl hK (by decide) rfl rfl fun a hK => ?_
    refine sp (k := 12) rfl hK (by decide) rfl rfl (fun w hS => r_pick hK rfl rfl rfl) fun a hK => ?_
    refine sp (k := 13) rfl hK (by decide) rfl rfl (fun w hS => r_move hK rfl) fun a hK => ?_
    refine sp_skip (k := 14) rfl hK (by decide) rfl rfl fun a hK => ?_
    refine sp_skip (k := 15) rfl hK (by decide) rfl rfl fun a hK => ?_
    refine spw (k := 16) rfl rfl hS ?_
    refine sl_skip hK (by decide) rfl rfl fun a hK => ?_
    refine parK_nil hS ?_
    refine sp_skip (k := 17) rfl hK (by decide) rfl rfl fun a hK => ?_
    refine sp (k := 18) rfl hK (by decide) rfl rfl (fun w hS => r_pick hK rfl rfl rfl) fun a hK => ?_
    refine sp (k := 19) rfl hK (by decide) rfl rfl (fun w hS => r_move hK rfl) fun a hK => ?_
    refine sp_skip (k := 20) rfl hK (by decide) rfl rfl fun a hK => ?_
    refine spw (k := 21) rfl rfl hS ?_
    refine sl_skip hK (by decide) rfl rfl fun a hK => ?_
    refine parK_nil hS ?_
    refine sp_skip (k := 22) rfl hK (by decide) rfl rfl fun a hK => ?_
    refine sp (k := 23) rfl hK (by decide) rfl rfl (fun w hS => r_pick hK rfl rfl rfl) fun a hK => ?_
    refine sp (k := 24) rfl hK (by decide) rfl rfl (fun w hS => r_move hK rfl) fun a hK => ?_
    refine sp_skip (k := 25) rfl hK (by decide) rfl rfl fun a hK => ?_
    refine sp_skip (k := 26) rfl hK (by decide) rfl rfl fun a hK => ?_
    refine thenL_nil ?_
    refine sl_skip hK (by decide) rfl rfl fun a hK => ?_
    refine sl hK (by decide) rfl rfl (r_pick hK rfl rfl rfl) fun a hK => ?_
    refine sl hK (by decide) rfl rfl (r_assign hK rfl) fun a hK => ?_
    refine wpList_nil (NoP_nil ?_)
    exact absurd (Option.some.inj H) (by decide)

end Go.Proofs.YtmohocmmelaeaaaDoor.M
