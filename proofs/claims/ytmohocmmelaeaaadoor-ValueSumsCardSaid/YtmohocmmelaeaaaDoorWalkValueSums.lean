/- Each Go function of the laws answers as its plain Lean function tells, wherever that tells something. Printed by wip/eng/gen.py. -/
import Derived.Test.YtmohocmmelaeaaaDoorWalk1
namespace Go.Proofs.YtmohocmmelaeaaaDoor.M
open Go Go.Eng Go.Proofs Go.RowKit
set_option linter.unusedVariables false
set_option linter.unusedSimpArgs false

/-! ### catchment/catchmentlaw01.ValueSums: function 7 -/
set_option maxHeartbeats 4000000 in
set_option maxRecDepth 100000 in
theorem law01_ValueSums.calls (a0 : Arr8) (a1 : Arr8) (a2 : Arr8) {w0 : World} {RA : Hp} (hRA : RA.sub w0) (hG : GF RA) (H : law01_ValueSums a0 a1 a2 = some true) : CallsV Tryd.prog 7 #[.agg #[.int .i64 a0.a0, .int .i64 a0.a1, .int .i64 a0.a2, .int .i64 a0.a3, .int .i64 a0.a4, .int .i64 a0.a5, .int .i64 a0.a6, .int .i64 a0.a7], .agg #[.int .i64 a1.a0, .int .i64 a1.a1, .int .i64 a1.a2, .int .i64 a1.a3, .int .i64 a1.a4, .int .i64 a1.a5, .int .i64 a1.a6, .int .i64 a1.a7], .agg #[.int .i64 a2.a0, .int .i64 a2.a1, .int .i64 a2.a2, .int .i64 a2.a3, .int .i64 a2.a4, .int .i64 a2.a5, .int .i64 a2.a6, .int .i64 a2.a7]] w0 (.bool true) := by
  unfold law01_ValueSums at H
  refine enter (args := [.agg #[.int .i64 a0.a0, .int .i64 a0.a1, .int .i64 a0.a2, .int .i64 a0.a3, .int .i64 a0.a4, .int .i64 a0.a5, .int .i64 a0.a6, .int .i64 a0.a7], .agg #[.int .i64 a1.a0, .int .i64 a1.a1, .int .i64 a1.a2, .int .i64 a1.a3, .int .i64 a1.a4, .int .i64 a1.a5, .int .i64 a1.a6, .int .i64 a1.a7], .agg #[.int .i64 a2.a0, .int .i64 a2.a1, .int .i64 a2.a2, .int .i64 a2.a3, .int .i64 a2.a4, .int .i64 a2.a5, .int .i64 a2.a6, .int .i64 a2.a7]]) Tryd.func7 rfl Tryd.ntmps7 rfl fun a hK => ?_
  have hS := St.init (R := fun _ => none) (w := w0) (fun _ _ h => by cases h)
  have hRL := RLe.refl (M := []) w0 (fun _ => none)
  refine wp_seq ?_
  refine wp_region_lit ?_
  refine sl_box hS hK (by decide) rfl rfl (c := [.int .i64 a0.a0, .int .i64 a0.a1, .int .i64 a0.a2, .int .i64 a0.a3, .int .i64 a0.a4, .int .i64 a0.a5, .int .i64 a0.a6, .int .i64 a0.a7]) rfl fun a w b_1 hS hK => ?_
  refine sl_box hS hK (by decide) rfl rfl (c := [.int .i64 a1.a0, .int .i64 a1.a1, .int .i64 a1.a2, .int .i64 a1.a3, .int .i64 a1.a4, .int .i64 a1.a5, .int .i64 a1.a6, .int .i64 a1.a7]) rfl fun a w b_2 hS hK => ?_
  refine sl_box hS hK (by decide) rfl rfl (c := [.int .i64 a2.a0, .int .i64 a2.a1, .int .i64 a2.a2, .int .i64 a2.a3, .int .i64 a2.a4, .int .i64 a2.a5, .int .i64 a2.a6, .int .i64 a2.a7]) rfl fun a w b_3 hS hK => ?_
  refine sl hK (by decide) rfl rfl (r_assign hK rfl) fun a hK => ?_
  refine wpList_nil ?_
  refine wp_seq ?_
  refine wp_region_lit ?_
  obtain ⟨y_4, h_5, H⟩ := bind_some H
  refine sl_callV Tryd.call13 hS hK (by decide) rfl rfl rfl (law01_shown.calls (lentOf_sub [] _) (GF.mono (hS.raLe0 hRA nil_not) hG) h_5) fun a w hS hK => ?_
  refine sl hK (by decide) rfl rfl (r_assign hK rfl) fun a hK => ?_
  refine wpList_nil ?_
  refine wp_seq ?_
  refine wp_region_lit ?_
  refine sl hK (by decide) rfl rfl (r_loadA (cs := [.int .i64 a0.a0, .int .i64 a0.a1, .int .i64 a0.a2, .int .i64 a0.a3, .int .i64 a0.a4, .int .i64 a0.a5, .int .i64 a0.a6, .int .i64 a0.a7]) Tryd.isAgg22 Tryd.sizeOf22 rfl hK rfl (hS.cells_of (m := 8) (.tail _ (.tail _ (.head _))) rfl)) fun a hK => ?_
  refine sl hK (by decide) rfl rfl (r_buildC (ps := [(0, .int .i64 4), (3, .agg #[.int .i64 a0.a0, .int .i64 a0.a1, .int .i64 a0.a2, .int .i64 a0.a3, .int .i64 a0.a4, .int .i64 a0.a5, .int .i64 a0.a6, .int .i64 a0.a7])]) (c := [.int .i64 4, .int .i64 0, .string (⟨#[]⟩ : ByteArray), .int .i64 a0.a0, .int .i64 a0.a1, .int .i64 a0.a2, .int .i64 a0.a3, .int .i64 a0.a4, .int .i64 a0.a5, .int .i64 a0.a6, .int .i64 a0.a7]) Tryd.underlying24 Tryd.zeroValue24 places24 hK rfl (pc_cons rfl (pc_cons rfl pc_nil)) rfl rfl) fun a hK => ?_
  refine sl_alloc Tryd.zeroValue24 hS hK (by decide) rfl rfl fun a w b_6 hS hK => ?_
  refine sl_storeA (vs := [.int .i64 4, .int .i64 0, .string (⟨#[]⟩ : ByteArray), .int .i64 a0.a0, .int .i64 a0.a1, .int .i64 a0.a2, .int .i64 a0.a3, .int .i64 a0.a4, .int .i64 a0.a5, .int .i64 a0.a6, .int .i64 a0.a7]) (c' := [.int .i64 4, .int .i64 0, .string (⟨#[]⟩ : ByteArray), .int .i64 a0.a0, .int .i64 a0.a1, .int .i64 a0.a2, .int .i64 a0.a3, .int .i64 a0.a4, .int .i64 a0.a5, .int .i64 a0.a6, .int .i64 a0.a7]) Tryd.sizeOf24 hS hK rfl rfl rfl rfl (all_cons rfl (all_cons rfl (all_cons rfl (all_cons rfl (all_cons rfl (all_cons rfl (all_cons rfl (all_cons rfl (all_cons rfl (all_cons rfl (all_cons rfl (all_nil)))))))))))) (Nat.le_of_ble_eq_true rfl) rfl fun a w hS hK => ?_
  refine wpList_nil ?_
  refine wp_seq ?_
  refine wp_region_lit ?_
  refine sl hK (by decide) rfl rfl (r_loadA (cs := [.int .i64 a1.a0, .int .i64 a1.a1, .int .i64 a1.a2, .int .i64 a1.a3, .int .i64 a1.a4, .int .i64 a1.a5, .int .i64 a1.a6, .int .i64 a1.a7]) Tryd.isAgg22 Tryd.sizeOf22 rfl hK rfl (hS.cells_of (m := 8) (.tail _ (.tail _ (.head _))) rfl)) fun a hK => ?_
  refine sl hK (by decide) rfl rfl (r_buildC (ps := [(0, .int .i64 4), (3, .agg #[.int .i64 a1.a0, .int .i64 a1.a1, .int .i64 a1.a2, .int .i64 a1.a3, .int .i64 a1.a4, .int .i64 a1.a5, .int .i64 a1.a6, .int .i64 a1.a7])]) (c := [.int .i64 4, .int .i64 0, .string (⟨#[]⟩ : ByteArray), .int .i64 a1.a0, .int .i64 a1.a1, .int .i64 a1.a2, .int .i64 a1.a3, .int .i64 a1.a4, .int .i64 a1.a5, .int .i64 a1.a6, .int .i64 a1.a7]) Tryd.underlying24 Tryd.zeroValue24 places24 hK rfl (pc_cons rfl (pc_cons rfl pc_nil)) rfl rfl) fun a hK => ?_
  refine sl_alloc Tryd.zeroValue24 hS hK (by decide) rfl rfl fun a w b_7 hS hK => ?_
  refine sl_storeA (vs := [.int .i64 4, .int .i64 0, .string (⟨#[]⟩ : ByteArray), .int .i64 a1.a0, .int .i64 a1.a1, .int .i64 a1.a2, .int .i64 a1.a3, .int .i64 a1.a4, .int .i64 a1.a5, .int .i64 a1.a6, .int .i64 a1.a7]) (c' := [.int .i64 4, .int .i64 0, .string (⟨#[]⟩ : ByteArray), .int .i64 a1.a0, .int .i64 a1.a1, .int .i64 a1.a2, .int .i64 a1.a3, .int .i64 a1.a4, .int .i64 a1.a5, .int .i64 a1.a6, .int .i64 a1.a7]) Tryd.sizeOf24 hS hK rfl rfl rfl rfl (all_cons rfl (all_cons rfl (all_cons rfl (all_cons rfl (all_cons rfl (all_cons rfl (all_cons rfl (all_cons rfl (all_cons rfl (all_cons rfl (all_cons rfl (all_nil)))))))))))) (Nat.le_of_ble_eq_true rfl) rfl fun a w hS hK => ?_
  refine wpList_nil ?_
  refine wp_seq ?_
  refine wp_region_lit ?_
  refine sl hK (by decide) rfl rfl (r_loadA (cs := [.int .i64 a2.a0, .int .i64 a2.a1, .int .i64 a2.a2, .int .i64 a2.a3, .int .i64 a2.a4, .int .i64 a2.a5, .int .i64 a2.a6, .int .i64 a2.a7]) Tryd.isAgg22 Tryd.sizeOf22 rfl hK rfl (hS.cells_of (m := 8) (.tail _ (.tail _ (.head _))) rfl)) fun a hK => ?_
  refine sl hK (by decide) rfl rfl (r_buildC (ps := [(0, .int .i64 4), (3, .agg #[.int .i64 a2.a0, .int .i64 a2.a1, .int .i64 a2.a2, .int .i64 a2.a3, .int .i64 a2.a4, .int .i64 a2.a5, .int .i64 a2.a6, .int .i64 a2.a7])]) (c := [.int .i64 4, .int .i64 0, .string (⟨#[]⟩ : ByteArray), .int .i64 a2.a0, .int .i64 a2.a1, .int .i64 a2.a2, .int .i64 a2.a3, .int .i64 a2.a4, .int .i64 a2.a5, .int .i64 a2.a6, .int .i64 a2.a7]) Tryd.underlying24 Tryd.zeroValue24 places24 hK rfl (pc_cons rfl (pc_cons rfl pc_nil)) rfl rfl) fun a hK => ?_
  refine sl_alloc Tryd.zeroValue24 hS hK (by decide) rfl rfl fun a w b_8 hS hK => ?_
  refine sl_storeA (vs := [.int .i64 4, .int .i64 0, .string (⟨#[]⟩ : ByteArray), .int .i64 a2.a0, .int .i64 a2.a1, .int .i64 a2.a2, .int .i64 a2.a3, .int .i64 a2.a4, .int .i64 a2.a5, .int .i64 a2.a6, .int .i64 a2.a7]) (c' := [.int .i64 4, .int .i64 0, .string (⟨#[]⟩ : ByteArray), .int .i64 a2.a0, .int .i64 a2.a1, .int .i64 a2.a2, .int .i64 a2.a3, .int .i64 a2.a4, .int .i64 a2.a5, .int .i64 a2.a6, .int .i64 a2.a7]) Tryd.sizeOf24 hS hK rfl rfl rfl rfl (all_cons rfl (all_cons rfl (all_cons rfl (all_cons rfl (all_cons rfl (all_cons rfl (all_cons rfl (all_cons rfl (all_cons rfl (all_cons rfl (all_cons rfl (all_nil)))))))))))) (Nat.le_of_ble_eq_true rfl) rfl fun a w hS hK => ?_
  refine wpList_nil ?_
  refine wp_seq ?_
  refine wp_region_lit ?_
  refine sl hK (by decide) rfl rfl (r_loadA (cs := [.int .i64 4, .int .i64 0, .string (⟨#[]⟩ : ByteArray), .int .i64 a0.a0, .int .i64 a0.a1, .int .i64 a0.a2, .int .i64 a0.a3, .int .i64 a0.a4, .int .i64 a0.a5, .int .i64 a0.a6, .int .i64 a0.a7]) Tryd.isAgg24 Tryd.sizeOf24 rfl hK rfl (hS.cells_of (m := 11) (.tail _ (.tail _ (.head _))) rfl)) fun a hK => ?_
  refine sl hK (by decide) rfl rfl (r_loadA (cs := [.int .i64 4, .int .i64 0, .string (⟨#[]⟩ : ByteArray), .int .i64 a1.a0, .int .i64 a1.a1, .int .i64 a1.a2, .int .i64 a1.a3, .int .i64 a1.a4, .int .i64 a1.a5, .int .i64 a1.a6, .int .i64 a1.a7]) Tryd.isAgg24 Tryd.sizeOf24 rfl hK rfl (hS.cells_of (m := 11) (.tail _ (.head _)) rfl)) fun a hK => ?_
  obtain ⟨y_9, h_10, H⟩ := bind_some H
  refine sl_callV Tryd.call22 hS hK (by decide) rfl rfl rfl (value_Add.calls (⟨4, 0, (⟨#[]⟩ : ByteArray), a0⟩ : api_Value) (⟨4, 0, (⟨#[]⟩ : ByteArray), a1⟩ : api_Value) h_10 _) fun a w hS hK => ?_
  refine sl hK (by decide) rfl rfl (r_move hK rfl) fun a hK => ?_
  refine sl hK (by decide) rfl rfl (r_extract hK rfl rfl) fun a hK => ?_
  refine sl hK (by decide) rfl rfl (r_extract hK rfl rfl) fun a hK => ?_
  refine sl_alloc Tryd.zeroValue24 hS hK (by decide) rfl rfl fun a w b_11 hS hK => ?_
  refine sl_storeA (vs := [.int .i64 y_9.1.Kind, .int .i64 y_9.1.N, .string y_9.1.S, .int .i64 y_9.1.H.a0, .int .i64 y_9.1.H.a1, .int .i64 y_9.1.H.a2, .int .i64 y_9.1.H.a3, .int .i64 y_9.1.H.a4, .int .i64 y_9.1.H.a5, .int .i64 y_9.1.H.a6, .int .i64 y_9.1.H.a7]) (c' := [.int .i64 y_9.1.Kind, .int .i64 y_9.1.N, .string y_9.1.S, .int .i64 y_9.1.H.a0, .int .i64 y_9.1.H.a1, .int .i64 y_9.1.H.a2, .int .i64 y_9.1.H.a3, .int .i64 y_9.1.H.a4, .int .i64 y_9.1.H.a5, .int .i64 y_9.1.H.a6, .int .i64 y_9.1.H.a7]) Tryd.sizeOf24 hS hK rfl rfl rfl rfl (all_cons rfl (all_cons rfl (all_cons rfl (all_cons rfl (all_cons rfl (all_cons rfl (all_cons rfl (all_cons rfl (all_cons rfl (all_cons rfl (all_cons rfl (all_nil)))))))))))) (Nat.le_of_ble_eq_true rfl) rfl fun a w hS hK => ?_
  refine sl hK (by decide) rfl rfl (r_assign hK rfl) fun a hK => ?_
  refine wpList_nil ?_
  refine wp_seq ?_
  refine wp_region_lit ?_
  refine sl hK (by decide) rfl rfl (r_loadA (cs := [.int .i64 y_9.1.Kind, .int .i64 y_9.1.N, .string y_9.1.S, .int .i64 y_9.1.H.a0, .int .i64 y_9.1.H.a1, .int .i64 y_9.1.H.a2, .int .i64 y_9.1.H.a3, .int .i64 y_9.1.H.a4, .int .i64 y_9.1.H.a5, .int .i64 y_9.1.H.a6, .int .i64 y_9.1.H.a7]) Tryd.isAgg24 Tryd.sizeOf24 rfl hK rfl (hS.cells_of (m := 11) (.head _) rfl)) fun a hK => ?_
  refine sl hK (by decide) rfl rfl (r_loadA (cs := [.int .i64 4, .int .i64 0, .string (⟨#[]⟩ : ByteArray), .int .i64 a2.a0, .int .i64 a2.a1, .int .i64 a2.a2, .int .i64 a2.a3, .int .i64 a2.a4, .int .i64 a2.a5, .int .i64 a2.a6, .int .i64 a2.a7]) Tryd.isAgg24 Tryd.sizeOf24 rfl hK rfl (hS.cells_of (m := 11) (.tail _ (.head _)) rfl)) fun a hK => ?_
  obtain ⟨y_12, h_13, H⟩ := bind_some H
  refine sl_callV Tryd.call22 hS hK (by decide) rfl rfl rfl (value_Add.calls y_9.1 (⟨4, 0, (⟨#[]⟩ : ByteArray), a2⟩ : api_Value) h_13 _) fun a w hS hK => ?_
  refine sl hK (by decide) rfl rfl (r_move hK rfl) fun a hK => ?_
  refine sl hK (by decide) rfl rfl (r_extract hK rfl rfl) fun a hK => ?_
  refine sl hK (by decide) rfl rfl (r_extract hK rfl rfl) fun a hK => ?_
  refine sl_storeA (vs := [.int .i64 y_12.1.Kind, .int .i64 y_12.1.N, .string y_12.1.S, .int .i64 y_12.1.H.a0, .int .i64 y_12.1.H.a1, .int .i64 y_12.1.H.a2, .int .i64 y_12.1.H.a3, .int .i64 y_12.1.H.a4, .int .i64 y_12.1.H.a5, .int .i64 y_12.1.H.a6, .int .i64 y_12.1.H.a7]) (c' := [.int .i64 y_12.1.Kind, .int .i64 y_12.1.N, .string y_12.1.S, .int .i64 y_12.1.H.a0, .int .i64 y_12.1.H.a1, .int .i64 y_12.1.H.a2, .int .i64 y_12.1.H.a3, .int .i64 y_12.1.H.a4, .int .i64 y_12.1.H.a5, .int .i64 y_12.1.H.a6, .int .i64 y_12.1.H.a7]) Tryd.sizeOf24 hS hK rfl rfl rfl rfl (all_cons rfl (all_cons rfl (all_cons rfl (all_cons rfl (all_cons rfl (all_cons rfl (all_cons rfl (all_cons rfl (all_cons rfl (all_cons rfl (all_cons rfl (all_nil)))))))))))) (Nat.le_of_ble_eq_true rfl) rfl fun a w hS hK => ?_
  refine sl hK (by decide) rfl rfl (r_assign hK rfl) fun a hK => ?_
  refine wpList_nil ?_
  refine wp_seq ?_
  refine wp_region_lit ?_
  refine sl hK (by decide) rfl rfl (r_loadA (cs := [.int .i64 4, .int .i64 0, .string (⟨#[]⟩ : ByteArray), .int .i64 a1.a0, .int .i64 a1.a1, .int .i64 a1.a2, .int .i64 a1.a3, .int .i64 a1.a4, .int .i64 a1.a5, .int .i64 a1.a6, .int .i64 a1.a7]) Tryd.isAgg24 Tryd.sizeOf24 rfl hK rfl (hS.cells_of (m := 11) (.tail _ (.tail _ (.head _))) rfl)) fun a hK => ?_
  refine sl hK (by decide) rfl rfl (r_loadA (cs := [.int .i64 4, .int .i64 0, .string (⟨#[]⟩ : ByteArray), .int .i64 a2.a0, .int .i64 a2.a1, .int .i64 a2.a2, .int .i64 a2.a3, .int .i64 a2.a4, .int .i64 a2.a5, .int .i64 a2.a6, .int .i64 a2.a7]) Tryd.isAgg24 Tryd.sizeOf24 rfl hK rfl (hS.cells_of (m := 11) (.tail _ (.head _)) rfl)) fun a hK => ?_
  obtain ⟨y_14, h_15, H⟩ := bind_some H
  refine sl_callV Tryd.call22 hS hK (by decide) rfl rfl rfl (value_Add.calls (⟨4, 0, (⟨#[]⟩ : ByteArray), a1⟩ : api_Value) (⟨4, 0, (⟨#[]⟩ : ByteArray), a2⟩ : api_Value) h_15 _) fun a w hS hK => ?_
  refine sl hK (by decide) rfl rfl (r_move hK rfl) fun a hK => ?_
  refine sl hK (by decide) rfl rfl (r_extract hK rfl rfl) fun a hK => ?_
  refine sl hK (by decide) rfl rfl (r_extract hK rfl rfl) fun a hK => ?_
  refine sl_alloc Tryd.zeroValue24 hS hK (by decide) rfl rfl fun a w b_16 hS hK => ?_
  refine sl_storeA (vs := [.int .i64 y_14.1.Kind, .int .i64 y_14.1.N, .string y_14.1.S, .int .i64 y_14.1.H.a0, .int .i64 y_14.1.H.a1, .int .i64 y_14.1.H.a2, .int .i64 y_14.1.H.a3, .int .i64 y_14.1.H.a4, .int .i64 y_14.1.H.a5, .int .i64 y_14.1.H.a6, .int .i64 y_14.1.H.a7]) (c' := [.int .i64 y_14.1.Kind, .int .i64 y_14.1.N, .string y_14.1.S, .int .i64 y_14.1.H.a0, .int .i64 y_14.1.H.a1, .int .i64 y_14.1.H.a2, .int .i64 y_14.1.H.a3, .int .i64 y_14.1.H.a4, .int .i64 y_14.1.H.a5, .int .i64 y_14.1.H.a6, .int .i64 y_14.1.H.a7]) Tryd.sizeOf24 hS hK rfl rfl rfl rfl (all_cons rfl (all_cons rfl (all_cons rfl (all_cons rfl (all_cons rfl (all_cons rfl (all_cons rfl (all_cons rfl (all_cons rfl (all_cons rfl (all_cons rfl (all_nil)))))))))))) (Nat.le_of_ble_eq_true rfl) rfl fun a w hS hK => ?_
  refine sl hK (by decide) rfl rfl (r_assign hK rfl) fun a hK => ?_
  refine wpList_nil ?_
  refine wp_seq ?_
  refine wp_region_lit ?_
  refine sl hK (by decide) rfl rfl (r_loadA (cs := [.int .i64 4, .int .i64 0, .string (⟨#[]⟩ : ByteArray), .int .i64 a0.a0, .int .i64 a0.a1, .int .i64 a0.a2, .int .i64 a0.a3, .int .i64 a0.a4, .int .i64 a0.a5, .int .i64 a0.a6, .int .i64 a0.a7]) Tryd.isAgg24 Tryd.sizeOf24 rfl hK rfl (hS.cells_of (m := 11) (.tail _ (.tail _ (.tail _ (.tail _ (.head _))))) rfl)) fun a hK => ?_
  refine sl hK (by decide) rfl rfl (r_loadA (cs := [.int .i64 y_14.1.Kind, .int .i64 y_14.1.N, .string y_14.1.S, .int .i64 y_14.1.H.a0, .int .i64 y_14.1.H.a1, .int .i64 y_14.1.H.a2, .int .i64 y_14.1.H.a3, .int .i64 y_14.1.H.a4, .int .i64 y_14.1.H.a5, .int .i64 y_14.1.H.a6, .int .i64 y_14.1.H.a7]) Tryd.isAgg24 Tryd.sizeOf24 rfl hK rfl (hS.cells_of (m := 11) (.head _) rfl)) fun a hK => ?_
  obtain ⟨y_17, h_18, H⟩ := bind_some H
  refine sl_callV Tryd.call22 hS hK (by decide) rfl rfl rfl (value_Add.calls (⟨4, 0, (⟨#[]⟩ : ByteArray), a0⟩ : api_Value) y_14.1 h_18 _) fun a w hS hK => ?_
  refine sl hK (by decide) rfl rfl (r_move hK rfl) fun a hK => ?_
  refine sl hK (by decide) rfl rfl (r_extract hK rfl rfl) fun a hK => ?_
  refine sl hK (by decide) rfl rfl (r_extract hK rfl rfl) fun a hK => ?_
  refine sl_storeA (vs := [.int .i64 y_17.1.Kind, .int .i64 y_17.1.N, .string y_17.1.S, .int .i64 y_17.1.H.a0, .int .i64 y_17.1.H.a1, .int .i64 y_17.1.H.a2, .int .i64 y_17.1.H.a3, .int .i64 y_17.1.H.a4, .int .i64 y_17.1.H.a5, .int .i64 y_17.1.H.a6, .int .i64 y_17.1.H.a7]) (c' := [.int .i64 y_17.1.Kind, .int .i64 y_17.1.N, .string y_17.1.S, .int .i64 y_17.1.H.a0, .int .i64 y_17.1.H.a1, .int .i64 y_17.1.H.a2, .int .i64 y_17.1.H.a3, .int .i64 y_17.1.H.a4, .int .i64 y_17.1.H.a5, .int .i64 y_17.1.H.a6, .int .i64 y_17.1.H.a7]) Tryd.sizeOf24 hS hK rfl rfl rfl rfl (all_cons rfl (all_cons rfl (all_cons rfl (all_cons rfl (all_cons rfl (all_cons rfl (all_cons rfl (all_cons rfl (all_cons rfl (all_cons rfl (all_cons rfl (all_nil)))))))))))) (Nat.le_of_ble_eq_true rfl) rfl fun a w hS hK => ?_
  refine sl hK (by decide) rfl rfl (r_assign hK rfl) fun a hK => ?_
  refine wpList_nil ?_
  refine wp_seq ?_
  refine wp_mid (fun a w => ∃ (x_64 : Int) (x_65 : Int) (x_66 : ByteArray) (x_67 : Arr8) (x_68 : Int) (b_63 : Nat), law01_ValueSums.j0 a0 a1 a2 y_4 y_9 y_12 y_14 y_17 x_64 x_65 x_66 x_67 x_68 = some true ∧ Kn 133 a [(3, .pointer (some ⟨b_1, 0, none⟩)), (4, .pointer (some ⟨b_2, 0, none⟩)), (5, .pointer (some ⟨b_3, 0, none⟩)), (7, .bool y_4), (11, .pointer (some ⟨b_11, 0, none⟩)), (12, .int .i64 y_9.2), (13, .int .i64 y_12.2), (14, .pointer (some ⟨b_16, 0, none⟩)), (15, .int .i64 y_14.2), (16, .int .i64 y_17.2), (17, .pointer (some ⟨b_63, 0, none⟩)), (18, .int .i64 x_68)] ∧ St [] w0 w (fun _ => none) [.cells b_1 [.int .i64 a0.a0, .int .i64 a0.a1, .int .i64 a0.a2, .int .i64 a0.a3, .int .i64 a0.a4, .int .i64 a0.a5, .int .i64 a0.a6, .int .i64 a0.a7] 22, .cells b_2 [.int .i64 a1.a0, .int .i64 a1.a1, .int .i64 a1.a2, .int .i64 a1.a3, .int .i64 a1.a4, .int .i64 a1.a5, .int .i64 a1.a6, .int .i64 a1.a7] 22, .cells b_3 [.int .i64 a2.a0, .int .i64 a2.a1, .int .i64 a2.a2, .int .i64 a2.a3, .int .i64 a2.a4, .int .i64 a2.a5, .int .i64 a2.a6, .int .i64 a2.a7] 22, .cells b_11 [.int .i64 y_12.1.Kind, .int .i64 y_12.1.N, .string y_12.1.S, .int .i64 y_12.1.H.a0, .int .i64 y_12.1.H.a1, .int .i64 y_12.1.H.a2, .int .i64 y_12.1.H.a3, .int .i64 y_12.1.H.a4, .int .i64 y_12.1.H.a5, .int .i64 y_12.1.H.a6, .int .i64 y_12.1.H.a7] 24, .cells b_16 [.int .i64 y_17.1.Kind, .int .i64 y_17.1.N, .string y_17.1.S, .int .i64 y_17.1.H.a0, .int .i64 y_17.1.H.a1, .int .i64 y_17.1.H.a2, .int .i64 y_17.1.H.a3, .int .i64 y_17.1.H.a4, .int .i64 y_17.1.H.a5, .int .i64 y_17.1.H.a6, .int .i64 y_17.1.H.a7] 24, .cells b_63 [.int .i64 x_64, .int .i64 x_65, .string x_66, .int .i64 x_67.a0, .int .i64 x_67.a1, .int .i64 x_67.a2, .int .i64 x_67.a3, .int .i64 x_67.a4, .int .i64 x_67.a5, .int .i64 x_67.a6, .int .i64 x_67.a7] 24]) ?_ ?_
  · refine treeT_region (C := fun w => St [] w0 w (fun _ => none) [.cells b_16 [.int .i64 y_17.1.Kind, .int .i64 y_17.1.N, .string y_17.1.S, .int .i64 y_17.1.H.a0, .int .i64 y_17.1.H.a1, .int .i64 y_17.1.H.a2, .int .i64 y_17.1.H.a3, .int .i64 y_17.1.H.a4, .int .i64 y_17.1.H.a5, .int .i64 y_17.1.H.a6, .int .i64 y_17.1.H.a7] 24, .cells b_11 [.int .i64 y_12.1.Kind, .int .i64 y_12.1.N, .string y_12.1.S, .int .i64 y_12.1.H.a0, .int .i64 y_12.1.H.a1, .int .i64 y_12.1.H.a2, .int .i64 y_12.1.H.a3, .int .i64 y_12.1.H.a4, .int .i64 y_12.1.H.a5, .int .i64 y_12.1.H.a6, .int .i64 y_12.1.H.a7] 24, .cells b_8 [.int .i64 4, .int .i64 0, .string (⟨#[]⟩ : ByteArray), .int .i64 a2.a0, .int .i64 a2.a1, .int .i64 a2.a2, .int .i64 a2.a3, .int .i64 a2.a4, .int .i64 a2.a5, .int .i64 a2.a6, .int .i64 a2.a7] 24, .cells b_7 [.int .i64 4, .int .i64 0, .string (⟨#[]⟩ : ByteArray), .int .i64 a1.a0, .int .i64 a1.a1, .int .i64 a1.a2, .int .i64 a1.a3, .int .i64 a1.a4, .int .i64 a1.a5, .int .i64 a1.a6, .int .i64 a1.a7] 24, .cells b_6 [.int .i64 4, .int .i64 0, .string (⟨#[]⟩ : ByteArray), .int .i64 a0.a0, .int .i64 a0.a1, .int .i64 a0.a2, .int .i64 a0.a3, .int .i64 a0.a4, .int .i64 a0.a5, .int .i64 a0.a6, .int .i64 a0.a7] 24, .cells b_3 [.int .i64 a2.a0, .int .i64 a2.a1, .int .i64 a2.a2, .int .i64 a2.a3, .int .i64 a2.a4, .int .i64 a2.a5, .int .i64 a2.a6, .int .i64 a2.a7] 22, .cells b_2 [.int .i64 a1.a0, .int .i64 a1.a1, .int .i64 a1.a2, .int .i64 a1.a3, .int .i64 a1.a4, .int .i64 a1.a5, .int .i64 a1.a6, .int .i64 a1.a7] 22, .cells b_1 [.int .i64 a0.a0, .int .i64 a0.a1, .int .i64 a0.a2, .int .i64 a0.a3, .int .i64 a0.a4, .int .i64 a0.a5, .int .i64 a0.a6, .int .i64 a0.a7] 22]) 12 (.br [(0, true), (1, true), (3, true), (4, true)] 2 (.br [] 5 (.br [] 6 (.list [(7, true), (8, true), (9, true), (10, false), (11, false)]) 10 (.list [(6, false), (7, true), (8, true), (9, true), (11, false)])) 10 (.list [(5, false), (6, false), (7, true), (8, true), (9, true), (11, false)])) 10 (.list [(2, false), (5, false), (6, false), (7, true), (8, true), (9, true), (11, false)])) mixed (by kernel_rfl) hS (fun w hS => hS) fun w hS => ?_
    refine tree_fork ?_
    refine sp (k := 0) rfl hK (by decide) rfl rfl (fun w hS => r_indexAddr_arr Tryd.underlying22 Tryd.sizeOf3 hK rfl rfl (by decide) (by decide)) fun a hK => ?_
    refine sp (k := 1) rfl hK (by decide) rfl rfl (fun w hS => r_load Tryd.isAgg3 hK rfl (hS.cell (.tail _ (.tail _ (.tail _ (.tail _ (.tail _ (.tail _ (.tail _ (.head _)))))))) rfl)) fun a hK => ?_
    refine sp (k := 3) rfl hK (by decide) rfl rfl (fun w hS => r_indexAddr_arr Tryd.underlying22 Tryd.sizeOf3 hK rfl rfl (by decide) (by decide)) fun a hK => ?_
    refine sp (k := 4) rfl hK (by decide) rfl rfl (fun w hS => r_load Tryd.isAgg3 hK rfl (hS.cell (.tail _ (.tail _ (.tail _ (.tail _ (.tail _ (.tail _ (.head _))))))) rfl)) fun a hK => ?_
    refine wpPar_nil (tree_br ?_ ?_)
    · refine spwB (k := 2) rfl rfl hS ?_
      obtain ⟨y_92, h_93, H⟩ := bind_some H
      refine sl_callV Tryd.call24 hS hK (by decide) rfl rfl rfl (value_OfInt.calls a0.a0 h_93 _) fun a w hS hK => ?_
      refine parKK_nil hS ?_
      refine tree_fork ?_
      refine wpPar_nil (tree_br ?_ ?_)
      · refine spwB (k := 5) rfl rfl hS ?_
        obtain ⟨y_94, h_95, H⟩ := bind_some H
        refine sl_callV Tryd.call24 hS hK (by decide) rfl rfl rfl (value_OfInt.calls a1.a0 h_95 _) fun a w hS hK => ?_
        refine parKK_nil hS ?_
        refine tree_fork ?_
        refine wpPar_nil (tree_br ?_ ?_)
        · refine spwB (k := 6) rfl rfl hS ?_
          obtain ⟨y_96, h_97, H⟩ := bind_some H
          refine sl_callV Tryd.call22 hS hK (by decide) rfl rfl rfl (value_Add.calls y_92 y_94 h_97 _) fun a w hS hK => ?_
          refine parKK_nil hS ?_
          refine tree_list ?_
          refine sp (k := 7) rfl hK (by decide) rfl rfl (fun w hS => r_move hK rfl) fun a hK => ?_
          refine sp (k := 8) rfl hK (by decide) rfl rfl (fun w hS => r_extract hK rfl rfl) fun a hK => ?_
          refine sp (k := 9) rfl hK (by decide) rfl rfl (fun w hS => r_extract hK rfl rfl) fun a hK => ?_
          refine spw (k := 10) rfl rfl hS ?_
          refine sl_alloc Tryd.zeroValue24 hS hK (by decide) rfl rfl fun a w b_98 hS hK => ?_
          refine parK_nil (hS.pk8.pk8.pk8.pk8.pk8.pk8.pk8.pk8.trunc 8) ?_
          refine spw (k := 11) rfl rfl (hS.pk8.pk8.pk8.pk8.pk8.pk8.pk8.pk8.trunc 8) ?_
          refine sl_storeA (vs := [.int .i64 y_96.1.Kind, .int .i64 y_96.1.N, .string y_96.1.S, .int .i64 y_96.1.H.a0, .int .i64 y_96.1.H.a1, .int .i64 y_96.1.H.a2, .int .i64 y_96.1.H.a3, .int .i64 y_96.1.H.a4, .int .i64 y_96.1.H.a5, .int .i64 y_96.1.H.a6, .int .i64 y_96.1.H.a7]) (c' := [.int .i64 y_96.1.Kind, .int .i64 y_96.1.N, .string y_96.1.S, .int .i64 y_96.1.H.a0, .int .i64 y_96.1.H.a1, .int .i64 y_96.1.H.a2, .int .i64 y_96.1.H.a3, .int .i64 y_96.1.H.a4, .int .i64 y_96.1.H.a5, .int .i64 y_96.1.H.a6, .int .i64 y_96.1.H.a7]) Tryd.sizeOf24 hS hK rfl rfl rfl rfl (all_cons rfl (all_cons rfl (all_cons rfl (all_cons rfl (all_cons rfl (all_cons rfl (all_cons rfl (all_cons rfl (all_cons rfl (all_cons rfl (all_cons rfl (all_nil)))))))))))) (Nat.le_of_ble_eq_true rfl) rfl fun a w hS hK => ?_
          refine parK_nil (hS.pk8.pk8.pk8.pk8.pk8.pk8.pk8.pk8.trunc 8) ?_
          refine thenL_nil ?_
          refine sl hK (by decide) rfl rfl (r_assign hK rfl) fun a hK => ?_
          refine wpList_nil (NoP_nil ?_)
          have hS := hS.pk1
          have hS := hS.pk2
          have hS := hS.pk6
          have hS := hS.pk7
          have hS := hS.pk8
          exact ⟨y_96.1.Kind, y_96.1.N, y_96.1.S, y_96.1.H, y_96.2, _, H, hK.sub (all_cons rfl (all_cons rfl (all_cons rfl (all_cons rfl (all_cons rfl (all_cons rfl (all_cons rfl (all_cons rfl (all_cons rfl (all_cons rfl (all_cons rfl (all_cons rfl (all_nil))))))))))))), hS.trunc 6⟩
        · refine spwB (k := 10) rfl rfl hS ?_
          refine sl_alloc Tryd.zeroValue24 hS hK (by decide) rfl rfl fun a w b_99 hS hK => ?_
          refine parKK_nil (hS.pk8.pk8.pk8.pk8.pk8.pk8.pk8.pk8.trunc 8) ?_
          refine tree_list ?_
          refine spw (k := 6) rfl rfl (hS.pk8.pk8.pk8.pk8.pk8.pk8.pk8.pk8.trunc 8) ?_
          obtain ⟨y_100, h_101, H⟩ := bind_some H
          refine sl_callV Tryd.call22 hS hK (by decide) rfl rfl rfl (value_Add.calls y_92 y_94 h_101 _) fun a w hS hK => ?_
          refine parK_nil (hS.pk8.pk8.pk8.pk8.pk8.pk8.pk8.pk8.trunc 8) ?_
          refine sp (k := 7) rfl hK (by decide) rfl rfl (fun w hS => r_move hK rfl) fun a hK => ?_
          refine sp (k := 8) rfl hK (by decide) rfl rfl (fun w hS => r_extract hK rfl rfl) fun a hK => ?_
          refine sp (k := 9) rfl hK (by decide) rfl rfl (fun w hS => r_extract hK rfl rfl) fun a hK => ?_
          refine spw (k := 11) rfl rfl (hS.pk8.pk8.pk8.pk8.pk8.pk8.pk8.pk8.trunc 8) ?_
          refine sl_storeA (vs := [.int .i64 y_100.1.Kind, .int .i64 y_100.1.N, .string y_100.1.S, .int .i64 y_100.1.H.a0, .int .i64 y_100.1.H.a1, .int .i64 y_100.1.H.a2, .int .i64 y_100.1.H.a3, .int .i64 y_100.1.H.a4, .int .i64 y_100.1.H.a5, .int .i64 y_100.1.H.a6, .int .i64 y_100.1.H.a7]) (c' := [.int .i64 y_100.1.Kind, .int .i64 y_100.1.N, .string y_100.1.S, .int .i64 y_100.1.H.a0, .int .i64 y_100.1.H.a1, .int .i64 y_100.1.H.a2, .int .i64 y_100.1.H.a3, .int .i64 y_100.1.H.a4, .int .i64 y_100.1.H.a5, .int .i64 y_100.1.H.a6, .int .i64 y_100.1.H.a7]) Tryd.sizeOf24 hS hK rfl rfl rfl rfl (all_cons rfl (all_cons rfl (all_cons rfl (all_cons rfl (all_cons rfl (all_cons rfl (all_cons rfl (all_cons rfl (all_cons rfl (all_cons rfl (all_cons rfl (all_nil)))))))))))) (Nat.le_of_ble_eq_true rfl) rfl fun a w hS hK => ?_
          refine parK_nil (hS.pk8.pk8.pk8.pk8.pk8.pk8.pk8.pk8.trunc 8) ?_
          refine thenL_nil ?_
          refine sl hK (by decide) rfl rfl (r_assign hK rfl) fun a hK => ?_
          refine wpList_nil (NoP_nil ?_)
          have hS := hS.pk1
          have hS := hS.pk2
          have hS := hS.pk6
          have hS := hS.pk7
          have hS := hS.pk8
          exact ⟨y_100.1.Kind, y_100.1.N, y_100.1.S, y_100.1.H, y_100.2, _, H, hK.sub (all_cons rfl (all_cons rfl (all_cons rfl (all_cons rfl (all_cons rfl (all_cons rfl (all_cons rfl (all_cons rfl (all_cons rfl (all_cons rfl (all_cons rfl (all_cons rfl (all_nil))))))))))))), hS.trunc 6⟩
      · refine spwB (k := 10) rfl rfl hS ?_
        refine sl_alloc Tryd.zeroValue24 hS hK (by decide) rfl rfl fun a w b_102 hS hK => ?_
        refine parKK_nil (hS.pk8.pk8.pk8.pk8.pk8.pk8.pk8.pk8.trunc 8) ?_
        refine tree_list ?_
        refine spw (k := 5) rfl rfl (hS.pk8.pk8.pk8.pk8.pk8.pk8.pk8.pk8.trunc 8) ?_
        obtain ⟨y_103, h_104, H⟩ := bind_some H
        refine sl_callV Tryd.call24 hS hK (by decide) rfl rfl rfl (value_OfInt.calls a1.a0 h_104 _) fun a w hS hK => ?_
        refine parK_nil (hS.pk8.pk8.pk8.pk8.pk8.pk8.pk8.pk8.trunc 8) ?_
        refine spw (k := 6) rfl rfl (hS.pk8.pk8.pk8.pk8.pk8.pk8.pk8.pk8.trunc 8) ?_
        obtain ⟨y_105, h_106, H⟩ := bind_some H
        refine sl_callV Tryd.call22 hS hK (by decide) rfl rfl rfl (value_Add.calls y_92 y_103 h_106 _) fun a w hS hK => ?_
        refine parK_nil (hS.pk8.pk8.pk8.pk8.pk8.pk8.pk8.pk8.trunc 8) ?_
        refine sp (k := 7) rfl hK (by decide) rfl rfl (fun w hS => r_move hK rfl) fun a hK => ?_
        refine sp (k := 8) rfl hK (by decide) rfl rfl (fun w hS => r_extract hK rfl rfl) fun a hK => ?_
        refine sp (k := 9) rfl hK (by decide) rfl rfl (fun w hS => r_extract hK rfl rfl) fun a hK => ?_
        refine spw (k := 11) rfl rfl (hS.pk8.pk8.pk8.pk8.pk8.pk8.pk8.pk8.trunc 8) ?_
        refine sl_storeA (vs := [.int .i64 y_105.1.Kind, .int .i64 y_105.1.N, .string y_105.1.S, .int .i64 y_105.1.H.a0, .int .i64 y_105.1.H.a1, .int .i64 y_105.1.H.a2, .int .i64 y_105.1.H.a3, .int .i64 y_105.1.H.a4, .int .i64 y_105.1.H.a5, .int .i64 y_105.1.H.a6, .int .i64 y_105.1.H.a7]) (c' := [.int .i64 y_105.1.Kind, .int .i64 y_105.1.N, .string y_105.1.S, .int .i64 y_105.1.H.a0, .int .i64 y_105.1.H.a1, .int .i64 y_105.1.H.a2, .int .i64 y_105.1.H.a3, .int .i64 y_105.1.H.a4, .int .i64 y_105.1.H.a5, .int .i64 y_105.1.H.a6, .int .i64 y_105.1.H.a7]) Tryd.sizeOf24 hS hK rfl rfl rfl rfl (all_cons rfl (all_cons rfl (all_cons rfl (all_cons rfl (all_cons rfl (all_cons rfl (all_cons rfl (all_cons rfl (all_cons rfl (all_cons rfl (all_cons rfl (all_nil)))))))))))) (Nat.le_of_ble_eq_true rfl) rfl fun a w hS hK => ?_
        refine parK_nil (hS.pk8.pk8.pk8.pk8.pk8.pk8.pk8.pk8.trunc 8) ?_
        refine thenL_nil ?_
        refine sl hK (by decide) rfl rfl (r_assign hK rfl) fun a hK => ?_
        refine wpList_nil (NoP_nil ?_)
        have hS := hS.pk1
        have hS := hS.pk2
        have hS := hS.pk6
        have hS := hS.pk7
        have hS := hS.pk8
        exact ⟨y_105.1.Kind, y_105.1.N, y_105.1.S, y_105.1.H, y_105.2, _, H, hK.sub (all_cons rfl (all_cons rfl (all_cons rfl (all_cons rfl (all_cons rfl (all_cons rfl (all_cons rfl (all_cons rfl (all_cons rfl (all_cons rfl (all_cons rfl (all_cons rfl (all_nil))))))))))))), hS.trunc 6⟩
    · refine spwB (k := 10) rfl rfl hS ?_
      refine sl_alloc Tryd.zeroValue24 hS hK (by decide) rfl rfl fun a w b_107 hS hK => ?_
      refine parKK_nil (hS.pk8.pk8.pk8.pk8.pk8.pk8.pk8.pk8.trunc 8) ?_
      refine tree_list ?_
      refine spw (k := 2) rfl rfl (hS.pk8.pk8.pk8.pk8.pk8.pk8.pk8.pk8.trunc 8) ?_
      obtain ⟨y_108, h_109, H⟩ := bind_some H
      refine sl_callV Tryd.call24 hS hK (by decide) rfl rfl rfl (value_OfInt.calls a0.a0 h_109 _) fun a w hS hK => ?_
      refine parK_nil (hS.pk8.pk8.pk8.pk8.pk8.pk8.pk8.pk8.trunc 8) ?_
      refine spw (k := 5) rfl rfl (hS.pk8.pk8.pk8.pk8.pk8.pk8.pk8.pk8.trunc 8) ?_
      obtain ⟨y_110, h_111, H⟩ := bind_some H
      refine sl_callV Tryd.call24 hS hK (by decide) rfl rfl rfl (value_OfInt.calls a1.a0 h_111 _) fun a w hS hK => ?_
      refine parK_nil (hS.pk8.pk8.pk8.pk8.pk8.pk8.pk8.pk8.trunc 8) ?_
      refine spw (k := 6) rfl rfl (hS.pk8.pk8.pk8.pk8.pk8.pk8.pk8.pk8.trunc 8) ?_
      obtain ⟨y_112, h_113, H⟩ := bind_some H
      refine sl_callV Tryd.call22 hS hK (by decide) rfl rfl rfl (value_Add.calls y_108 y_110 h_113 _) fun a w hS hK => ?_
      refine parK_nil (hS.pk8.pk8.pk8.pk8.pk8.pk8.pk8.pk8.trunc 8) ?_
      refine sp (k := 7) rfl hK (by decide) rfl rfl (fun w hS => r_move hK rfl) fun a hK => ?_
      refine sp (k := 8) rfl hK (by decide) rfl rfl (fun w hS => r_extract hK rfl rfl) fun a hK => ?_
      refine sp (k := 9) rfl hK (by decide) rfl rfl (fun w hS => r_extract hK rfl rfl) fun a hK => ?_
      refine spw (k := 11) rfl rfl (hS.pk8.pk8.pk8.pk8.pk8.pk8.pk8.pk8.trunc 8) ?_
      refine sl_storeA (vs := [.int .i64 y_112.1.Kind, .int .i64 y_112.1.N, .string y_112.1.S, .int .i64 y_112.1.H.a0, .int .i64 y_112.1.H.a1, .int .i64 y_112.1.H.a2, .int .i64 y_112.1.H.a3, .int .i64 y_112.1.H.a4, .int .i64 y_112.1.H.a5, .int .i64 y_112.1.H.a6, .int .i64 y_112.1.H.a7]) (c' := [.int .i64 y_112.1.Kind, .int .i64 y_112.1.N, .string y_112.1.S, .int .i64 y_112.1.H.a0, .int .i64 y_112.1.H.a1, .int .i64 y_112.1.H.a2, .int .i64 y_112.1.H.a3, .int .i64 y_112.1.H.a4, .int .i64 y_112.1.H.a5, .int .i64 y_112.1.H.a6, .int .i64 y_112.1.H.a7]) Tryd.sizeOf24 hS hK rfl rfl rfl rfl (all_cons rfl (all_cons rfl (all_cons rfl (all_cons rfl (all_cons rfl (all_cons rfl (all_cons rfl (all_cons rfl (all_cons rfl (all_cons rfl (all_cons rfl (all_nil)))))))))))) (Nat.le_of_ble_eq_true rfl) rfl fun a w hS hK => ?_
      refine parK_nil (hS.pk8.pk8.pk8.pk8.pk8.pk8.pk8.pk8.trunc 8) ?_
      refine thenL_nil ?_
      refine sl hK (by decide) rfl rfl (r_assign hK rfl) fun a hK => ?_
      refine wpList_nil (NoP_nil ?_)
      have hS := hS.pk1
      have hS := hS.pk2
      have hS := hS.pk6
      have hS := hS.pk7
      have hS := hS.pk8
      exact ⟨y_112.1.Kind, y_112.1.N, y_112.1.S, y_112.1.H, y_112.2, _, H, hK.sub (all_cons rfl (all_cons rfl (all_cons rfl (all_cons rfl (all_cons rfl (all_cons rfl (all_cons rfl (all_cons rfl (all_cons rfl (all_cons rfl (all_cons rfl (all_cons rfl (all_nil))))))))))))), hS.trunc 6⟩
  · rintro a w ⟨x_64, x_65, x_66, x_67, x_68, b_63, H, hK, hS⟩
    unfold law01_ValueSums.j0 at H
    refine wp_seq ?_
    refine treeTS_region (C0 := (fun w => St [] w0 w (fun _ => none) [.cells b_1 [.int .i64 a0.a0, .int .i64 a0.a1, .int .i64 a0.a2, .int .i64 a0.a3, .int .i64 a0.a4, .int .i64 a0.a5, .int .i64 a0.a6, .int .i64 a0.a7] 22, .cells b_2 [.int .i64 a1.a0, .int .i64 a1.a1, .int .i64 a1.a2, .int .i64 a1.a3, .int .i64 a1.a4, .int .i64 a1.a5, .int .i64 a1.a6, .int .i64 a1.a7] 22, .cells b_3 [.int .i64 a2.a0, .int .i64 a2.a1, .int .i64 a2.a2, .int .i64 a2.a3, .int .i64 a2.a4, .int .i64 a2.a5, .int .i64 a2.a6, .int .i64 a2.a7] 22, .cells b_11 [.int .i64 y_12.1.Kind, .int .i64 y_12.1.N, .string y_12.1.S, .int .i64 y_12.1.H.a0, .int .i64 y_12.1.H.a1, .int .i64 y_12.1.H.a2, .int .i64 y_12.1.H.a3, .int .i64 y_12.1.H.a4, .int .i64 y_12.1.H.a5, .int .i64 y_12.1.H.a6, .int .i64 y_12.1.H.a7] 24, .cells b_16 [.int .i64 y_17.1.Kind, .int .i64 y_17.1.N, .string y_17.1.S, .int .i64 y_17.1.H.a0, .int .i64 y_17.1.H.a1, .int .i64 y_17.1.H.a2, .int .i64 y_17.1.H.a3, .int .i64 y_17.1.H.a4, .int .i64 y_17.1.H.a5, .int .i64 y_17.1.H.a6, .int .i64 y_17.1.H.a7] 24, .cells b_63 [.int .i64 x_64, .int .i64 x_65, .string x_66, .int .i64 x_67.a0, .int .i64 x_67.a1, .int .i64 x_67.a2, .int .i64 x_67.a3, .int .i64 x_67.a4, .int .i64 x_67.a5, .int .i64 x_67.a6, .int .i64 x_67.a7] 24])) (C1 := (fun w => St [] w0 w (fun _ => none) [.cells b_1 [.int .i64 a0.a0, .int .i64 a0.a1, .int .i64 a0.a2, .int .i64 a0.a3, .int .i64 a0.a4, .int .i64 a0.a5, .int .i64 a0.a6, .int .i64 a0.a7] 22, .cells b_2 [.int .i64 a1.a0, .int .i64 a1.a1, .int .i64 a1.a2, .int .i64 a1.a3, .int .i64 a1.a4, .int .i64 a1.a5, .int .i64 a1.a6, .int .i64 a1.a7] 22, .cells b_3 [.int .i64 a2.a0, .int .i64 a2.a1, .int .i64 a2.a2, .int .i64 a2.a3, .int .i64 a2.a4, .int .i64 a2.a5, .int .i64 a2.a6, .int .i64 a2.a7] 22, .cells b_11 [.int .i64 y_12.1.Kind, .int .i64 y_12.1.N, .string y_12.1.S, .int .i64 y_12.1.H.a0, .int .i64 y_12.1.H.a1, .int .i64 y_12.1.H.a2, .int .i64 y_12.1.H.a3, .int .i64 y_12.1.H.a4, .int .i64 y_12.1.H.a5, .int .i64 y_12.1.H.a6, .int .i64 y_12.1.H.a7] 24, .cells b_16 [.int .i64 y_17.1.Kind, .int .i64 y_17.1.N, .string y_17.1.S, .int .i64 y_17.1.H.a0, .int .i64 y_17.1.H.a1, .int .i64 y_17.1.H.a2, .int .i64 y_17.1.H.a3, .int .i64 y_17.1.H.a4, .int .i64 y_17.1.H.a5, .int .i64 y_17.1.H.a6, .int .i64 y_17.1.H.a7] 24])) 9 8 [(0, 2), (1, 2), (2, 2), (3, 0), (4, 0), (5, 2), (6, 2), (7, 1)] (.list []) mixed (by kernel_rfl) (fun w hS => (hS.trunc 5)) hS (fun w hS => hS) fun w hS => ?_
    refine spS2 (k := 0) rfl hK (by decide) rfl rfl (fun w hS => r_loadA (cs := [.int .i64 x_64, .int .i64 x_65, .string x_66, .int .i64 x_67.a0, .int .i64 x_67.a1, .int .i64 x_67.a2, .int .i64 x_67.a3, .int .i64 x_67.a4, .int .i64 x_67.a5, .int .i64 x_67.a6, .int .i64 x_67.a7]) Tryd.isAgg24 Tryd.sizeOf24 rfl hK rfl (hS.cells_of (m := 11) (.tail _ (.tail _ (.tail _ (.tail _ (.tail _ (.head _)))))) rfl)) fun a hK => ?_
    refine spS2 (k := 1) rfl hK (by decide) rfl rfl (fun w hS => r_indexAddr_arr Tryd.underlying22 Tryd.sizeOf3 hK rfl rfl (by decide) (by decide)) fun a hK => ?_
    refine spS2 (k := 2) rfl hK (by decide) rfl rfl (fun w hS => r_load Tryd.isAgg3 hK rfl (hS.cell (.tail _ (.tail _ (.head _))) rfl)) fun a hK => ?_
    refine parS_cons (spwB (k := 3) rfl rfl hS ?_)
    obtain ⟨y_118, h_119, H⟩ := bind_some H
    refine sl_callV Tryd.call24 hS hK (by decide) rfl rfl rfl (value_OfInt.calls a2.a0 h_119 _) fun a w hS hK => ?_
    refine parKK_nilS hS ?_
    refine parS_cons (spwB (k := 4) rfl rfl hS ?_)
    obtain ⟨y_120, h_121, H⟩ := bind_some H
    refine sl_callV Tryd.call22 hS hK (by decide) rfl rfl rfl (value_Add.calls (⟨x_64, x_65, x_66, x_67⟩ : api_Value) y_118 h_121 _) fun a w hS hK => ?_
    refine parKK_nilS hS ?_
    refine spS2 (k := 5) rfl hK (by decide) rfl rfl (fun w hS => r_move hK rfl) fun a hK => ?_
    refine spS2 (k := 6) rfl hK (by decide) rfl rfl (fun w hS => r_extract hK rfl rfl) fun a hK => ?_
    refine spS1 (k := 7) rfl hK (by decide) rfl rfl (fun w hS => r_extract hK rfl rfl) fun a hK => ?_
    refine parS_nil (spwB (k := 8) rfl rfl (hS.trunc 5) ?_)
    have hS := hS.pk5
    refine sl_storeA (vs := [.int .i64 y_120.1.Kind, .int .i64 y_120.1.N, .string y_120.1.S, .int .i64 y_120.1.H.a0, .int .i64 y_120.1.H.a1, .int .i64 y_120.1.H.a2, .int .i64 y_120.1.H.a3, .int .i64 y_120.1.H.a4, .int .i64 y_120.1.H.a5, .int .i64 y_120.1.H.a6, .int .i64 y_120.1.H.a7]) (c' := [.int .i64 y_120.1.Kind, .int .i64 y_120.1.N, .string y_120.1.S, .int .i64 y_120.1.H.a0, .int .i64 y_120.1.H.a1, .int .i64 y_120.1.H.a2, .int .i64 y_120.1.H.a3, .int .i64 y_120.1.H.a4, .int .i64 y_120.1.H.a5, .int .i64 y_120.1.H.a6, .int .i64 y_120.1.H.a7]) Tryd.sizeOf24 hS hK rfl rfl rfl rfl (all_cons rfl (all_cons rfl (all_cons rfl (all_cons rfl (all_cons rfl (all_cons rfl (all_cons rfl (all_cons rfl (all_cons rfl (all_cons rfl (all_cons rfl (all_nil)))))))))))) (Nat.le_of_ble_eq_true rfl) rfl fun a w hS hK => ?_
    refine parKK_nil (hS.pk5.pk5.pk5.pk5.pk5.trunc 5) ?_
    refine tree_list ?_
    refine thenL_nil ?_
    refine sl hK (by decide) rfl rfl (r_assign hK rfl) fun a hK => ?_
    refine wpList_nil (NoP_nil ?_)
    refine wp_seq ?_
    refine wp_mid (fun a w => ∃ (x_167 : Int) (x_168 : Int) (x_169 : ByteArray) (x_170 : Arr8) (x_171 : Int) (b_166 : Nat), law01_ValueSums.j1 a0 y_4 y_9 y_12 y_14 y_17 x_68 y_120 x_167 x_168 x_169 x_170 x_171 = some true ∧ Kn 133 a [(3, .pointer (some ⟨b_1, 0, none⟩)), (7, .bool y_4), (11, .pointer (some ⟨b_11, 0, none⟩)), (12, .int .i64 y_9.2), (13, .int .i64 y_12.2), (14, .pointer (some ⟨b_16, 0, none⟩)), (15, .int .i64 y_14.2), (16, .int .i64 y_17.2), (17, .pointer (some ⟨b_63, 0, none⟩)), (18, .int .i64 x_68), (19, .int .i64 y_120.2), (20, .pointer (some ⟨b_166, 0, none⟩)), (21, .int .i64 x_171)] ∧ St [] w0 w (fun _ => none) [.cells b_1 [.int .i64 a0.a0, .int .i64 a0.a1, .int .i64 a0.a2, .int .i64 a0.a3, .int .i64 a0.a4, .int .i64 a0.a5, .int .i64 a0.a6, .int .i64 a0.a7] 22, .cells b_11 [.int .i64 y_12.1.Kind, .int .i64 y_12.1.N, .string y_12.1.S, .int .i64 y_12.1.H.a0, .int .i64 y_12.1.H.a1, .int .i64 y_12.1.H.a2, .int .i64 y_12.1.H.a3, .int .i64 y_12.1.H.a4, .int .i64 y_12.1.H.a5, .int .i64 y_12.1.H.a6, .int .i64 y_12.1.H.a7] 24, .cells b_16 [.int .i64 y_17.1.Kind, .int .i64 y_17.1.N, .string y_17.1.S, .int .i64 y_17.1.H.a0, .int .i64 y_17.1.H.a1, .int .i64 y_17.1.H.a2, .int .i64 y_17.1.H.a3, .int .i64 y_17.1.H.a4, .int .i64 y_17.1.H.a5, .int .i64 y_17.1.H.a6, .int .i64 y_17.1.H.a7] 24, .cells b_63 [.int .i64 y_120.1.Kind, .int .i64 y_120.1.N, .string y_120.1.S, .int .i64 y_120.1.H.a0, .int .i64 y_120.1.H.a1, .int .i64 y_120.1.H.a2, .int .i64 y_120.1.H.a3, .int .i64 y_120.1.H.a4, .int .i64 y_120.1.H.a5, .int .i64 y_120.1.H.a6, .int .i64 y_120.1.H.a7] 24, .cells b_166 [.int .i64 x_167, .int .i64 x_168, .string x_169, .int .i64 x_170.a0, .int .i64 x_170.a1, .int .i64 x_170.a2, .int .i64 x_170.a3, .int .i64 x_170.a4, .int .i64 x_170.a5, .int .i64 x_170.a6, .int .i64 x_170.a7] 24]) ?_ ?_
    · refine treeT_region (C := fun w => St [] w0 w (fun _ => none) [.cells b_63 [.int .i64 y_120.1.Kind, .int .i64 y_120.1.N, .string y_120.1.S, .int .i64 y_120.1.H.a0, .int .i64 y_120.1.H.a1, .int .i64 y_120.1.H.a2, .int .i64 y_120.1.H.a3, .int .i64 y_120.1.H.a4, .int .i64 y_120.1.H.a5, .int .i64 y_120.1.H.a6, .int .i64 y_120.1.H.a7] 24, .cells b_1 [.int .i64 a0.a0, .int .i64 a0.a1, .int .i64 a0.a2, .int .i64 a0.a3, .int .i64 a0.a4, .int .i64 a0.a5, .int .i64 a0.a6, .int .i64 a0.a7] 22, .cells b_2 [.int .i64 a1.a0, .int .i64 a1.a1, .int .i64 a1.a2, .int .i64 a1.a3, .int .i64 a1.a4, .int .i64 a1.a5, .int .i64 a1.a6, .int .i64 a1.a7] 22, .cells b_3 [.int .i64 a2.a0, .int .i64 a2.a1, .int .i64 a2.a2, .int .i64 a2.a3, .int .i64 a2.a4, .int .i64 a2.a5, .int .i64 a2.a6, .int .i64 a2.a7] 22, .cells b_11 [.int .i64 y_12.1.Kind, .int .i64 y_12.1.N, .string y_12.1.S, .int .i64 y_12.1.H.a0, .int .i64 y_12.1.H.a1, .int .i64 y_12.1.H.a2, .int .i64 y_12.1.H.a3, .int .i64 y_12.1.H.a4, .int .i64 y_12.1.H.a5, .int .i64 y_12.1.H.a6, .int .i64 y_12.1.H.a7] 24, .cells b_16 [.int .i64 y_17.1.Kind, .int .i64 y_17.1.N, .string y_17.1.S, .int .i64 y_17.1.H.a0, .int .i64 y_17.1.H.a1, .int .i64 y_17.1.H.a2, .int .i64 y_17.1.H.a3, .int .i64 y_17.1.H.a4, .int .i64 y_17.1.H.a5, .int .i64 y_17.1.H.a6, .int .i64 y_17.1.H.a7] 24]) 12 (.br [(0, true), (1, true), (3, true), (4, true)] 2 (.br [] 5 (.br [] 6 (.list [(7, true), (8, true), (9, true), (10, false), (11, false)]) 10 (.list [(6, false), (7, true), (8, true), (9, true), (11, false)])) 10 (.list [(5, false), (6, false), (7, true), (8, true), (9, true), (11, false)])) 10 (.list [(2, false), (5, false), (6, false), (7, true), (8, true), (9, true), (11, false)])) mixed (by kernel_rfl) hS (fun w hS => hS) fun w hS => ?_
      refine tree_fork ?_
      refine sp (k := 0) rfl hK (by decide) rfl rfl (fun w hS => r_indexAddr_arr Tryd.underlying22 Tryd.sizeOf3 hK rfl rfl (by decide) (by decide)) fun a hK => ?_
      refine sp (k := 1) rfl hK (by decide) rfl rfl (fun w hS => r_load Tryd.isAgg3 hK rfl (hS.cell (.tail _ (.tail _ (.head _))) rfl)) fun a hK => ?_
      refine sp (k := 3) rfl hK (by decide) rfl rfl (fun w hS => r_indexAddr_arr Tryd.underlying22 Tryd.sizeOf3 hK rfl rfl (by decide) (by decide)) fun a hK => ?_
      refine sp (k := 4) rfl hK (by decide) rfl rfl (fun w hS => r_load Tryd.isAgg3 hK rfl (hS.cell (.tail _ (.tail _ (.tail _ (.head _)))) rfl)) fun a hK => ?_
      refine wpPar_nil (tree_br ?_ ?_)
      · refine spwB (k := 2) rfl rfl hS ?_
        obtain ⟨y_195, h_196, H⟩ := bind_some H
        refine sl_callV Tryd.call24 hS hK (by decide) rfl rfl rfl (value_OfInt.calls a1.a0 h_196 _) fun a w hS hK => ?_
        refine parKK_nil hS ?_
        refine tree_fork ?_
        refine wpPar_nil (tree_br ?_ ?_)
        · refine spwB (k := 5) rfl rfl hS ?_
          obtain ⟨y_197, h_198, H⟩ := bind_some H
          refine sl_callV Tryd.call24 hS hK (by decide) rfl rfl rfl (value_OfInt.calls a2.a0 h_198 _) fun a w hS hK => ?_
          refine parKK_nil hS ?_
          refine tree_fork ?_
          refine wpPar_nil (tree_br ?_ ?_)
          · refine spwB (k := 6) rfl rfl hS ?_
            obtain ⟨y_199, h_200, H⟩ := bind_some H
            refine sl_callV Tryd.call22 hS hK (by decide) rfl rfl rfl (value_Add.calls y_195 y_197 h_200 _) fun a w hS hK => ?_
            refine parKK_nil hS ?_
            refine tree_list ?_
            refine sp (k := 7) rfl hK (by decide) rfl rfl (fun w hS => r_move hK rfl) fun a hK => ?_
            refine sp (k := 8) rfl hK (by decide) rfl rfl (fun w hS => r_extract hK rfl rfl) fun a hK => ?_
            refine sp (k := 9) rfl hK (by decide) rfl rfl (fun w hS => r_extract hK rfl rfl) fun a hK => ?_
            refine spw (k := 10) rfl rfl hS ?_
            refine sl_alloc Tryd.zeroValue24 hS hK (by decide) rfl rfl fun a w b_201 hS hK => ?_
            refine parK_nil (hS.pk6.pk6.pk6.pk6.pk6.pk6.trunc 6) ?_
            refine spw (k := 11) rfl rfl (hS.pk6.pk6.pk6.pk6.pk6.pk6.trunc 6) ?_
            refine sl_storeA (vs := [.int .i64 y_199.1.Kind, .int .i64 y_199.1.N, .string y_199.1.S, .int .i64 y_199.1.H.a0, .int .i64 y_199.1.H.a1, .int .i64 y_199.1.H.a2, .int .i64 y_199.1.H.a3, .int .i64 y_199.1.H.a4, .int .i64 y_199.1.H.a5, .int .i64 y_199.1.H.a6, .int .i64 y_199.1.H.a7]) (c' := [.int .i64 y_199.1.Kind, .int .i64 y_199.1.N, .string y_199.1.S, .int .i64 y_199.1.H.a0, .int .i64 y_199.1.H.a1, .int .i64 y_199.1.H.a2, .int .i64 y_199.1.H.a3, .int .i64 y_199.1.H.a4, .int .i64 y_199.1.H.a5, .int .i64 y_199.1.H.a6, .int .i64 y_199.1.H.a7]) Tryd.sizeOf24 hS hK rfl rfl rfl rfl (all_cons rfl (all_cons rfl (all_cons rfl (all_cons rfl (all_cons rfl (all_cons rfl (all_cons rfl (all_cons rfl (all_cons rfl (all_cons rfl (all_cons rfl (all_nil)))))))))))) (Nat.le_of_ble_eq_true rfl) rfl fun a w hS hK => ?_
            refine parK_nil (hS.pk6.pk6.pk6.pk6.pk6.pk6.trunc 6) ?_
            refine thenL_nil ?_
            refine sl hK (by decide) rfl rfl (r_assign hK rfl) fun a hK => ?_
            refine wpList_nil (NoP_nil ?_)
            have hS := hS.pk1
            have hS := hS.pk6
            have hS := hS.pk6
            have hS := hS.pk4
            exact ⟨y_199.1.Kind, y_199.1.N, y_199.1.S, y_199.1.H, y_199.2, _, H, hK.sub (all_cons rfl (all_cons rfl (all_cons rfl (all_cons rfl (all_cons rfl (all_cons rfl (all_cons rfl (all_cons rfl (all_cons rfl (all_cons rfl (all_cons rfl (all_cons rfl (all_cons rfl (all_nil)))))))))))))), hS.trunc 5⟩
          · refine spwB (k := 10) rfl rfl hS ?_
            refine sl_alloc Tryd.zeroValue24 hS hK (by decide) rfl rfl fun a w b_202 hS hK => ?_
            refine parKK_nil (hS.pk6.pk6.pk6.pk6.pk6.pk6.trunc 6) ?_
            refine tree_list ?_
            refine spw (k := 6) rfl rfl (hS.pk6.pk6.pk6.pk6.pk6.pk6.trunc 6) ?_
            obtain ⟨y_203, h_204, H⟩ := bind_some H
            refine sl_callV Tryd.call22 hS hK (by decide) rfl rfl rfl (value_Add.calls y_195 y_197 h_204 _) fun a w hS hK => ?_
            refine parK_nil (hS.pk6.pk6.pk6.pk6.pk6.pk6.trunc 6) ?_
            refine sp (k := 7) rfl hK (by decide) rfl rfl (fun w hS => r_move hK rfl) fun a hK => ?_
            refine sp (k := 8) rfl hK (by decide) rfl rfl (fun w hS => r_extract hK rfl rfl) fun a hK => ?_
            refine sp (k := 9) rfl hK (by decide) rfl rfl (fun w hS => r_extract hK rfl rfl) fun a hK => ?_
            refine spw (k := 11) rfl rfl (hS.pk6.pk6.pk6.pk6.pk6.pk6.trunc 6) ?_
            refine sl_storeA (vs := [.int .i64 y_203.1.Kind, .int .i64 y_203.1.N, .string y_203.1.S, .int .i64 y_203.1.H.a0, .int .i64 y_203.1.H.a1, .int .i64 y_203.1.H.a2, .int .i64 y_203.1.H.a3, .int .i64 y_203.1.H.a4, .int .i64 y_203.1.H.a5, .int .i64 y_203.1.H.a6, .int .i64 y_203.1.H.a7]) (c' := [.int .i64 y_203.1.Kind, .int .i64 y_203.1.N, .string y_203.1.S, .int .i64 y_203.1.H.a0, .int .i64 y_203.1.H.a1, .int .i64 y_203.1.H.a2, .int .i64 y_203.1.H.a3, .int .i64 y_203.1.H.a4, .int .i64 y_203.1.H.a5, .int .i64 y_203.1.H.a6, .int .i64 y_203.1.H.a7]) Tryd.sizeOf24 hS hK rfl rfl rfl rfl (all_cons rfl (all_cons rfl (all_cons rfl (all_cons rfl (all_cons rfl (all_cons rfl (all_cons rfl (all_cons rfl (all_cons rfl (all_cons rfl (all_cons rfl (all_nil)))))))))))) (Nat.le_of_ble_eq_true rfl) rfl fun a w hS hK => ?_
            refine parK_nil (hS.pk6.pk6.pk6.pk6.pk6.pk6.trunc 6) ?_
            refine thenL_nil ?_
            refine sl hK (by decide) rfl rfl (r_assign hK rfl) fun a hK => ?_
            refine wpList_nil (NoP_nil ?_)
            have hS := hS.pk1
            have hS := hS.pk6
            have hS := hS.pk6
            have hS := hS.pk4
            exact ⟨y_203.1.Kind, y_203.1.N, y_203.1.S, y_203.1.H, y_203.2, _, H, hK.sub (all_cons rfl (all_cons rfl (all_cons rfl (all_cons rfl (all_cons rfl (all_cons rfl (all_cons rfl (all_cons rfl (all_cons rfl (all_cons rfl (all_cons rfl (all_cons rfl (all_cons rfl (all_nil)))))))))))))), hS.trunc 5⟩
        · refine spwB (k := 10) rfl rfl hS ?_
          refine sl_alloc Tryd.zeroValue24 hS hK (by decide) rfl rfl fun a w b_205 hS hK => ?_
          refine parKK_nil (hS.pk6.pk6.pk6.pk6.pk6.pk6.trunc 6) ?_
          refine tree_list ?_
          refine spw (k := 5) rfl rfl (hS.pk6.pk6.pk6.pk6.pk6.pk6.trunc 6) ?_
          obtain ⟨y_206, h_207, H⟩ := bind_some H
          refine sl_callV Tryd.call24 hS hK (by decide) rfl rfl rfl (value_OfInt.calls a2.a0 h_207 _) fun a w hS hK => ?_
          refine parK_nil (hS.pk6.pk6.pk6.pk6.pk6.pk6.trunc 6) ?_
          refine spw (k := 6) rfl rfl (hS.pk6.pk6.pk6.pk6.pk6.pk6.trunc 6) ?_
          obtain ⟨y_208, h_209, H⟩ := bind_some H
          refine sl_callV Tryd.call22 hS hK (by decide) rfl rfl rfl (value_Add.calls y_195 y_206 h_209 _) fun a w hS hK => ?_
          refine parK_nil (hS.pk6.pk6.pk6.pk6.pk6.pk6.trunc 6) ?_
          refine sp (k := 7) rfl hK (by decide) rfl rfl (fun w hS => r_move hK rfl) fun a hK => ?_
          refine sp (k := 8) rfl hK (by decide) rfl rfl (fun w hS => r_extract hK rfl rfl) fun a hK => ?_
          refine sp (k := 9) rfl hK (by decide) rfl rfl (fun w hS => r_extract hK rfl rfl) fun a hK => ?_
          refine spw (k := 11) rfl rfl (hS.pk6.pk6.pk6.pk6.pk6.pk6.trunc 6) ?_
          refine sl_storeA (vs := [.int .i64 y_208.1.Kind, .int .i64 y_208.1.N, .string y_208.1.S, .int .i64 y_208.1.H.a0, .int .i64 y_208.1.H.a1, .int .i64 y_208.1.H.a2, .int .i64 y_208.1.H.a3, .int .i64 y_208.1.H.a4, .int .i64 y_208.1.H.a5, .int .i64 y_208.1.H.a6, .int .i64 y_208.1.H.a7]) (c' := [.int .i64 y_208.1.Kind, .int .i64 y_208.1.N, .string y_208.1.S, .int .i64 y_208.1.H.a0, .int .i64 y_208.1.H.a1, .int .i64 y_208.1.H.a2, .int .i64 y_208.1.H.a3, .int .i64 y_208.1.H.a4, .int .i64 y_208.1.H.a5, .int .i64 y_208.1.H.a6, .int .i64 y_208.1.H.a7]) Tryd.sizeOf24 hS hK rfl rfl rfl rfl (all_cons rfl (all_cons rfl (all_cons rfl (all_cons rfl (all_cons rfl (all_cons rfl (all_cons rfl (all_cons rfl (all_cons rfl (all_cons rfl (all_cons rfl (all_nil)))))))))))) (Nat.le_of_ble_eq_true rfl) rfl fun a w hS hK => ?_
          refine parK_nil (hS.pk6.pk6.pk6.pk6.pk6.pk6.trunc 6) ?_
          refine thenL_nil ?_
          refine sl hK (by decide) rfl rfl (r_assign hK rfl) fun a hK => ?_
          refine wpList_nil (NoP_nil ?_)
          have hS := hS.pk1
          have hS := hS.pk6
          have hS := hS.pk6
          have hS := hS.pk4
          exact ⟨y_208.1.Kind, y_208.1.N, y_208.1.S, y_208.1.H, y_208.2, _, H, hK.sub (all_cons rfl (all_cons rfl (all_cons rfl (all_cons rfl (all_cons rfl (all_cons rfl (all_cons rfl (all_cons rfl (all_cons rfl (all_cons rfl (all_cons rfl (all_cons rfl (all_cons rfl (all_nil)))))))))))))), hS.trunc 5⟩
      · refine spwB (k := 10) rfl rfl hS ?_
        refine sl_alloc Tryd.zeroValue24 hS hK (by decide) rfl rfl fun a w b_210 hS hK => ?_
        refine parKK_nil (hS.pk6.pk6.pk6.pk6.pk6.pk6.trunc 6) ?_
        refine tree_list ?_
        refine spw (k := 2) rfl rfl (hS.pk6.pk6.pk6.pk6.pk6.pk6.trunc 6) ?_
        obtain ⟨y_211, h_212, H⟩ := bind_some H
        refine sl_callV Tryd.call24 hS hK (by decide) rfl rfl rfl (value_OfInt.calls a1.a0 h_212 _) fun a w hS hK => ?_
        refine parK_nil (hS.pk6.pk6.pk6.pk6.pk6.pk6.trunc 6) ?_
        refine spw (k := 5) rfl rfl (hS.pk6.pk6.pk6.pk6.pk6.pk6.trunc 6) ?_
        obtain ⟨y_213, h_214, H⟩ := bind_some H
        refine sl_callV Tryd.call24 hS hK (by decide) rfl rfl rfl (value_OfInt.calls a2.a0 h_214 _) fun a w hS hK => ?_
        refine parK_nil (hS.pk6.pk6.pk6.pk6.pk6.pk6.trunc 6) ?_
        refine spw (k := 6) rfl rfl (hS.pk6.pk6.pk6.pk6.pk6.pk6.trunc 6) ?_
        obtain ⟨y_215, h_216, H⟩ := bind_some H
        refine sl_callV Tryd.call22 hS hK (by decide) rfl rfl rfl (value_Add.calls y_211 y_213 h_216 _) fun a w hS hK => ?_
        refine parK_nil (hS.pk6.pk6.pk6.pk6.pk6.pk6.trunc 6) ?_
        refine sp (k := 7) rfl hK (by decide) rfl rfl (fun w hS => r_move hK rfl) fun a hK => ?_
        refine sp (k := 8) rfl hK (by decide) rfl rfl (fun w hS => r_extract hK rfl rfl) fun a hK => ?_
        refine sp (k := 9) rfl hK (by decide) rfl rfl (fun w hS => r_extract hK rfl rfl) fun a hK => ?_
        refine spw (k := 11) rfl rfl (hS.pk6.pk6.pk6.pk6.pk6.pk6.trunc 6) ?_
        refine sl_storeA (vs := [.int .i64 y_215.1.Kind, .int .i64 y_215.1.N, .string y_215.1.S, .int .i64 y_215.1.H.a0, .int .i64 y_215.1.H.a1, .int .i64 y_215.1.H.a2, .int .i64 y_215.1.H.a3, .int .i64 y_215.1.H.a4, .int .i64 y_215.1.H.a5, .int .i64 y_215.1.H.a6, .int .i64 y_215.1.H.a7]) (c' := [.int .i64 y_215.1.Kind, .int .i64 y_215.1.N, .string y_215.1.S, .int .i64 y_215.1.H.a0, .int .i64 y_215.1.H.a1, .int .i64 y_215.1.H.a2, .int .i64 y_215.1.H.a3, .int .i64 y_215.1.H.a4, .int .i64 y_215.1.H.a5, .int .i64 y_215.1.H.a6, .int .i64 y_215.1.H.a7]) Tryd.sizeOf24 hS hK rfl rfl rfl rfl (all_cons rfl (all_cons rfl (all_cons rfl (all_cons rfl (all_cons rfl (all_cons rfl (all_cons rfl (all_cons rfl (all_cons rfl (all_cons rfl (all_cons rfl (all_nil)))))))))))) (Nat.le_of_ble_eq_true rfl) rfl fun a w hS hK => ?_
        refine parK_nil (hS.pk6.pk6.pk6.pk6.pk6.pk6.trunc 6) ?_
        refine thenL_nil ?_
        refine sl hK (by decide) rfl rfl (r_assign hK rfl) fun a hK => ?_
        refine wpList_nil (NoP_nil ?_)
        have hS := hS.pk1
        have hS := hS.pk6
        have hS := hS.pk6
        have hS := hS.pk4
        exact ⟨y_215.1.Kind, y_215.1.N, y_215.1.S, y_215.1.H, y_215.2, _, H, hK.sub (all_cons rfl (all_cons rfl (all_cons rfl (all_cons rfl (all_cons rfl (all_cons rfl (all_cons rfl (all_cons rfl (all_cons rfl (all_cons rfl (all_cons rfl (all_cons rfl (all_cons rfl (all_nil)))))))))))))), hS.trunc 5⟩
    · rintro a w ⟨x_167, x_168, x_169, x_170, x_171, b_166, H, hK, hS⟩
      unfold law01_ValueSums.j1 at H
      refine wp_seq ?_
      refine treeTS_region (C0 := (fun w => St [] w0 w (fun _ => none) [.cells b_1 [.int .i64 a0.a0, .int .i64 a0.a1, .int .i64 a0.a2, .int .i64 a0.a3, .int .i64 a0.a4, .int .i64 a0.a5, .int .i64 a0.a6, .int .i64 a0.a7] 22, .cells b_11 [.int .i64 y_12.1.Kind, .int .i64 y_12.1.N, .string y_12.1.S, .int .i64 y_12.1.H.a0, .int .i64 y_12.1.H.a1, .int .i64 y_12.1.H.a2, .int .i64 y_12.1.H.a3, .int .i64 y_12.1.H.a4, .int .i64 y_12.1.H.a5, .int .i64 y_12.1.H.a6, .int .i64 y_12.1.H.a7] 24, .cells b_16 [.int .i64 y_17.1.Kind, .int .i64 y_17.1.N, .string y_17.1.S, .int .i64 y_17.1.H.a0, .int .i64 y_17.1.H.a1, .int .i64 y_17.1.H.a2, .int .i64 y_17.1.H.a3, .int .i64 y_17.1.H.a4, .int .i64 y_17.1.H.a5, .int .i64 y_17.1.H.a6, .int .i64 y_17.1.H.a7] 24, .cells b_63 [.int .i64 y_120.1.Kind, .int .i64 y_120.1.N, .string y_120.1.S, .int .i64 y_120.1.H.a0, .int .i64 y_120.1.H.a1, .int .i64 y_120.1.H.a2, .int .i64 y_120.1.H.a3, .int .i64 y_120.1.H.a4, .int .i64 y_120.1.H.a5, .int .i64 y_120.1.H.a6, .int .i64 y_120.1.H.a7] 24, .cells b_166 [.int .i64 x_167, .int .i64 x_168, .string x_169, .int .i64 x_170.a0, .int .i64 x_170.a1, .int .i64 x_170.a2, .int .i64 x_170.a3, .int .i64 x_170.a4, .int .i64 x_170.a5, .int .i64 x_170.a6, .int .i64 x_170.a7] 24])) (C1 := (fun w => St [] w0 w (fun _ => none) [.cells b_1 [.int .i64 a0.a0, .int .i64 a0.a1, .int .i64 a0.a2, .int .i64 a0.a3, .int .i64 a0.a4, .int .i64 a0.a5, .int .i64 a0.a6, .int .i64 a0.a7] 22, .cells b_11 [.int .i64 y_12.1.Kind, .int .i64 y_12.1.N, .string y_12.1.S, .int .i64 y_12.1.H.a0, .int .i64 y_12.1.H.a1, .int .i64 y_12.1.H.a2, .int .i64 y_12.1.H.a3, .int .i64 y_12.1.H.a4, .int .i64 y_12.1.H.a5, .int .i64 y_12.1.H.a6, .int .i64 y_12.1.H.a7] 24, .cells b_16 [.int .i64 y_17.1.Kind, .int .i64 y_17.1.N, .string y_17.1.S, .int .i64 y_17.1.H.a0, .int .i64 y_17.1.H.a1, .int .i64 y_17.1.H.a2, .int .i64 y_17.1.H.a3, .int .i64 y_17.1.H.a4, .int .i64 y_17.1.H.a5, .int .i64 y_17.1.H.a6, .int .i64 y_17.1.H.a7] 24, .cells b_63 [.int .i64 y_120.1.Kind, .int .i64 y_120.1.N, .string y_120.1.S, .int .i64 y_120.1.H.a0, .int .i64 y_120.1.H.a1, .int .i64 y_120.1.H.a2, .int .i64 y_120.1.H.a3, .int .i64 y_120.1.H.a4, .int .i64 y_120.1.H.a5, .int .i64 y_120.1.H.a6, .int .i64 y_120.1.H.a7] 24])) 9 8 [(0, 2), (1, 2), (3, 2), (2, 0), (4, 0), (5, 2), (6, 2), (7, 1)] (.list []) mixed (by kernel_rfl) (fun w hS => (hS.trunc 4)) hS (fun w hS => hS) fun w hS => ?_
      refine spS2 (k := 0) rfl hK (by decide) rfl rfl (fun w hS => r_indexAddr_arr Tryd.underlying22 Tryd.sizeOf3 hK rfl rfl (by decide) (by decide)) fun a hK => ?_
      refine spS2 (k := 1) rfl hK (by decide) rfl rfl (fun w hS => r_load Tryd.isAgg3 hK rfl (hS.cell (.head _) rfl)) fun a hK => ?_
      refine spS2 (k := 3) rfl hK (by decide) rfl rfl (fun w hS => r_loadA (cs := [.int .i64 x_167, .int .i64 x_168, .string x_169, .int .i64 x_170.a0, .int .i64 x_170.a1, .int .i64 x_170.a2, .int .i64 x_170.a3, .int .i64 x_170.a4, .int .i64 x_170.a5, .int .i64 x_170.a6, .int .i64 x_170.a7]) Tryd.isAgg24 Tryd.sizeOf24 rfl hK rfl (hS.cells_of (m := 11) (.tail _ (.tail _ (.tail _ (.tail _ (.head _))))) rfl)) fun a hK => ?_
      refine parS_cons (spwB (k := 2) rfl rfl hS ?_)
      obtain ⟨y_221, h_222, H⟩ := bind_some H
      refine sl_callV Tryd.call24 hS hK (by decide) rfl rfl rfl (value_OfInt.calls a0.a0 h_222 _) fun a w hS hK => ?_
      refine parKK_nilS hS ?_
      refine parS_cons (spwB (k := 4) rfl rfl hS ?_)
      obtain ⟨y_223, h_224, H⟩ := bind_some H
      refine sl_callV Tryd.call22 hS hK (by decide) rfl rfl rfl (value_Add.calls y_221 (⟨x_167, x_168, x_169, x_170⟩ : api_Value) h_224 _) fun a w hS hK => ?_
      refine parKK_nilS hS ?_
      refine spS2 (k := 5) rfl hK (by decide) rfl rfl (fun w hS => r_move hK rfl) fun a hK => ?_
      refine spS2 (k := 6) rfl hK (by decide) rfl rfl (fun w hS => r_extract hK rfl rfl) fun a hK => ?_
      refine spS1 (k := 7) rfl hK (by decide) rfl rfl (fun w hS => r_extract hK rfl rfl) fun a hK => ?_
      refine parS_nil (spwB (k := 8) rfl rfl (hS.trunc 4) ?_)
      have hS := hS.pk4
      refine sl_storeA (vs := [.int .i64 y_223.1.Kind, .int .i64 y_223.1.N, .string y_223.1.S, .int .i64 y_223.1.H.a0, .int .i64 y_223.1.H.a1, .int .i64 y_223.1.H.a2, .int .i64 y_223.1.H.a3, .int .i64 y_223.1.H.a4, .int .i64 y_223.1.H.a5, .int .i64 y_223.1.H.a6, .int .i64 y_223.1.H.a7]) (c' := [.int .i64 y_223.1.Kind, .int .i64 y_223.1.N, .string y_223.1.S, .int .i64 y_223.1.H.a0, .int .i64 y_223.1.H.a1, .int .i64 y_223.1.H.a2, .int .i64 y_223.1.H.a3, .int .i64 y_223.1.H.a4, .int .i64 y_223.1.H.a5, .int .i64 y_223.1.H.a6, .int .i64 y_223.1.H.a7]) Tryd.sizeOf24 hS hK rfl rfl rfl rfl (all_cons rfl (all_cons rfl (all_cons rfl (all_cons rfl (all_cons rfl (all_cons rfl (all_cons rfl (all_cons rfl (all_cons rfl (all_cons rfl (all_cons rfl (all_nil)))))))))))) (Nat.le_of_ble_eq_true rfl) rfl fun a w hS hK => ?_
      refine parKK_nil (hS.pk4.pk4.pk4.pk4.trunc 4) ?_
      refine tree_list ?_
      refine thenL_nil ?_
      refine sl hK (by decide) rfl rfl (r_assign hK rfl) fun a hK => ?_
      refine wpList_nil (NoP_nil ?_)
      refine wp_seq ?_
      refine wp_region_lit ?_
      refine sl hK (by decide) rfl rfl (r_move hK rfl) fun a hK => ?_
      refine sl hK (by decide) rfl rfl (r_move hK rfl) fun a hK => ?_
      rcases or_b y_4 with hb_225 | hb_225
      · rw [ifb_t hb_225] at H
        refine sl hK (by decide) (wtt hb_225) rfl (r_move hK rfl) fun a hK => ?_
        refine sl hK (by decide) (wtt hb_225) rfl (r_ibin hK rfl rfl rfl) fun a hK => ?_
        refine sl hK (by decide) rfl rfl (r_pick_t hb_225 hK rfl rfl) fun a hK => ?_
        refine sl hK (by decide) rfl rfl (r_move hK rfl) fun a hK => ?_
        rcases or_b (y_9.2 == 0) with hb_226 | hb_226
        · rw [ifb_t hb_226] at H
          refine sl hK (by decide) (wtt hb_226) rfl (r_move hK rfl) fun a hK => ?_
          refine sl hK (by decide) (wtt hb_226) rfl (r_ibin hK rfl rfl rfl) fun a hK => ?_
          refine sl hK (by decide) rfl rfl (r_pick_t hb_226 hK rfl rfl) fun a hK => ?_
          refine sl hK (by decide) rfl rfl (r_move hK rfl) fun a hK => ?_
          rcases or_b (y_12.2 == 0) with hb_227 | hb_227
          · rw [ifb_t hb_227] at H
            refine sl hK (by decide) (wtt hb_227) rfl (r_move hK rfl) fun a hK => ?_
            refine sl hK (by decide) (wtt hb_227) rfl (r_ibin hK rfl rfl rfl) fun a hK => ?_
            refine sl hK (by decide) rfl rfl (r_pick_t hb_227 hK rfl rfl) fun a hK => ?_
            refine sl hK (by decide) rfl rfl (r_move hK rfl) fun a hK => ?_
            rcases or_b (y_14.2 == 0) with hb_228 | hb_228
            · rw [ifb_t hb_228] at H
              refine sl hK (by decide) (wtt hb_228) rfl (r_move hK rfl) fun a hK => ?_
              refine sl hK (by decide) (wtt hb_228) rfl (r_ibin hK rfl rfl rfl) fun a hK => ?_
              refine sl hK (by decide) rfl rfl (r_pick_t hb_228 hK rfl rfl) fun a hK => ?_
              refine sl hK (by decide) rfl rfl (r_move hK rfl) fun a hK => ?_
              rcases or_b (y_17.2 == 0) with hb_229 | hb_229
              · rw [ifb_t hb_229] at H
                refine sl hK (by decide) (wtt hb_229) rfl (r_move hK rfl) fun a hK => ?_
                refine sl hK (by decide) (wtt hb_229) rfl (r_ibin hK rfl rfl rfl) fun a hK => ?_
                refine sl hK (by decide) rfl rfl (r_pick_t hb_229 hK rfl rfl) fun a hK => ?_
                refine sl hK (by decide) rfl rfl (r_move hK rfl) fun a hK => ?_
                rcases or_b (x_68 == 0) with hb_230 | hb_230
                · rw [ifb_t hb_230] at H
                  refine sl hK (by decide) (wtt hb_230) rfl (r_move hK rfl) fun a hK => ?_
                  refine sl hK (by decide) (wtt hb_230) rfl (r_ibin hK rfl rfl rfl) fun a hK => ?_
                  refine sl hK (by decide) rfl rfl (r_pick_t hb_230 hK rfl rfl) fun a hK => ?_
                  refine sl hK (by decide) rfl rfl (r_move hK rfl) fun a hK => ?_
                  rcases or_b (y_120.2 == 0) with hb_231 | hb_231
                  · rw [ifb_t hb_231] at H
                    refine sl hK (by decide) (wtt hb_231) rfl (r_move hK rfl) fun a hK => ?_
                    refine sl hK (by decide) (wtt hb_231) rfl (r_ibin hK rfl rfl rfl) fun a hK => ?_
                    refine sl hK (by decide) rfl rfl (r_pick_t hb_231 hK rfl rfl) fun a hK => ?_
                    refine sl hK (by decide) rfl rfl (r_move hK rfl) fun a hK => ?_
                    rcases or_b (x_171 == 0) with hb_232 | hb_232
                    · rw [ifb_t hb_232] at H
                      refine sl hK (by decide) (wtt hb_232) rfl (r_move hK rfl) fun a hK => ?_
                      refine sl hK (by decide) (wtt hb_232) rfl (r_ibin hK rfl rfl rfl) fun a hK => ?_
                      refine sl hK (by decide) rfl rfl (r_pick_t hb_232 hK rfl rfl) fun a hK => ?_
                      refine sl hK (by decide) rfl rfl (r_move hK rfl) fun a hK => ?_
                      rcases or_b (y_223.2 == 0) with hb_233 | hb_233
                      · rw [ifb_t hb_233] at H
                        refine sl hK (by decide) (wtt hb_233) rfl (r_loadA (cs := [.int .i64 y_12.1.Kind, .int .i64 y_12.1.N, .string y_12.1.S, .int .i64 y_12.1.H.a0, .int .i64 y_12.1.H.a1, .int .i64 y_12.1.H.a2, .int .i64 y_12.1.H.a3, .int .i64 y_12.1.H.a4, .int .i64 y_12.1.H.a5, .int .i64 y_12.1.H.a6, .int .i64 y_12.1.H.a7]) Tryd.isAgg24 Tryd.sizeOf24 rfl hK rfl (hS.cells_of (m := 11) (.tail _ (.tail _ (.head _))) rfl)) fun a hK => ?_
                        refine sl hK (by decide) (wtt hb_233) rfl (r_loadA (cs := [.int .i64 y_17.1.Kind, .int .i64 y_17.1.N, .string y_17.1.S, .int .i64 y_17.1.H.a0, .int .i64 y_17.1.H.a1, .int .i64 y_17.1.H.a2, .int .i64 y_17.1.H.a3, .int .i64 y_17.1.H.a4, .int .i64 y_17.1.H.a5, .int .i64 y_17.1.H.a6, .int .i64 y_17.1.H.a7]) Tryd.isAgg24 Tryd.sizeOf24 rfl hK rfl (hS.cells_of (m := 11) (.tail _ (.tail _ (.tail _ (.head _)))) rfl)) fun a hK => ?_
                        refine sl hK (by decide) (wtt hb_233) rfl (r_seq (by kernel_rfl) (eqs24 y_12.1 y_17.1) hK rfl rfl) fun a hK => ?_
                        refine sl hK (by decide) rfl rfl (r_pick_t hb_233 hK rfl rfl) fun a hK => ?_
                        refine sl hK (by decide) rfl rfl (r_move hK rfl) fun a hK => ?_
                        rcases or_b (decide (y_12.1 = y_17.1)) with hb_234 | hb_234
                        · rw [ifb_t hb_234] at H
                          refine sl hK (by decide) (wtt hb_234) rfl (r_loadA (cs := [.int .i64 y_120.1.Kind, .int .i64 y_120.1.N, .string y_120.1.S, .int .i64 y_120.1.H.a0, .int .i64 y_120.1.H.a1, .int .i64 y_120.1.H.a2, .int .i64 y_120.1.H.a3, .int .i64 y_120.1.H.a4, .int .i64 y_120.1.H.a5, .int .i64 y_120.1.H.a6, .int .i64 y_120.1.H.a7]) Tryd.isAgg24 Tryd.sizeOf24 rfl hK rfl (hS.cells_of (m := 11) (.tail _ (.tail _ (.tail _ (.tail _ (.head _))))) rfl)) fun a hK => ?_
                          refine sl hK (by decide) (wtt hb_234) rfl (r_loadA (cs := [.int .i64 y_223.1.Kind, .int .i64 y_223.1.N, .string y_223.1.S, .int .i64 y_223.1.H.a0, .int .i64 y_223.1.H.a1, .int .i64 y_223.1.H.a2, .int .i64 y_223.1.H.a3, .int .i64 y_223.1.H.a4, .int .i64 y_223.1.H.a5, .int .i64 y_223.1.H.a6, .int .i64 y_223.1.H.a7]) Tryd.isAgg24 Tryd.sizeOf24 rfl hK rfl (hS.cells_of (m := 11) (.head _) rfl)) fun a hK => ?_
                          refine sl hK (by decide) (wtt hb_234) rfl (r_seq (by kernel_rfl) (eqs24 y_120.1 y_223.1) hK rfl rfl) fun a hK => ?_
                          refine sl hK (by decide) rfl rfl (r_pick_t hb_234 hK rfl rfl) fun a hK => ?_
                          refine sl hK (by decide) rfl rfl (r_assign hK rfl) fun a hK => ?_
                          refine wpList_nil ?_
                          have hr_ := Option.some.inj H
                          refine wp_ret ?_
                          repeat (first | refine ret_then ?_ | refine ret_block ?_ | refine ret_scope ?_)
                          exact ret_1 Tryd.results7 hK (rv_tmp hK rfl) ⟨congrArg (fun b => Ending.returned (Value.bool b)) hr_, hS.bel⟩
                        · rw [ifb_f hb_234] at H
                          refine sl_skip hK (by decide) (wtf hb_234) rfl fun a hK => ?_
                          refine sl_skip hK (by decide) (wtf hb_234) rfl fun a hK => ?_
                          refine sl_skip hK (by decide) (wtf hb_234) rfl fun a hK => ?_
                          refine sl hK (by decide) rfl rfl (r_pick_f hb_234 hK rfl rfl) fun a hK => ?_
                          refine sl hK (by decide) rfl rfl (r_assign hK rfl) fun a hK => ?_
                          refine wpList_nil ?_
                          exact absurd (Option.some.inj H) (by decide)
                      · rw [ifb_f hb_233] at H
                        refine sl_skip hK (by decide) (wtf hb_233) rfl fun a hK => ?_
                        refine sl_skip hK (by decide) (wtf hb_233) rfl fun a hK => ?_
                        refine sl_skip hK (by decide) (wtf hb_233) rfl fun a hK => ?_
                        refine sl hK (by decide) rfl rfl (r_pick_f hb_233 hK rfl rfl) fun a hK => ?_
                        refine sl hK (by decide) rfl rfl (r_move hK rfl) fun a hK => ?_
                        refine sl_skip hK (by decide) rfl rfl fun a hK => ?_
                        refine sl_skip hK (by decide) rfl rfl fun a hK => ?_
                        refine sl_skip hK (by decide) rfl rfl fun a hK => ?_
                        refine sl hK (by decide) rfl rfl (r_pick hK rfl rfl rfl) fun a hK => ?_
                        refine sl hK (by decide) rfl rfl (r_assign hK rfl) fun a hK => ?_
                        refine wpList_nil ?_
                        exact absurd (Option.some.inj H) (by decide)
                    · rw [ifb_f hb_232] at H
                      refine sl_skip hK (by decide) (wtf hb_232) rfl fun a hK => ?_
                      refine sl_skip hK (by decide) (wtf hb_232) rfl fun a hK => ?_
                      refine sl hK (by decide) rfl rfl (r_pick_f hb_232 hK rfl rfl) fun a hK => ?_
                      refine sl hK (by decide) rfl rfl (r_move hK rfl) fun a hK => ?_
                      refine sl_skip hK (by decide) rfl rfl fun a hK => ?_
                      refine sl_skip hK (by decide) rfl rfl fun a hK => ?_
                      refine sl_skip hK (by decide) rfl rfl fun a hK => ?_
                      refine sl hK (by decide) rfl rfl (r_pick hK rfl rfl rfl) fun a hK => ?_
                      refine sl hK (by decide) rfl rfl (r_move hK rfl) fun a hK => ?_
                      refine sl_skip hK (by decide) rfl rfl fun a hK => ?_
                      refine sl_skip hK (by decide) rfl rfl fun a hK => ?_
                      refine sl_skip hK (by decide) rfl rfl fun a hK => ?_
                      refine sl hK (by decide) rfl rfl (r_pick hK rfl rfl rfl) fun a hK => ?_
                      refine sl hK (by decide) rfl rfl (r_assign hK rfl) fun a hK => ?_
                      refine wpList_nil ?_
                      exact absurd (Option.some.inj H) (by decide)
                  · rw [ifb_f hb_231] at H
                    refine sl_skip hK (by decide) (wtf hb_231) rfl fun a hK => ?_
                    refine sl_skip hK (by decide) (wtf hb_231) rfl fun a hK => ?_
                    refine sl hK (by decide) rfl rfl (r_pick_f hb_231 hK rfl rfl) fun a hK => ?_
                    refine sl hK (by decide) rfl rfl (r_move hK rfl) fun a hK => ?_
                    refine sl_skip hK (by decide) rfl rfl fun a hK => ?_
                    refine sl_skip hK (by decide) rfl rfl fun a hK => ?_
                    refine sl hK (by decide) rfl rfl (r_pick hK rfl rfl rfl) fun a hK => ?_
                    refine sl hK (by decide) rfl rfl (r_move hK rfl) fun a hK => ?_
                    refine sl_skip hK (by decide) rfl rfl fun a hK => ?_
                    refine sl_skip hK (by decide) rfl rfl fun a hK => ?_
                    refine sl_skip hK (by decide) rfl rfl fun a hK => ?_
                    refine sl hK (by decide) rfl rfl (r_pick hK rfl rfl rfl) fun a hK => ?_
                    refine sl hK (by decide) rfl rfl (r_move hK rfl) fun a hK => ?_
                    refine sl_skip hK (by decide) rfl rfl fun a hK => ?_
                    refine sl_skip hK (by decide) rfl rfl fun a hK => ?_
                    refine sl_skip hK (by decide) rfl rfl fun a hK => ?_
                    refine sl hK (by decide) rfl rfl (r_pick hK rfl rfl rfl) fun a hK => ?_
                    refine sl hK (by decide) rfl rfl (r_assign hK rfl) fun a hK => ?_
                    refine wpList_nil ?_
                    exact absurd (Option.some.inj H) (by decide)
                · rw [ifb_f hb_230] at H
                  refine sl_skip hK (by decide) (wtf hb_230) rfl fun a hK => ?_
                  refine sl_skip hK (by decide) (wtf hb_230) rfl fun a hK => ?_
                  refine sl hK (by decide) rfl rfl (r_pick_f hb_230 hK rfl rfl) fun a hK => ?_
                  refine sl hK (by decide) rfl rfl (r_move hK rfl) fun a hK => ?_
                  refine sl_skip hK (by decide) rfl rfl fun a hK => ?_
                  refine sl_skip hK (by decide) rfl rfl fun a hK => ?_
                  refine sl hK (by decide) rfl rfl (r_pick hK rfl rfl rfl) fun a hK => ?_
                  refine sl hK (by decide) rfl rfl (r_move hK rfl) fun a hK => ?_
                  refine sl_skip hK (by decide) rfl rfl fun a hK => ?_
                  refine sl_skip hK (by decide) rfl rfl fun a hK => ?_
                  refine sl hK (by decide) rfl rfl (r_pick hK rfl rfl rfl) fun a hK => ?_
                  refine sl hK (by decide) rfl rfl (r_move hK rfl) fun a hK => ?_
                  refine sl_skip hK (by decide) rfl rfl fun a hK => ?_
                  refine sl_skip hK (by decide) rfl rfl fun a hK => ?_
                  refine sl_skip hK (by decide) rfl rfl fun a hK => ?_
                  refine sl hK (by decide) rfl rfl (r_pick hK rfl rfl rfl) fun a hK => ?_
                  refine sl hK (by decide) rfl rfl (r_move hK rfl) fun a hK => ?_
                  refine sl_skip hK (by decide) rfl rfl fun a hK => ?_
                  refine sl_skip hK (by decide) rfl rfl fun a hK => ?_
                  refine sl_skip hK (by decide) rfl rfl fun a hK => ?_
                  refine sl hK (by decide) rfl rfl (r_pick hK rfl rfl rfl) fun a hK => ?_
                  refine sl hK (by decide) rfl rfl (r_assign hK rfl) fun a hK => ?_
                  refine wpList_nil ?_
                  exact absurd (Option.some.inj H) (by decide)
              · rw [ifb_f hb_229] at H
                refine sl_skip hK (by decide) (wtf hb_229) rfl fun a hK => ?_
                refine sl_skip hK (by decide) (wtf hb_229) rfl fun a hK => ?_
                refine sl hK (by decide) rfl rfl (r_pick_f hb_229 hK rfl rfl) fun a hK => ?_
                refine sl hK (by decide) rfl rfl (r_move hK rfl) fun a hK => ?_
                refine sl_skip hK (by decide) rfl rfl fun a hK => ?_
                refine sl_skip hK (by decide) rfl rfl fun a hK => ?_
                refine sl hK (by decide) rfl rfl (r_pick hK rfl rfl rfl) fun a hK => ?_
                refine sl hK (by decide) rfl rfl (r_move hK rfl) fun a hK => ?_
                refine sl_skip hK (by decide) rfl rfl fun a hK => ?_
                refine sl_skip hK (by decide) rfl rfl fun a hK => ?_
                refine sl hK (by decide) rfl rfl (r_pick hK rfl rfl rfl) fun a hK => ?_
                refine sl hK (by decide) rfl rfl (r_move hK rfl) fun a hK => ?_
                refine sl_skip hK (by decide) rfl rfl fun a hK => ?_
                refine sl_skip hK (by decide) rfl rfl fun a hK => ?_
                refine sl hK (by decide) rfl rfl (r_pick hK rfl rfl rfl) fun a hK => ?_
                refine sl hK (by decide) rfl rfl (r_move hK rfl) fun a hK => ?_
                refine sl_skip hK (by decide) rfl rfl fun a hK => ?_
                refine sl_skip hK (by decide) rfl rfl fun a hK => ?_
                refine sl_skip hK (by decide) rfl rfl fun a hK => ?_
                refine sl hK (by decide) rfl rfl (r_pick hK rfl rfl rfl) fun a hK => ?_
                refine sl hK (by decide) rfl rfl (r_move hK rfl) fun a hK => ?_
                refine sl_skip hK (by decide) rfl rfl fun a hK => ?_
                refine sl_skip hK (by decide) rfl rfl fun a hK => ?_
                refine sl_skip hK (by decide) rfl rfl fun a hK => ?_
                refine sl hK (by decide) rfl rfl (r_pick hK rfl rfl rfl) fun a hK => ?_
                refine sl hK (by decide) rfl rfl (r_assign hK rfl) fun a hK => ?_
                refine wpList_nil ?_
                exact absurd (Option.some.inj H) (by decide)
            · rw [ifb_f hb_228] at H
              refine sl_skip hK (by decide) (wtf hb_228) rfl fun a hK => ?_
              refine sl_skip hK (by decide) (wtf hb_228) rfl fun a hK => ?_
              refine sl hK (by decide) rfl rfl (r_pick_f hb_228 hK rfl rfl) fun a hK => ?_
              refine sl hK (by decide) rfl rfl (r_move hK rfl) fun a hK => ?_
              refine sl_skip hK (by decide) rfl rfl fun a hK => ?_
              refine sl_skip hK (by decide) rfl rfl fun a hK => ?_
              refine sl hK (by decide) rfl rfl (r_pick hK rfl rfl rfl) fun a hK => ?_
              refine sl hK (by decide) rfl rfl (r_move hK rfl) fun a hK => ?_
              refine sl_skip hK (by decide) rfl rfl fun a hK => ?_
              refine sl_skip hK (by decide) rfl rfl fun a hK => ?_
              refine sl hK (by decide) rfl rfl (r_pick hK rfl rfl rfl) fun a hK => ?_
              refine sl hK (by decide) rfl rfl (r_move hK rfl) fun a hK => ?_
              refine sl_skip hK (by decide) rfl rfl fun a hK => ?_
              refine sl_skip hK (by decide) rfl rfl fun a hK => ?_
              refine sl hK (by decide) rfl rfl (r_pick hK rfl rfl rfl) fun a hK => ?_
              refine sl hK (by decide) rfl rfl (r_move hK rfl) fun a hK => ?_
              refine sl_skip hK (by decide) rfl rfl fun a hK => ?_
              refine sl_skip hK (by decide) rfl rfl fun a hK => ?_
              refine sl hK (by decide) rfl rfl (r_pick hK rfl rfl rfl) fun a hK => ?_
              refine sl hK (by decide) rfl rfl (r_move hK rfl) fun a hK => ?_
              refine sl_skip hK (by decide) rfl rfl fun a hK => ?_
              refine sl_skip hK (by decide) rfl rfl fun a hK => ?_
              refine sl_skip hK (by decide) rfl rfl fun a hK => ?_
              refine sl hK (by decide) rfl rfl (r_pick hK rfl rfl rfl) fun a hK => ?_
              refine sl hK (by decide) rfl rfl (r_move hK rfl) fun a hK => ?_
              refine sl_skip hK (by decide) rfl rfl fun a hK => ?_
              refine sl_skip hK (by decide) rfl rfl fun a hK => ?_
              refine sl_skip hK (by decide) rfl rfl fun a hK => ?_
              refine sl hK (by decide) rfl rfl (r_pick hK rfl rfl rfl) fun a hK => ?_
              refine sl hK (by decide) rfl rfl (r_assign hK rfl) fun a hK => ?_
              refine wpList_nil ?_
              exact absurd (Option.some.inj H) (by decide)
          · rw [ifb_f hb_227] at H
            refine sl_skip hK (by decide) (wtf hb_227) rfl fun a hK => ?_
            refine sl_skip hK (by decide) (wtf hb_227) rfl fun a hK => ?_
            refine sl hK (by decide) rfl rfl (r_pick_f hb_227 hK rfl rfl) fun a hK => ?_
            refine sl hK (by decide) rfl rfl (r_move hK rfl) fun a hK => ?_
            refine sl_skip hK (by decide) rfl rfl fun a hK => ?_
            refine sl_skip hK (by decide) rfl rfl fun a hK => ?_
            refine sl hK (by decide) rfl rfl (r_pick hK rfl rfl rfl) fun a hK => ?_
            refine sl hK (by decide) rfl rfl (r_move hK rfl) fun a hK => ?_
            refine sl_skip hK (by decide) rfl rfl fun a hK => ?_
            refine sl_skip hK (by decide) rfl rfl fun a hK => ?_
            refine sl hK (by decide) rfl rfl (r_pick hK rfl rfl rfl) fun a hK => ?_
            refine sl hK (by decide) rfl rfl (r_move hK rfl) fun a hK => ?_
            refine sl_skip hK (by decide) rfl rfl fun a hK => ?_
            refine sl_skip hK (by decide) rfl rfl fun a hK => ?_
            refine sl hK (by decide) rfl rfl (r_pick hK rfl rfl rfl) fun a hK => ?_
            refine sl hK (by decide) rfl rfl (r_move hK rfl) fun a hK => ?_
            refine sl_skip hK (by decide) rfl rfl fun a hK => ?_
            refine sl_skip hK (by decide) rfl rfl fun a hK => ?_
            refine sl hK (by decide) rfl rfl (r_pick hK rfl rfl rfl) fun a hK => ?_
            refine sl hK (by decide) rfl rfl (r_move hK rfl) fun a hK => ?_
            refine sl_skip hK (by decide) rfl rfl fun a hK => ?_
            refine sl_skip hK (by decide) rfl rfl fun a hK => ?_
            refine sl hK (by decide) rfl rfl (r_pick hK rfl rfl rfl) fun a hK => ?_
            refine sl hK (by decide) rfl rfl (r_move hK rfl) fun a hK => ?_
            refine sl_skip hK (by decide) rfl rfl fun a hK => ?_
            refine sl_skip hK (by decide) rfl rfl fun a hK => ?_
            refine sl_skip hK (by decide) rfl rfl fun a hK => ?_
            refine sl hK (by decide) rfl rfl (r_pick hK rfl rfl rfl) fun a hK => ?_
            refine sl hK (by decide) rfl rfl (r_move hK rfl) fun a hK => ?_
            refine sl_skip hK (by decide) rfl rfl fun a hK => ?_
            refine sl_skip hK (by decide) rfl rfl fun a hK => ?_
            refine sl_skip hK (by decide) rfl rfl fun a hK => ?_
            refine sl hK (by decide) rfl rfl (r_pick hK rfl rfl rfl) fun a hK => ?_
            refine sl hK (by decide) rfl rfl (r_assign hK rfl) fun a hK => ?_
            refine wpList_nil ?_
            exact absurd (Option.some.inj H) (by decide)
        · rw [ifb_f hb_226] at H
          refine sl_skip hK (by decide) (wtf hb_226) rfl fun a hK => ?_
          refine sl_skip hK (by decide) (wtf hb_226) rfl fun a hK => ?_
          refine sl hK (by decide) rfl rfl (r_pick_f hb_226 hK rfl rfl) fun a hK => ?_
          refine sl hK (by decide) rfl rfl (r_move hK rfl) fun a hK => ?_
          refine sl_skip hK (by decide) rfl rfl fun a hK => ?_
          refine sl_skip hK (by decide) rfl rfl fun a hK => ?_
          refine sl hK (by decide) rfl rfl (r_pick hK rfl rfl rfl) fun a hK => ?_
          refine sl hK (by decide) rfl rfl (r_move hK rfl) fun a hK => ?_
          refine sl_skip hK (by decide) rfl rfl fun a hK => ?_
          refine sl_skip hK (by decide) rfl rfl fun a hK => ?_
          refine sl hK (by decide) rfl rfl (r_pick hK rfl rfl rfl) fun a hK => ?_
          refine sl hK (by decide) rfl rfl (r_move hK rfl) fun a hK => ?_
          refine sl_skip hK (by decide) rfl rfl fun a hK => ?_
          refine sl_skip hK (by decide) rfl rfl fun a hK => ?_
          refine sl hK (by decide) rfl rfl (r_pick hK rfl rfl rfl) fun a hK => ?_
          refine sl hK (by decide) rfl rfl (r_move hK rfl) fun a hK => ?_
          refine sl_skip hK (by decide) rfl rfl fun a hK => ?_
          refine sl_skip hK (by decide) rfl rfl fun a hK => ?_
          refine sl hK (by decide) rfl rfl (r_pick hK rfl rfl rfl) fun a hK => ?_
          refine sl hK (by decide) rfl rfl (r_move hK rfl) fun a hK => ?_
          refine sl_skip hK (by decide) rfl rfl fun a hK => ?_
          refine sl_skip hK (by decide) rfl rfl fun a hK => ?_
          refine sl hK (by decide) rfl rfl (r_pick hK rfl rfl rfl) fun a hK => ?_
          refine sl hK (by decide) rfl rfl (r_move hK rfl) fun a hK => ?_
          refine sl_skip hK (by decide) rfl rfl fun a hK => ?_
          refine sl_skip hK (by decide) rfl rfl fun a hK => ?_
          refine sl hK (by decide) rfl rfl (r_pick hK rfl rfl rfl) fun a hK => ?_
          refine sl hK (by decide) rfl rfl (r_move hK rfl) fun a hK => ?_
          refine sl_skip hK (by decide) rfl rfl fun a hK => ?_
          refine sl_skip hK (by decide) rfl rfl fun a hK => ?_
          refine sl_skip hK (by decide) rfl rfl fun a hK => ?_
          refine sl hK (by decide) rfl rfl (r_pick hK rfl rfl rfl) fun a hK => ?_
          refine sl hK (by decide) rfl rfl (r_move hK rfl) fun a hK => ?_
          refine sl_skip hK (by decide) rfl rfl fun a hK => ?_
          refine sl_skip hK (by decide) rfl rfl fun a hK => ?_
          refine sl_skip hK (by decide) rfl rfl fun a hK => ?_
          refine sl hK (by decide) rfl rfl (r_pick hK rfl rfl rfl) fun a hK => ?_
          refine sl hK (by decide) rfl rfl (r_assign hK rfl) fun a hK => ?_
          refine wpList_nil ?_
          exact absurd (Option.some.inj H) (by decide)
      · rw [ifb_f hb_225] at H
        refine sl_skip hK (by decide) (wtf hb_225) rfl fun a hK => ?_
        refine sl_skip hK (by decide) (wtf hb_225) rfl fun a hK => ?_
        refine sl hK (by decide) rfl rfl (r_pick_f hb_225 hK rfl rfl) fun a hK => ?_
        refine sl hK (by decide) rfl rfl (r_move hK rfl) fun a hK => ?_
        refine sl_skip hK (by decide) rfl rfl fun a hK => ?_
        refine sl_skip hK (by decide) rfl rfl fun a hK => ?_
        refine sl hK (by decide) rfl rfl (r_pick hK rfl rfl rfl) fun a hK => ?_
        refine sl hK (by decide) rfl rfl (r_move hK rfl) fun a hK => ?_
        refine sl_skip hK (by decide) rfl rfl fun a hK => ?_
        refine sl_skip hK (by decide) rfl rfl fun a hK => ?_
        refine sl hK (by decide) rfl rfl (r_pick hK rfl rfl rfl) fun a hK => ?_
        refine sl hK (by decide) rfl rfl (r_move hK rfl) fun a hK => ?_
        refine sl_skip hK (by decide) rfl rfl fun a hK => ?_
        refine sl_skip hK (by decide) rfl rfl fun a hK => ?_
        refine sl hK (by decide) rfl rfl (r_pick hK rfl rfl rfl) fun a hK => ?_
        refine sl hK (by decide) rfl rfl (r_move hK rfl) fun a hK => ?_
        refine sl_skip hK (by decide) rfl rfl fun a hK => ?_
        refine sl_skip hK (by decide) rfl rfl fun a hK => ?_
        refine sl hK (by decide) rfl rfl (r_pick hK rfl rfl rfl) fun a hK => ?_
        refine sl hK (by decide) rfl rfl (r_move hK rfl) fun a hK => ?_
        refine sl_skip hK (by decide) rfl rfl fun a hK => ?_
        refine sl_skip hK (by decide) rfl rfl fun a hK => ?_
        refine sl hK (by decide) rfl rfl (r_pick hK rfl rfl rfl) fun a hK => ?_
        refine sl hK (by decide) rfl rfl (r_move hK rfl) fun a hK => ?_
        refine sl_skip hK (by decide) rfl rfl fun a hK => ?_
        refine sl_skip hK (by decide) rfl rfl fun a hK => ?_
        refine sl hK (by decide) rfl rfl (r_pick hK rfl rfl rfl) fun a hK => ?_
        refine sl hK (by decide) rfl rfl (r_move hK rfl) fun a hK => ?_
        refine sl_skip hK (by decide) rfl rfl fun a hK => ?_
        refine sl_skip hK (by decide) rfl rfl fun a hK => ?_
        refine sl hK (by decide) rfl rfl (r_pick hK rfl rfl rfl) fun a hK => ?_
        refine sl hK (by decide) rfl rfl (r_move hK rfl) fun a hK => ?_
        refine sl_skip hK (by decide) rfl rfl fun a hK => ?_
        refine sl_skip hK (by decide) rfl rfl fun a hK => ?_
        refine sl_skip hK (by decide) rfl rfl fun a hK => ?_
        refine sl hK (by decide) rfl rfl (r_pick hK rfl rfl rfl) fun a hK => ?_
        refine sl hK (by decide) rfl rfl (r_move hK rfl) fun a hK => ?_
        refine sl_skip hK (by decide) rfl rfl fun a hK => ?_
        refine sl_skip hK (by decide) rfl rfl fun a hK => ?_
        refine sl_skip hK (by decide) rfl rfl fun a hK => ?_
        refine sl hK (by decide) rfl rfl (r_pick hK rfl rfl rfl) fun a hK => ?_
        refine sl hK (by decide) rfl rfl (r_assign hK rfl) fun a hK => ?_
        refine wpList_nil ?_
        exact absurd (Option.some.inj H) (by decide)

end Go.Proofs.YtmohocmmelaeaaaDoor.M
