/- Each Go function of the laws answers as its plain Lean function tells, wherever that tells something. Printed by wip/eng/gen.py. -/
import Derived.Test.YtmohocmmelaeaaaDoorWalk1
namespace Go.Proofs.YtmohocmmelaeaaaDoor.M
open Go Go.Eng Go.Proofs Go.RowKit
set_option linter.unusedVariables false
set_option linter.unusedSimpArgs false

/-! ### catchment/catchmentref01.Bucket: function 26 -/
set_option maxHeartbeats 4000000 in
set_option maxRecDepth 100000 in
theorem ref01_Bucket.calls (a0 : Int) {r : api_Value} (H : ref01_Bucket a0 = some r) (w0 : World) : CallsV Tryd.prog 26 #[.int .i64 a0] w0 (.agg #[.int .i64 r.Kind, .int .i64 r.N, .string r.S, .int .i64 r.H.a0, .int .i64 r.H.a1, .int .i64 r.H.a2, .int .i64 r.H.a3, .int .i64 r.H.a4, .int .i64 r.H.a5, .int .i64 r.H.a6, .int .i64 r.H.a7]) := by
  unfold ref01_Bucket at H
  refine enter (args := [.int .i64 a0]) Tryd.func26 rfl Tryd.ntmps26 rfl fun a hK => ?_
  have hS := St.init (R := fun _ => none) (w := w0) (fun _ _ h => by cases h)
  have hRL := RLe.refl (M := []) w0 (fun _ => none)
  refine wp_seq ?_
  refine wp_region_lit ?_
  refine sl_alloc Tryd.zeroValue24 hS hK (by decide) rfl rfl fun a w b_1 hS hK => ?_
  refine wpList_nil ?_
  refine wp_seq ?_
  refine wp_region_lit ?_
  refine sl hK (by decide) rfl rfl (r_assign hK rfl) fun a hK => ?_
  refine wpList_nil ?_
  refine wp_seq ?_
  refine wp_region_lit ?_
  refine sl hK (by decide) rfl rfl (r_assign hK rfl) fun a hK => ?_
  refine wpList_nil ?_
  refine wp_seq ?_
  refine wp_block ?_
  refine wp_loop_k (fun k_l0 a w => ∃ (x_4 : Int) (x_5 : Int), ref01_Bucket.l0 a0 k_l0 x_4 x_5 = some r ∧ Kn 22 a [(0, .int .i64 a0), (2, .pointer (some ⟨b_1, 0, none⟩)), (3, .int .i64 x_4), (4, .int .i64 x_5)] ∧ St [] w0 w (fun _ => none) [.cells b_1 [.int .i64 0, .int .i64 0, .string (⟨#[]⟩ : ByteArray), .int .i64 0, .int .i64 0, .int .i64 0, .int .i64 0, .int .i64 0, .int .i64 0, .int .i64 0, .int .i64 0] 24]) (((7 : Int) - 0).toNat + 1) ?_ ?_
  · exact ⟨0, 1, H, hK.sub (all_cons rfl (all_cons rfl (all_cons rfl (all_cons rfl (all_nil))))), hS⟩
  · rintro k_l0 a w ⟨x_4, x_5, H, hK, hS⟩
    cases k_l0 with
    | zero => cases H
    | succ k_l0 =>
    rw [ref01_Bucket.l0.eq_2] at H
    refine wp_seq ?_
    refine wp_seq ?_
    refine wp_mid (fun a w => ∃ (x_13 : Bool), ref01_Bucket.j1 (ref01_Bucket.l0 a0 k_l0) x_4 x_5 x_13 = some r ∧ Kn 22 a [(0, .int .i64 a0), (2, .pointer (some ⟨b_1, 0, none⟩)), (3, .int .i64 x_4), (4, .int .i64 x_5), (12, .bool x_13)] ∧ St [] w0 w (fun _ => none) [.cells b_1 [.int .i64 0, .int .i64 0, .string (⟨#[]⟩ : ByteArray), .int .i64 0, .int .i64 0, .int .i64 0, .int .i64 0, .int .i64 0, .int .i64 0, .int .i64 0, .int .i64 0] 24]) ?_ ?_
    · refine wp_region_lit ?_
      refine sl hK (by decide) rfl rfl (r_move hK rfl) fun a hK => ?_
      refine sl hK (by decide) rfl rfl (r_ibin hK rfl rfl rfl) fun a hK => ?_
      refine sl hK (by decide) rfl rfl (r_move hK rfl) fun a hK => ?_
      rcases or_b (decide (x_4 < 7)) with hb_15 | hb_15
      · rw [ifb_t hb_15] at H
        refine sl hK (by decide) (wtt hb_15) rfl (r_move hK rfl) fun a hK => ?_
        refine sl hK (by decide) (wtt hb_15) rfl (r_move hK rfl) fun a hK => ?_
        refine sl hK (by decide) (wtt hb_15) rfl (r_ibin hK rfl rfl rfl) fun a hK => ?_
        refine sl hK (by decide) rfl rfl (r_pick_t hb_15 hK rfl rfl) fun a hK => ?_
        refine wpList_nil ?_
        exact ⟨(decide (a0 ≥ x_5)), H, hK.sub (all_cons rfl (all_cons rfl (all_cons rfl (all_cons rfl (all_cons rfl (all_nil)))))), hS⟩
      · rw [ifb_f hb_15] at H
        refine sl_skip hK (by decide) (wtf hb_15) rfl fun a hK => ?_
        refine sl_skip hK (by decide) (wtf hb_15) rfl fun a hK => ?_
        refine sl_skip hK (by decide) (wtf hb_15) rfl fun a hK => ?_
        refine sl hK (by decide) rfl rfl (r_pick_f hb_15 hK rfl rfl) fun a hK => ?_
        refine wpList_nil ?_
        exact ⟨false, H, hK.sub (all_cons rfl (all_cons rfl (all_cons rfl (all_cons rfl (all_cons rfl (all_nil)))))), hS⟩
    · rintro a w ⟨x_13, H, hK, hS⟩
      unfold ref01_Bucket.j1 at H
      refine wp_cond_split (hK.ev rfl) (fun (hb_16 : x_13 = true) => ?_) (fun (hb_16 : x_13 = false) => ?_)
      · rw [ifb_t hb_16] at H
        refine wp_skip ?_
        refine wp_block ?_
        refine wp_seq ?_
        refine wp_region_lit ?_
        refine sl hK (by decide) rfl rfl (r_move hK rfl) fun a hK => ?_
        refine sl hK (by decide) rfl rfl (r_ibin hK rfl rfl rfl) fun a hK => ?_
        refine sl hK (by decide) rfl rfl (r_assign hK rfl) fun a hK => ?_
        refine wpList_nil ?_
        refine wp_region_lit ?_
        refine sl hK (by decide) rfl rfl (r_move hK rfl) fun a hK => ?_
        refine sl hK (by decide) rfl rfl (r_ibin hK rfl rfl rfl) fun a hK => ?_
        refine sl hK (by decide) rfl rfl (r_assign hK rfl) fun a hK => ?_
        refine wpList_nil ?_
        exact ⟨_, Nat.lt_succ_self _, (IntKind.i64.wrap (x_4 + 1)), (IntKind.i64.wrap (x_5 * 10)), H, hK.sub (all_cons rfl (all_cons rfl (all_cons rfl (all_cons rfl (all_nil))))), hS⟩
      · rw [ifb_f hb_16] at H
        refine wp_exit ?_
        refine wp_seq ?_
        refine wp_region_lit ?_
        refine sl hK (by decide) rfl rfl (r_buildC (ps := [(0, .int .i64 4)]) (c := [.int .i64 4, .int .i64 0, .string (⟨#[]⟩ : ByteArray), .int .i64 0, .int .i64 0, .int .i64 0, .int .i64 0, .int .i64 0, .int .i64 0, .int .i64 0, .int .i64 0]) Tryd.underlying24 Tryd.zeroValue24 places24 hK rfl (pc_cons rfl pc_nil) rfl rfl) fun a hK => ?_
        refine sl_alloc Tryd.zeroValue24 hS hK (by decide) rfl rfl fun a w b_17 hS hK => ?_
        refine sl_storeA (vs := [.int .i64 4, .int .i64 0, .string (⟨#[]⟩ : ByteArray), .int .i64 0, .int .i64 0, .int .i64 0, .int .i64 0, .int .i64 0, .int .i64 0, .int .i64 0, .int .i64 0]) (c' := [.int .i64 4, .int .i64 0, .string (⟨#[]⟩ : ByteArray), .int .i64 0, .int .i64 0, .int .i64 0, .int .i64 0, .int .i64 0, .int .i64 0, .int .i64 0, .int .i64 0]) Tryd.sizeOf24 hS hK rfl rfl rfl rfl (all_cons rfl (all_cons rfl (all_cons rfl (all_cons rfl (all_cons rfl (all_cons rfl (all_cons rfl (all_cons rfl (all_cons rfl (all_cons rfl (all_cons rfl (all_nil)))))))))))) (Nat.le_of_ble_eq_true rfl) rfl fun a w hS hK => ?_
        refine wpList_nil ?_
        refine wp_seq ?_
        refine wp_region_lit ?_
        refine sl hK (by decide) rfl rfl (r_move hK rfl) fun a hK => ?_
        refine sl hK (by decide) rfl rfl (r_fieldAddr Tryd.underlying24 rfl Tryd.sizeOf22 hK rfl) fun a hK => ?_
        obtain ⟨y_18, h_19, H⟩ := bind_some H
        refine sl hK (by decide) rfl rfl (r_indexAddr_arr Tryd.underlying22 Tryd.sizeOf3 hK rfl rfl (Arr8.ix_lt h_19).1 (Arr8.ix_lt h_19).2) fun a hK => ?_
        obtain ⟨y_20, h_21, H⟩ := bind_some H
        refine sl_store1 (c' := [.int .i64 4, .int .i64 0, .string (⟨#[]⟩ : ByteArray), .int .i64 y_20.a0, .int .i64 y_20.a1, .int .i64 y_20.a2, .int .i64 y_20.a3, .int .i64 y_20.a4, .int .i64 y_20.a5, .int .i64 y_20.a6, .int .i64 y_20.a7]) Tryd.sizeOf3 hS hK rfl rfl rfl rfl (Arr8.put_lt h_21 (Nat.le_of_ble_eq_true rfl)) (Arr8.put_cells h_21 [.int .i64 4, .int .i64 0, .string (⟨#[]⟩ : ByteArray)] [] rfl) fun a w hS hK => ?_
        refine wpList_nil ?_
        refine wp_seq ?_
        refine wp_region_lit ?_
        refine sl hK (by decide) rfl rfl (r_loadA (cs := [.int .i64 4, .int .i64 0, .string (⟨#[]⟩ : ByteArray), .int .i64 y_20.a0, .int .i64 y_20.a1, .int .i64 y_20.a2, .int .i64 y_20.a3, .int .i64 y_20.a4, .int .i64 y_20.a5, .int .i64 y_20.a6, .int .i64 y_20.a7]) Tryd.isAgg24 Tryd.sizeOf24 rfl hK rfl (hS.cells_of (m := 11) (.head _) rfl)) fun a hK => ?_
        have hS := hS.pk1
        refine sl_storeA (vs := [.int .i64 4, .int .i64 0, .string (⟨#[]⟩ : ByteArray), .int .i64 y_20.a0, .int .i64 y_20.a1, .int .i64 y_20.a2, .int .i64 y_20.a3, .int .i64 y_20.a4, .int .i64 y_20.a5, .int .i64 y_20.a6, .int .i64 y_20.a7]) (c' := [.int .i64 4, .int .i64 0, .string (⟨#[]⟩ : ByteArray), .int .i64 y_20.a0, .int .i64 y_20.a1, .int .i64 y_20.a2, .int .i64 y_20.a3, .int .i64 y_20.a4, .int .i64 y_20.a5, .int .i64 y_20.a6, .int .i64 y_20.a7]) Tryd.sizeOf24 hS hK rfl rfl rfl rfl (all_cons rfl (all_cons rfl (all_cons rfl (all_cons rfl (all_cons rfl (all_cons rfl (all_cons rfl (all_cons rfl (all_cons rfl (all_cons rfl (all_cons rfl (all_nil)))))))))))) (Nat.le_of_ble_eq_true rfl) rfl fun a w hS hK => ?_
        refine wpList_nil ?_
        obtain rfl := Option.some.inj H
        refine wp_ret ?_
        repeat (first | refine ret_then ?_ | refine ret_block ?_ | refine ret_scope ?_)
        exact ret_1 Tryd.results26 hK (rv_cell (c := [.int .i64 4, .int .i64 0, .string (⟨#[]⟩ : ByteArray), .int .i64 y_20.a0, .int .i64 y_20.a1, .int .i64 y_20.a2, .int .i64 y_20.a3, .int .i64 y_20.a4, .int .i64 y_20.a5, .int .i64 y_20.a6, .int .i64 y_20.a7]) Tryd.isAgg24 Tryd.sizeOf24 hS (.head _) rfl hK rfl) ⟨rfl, hS.bel⟩

/-! ### catchment/catchmentlaw01.ValueBuckets: function 8 -/
set_option maxHeartbeats 4000000 in
set_option maxRecDepth 100000 in
theorem law01_ValueBuckets.calls (a0 : Int) (a1 : Int) {w0 : World} {RA : Hp} (hRA : RA.sub w0) (hG : GF RA) (H : law01_ValueBuckets a0 a1 = some true) : CallsV Tryd.prog 8 #[.int .i64 a0, .int .i64 a1] w0 (.bool true) := by
  unfold law01_ValueBuckets at H
  refine enter (args := [.int .i64 a0, .int .i64 a1]) Tryd.func8 rfl Tryd.ntmps8 rfl fun a hK => ?_
  have hS := St.init (R := fun _ => none) (w := w0) (fun _ _ h => by cases h)
  have hRL := RLe.refl (M := []) w0 (fun _ => none)
  refine wp_seq ?_
  refine wp_region_lit ?_
  refine sl hK (by decide) rfl rfl (r_assign hK rfl) fun a hK => ?_
  refine wpList_nil ?_
  refine wp_seq ?_
  refine wp_region_lit ?_
  obtain ⟨y_1, h_2, H⟩ := bind_some H
  refine sl_callV Tryd.call13 hS hK (by decide) rfl rfl rfl (law01_shown.calls (lentOf_sub [] _) (GF.mono (hS.raLe0 hRA nil_not) hG) h_2) fun a w hS hK => ?_
  refine sl hK (by decide) rfl rfl (r_assign hK rfl) fun a hK => ?_
  refine wpList_nil ?_
  refine wp_seq ?_
  refine wp_region_lit ?_
  refine sl hK (by decide) rfl rfl (r_move hK rfl) fun a hK => ?_
  obtain ⟨y_3, h_4, H⟩ := bind_some H
  refine sl_callV Tryd.call25 hS hK (by decide) rfl rfl rfl (value_Bucket.calls a0 h_4 _) fun a w hS hK => ?_
  refine sl_alloc Tryd.zeroValue24 hS hK (by decide) rfl rfl fun a w b_5 hS hK => ?_
  refine sl_storeA (vs := [.int .i64 y_3.Kind, .int .i64 y_3.N, .string y_3.S, .int .i64 y_3.H.a0, .int .i64 y_3.H.a1, .int .i64 y_3.H.a2, .int .i64 y_3.H.a3, .int .i64 y_3.H.a4, .int .i64 y_3.H.a5, .int .i64 y_3.H.a6, .int .i64 y_3.H.a7]) (c' := [.int .i64 y_3.Kind, .int .i64 y_3.N, .string y_3.S, .int .i64 y_3.H.a0, .int .i64 y_3.H.a1, .int .i64 y_3.H.a2, .int .i64 y_3.H.a3, .int .i64 y_3.H.a4, .int .i64 y_3.H.a5, .int .i64 y_3.H.a6, .int .i64 y_3.H.a7]) Tryd.sizeOf24 hS hK rfl rfl rfl rfl (all_cons rfl (all_cons rfl (all_cons rfl (all_cons rfl (all_cons rfl (all_cons rfl (all_cons rfl (all_cons rfl (all_cons rfl (all_cons rfl (all_cons rfl (all_nil)))))))))))) (Nat.le_of_ble_eq_true rfl) rfl fun a w hS hK => ?_
  refine wpList_nil ?_
  refine wp_seq ?_
  refine wp_region_lit ?_
  refine sl hK (by decide) rfl rfl (r_move hK rfl) fun a hK => ?_
  obtain ⟨y_6, h_7, H⟩ := bind_some H
  refine sl_callV Tryd.call25 hS hK (by decide) rfl rfl rfl (value_Bucket.calls a1 h_7 _) fun a w hS hK => ?_
  refine sl_alloc Tryd.zeroValue24 hS hK (by decide) rfl rfl fun a w b_8 hS hK => ?_
  refine sl_storeA (vs := [.int .i64 y_6.Kind, .int .i64 y_6.N, .string y_6.S, .int .i64 y_6.H.a0, .int .i64 y_6.H.a1, .int .i64 y_6.H.a2, .int .i64 y_6.H.a3, .int .i64 y_6.H.a4, .int .i64 y_6.H.a5, .int .i64 y_6.H.a6, .int .i64 y_6.H.a7]) (c' := [.int .i64 y_6.Kind, .int .i64 y_6.N, .string y_6.S, .int .i64 y_6.H.a0, .int .i64 y_6.H.a1, .int .i64 y_6.H.a2, .int .i64 y_6.H.a3, .int .i64 y_6.H.a4, .int .i64 y_6.H.a5, .int .i64 y_6.H.a6, .int .i64 y_6.H.a7]) Tryd.sizeOf24 hS hK rfl rfl rfl rfl (all_cons rfl (all_cons rfl (all_cons rfl (all_cons rfl (all_cons rfl (all_cons rfl (all_cons rfl (all_cons rfl (all_cons rfl (all_cons rfl (all_cons rfl (all_nil)))))))))))) (Nat.le_of_ble_eq_true rfl) rfl fun a w hS hK => ?_
  refine wpList_nil ?_
  refine wp_seq ?_
  refine wp_region_lit ?_
  refine sl hK (by decide) rfl rfl (r_assign hK rfl) fun a hK => ?_
  refine wpList_nil ?_
  refine wp_seq ?_
  refine wp_region_lit ?_
  refine sl hK (by decide) rfl rfl (r_assign hK rfl) fun a hK => ?_
  refine wpList_nil ?_
  refine wp_seq ?_
  refine wp_region_lit ?_
  refine sl hK (by decide) rfl rfl (r_assign hK rfl) fun a hK => ?_
  refine wpList_nil ?_
  refine wp_seq ?_
  refine wp_seq ?_
  refine wp_region_lit ?_
  refine sl hK (by decide) rfl rfl (r_assign hK rfl) fun a hK => ?_
  refine wpList_nil ?_
  refine wp_block ?_
  refine wp_loop_k (fun k_l0 a w => ∃ (x_34 : Int) (x_35 : Int) (x_36 : Int) (x_37 : Int), law01_ValueBuckets.l0 a0 a1 y_1 y_3 y_6 k_l0 x_34 x_35 x_36 x_37 = some true ∧ Kn 60 a [(0, .int .i64 a0), (1, .int .i64 a1), (5, .bool y_1), (6, .pointer (some ⟨b_5, 0, none⟩)), (7, .pointer (some ⟨b_8, 0, none⟩)), (8, .int .i64 x_34), (9, .int .i64 x_35), (10, .int .i64 x_36), (11, .int .i64 x_37)] ∧ St [] w0 w (fun _ => none) [.cells b_5 [.int .i64 y_3.Kind, .int .i64 y_3.N, .string y_3.S, .int .i64 y_3.H.a0, .int .i64 y_3.H.a1, .int .i64 y_3.H.a2, .int .i64 y_3.H.a3, .int .i64 y_3.H.a4, .int .i64 y_3.H.a5, .int .i64 y_3.H.a6, .int .i64 y_3.H.a7] 24, .cells b_8 [.int .i64 y_6.Kind, .int .i64 y_6.N, .string y_6.S, .int .i64 y_6.H.a0, .int .i64 y_6.H.a1, .int .i64 y_6.H.a2, .int .i64 y_6.H.a3, .int .i64 y_6.H.a4, .int .i64 y_6.H.a5, .int .i64 y_6.H.a6, .int .i64 y_6.H.a7] 24]) (((8 : Int) - 0).toNat + 1) ?_ ?_
  · have hS := hS.pk1
    exact ⟨0, 0, 0, 0, H, hK.sub (all_cons rfl (all_cons rfl (all_cons rfl (all_cons rfl (all_cons rfl (all_cons rfl (all_cons rfl (all_cons rfl (all_cons rfl (all_nil)))))))))), hS⟩
  · rintro k_l0 a w ⟨x_34, x_35, x_36, x_37, H, hK, hS⟩
    cases k_l0 with
    | zero => cases H
    | succ k_l0 =>
    rw [law01_ValueBuckets.l0.eq_2] at H
    refine wp_seq ?_
    refine wp_seq ?_
    refine wp_region_lit ?_
    refine sl hK (by decide) rfl rfl (r_move hK rfl) fun a hK => ?_
    refine sl hK (by decide) rfl rfl (r_ibin hK rfl rfl rfl) fun a hK => ?_
    refine wpList_nil ?_
    refine wp_cond_split (hK.ev rfl) (fun (hb_54 : (decide (x_37 < 8)) = true) => ?_) (fun (hb_54 : (decide (x_37 < 8)) = false) => ?_)
    · rw [ifb_t hb_54] at H
      refine wp_skip ?_
      refine wp_seq ?_
      refine wp_block ?_
      refine wp_seq ?_
      refine wp_region_lit ?_
      refine sl hK (by decide) rfl rfl (r_move hK rfl) fun a hK => ?_
      refine sl hK (by decide) rfl rfl (r_move hK rfl) fun a hK => ?_
      refine sl hK (by decide) rfl rfl (r_fieldAddr Tryd.underlying24 rfl Tryd.sizeOf22 hK rfl) fun a hK => ?_
      obtain ⟨y_55, h_56, H⟩ := bind_some H
      refine sl hK (by decide) rfl rfl (r_indexAddr_arr Tryd.underlying22 Tryd.sizeOf3 hK rfl rfl (Arr8.ix_lt h_56).1 (Arr8.ix_lt h_56).2) fun a hK => ?_
      refine sl hK (by decide) rfl rfl (r_load Tryd.isAgg3 hK rfl (hS.cell (.head _) (Arr8.ix_cells h_56 [.int .i64 y_3.Kind, .int .i64 y_3.N, .string y_3.S] [] rfl))) fun a hK => ?_
      refine sl hK (by decide) rfl rfl (r_ibin hK rfl rfl rfl) fun a hK => ?_
      refine sl hK (by decide) rfl rfl (r_assign hK rfl) fun a hK => ?_
      refine wpList_nil ?_
      refine wp_seq ?_
      refine wp_seq ?_
      refine wp_region_lit ?_
      refine sl hK (by decide) rfl rfl (r_move hK rfl) fun a hK => ?_
      refine sl hK (by decide) rfl rfl (r_fieldAddr Tryd.underlying24 rfl Tryd.sizeOf22 hK rfl) fun a hK => ?_
      obtain ⟨y_57, h_58, H⟩ := bind_some H
      refine sl hK (by decide) rfl rfl (r_indexAddr_arr Tryd.underlying22 Tryd.sizeOf3 hK rfl rfl (Arr8.ix_lt h_58).1 (Arr8.ix_lt h_58).2) fun a hK => ?_
      refine sl hK (by decide) rfl rfl (r_load Tryd.isAgg3 hK rfl (hS.cell (.head _) (Arr8.ix_cells h_58 [.int .i64 y_3.Kind, .int .i64 y_3.N, .string y_3.S] [] rfl))) fun a hK => ?_
      refine sl hK (by decide) rfl rfl (r_ibin hK rfl rfl rfl) fun a hK => ?_
      refine wpList_nil ?_
      refine wp_mid (fun a w => ∃ (x_60 : Int), law01_ValueBuckets.j1 (law01_ValueBuckets.l0 a0 a1 y_1 y_3 y_6 k_l0) y_6 x_35 x_36 x_37 y_55 x_60 = some true ∧ Kn 60 a [(0, .int .i64 a0), (1, .int .i64 a1), (5, .bool y_1), (6, .pointer (some ⟨b_5, 0, none⟩)), (7, .pointer (some ⟨b_8, 0, none⟩)), (8, .int .i64 x_60), (9, .int .i64 x_35), (10, .int .i64 (IntKind.i64.wrap (x_36 + y_55))), (11, .int .i64 x_37)] ∧ St [] w0 w (fun _ => none) [.cells b_5 [.int .i64 y_3.Kind, .int .i64 y_3.N, .string y_3.S, .int .i64 y_3.H.a0, .int .i64 y_3.H.a1, .int .i64 y_3.H.a2, .int .i64 y_3.H.a3, .int .i64 y_3.H.a4, .int .i64 y_3.H.a5, .int .i64 y_3.H.a6, .int .i64 y_3.H.a7] 24, .cells b_8 [.int .i64 y_6.Kind, .int .i64 y_6.N, .string y_6.S, .int .i64 y_6.H.a0, .int .i64 y_6.H.a1, .int .i64 y_6.H.a2, .int .i64 y_6.H.a3, .int .i64 y_6.H.a4, .int .i64 y_6.H.a5, .int .i64 y_6.H.a6, .int .i64 y_6.H.a7] 24]) ?_ ?_
      · refine wp_cond_split (hK.ev rfl) (fun (hb_62 : (y_57 == 1) = true) => ?_) (fun (hb_62 : (y_57 == 1) = false) => ?_)
        · rw [ifb_t hb_62] at H
          refine wp_region_lit ?_
          refine sl hK (by decide) rfl rfl (r_move hK rfl) fun a hK => ?_
          refine sl hK (by decide) rfl rfl (r_assign hK rfl) fun a hK => ?_
          refine wpList_nil ?_
          have hS := hS.pk1
          have hS := hS.pk1
          exact ⟨x_37, H, hK.sub (all_cons rfl (all_cons rfl (all_cons rfl (all_cons rfl (all_cons rfl (all_cons rfl (all_cons rfl (all_cons rfl (all_cons rfl (all_nil)))))))))), hS⟩
        · rw [ifb_f hb_62] at H
          refine wp_skip ?_
          have hS := hS.pk1
          have hS := hS.pk1
          exact ⟨x_34, H, hK.sub (all_cons rfl (all_cons rfl (all_cons rfl (all_cons rfl (all_cons rfl (all_cons rfl (all_cons rfl (all_cons rfl (all_cons rfl (all_nil)))))))))), hS⟩
      · rintro a w ⟨x_60, H, hK, hS⟩
        unfold law01_ValueBuckets.j1 at H
        refine wp_seq ?_
        refine wp_region_lit ?_
        refine sl hK (by decide) rfl rfl (r_move hK rfl) fun a hK => ?_
        refine sl hK (by decide) rfl rfl (r_fieldAddr Tryd.underlying24 rfl Tryd.sizeOf22 hK rfl) fun a hK => ?_
        obtain ⟨y_63, h_64, H⟩ := bind_some H
        refine sl hK (by decide) rfl rfl (r_indexAddr_arr Tryd.underlying22 Tryd.sizeOf3 hK rfl rfl (Arr8.ix_lt h_64).1 (Arr8.ix_lt h_64).2) fun a hK => ?_
        refine sl hK (by decide) rfl rfl (r_load Tryd.isAgg3 hK rfl (hS.cell (.tail _ (.head _)) (Arr8.ix_cells h_64 [.int .i64 y_6.Kind, .int .i64 y_6.N, .string y_6.S] [] rfl))) fun a hK => ?_
        refine sl hK (by decide) rfl rfl (r_ibin hK rfl rfl rfl) fun a hK => ?_
        refine wpList_nil ?_
        refine wp_mid (fun a w => ∃ (x_66 : Int), law01_ValueBuckets.j2 (law01_ValueBuckets.l0 a0 a1 y_1 y_3 y_6 k_l0) x_36 x_37 y_55 x_60 x_66 = some true ∧ Kn 60 a [(0, .int .i64 a0), (1, .int .i64 a1), (5, .bool y_1), (6, .pointer (some ⟨b_5, 0, none⟩)), (7, .pointer (some ⟨b_8, 0, none⟩)), (8, .int .i64 x_60), (9, .int .i64 x_66), (10, .int .i64 (IntKind.i64.wrap (x_36 + y_55))), (11, .int .i64 x_37)] ∧ St [] w0 w (fun _ => none) [.cells b_5 [.int .i64 y_3.Kind, .int .i64 y_3.N, .string y_3.S, .int .i64 y_3.H.a0, .int .i64 y_3.H.a1, .int .i64 y_3.H.a2, .int .i64 y_3.H.a3, .int .i64 y_3.H.a4, .int .i64 y_3.H.a5, .int .i64 y_3.H.a6, .int .i64 y_3.H.a7] 24, .cells b_8 [.int .i64 y_6.Kind, .int .i64 y_6.N, .string y_6.S, .int .i64 y_6.H.a0, .int .i64 y_6.H.a1, .int .i64 y_6.H.a2, .int .i64 y_6.H.a3, .int .i64 y_6.H.a4, .int .i64 y_6.H.a5, .int .i64 y_6.H.a6, .int .i64 y_6.H.a7] 24]) ?_ ?_
        · refine wp_cond_split (hK.ev rfl) (fun (hb_68 : (y_63 == 1) = true) => ?_) (fun (hb_68 : (y_63 == 1) = false) => ?_)
          · rw [ifb_t hb_68] at H
            refine wp_region_lit ?_
            refine sl hK (by decide) rfl rfl (r_move hK rfl) fun a hK => ?_
            refine sl hK (by decide) rfl rfl (r_assign hK rfl) fun a hK => ?_
            refine wpList_nil ?_
            have hS := hS.pk1
            have hS := hS.pk1
            exact ⟨x_37, H, hK.sub (all_cons rfl (all_cons rfl (all_cons rfl (all_cons rfl (all_cons rfl (all_cons rfl (all_cons rfl (all_cons rfl (all_cons rfl (all_nil)))))))))), hS⟩
          · rw [ifb_f hb_68] at H
            refine wp_skip ?_
            have hS := hS.pk1
            have hS := hS.pk1
            exact ⟨x_35, H, hK.sub (all_cons rfl (all_cons rfl (all_cons rfl (all_cons rfl (all_cons rfl (all_cons rfl (all_cons rfl (all_cons rfl (all_cons rfl (all_nil)))))))))), hS⟩
        · rintro a w ⟨x_66, H, hK, hS⟩
          unfold law01_ValueBuckets.j2 at H
          refine wp_region_lit ?_
          refine sl hK (by decide) rfl rfl (r_move hK rfl) fun a hK => ?_
          refine sl hK (by decide) rfl rfl (r_ibin hK rfl rfl rfl) fun a hK => ?_
          refine sl hK (by decide) rfl rfl (r_assign hK rfl) fun a hK => ?_
          refine wpList_nil ?_
          have hS := hS.pk1
          have hS := hS.pk1
          exact ⟨_, Nat.lt_succ_self _, x_60, x_66, (IntKind.i64.wrap (x_36 + y_55)), (IntKind.i64.wrap (x_37 + 1)), H, hK.sub (all_cons rfl (all_cons rfl (all_cons rfl (all_cons rfl (all_cons rfl (all_cons rfl (all_cons rfl (all_cons rfl (all_cons rfl (all_nil)))))))))), hS⟩
    · rw [ifb_f hb_54] at H
      refine wp_exit ?_
      refine wp_seq ?_
      refine parT_region (C := fun w => St [] w0 w (fun _ => none) [.cells b_5 [.int .i64 y_3.Kind, .int .i64 y_3.N, .string y_3.S, .int .i64 y_3.H.a0, .int .i64 y_3.H.a1, .int .i64 y_3.H.a2, .int .i64 y_3.H.a3, .int .i64 y_3.H.a4, .int .i64 y_3.H.a5, .int .i64 y_3.H.a6, .int .i64 y_3.H.a7] 24, .cells b_8 [.int .i64 y_6.Kind, .int .i64 y_6.N, .string y_6.S, .int .i64 y_6.H.a0, .int .i64 y_6.H.a1, .int .i64 y_6.H.a2, .int .i64 y_6.H.a3, .int .i64 y_6.H.a4, .int .i64 y_6.H.a5, .int .i64 y_6.H.a6, .int .i64 y_6.H.a7] 24]) 18 [(0, true), (1, true), (2, true), (3, true), (4, false), (5, true), (6, true), (7, true), (8, true), (9, true), (10, true), (11, true), (12, true), (13, true), (14, true), (15, true), (16, true), (17, true)] mixed (by kernel_rfl) hS (fun w hS => hS) fun w hS => ?_
      refine sp (k := 0) rfl hK (by decide) rfl rfl (fun w hS => r_move hK rfl) fun a hK => ?_
      refine sp (k := 1) rfl hK (by decide) rfl rfl (fun w hS => r_move hK rfl) fun a hK => ?_
      rcases or_b y_1 with hb_75 | hb_75
      · rw [ifb_t hb_75] at H
        refine sp (k := 2) rfl hK (by decide) (wtt hb_75) rfl (fun w hS => r_loadA (cs := [.int .i64 y_3.Kind, .int .i64 y_3.N, .string y_3.S, .int .i64 y_3.H.a0, .int .i64 y_3.H.a1, .int .i64 y_3.H.a2, .int .i64 y_3.H.a3, .int .i64 y_3.H.a4, .int .i64 y_3.H.a5, .int .i64 y_3.H.a6, .int .i64 y_3.H.a7]) Tryd.isAgg24 Tryd.sizeOf24 rfl hK rfl (hS.cells_of (m := 11) (.head _) rfl)) fun a hK => ?_
        refine sp (k := 3) rfl hK (by decide) (wtt hb_75) rfl (fun w hS => r_move hK rfl) fun a hK => ?_
        refine spw (k := 4) rfl rfl hS ?_
        obtain ⟨y_76, h_77, H⟩ := bind_some H
        refine sl_callV Tryd.call26 hS hK (by decide) (wtt hb_75) rfl rfl (ref01_Bucket.calls a0 h_77 _) fun a w hS hK => ?_
        refine parK_nil hS ?_
        refine sp (k := 5) rfl hK (by decide) (wtt hb_75) rfl (fun w hS => r_seq (by kernel_rfl) (eqs24 y_3 y_76) hK rfl rfl) fun a hK => ?_
        refine sp (k := 6) rfl hK (by decide) rfl rfl (fun w hS => r_pick_t hb_75 hK rfl rfl) fun a hK => ?_
        refine sp (k := 7) rfl hK (by decide) rfl rfl (fun w hS => r_move hK rfl) fun a hK => ?_
        rcases or_b (decide (y_3 = y_76)) with hb_78 | hb_78
        · rw [ifb_t hb_78] at H
          refine sp (k := 8) rfl hK (by decide) (wtt hb_78) rfl (fun w hS => r_move hK rfl) fun a hK => ?_
          refine sp (k := 9) rfl hK (by decide) (wtt hb_78) rfl (fun w hS => r_ibin hK rfl rfl rfl) fun a hK => ?_
          refine sp (k := 10) rfl hK (by decide) rfl rfl (fun w hS => r_pick_t hb_78 hK rfl rfl) fun a hK => ?_
          refine sp (k := 11) rfl hK (by decide) rfl rfl (fun w hS => r_move hK rfl) fun a hK => ?_
          rcases or_b (x_36 == 1) with hb_79 | hb_79
          · rw [ifb_t hb_79] at H
            refine sp (k := 12) rfl hK (by decide) (wtt hb_79) rfl (fun w hS => r_move hK rfl) fun a hK => ?_
            refine sp (k := 13) rfl hK (by decide) (wtt hb_79) rfl (fun w hS => r_move hK rfl) fun a hK => ?_
            refine sp (k := 14) rfl hK (by decide) (wtt hb_79) rfl (fun w hS => r_ibin hK rfl rfl rfl) fun a hK => ?_
            refine sp (k := 15) rfl hK (by decide) (wtt hb_79) rfl (fun w hS => r_move hK rfl) fun a hK => ?_
            rcases or_b (decide (a0 > a1)) with hb_80 | hb_80
            · rw [ifb_t hb_80] at H
              refine sp_skip (k := 16) rfl hK (by decide) (wft hb_80) rfl fun a hK => ?_
              refine sp_skip (k := 17) rfl hK (by decide) (wft hb_80) rfl fun a hK => ?_
              refine thenL_nil ?_
              refine sl_skip hK (by decide) (wft hb_80) rfl fun a hK => ?_
              refine sl hK (by decide) (wtt hb_79) rfl (r_pick_t hb_80 hK rfl rfl) fun a hK => ?_
              refine sl hK (by decide) rfl rfl (r_pick_t hb_79 hK rfl rfl) fun a hK => ?_
              refine sl hK (by decide) rfl rfl (r_assign hK rfl) fun a hK => ?_
              refine wpList_nil (NoP_nil ?_)
              refine wp_ret ?_
              repeat (first | refine ret_then ?_ | refine ret_block ?_ | refine ret_scope ?_)
              exact ret_1 Tryd.results8 hK (rv_tmp hK rfl) ⟨rfl, hS.bel⟩
            · rw [ifb_f hb_80] at H
              refine sp (k := 16) rfl hK (by decide) (wff hb_80) rfl (fun w hS => r_move hK rfl) fun a hK => ?_
              refine sp (k := 17) rfl hK (by decide) (wff hb_80) rfl (fun w hS => r_move hK rfl) fun a hK => ?_
              refine thenL_nil ?_
              refine sl hK (by decide) (wff hb_80) rfl (r_ibin hK rfl rfl rfl) fun a hK => ?_
              refine sl hK (by decide) (wtt hb_79) rfl (r_pick_f hb_80 hK rfl rfl) fun a hK => ?_
              refine sl hK (by decide) rfl rfl (r_pick_t hb_79 hK rfl rfl) fun a hK => ?_
              refine sl hK (by decide) rfl rfl (r_assign hK rfl) fun a hK => ?_
              refine wpList_nil (NoP_nil ?_)
              have hr_ := Option.some.inj H
              refine wp_ret ?_
              repeat (first | refine ret_then ?_ | refine ret_block ?_ | refine ret_scope ?_)
              exact ret_1 Tryd.results8 hK (rv_tmp hK rfl) ⟨congrArg (fun b => Ending.returned (Value.bool b)) hr_, hS.bel⟩
          · rw [ifb_f hb_79] at H
            refine sp_skip (k := 12) rfl hK (by decide) (wtf hb_79) rfl fun a hK => ?_
            refine sp_skip (k := 13) rfl hK (by decide) (wtf hb_79) rfl fun a hK => ?_
            refine sp_skip (k := 14) rfl hK (by decide) (wtf hb_79) rfl fun a hK => ?_
            refine sp_skip (k := 15) rfl hK (by decide) (wtf hb_79) rfl fun a hK => ?_
            refine sp_skip (k := 16) rfl hK (by decide) rfl rfl fun a hK => ?_
            refine sp_skip (k := 17) rfl hK (by decide) rfl rfl fun a hK => ?_
            refine thenL_nil ?_
            refine sl_skip hK (by decide) rfl rfl fun a hK => ?_
            refine sl_skip hK (by decide) (wtf hb_79) rfl fun a hK => ?_
            refine sl hK (by decide) rfl rfl (r_pick_f hb_79 hK rfl rfl) fun a hK => ?_
            refine sl hK (by decide) rfl rfl (r_assign hK rfl) fun a hK => ?_
            refine wpList_nil (NoP_nil ?_)
            exact absurd (Option.some.inj H) (by decide)
        · rw [ifb_f hb_78] at H
          refine sp_skip (k := 8) rfl hK (by decide) (wtf hb_78) rfl fun a hK => ?_
          refine sp_skip (k := 9) rfl hK (by decide) (wtf hb_78) rfl fun a hK => ?_
          refine sp (k := 10) rfl hK (by decide) rfl rfl (fun w hS => r_pick_f hb_78 hK rfl rfl) fun a hK => ?_
          refine sp (k := 11) rfl hK (by decide) rfl rfl (fun w hS => r_move hK rfl) fun a hK => ?_
          refine sp_skip (k := 12) rfl hK (by decide) rfl rfl fun a hK => ?_
          refine sp_skip (k := 13) rfl hK (by decide) rfl rfl fun a hK => ?_
          refine sp_skip (k := 14) rfl hK (by decide) rfl rfl fun a hK => ?_
          refine sp_skip (k := 15) rfl hK (by decide) rfl rfl fun a hK => ?_
          refine sp_skip (k := 16) rfl hK (by decide) rfl rfl fun a hK => ?_
          refine sp_skip (k := 17) rfl hK (by decide) rfl rfl fun a hK => ?_
          refine thenL_nil ?_
          refine sl_skip hK (by decide) rfl rfl fun a hK => ?_
          refine sl_skip hK (by decide) rfl rfl fun a hK => ?_
          refine sl hK (by decide) rfl rfl (r_pick hK rfl rfl rfl) fun a hK => ?_
          refine sl hK (by decide) rfl rfl (r_assign hK rfl) fun a hK => ?_
          refine wpList_nil (NoP_nil ?_)
          exact absurd (Option.some.inj H) (by decide)
      · rw [ifb_f hb_75] at H
        refine sp_skip (k := 2) rfl hK (by decide) (wtf hb_75) rfl fun a hK => ?_
        refine sp_skip (k := 3) rfl hK (by decide) (wtf hb_75) rfl fun a hK => ?_
        refine spw (k := 4) rfl rfl hS ?_
        refine sl_skip hK (by decide) (wtf hb_75) rfl fun a hK => ?_
        refine parK_nil hS ?_
        refine sp_skip (k := 5) rfl hK (by decide) (wtf hb_75) rfl fun a hK => ?_
        refine sp (k := 6) rfl hK (by decide) rfl rfl (fun w hS => r_pick_f hb_75 hK rfl rfl) fun a hK => ?_
        refine sp (k := 7) rfl hK (by decide) rfl rfl (fun w hS => r_move hK rfl) fun a hK => ?_
        refine sp_skip (k := 8) rfl hK (by decide) rfl rfl fun a hK => ?_
        refine sp_skip (k := 9) rfl hK (by decide) rfl rfl fun a hK => ?_
        refine sp (k := 10) rfl hK (by decide) rfl rfl (fun w hS => r_pick hK rfl rfl rfl) fun a hK => ?_
        refine sp (k := 11) rfl hK (by decide) rfl rfl (fun w hS => r_move hK rfl) fun a hK => ?_
        refine sp_skip (k := 12) rfl hK (by decide) rfl rfl fun a hK => ?_
        refine sp_skip (k := 13) rfl hK (by decide) rfl rfl fun a hK => ?_
        refine sp_skip (k := 14) rfl hK (by decide) rfl rfl fun a hK => ?_
        refine sp_skip (k := 15) rfl hK (by decide) rfl rfl fun a hK => ?_
        refine sp_skip (k := 16) rfl hK (by decide) rfl rfl fun a hK => ?_
        refine sp_skip (k := 17) rfl hK (by decide) rfl rfl fun a hK => ?_
        refine thenL_nil ?_
        refine sl_skip hK (by decide) rfl rfl fun a hK => ?_
        refine sl_skip hK (by decide) rfl rfl fun a hK => ?_
        refine sl hK (by decide) rfl rfl (r_pick hK rfl rfl rfl) fun a hK => ?_
        refine sl hK (by decide) rfl rfl (r_assign hK rfl) fun a hK => ?_
        refine wpList_nil (NoP_nil ?_)
        exact absurd (Option.some.inj H) (by decide)

end Go.Proofs.YtmohocmmelaeaaaDoor.M
