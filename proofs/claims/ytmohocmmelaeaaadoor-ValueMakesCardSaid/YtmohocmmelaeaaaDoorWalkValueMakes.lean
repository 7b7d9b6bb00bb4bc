/- Each Go function of the laws answers as its plain Lean function tells, wherever that tells something. Printed by wip/eng/gen.py. -/
import Derived.Test.YtmohocmmelaeaaaDoorWalk1
namespace Go.Proofs.YtmohocmmelaeaaaDoor.M
open Go Go.Eng Go.Proofs Go.RowKit
set_option linter.unusedVariables false
set_option linter.unusedSimpArgs false

/-! ### catchment/catchmentref01.OfInt: function 29 -/
set_option maxHeartbeats 4000000 in
set_option maxRecDepth 100000 in
theorem ref01_OfInt.calls (a0 : Int) {r : api_Value} (H : ref01_OfInt a0 = some r) (w0 : World) : CallsV Tryd.prog 29 #[.int .i64 a0] w0 (.agg #[.int .i64 r.Kind, .int .i64 r.N, .string r.S, .int .i64 r.H.a0, .int .i64 r.H.a1, .int .i64 r.H.a2, .int .i64 r.H.a3, .int .i64 r.H.a4, .int .i64 r.H.a5, .int .i64 r.H.a6, .int .i64 r.H.a7]) := by
  unfold ref01_OfInt at H
  refine enter (args := [.int .i64 a0]) Tryd.func29 rfl Tryd.ntmps29 rfl fun a hK => ?_
  have hS := St.init (R := fun _ => none) (w := w0) (fun _ _ h => by cases h)
  have hRL := RLe.refl (M := []) w0 (fun _ => none)
  refine wp_seq ?_
  refine wp_region_lit ?_
  refine sl_alloc Tryd.zeroValue24 hS hK (by decide) rfl rfl fun a w b_1 hS hK => ?_
  refine wpList_nil ?_
  refine wp_seq ?_
  refine wp_region_lit ?_
  refine sl hK (by decide) rfl rfl (r_move hK rfl) fun a hK => ?_
  refine sl hK (by decide) rfl rfl (r_buildC (ps := [(0, .int .i64 1), (1, .int .i64 a0)]) (c := [.int .i64 1, .int .i64 a0, .string (⟨#[]⟩ : ByteArray), .int .i64 0, .int .i64 0, .int .i64 0, .int .i64 0, .int .i64 0, .int .i64 0, .int .i64 0, .int .i64 0]) Tryd.underlying24 Tryd.zeroValue24 places24 hK rfl (pc_cons rfl (pc_cons rfl pc_nil)) rfl rfl) fun a hK => ?_
  refine sl_storeA (vs := [.int .i64 1, .int .i64 a0, .string (⟨#[]⟩ : ByteArray), .int .i64 0, .int .i64 0, .int .i64 0, .int .i64 0, .int .i64 0, .int .i64 0, .int .i64 0, .int .i64 0]) (c' := [.int .i64 1, .int .i64 a0, .string (⟨#[]⟩ : ByteArray), .int .i64 0, .int .i64 0, .int .i64 0, .int .i64 0, .int .i64 0, .int .i64 0, .int .i64 0, .int .i64 0]) Tryd.sizeOf24 hS hK rfl rfl rfl rfl (all_cons rfl (all_cons rfl (all_cons rfl (all_cons rfl (all_cons rfl (all_cons rfl (all_cons rfl (all_cons rfl (all_cons rfl (all_cons rfl (all_cons rfl (all_nil)))))))))))) (Nat.le_of_ble_eq_true rfl) rfl fun a w hS hK => ?_
  refine wpList_nil ?_
  obtain rfl := Option.some.inj H
  refine wp_ret ?_
  repeat (first | refine ret_then ?_ | refine ret_block ?_ | refine ret_scope ?_)
  exact ret_1 Tryd.results29 hK (rv_cell (c := [.int .i64 1, .int .i64 a0, .string (⟨#[]⟩ : ByteArray), .int .i64 0, .int .i64 0, .int .i64 0, .int .i64 0, .int .i64 0, .int .i64 0, .int .i64 0, .int .i64 0]) Tryd.isAgg24 Tryd.sizeOf24 hS (.head _) rfl hK rfl) ⟨rfl, hS.bel⟩

/-! ### catchment/catchmentref01.OfStr: function 30 -/
set_option maxHeartbeats 4000000 in
set_option maxRecDepth 100000 in
theorem ref01_OfStr.calls (a0 : ByteArray) {r : api_Value} (H : ref01_OfStr a0 = some r) (w0 : World) : CallsV Tryd.prog 30 #[.string a0] w0 (.agg #[.int .i64 r.Kind, .int .i64 r.N, .string r.S, .int .i64 r.H.a0, .int .i64 r.H.a1, .int .i64 r.H.a2, .int .i64 r.H.a3, .int .i64 r.H.a4, .int .i64 r.H.a5, .int .i64 r.H.a6, .int .i64 r.H.a7]) := by
  unfold ref01_OfStr at H
  refine enter (args := [.string a0]) Tryd.func30 rfl Tryd.ntmps30 rfl fun a hK => ?_
  have hS := St.init (R := fun _ => none) (w := w0) (fun _ _ h => by cases h)
  have hRL := RLe.refl (M := []) w0 (fun _ => none)
  refine wp_seq ?_
  refine wp_region_lit ?_
  refine sl_alloc Tryd.zeroValue24 hS hK (by decide) rfl rfl fun a w b_1 hS hK => ?_
  refine wpList_nil ?_
  refine wp_seq ?_
  refine wp_region_lit ?_
  refine sl hK (by decide) rfl rfl (r_move hK rfl) fun a hK => ?_
  refine sl hK (by decide) rfl rfl (r_move hK rfl) fun a hK => ?_
  refine sl hK (by decide) rfl rfl (r_len_str Tryd.underlying9 hK rfl) fun a hK => ?_
  refine sl hK (by decide) rfl rfl (r_min2 hK rfl rfl) fun a hK => ?_
  obtain ⟨y_2, h_3, H⟩ := bind_some H
  refine sl hK (by decide) rfl rfl (r_slice_s (lo := none) (hi := some (.tmp 6)) Tryd.underlying9 h_3 hK rfl rfl ⟨_, rfl⟩) fun a hK => ?_
  refine sl hK (by decide) rfl rfl (r_buildC (ps := [(0, .int .i64 2), (2, .string y_2)]) (c := [.int .i64 2, .int .i64 0, .string y_2, .int .i64 0, .int .i64 0, .int .i64 0, .int .i64 0, .int .i64 0, .int .i64 0, .int .i64 0, .int .i64 0]) Tryd.underlying24 Tryd.zeroValue24 places24 hK rfl (pc_cons rfl (pc_cons rfl pc_nil)) rfl rfl) fun a hK => ?_
  refine sl_storeA (vs := [.int .i64 2, .int .i64 0, .string y_2, .int .i64 0, .int .i64 0, .int .i64 0, .int .i64 0, .int .i64 0, .int .i64 0, .int .i64 0, .int .i64 0]) (c' := [.int .i64 2, .int .i64 0, .string y_2, .int .i64 0, .int .i64 0, .int .i64 0, .int .i64 0, .int .i64 0, .int .i64 0, .int .i64 0, .int .i64 0]) Tryd.sizeOf24 hS hK rfl rfl rfl rfl (all_cons rfl (all_cons rfl (all_cons rfl (all_cons rfl (all_cons rfl (all_cons rfl (all_cons rfl (all_cons rfl (all_cons rfl (all_cons rfl (all_cons rfl (all_nil)))))))))))) (Nat.le_of_ble_eq_true rfl) rfl fun a w hS hK => ?_
  refine wpList_nil ?_
  obtain rfl := Option.some.inj H
  refine wp_ret ?_
  repeat (first | refine ret_then ?_ | refine ret_block ?_ | refine ret_scope ?_)
  exact ret_1 Tryd.results30 hK (rv_cell (c := [.int .i64 2, .int .i64 0, .string y_2, .int .i64 0, .int .i64 0, .int .i64 0, .int .i64 0, .int .i64 0, .int .i64 0, .int .i64 0, .int .i64 0]) Tryd.isAgg24 Tryd.sizeOf24 hS (.head _) rfl hK rfl) ⟨rfl, hS.bel⟩

/-! ### catchment/catchmentref01.OfBool: function 31 -/
set_option maxHeartbeats 4000000 in
set_option maxRecDepth 100000 in
theorem ref01_OfBool.calls (a0 : Bool) {r : api_Value} (H : ref01_OfBool a0 = some r) (w0 : World) : CallsV Tryd.prog 31 #[.bool a0] w0 (.agg #[.int .i64 r.Kind, .int .i64 r.N, .string r.S, .int .i64 r.H.a0, .int .i64 r.H.a1, .int .i64 r.H.a2, .int .i64 r.H.a3, .int .i64 r.H.a4, .int .i64 r.H.a5, .int .i64 r.H.a6, .int .i64 r.H.a7]) := by
  unfold ref01_OfBool at H
  refine enter (args := [.bool a0]) Tryd.func31 rfl Tryd.ntmps31 rfl fun a hK => ?_
  have hS := St.init (R := fun _ => none) (w := w0) (fun _ _ h => by cases h)
  have hRL := RLe.refl (M := []) w0 (fun _ => none)
  refine wp_seq ?_
  refine wp_region_lit ?_
  refine sl_alloc Tryd.zeroValue24 hS hK (by decide) rfl rfl fun a w b_1 hS hK => ?_
  refine wpList_nil ?_
  refine wp_seq ?_
  refine wp_seq ?_
  refine wp_region_lit ?_
  refine sl hK (by decide) rfl rfl (r_move hK rfl) fun a hK => ?_
  refine wpList_nil ?_
  refine wp_cond_split (hK.ev rfl) (fun (hb_2 : a0 = true) => ?_) (fun (hb_2 : a0 = false) => ?_)
  · rw [ifb_t hb_2] at H
    refine wp_seq ?_
    refine wp_region_lit ?_
    refine sl hK (by decide) rfl rfl (r_buildC (ps := [(0, .int .i64 3), (1, .int .i64 1)]) (c := [.int .i64 3, .int .i64 1, .string (⟨#[]⟩ : ByteArray), .int .i64 0, .int .i64 0, .int .i64 0, .int .i64 0, .int .i64 0, .int .i64 0, .int .i64 0, .int .i64 0]) Tryd.underlying24 Tryd.zeroValue24 places24 hK rfl (pc_cons rfl (pc_cons rfl pc_nil)) rfl rfl) fun a hK => ?_
    refine sl_storeA (vs := [.int .i64 3, .int .i64 1, .string (⟨#[]⟩ : ByteArray), .int .i64 0, .int .i64 0, .int .i64 0, .int .i64 0, .int .i64 0, .int .i64 0, .int .i64 0, .int .i64 0]) (c' := [.int .i64 3, .int .i64 1, .string (⟨#[]⟩ : ByteArray), .int .i64 0, .int .i64 0, .int .i64 0, .int .i64 0, .int .i64 0, .int .i64 0, .int .i64 0, .int .i64 0]) Tryd.sizeOf24 hS hK rfl rfl rfl rfl (all_cons rfl (all_cons rfl (all_cons rfl (all_cons rfl (all_cons rfl (all_cons rfl (all_cons rfl (all_cons rfl (all_cons rfl (all_cons rfl (all_cons rfl (all_nil)))))))))))) (Nat.le_of_ble_eq_true rfl) rfl fun a w hS hK => ?_
    refine wpList_nil ?_
    obtain rfl := Option.some.inj H
    refine wp_ret ?_
    repeat (first | refine ret_then ?_ | refine ret_block ?_ | refine ret_scope ?_)
    exact ret_1 Tryd.results31 hK (rv_cell (c := [.int .i64 3, .int .i64 1, .string (⟨#[]⟩ : ByteArray), .int .i64 0, .int .i64 0, .int .i64 0, .int .i64 0, .int .i64 0, .int .i64 0, .int .i64 0, .int .i64 0]) Tryd.isAgg24 Tryd.sizeOf24 hS (.head _) rfl hK rfl) ⟨rfl, hS.bel⟩
  · rw [ifb_f hb_2] at H
    refine wp_skip ?_
    refine wp_seq ?_
    refine wp_region_lit ?_
    refine sl hK (by decide) rfl rfl (r_buildC (ps := [(0, .int .i64 3)]) (c := [.int .i64 3, .int .i64 0, .string (⟨#[]⟩ : ByteArray), .int .i64 0, .int .i64 0, .int .i64 0, .int .i64 0, .int .i64 0, .int .i64 0, .int .i64 0, .int .i64 0]) Tryd.underlying24 Tryd.zeroValue24 places24 hK rfl (pc_cons rfl pc_nil) rfl rfl) fun a hK => ?_
    refine sl_storeA (vs := [.int .i64 3, .int .i64 0, .string (⟨#[]⟩ : ByteArray), .int .i64 0, .int .i64 0, .int .i64 0, .int .i64 0, .int .i64 0, .int .i64 0, .int .i64 0, .int .i64 0]) (c' := [.int .i64 3, .int .i64 0, .string (⟨#[]⟩ : ByteArray), .int .i64 0, .int .i64 0, .int .i64 0, .int .i64 0, .int .i64 0, .int .i64 0, .int .i64 0, .int .i64 0]) Tryd.sizeOf24 hS hK rfl rfl rfl rfl (all_cons rfl (all_cons rfl (all_cons rfl (all_cons rfl (all_cons rfl (all_cons rfl (all_cons rfl (all_cons rfl (all_cons rfl (all_cons rfl (all_cons rfl (all_nil)))))))))))) (Nat.le_of_ble_eq_true rfl) rfl fun a w hS hK => ?_
    refine wpList_nil ?_
    obtain rfl := Option.some.inj H
    refine wp_ret ?_
    repeat (first | refine ret_then ?_ | refine ret_block ?_ | refine ret_scope ?_)
    exact ret_1 Tryd.results31 hK (rv_cell (c := [.int .i64 3, .int .i64 0, .string (⟨#[]⟩ : ByteArray), .int .i64 0, .int .i64 0, .int .i64 0, .int .i64 0, .int .i64 0, .int .i64 0, .int .i64 0, .int .i64 0]) Tryd.isAgg24 Tryd.sizeOf24 hS (.head _) rfl hK rfl) ⟨rfl, hS.bel⟩

/-! ### catchment/catchmentlaw01.ValueMakes: function 9 -/
set_option maxHeartbeats 4000000 in
set_option maxRecDepth 100000 in
theorem law01_ValueMakes.calls (a0 : Int) (a1 : ByteArray) (a2 : Bool) {w0 : World} {RA : Hp} (hRA : RA.sub w0) (hG : GF RA) (H : law01_ValueMakes a0 a1 a2 = some true) : CallsV Tryd.prog 9 #[.int .i64 a0, .string a1, .bool a2] w0 (.bool true) := by
  unfold law01_ValueMakes at H
  refine enter (args := [.int .i64 a0, .string a1, .bool a2]) Tryd.func9 rfl Tryd.ntmps9 rfl fun a hK => ?_
  have hS := St.init (R := fun _ => none) (w := w0) (fun _ _ h => by cases h)
  have hRL := RLe.refl (M := []) w0 (fun _ => none)
  refine wp_seq ?_
  refine wp_region_lit ?_
  refine sl hK (by decide) rfl rfl (r_assign hK rfl) fun a hK => ?_
  refine wpList_nil ?_
  refine wp_seq ?_
  refine wp_region_lit ?_
  obtain ⟨y_1, h_2, H⟩ := bind_some H
  refine sl_callV Tryd.call13 hS hK (by decide) rfl rfl rfl (law01_shown.calls (lentOf_sub [] _) (GF.mono (hS.raLe0 hRA nil_not) hG) h_2) fun a w hS hK => ?_
  refine sl hK (by decide) rfl rfl (r_assign hK rfl) fun a hK => ?_
  refine wpList_nil ?_
  refine wp_seq ?_
  refine wp_region_lit ?_
  refine sl hK (by decide) rfl rfl (r_move hK rfl) fun a hK => ?_
  obtain ⟨y_3, h_4, H⟩ := bind_some H
  refine sl_callV Tryd.call24 hS hK (by decide) rfl rfl rfl (value_OfInt.calls a0 h_4 _) fun a w hS hK => ?_
  refine sl_alloc Tryd.zeroValue24 hS hK (by decide) rfl rfl fun a w b_5 hS hK => ?_
  refine sl_storeA (vs := [.int .i64 y_3.Kind, .int .i64 y_3.N, .string y_3.S, .int .i64 y_3.H.a0, .int .i64 y_3.H.a1, .int .i64 y_3.H.a2, .int .i64 y_3.H.a3, .int .i64 y_3.H.a4, .int .i64 y_3.H.a5, .int .i64 y_3.H.a6, .int .i64 y_3.H.a7]) (c' := [.int .i64 y_3.Kind, .int .i64 y_3.N, .string y_3.S, .int .i64 y_3.H.a0, .int .i64 y_3.H.a1, .int .i64 y_3.H.a2, .int .i64 y_3.H.a3, .int .i64 y_3.H.a4, .int .i64 y_3.H.a5, .int .i64 y_3.H.a6, .int .i64 y_3.H.a7]) Tryd.sizeOf24 hS hK rfl rfl rfl rfl (all_cons rfl (all_cons rfl (all_cons rfl (all_cons rfl (all_cons rfl (all_cons rfl (all_cons rfl (all_cons rfl (all_cons rfl (all_cons rfl (all_cons rfl (all_nil)))))))))))) (Nat.le_of_ble_eq_true rfl) rfl fun a w hS hK => ?_
  refine wpList_nil ?_
  refine wp_seq ?_
  refine wp_region_lit ?_
  refine sl hK (by decide) rfl rfl (r_move hK rfl) fun a hK => ?_
  obtain ⟨y_6, h_7, H⟩ := bind_some H
  refine sl_callV Tryd.call27 hS hK (by decide) rfl rfl rfl (value_OfStr.calls a1 h_7 _) fun a w hS hK => ?_
  refine sl_alloc Tryd.zeroValue24 hS hK (by decide) rfl rfl fun a w b_8 hS hK => ?_
  refine sl_storeA (vs := [.int .i64 y_6.Kind, .int .i64 y_6.N, .string y_6.S, .int .i64 y_6.H.a0, .int .i64 y_6.H.a1, .int .i64 y_6.H.a2, .int .i64 y_6.H.a3, .int .i64 y_6.H.a4, .int .i64 y_6.H.a5, .int .i64 y_6.H.a6, .int .i64 y_6.H.a7]) (c' := [.int .i64 y_6.Kind, .int .i64 y_6.N, .string y_6.S, .int .i64 y_6.H.a0, .int .i64 y_6.H.a1, .int .i64 y_6.H.a2, .int .i64 y_6.H.a3, .int .i64 y_6.H.a4, .int .i64 y_6.H.a5, .int .i64 y_6.H.a6, .int .i64 y_6.H.a7]) Tryd.sizeOf24 hS hK rfl rfl rfl rfl (all_cons rfl (all_cons rfl (all_cons rfl (all_cons rfl (all_cons rfl (all_cons rfl (all_cons rfl (all_cons rfl (all_cons rfl (all_cons rfl (all_cons rfl (all_nil)))))))))))) (Nat.le_of_ble_eq_true rfl) rfl fun a w hS hK => ?_
  refine wpList_nil ?_
  refine wp_seq ?_
  refine wp_region_lit ?_
  refine sl hK (by decide) rfl rfl (r_move hK rfl) fun a hK => ?_
  obtain ⟨y_9, h_10, H⟩ := bind_some H
  refine sl_callV Tryd.call28 hS hK (by decide) rfl rfl rfl (value_OfBool.calls a2 h_10 _) fun a w hS hK => ?_
  refine sl_alloc Tryd.zeroValue24 hS hK (by decide) rfl rfl fun a w b_11 hS hK => ?_
  refine sl_storeA (vs := [.int .i64 y_9.Kind, .int .i64 y_9.N, .string y_9.S, .int .i64 y_9.H.a0, .int .i64 y_9.H.a1, .int .i64 y_9.H.a2, .int .i64 y_9.H.a3, .int .i64 y_9.H.a4, .int .i64 y_9.H.a5, .int .i64 y_9.H.a6, .int .i64 y_9.H.a7]) (c' := [.int .i64 y_9.Kind, .int .i64 y_9.N, .string y_9.S, .int .i64 y_9.H.a0, .int .i64 y_9.H.a1, .int .i64 y_9.H.a2, .int .i64 y_9.H.a3, .int .i64 y_9.H.a4, .int .i64 y_9.H.a5, .int .i64 y_9.H.a6, .int .i64 y_9.H.a7]) Tryd.sizeOf24 hS hK rfl rfl rfl rfl (all_cons rfl (all_cons rfl (all_cons rfl (all_cons rfl (all_cons rfl (all_cons rfl (all_cons rfl (all_cons rfl (all_cons rfl (all_cons rfl (all_cons rfl (all_nil)))))))))))) (Nat.le_of_ble_eq_true rfl) rfl fun a w hS hK => ?_
  refine wpList_nil ?_
  refine wp_seq ?_
  refine parT_region (C := fun w => St [] w0 w (fun _ => none) [.cells b_11 [.int .i64 y_9.Kind, .int .i64 y_9.N, .string y_9.S, .int .i64 y_9.H.a0, .int .i64 y_9.H.a1, .int .i64 y_9.H.a2, .int .i64 y_9.H.a3, .int .i64 y_9.H.a4, .int .i64 y_9.H.a5, .int .i64 y_9.H.a6, .int .i64 y_9.H.a7] 24, .cells b_8 [.int .i64 y_6.Kind, .int .i64 y_6.N, .string y_6.S, .int .i64 y_6.H.a0, .int .i64 y_6.H.a1, .int .i64 y_6.H.a2, .int .i64 y_6.H.a3, .int .i64 y_6.H.a4, .int .i64 y_6.H.a5, .int .i64 y_6.H.a6, .int .i64 y_6.H.a7] 24, .cells b_5 [.int .i64 y_3.Kind, .int .i64 y_3.N, .string y_3.S, .int .i64 y_3.H.a0, .int .i64 y_3.H.a1, .int .i64 y_3.H.a2, .int .i64 y_3.H.a3, .int .i64 y_3.H.a4, .int .i64 y_3.H.a5, .int .i64 y_3.H.a6, .int .i64 y_3.H.a7] 24]) 17 [(0, true), (1, true), (2, true), (3, true), (4, false), (5, true), (6, true), (7, true), (8, true), (9, true), (10, false), (11, true), (12, true), (13, true), (14, true), (15, true), (16, false)] mixed (by kernel_rfl) hS (fun w hS => hS) fun w hS => ?_
  refine sp (k := 0) rfl hK (by decide) rfl rfl (fun w hS => r_move hK rfl) fun a hK => ?_
  refine sp (k := 1) rfl hK (by decide) rfl rfl (fun w hS => r_move hK rfl) fun a hK => ?_
  rcases or_b y_1 with hb_30 | hb_30
  · rw [ifb_t hb_30] at H
    refine sp (k := 2) rfl hK (by decide) (wtt hb_30) rfl (fun w hS => r_loadA (cs := [.int .i64 y_3.Kind, .int .i64 y_3.N, .string y_3.S, .int .i64 y_3.H.a0, .int .i64 y_3.H.a1, .int .i64 y_3.H.a2, .int .i64 y_3.H.a3, .int .i64 y_3.H.a4, .int .i64 y_3.H.a5, .int .i64 y_3.H.a6, .int .i64 y_3.H.a7]) Tryd.isAgg24 Tryd.sizeOf24 rfl hK rfl (hS.cells_of (m := 11) (.tail _ (.tail _ (.head _))) rfl)) fun a hK => ?_
    refine sp (k := 3) rfl hK (by decide) (wtt hb_30) rfl (fun w hS => r_move hK rfl) fun a hK => ?_
    refine spw (k := 4) rfl rfl hS ?_
    obtain ⟨y_31, h_32, H⟩ := bind_some H
    refine sl_callV Tryd.call29 hS hK (by decide) (wtt hb_30) rfl rfl (ref01_OfInt.calls a0 h_32 _) fun a w hS hK => ?_
    refine parK_nil hS ?_
    refine sp (k := 5) rfl hK (by decide) (wtt hb_30) rfl (fun w hS => r_seq (by kernel_rfl) (eqs24 y_3 y_31) hK rfl rfl) fun a hK => ?_
    refine sp (k := 6) rfl hK (by decide) rfl rfl (fun w hS => r_pick_t hb_30 hK rfl rfl) fun a hK => ?_
    refine sp (k := 7) rfl hK (by decide) rfl rfl (fun w hS => r_move hK rfl) fun a hK => ?_
    rcases or_b (decide (y_3 = y_31)) with hb_33 | hb_33
    · rw [ifb_t hb_33] at H
      refine sp (k := 8) rfl hK (by decide) (wtt hb_33) rfl (fun w hS => r_loadA (cs := [.int .i64 y_6.Kind, .int .i64 y_6.N, .string y_6.S, .int .i64 y_6.H.a0, .int .i64 y_6.H.a1, .int .i64 y_6.H.a2, .int .i64 y_6.H.a3, .int .i64 y_6.H.a4, .int .i64 y_6.H.a5, .int .i64 y_6.H.a6, .int .i64 y_6.H.a7]) Tryd.isAgg24 Tryd.sizeOf24 rfl hK rfl (hS.cells_of (m := 11) (.tail _ (.head _)) rfl)) fun a hK => ?_
      refine sp (k := 9) rfl hK (by decide) (wtt hb_33) rfl (fun w hS => r_move hK rfl) fun a hK => ?_
      refine spw (k := 10) rfl rfl hS ?_
      obtain ⟨y_34, h_35, H⟩ := bind_some H
      refine sl_callV Tryd.call30 hS hK (by decide) (wtt hb_33) rfl rfl (ref01_OfStr.calls a1 h_35 _) fun a w hS hK => ?_
      refine parK_nil hS ?_
      refine sp (k := 11) rfl hK (by decide) (wtt hb_33) rfl (fun w hS => r_seq (by kernel_rfl) (eqs24 y_6 y_34) hK rfl rfl) fun a hK => ?_
      refine sp (k := 12) rfl hK (by decide) rfl rfl (fun w hS => r_pick_t hb_33 hK rfl rfl) fun a hK => ?_
      refine sp (k := 13) rfl hK (by decide) rfl rfl (fun w hS => r_move hK rfl) fun a hK => ?_
      rcases or_b (decide (y_6 = y_34)) with hb_36 | hb_36
      · rw [ifb_t hb_36] at H
        refine sp (k := 14) rfl hK (by decide) (wtt hb_36) rfl (fun w hS => r_loadA (cs := [.int .i64 y_9.Kind, .int .i64 y_9.N, .string y_9.S, .int .i64 y_9.H.a0, .int .i64 y_9.H.a1, .int .i64 y_9.H.a2, .int .i64 y_9.H.a3, .int .i64 y_9.H.a4, .int .i64 y_9.H.a5, .int .i64 y_9.H.a6, .int .i64 y_9.H.a7]) Tryd.isAgg24 Tryd.sizeOf24 rfl hK rfl (hS.cells_of (m := 11) (.head _) rfl)) fun a hK => ?_
        refine sp (k := 15) rfl hK (by decide) (wtt hb_36) rfl (fun w hS => r_move hK rfl) fun a hK => ?_
        refine spw (k := 16) rfl rfl hS ?_
        obtain ⟨y_37, h_38, H⟩ := bind_some H
        refine sl_callV Tryd.call31 hS hK (by decide) (wtt hb_36) rfl rfl (ref01_OfBool.calls a2 h_38 _) fun a w hS hK => ?_
        refine parK_nil hS ?_
        refine thenL_nil ?_
        refine sl hK (by decide) (wtt hb_36) rfl (r_seq (by kernel_rfl) (eqs24 y_9 y_37) hK rfl rfl) fun a hK => ?_
        refine sl hK (by decide) rfl rfl (r_pick_t hb_36 hK rfl rfl) fun a hK => ?_
        refine sl hK (by decide) rfl rfl (r_move hK rfl) fun a hK => ?_
        rcases or_b (decide (y_9 = y_37)) with hb_39 | hb_39
        · rw [ifb_t hb_39] at H
          refine sl hK (by decide) (wtt hb_39) rfl (r_loadA (cs := [.int .i64 y_3.Kind, .int .i64 y_3.N, .string y_3.S, .int .i64 y_3.H.a0, .int .i64 y_3.H.a1, .int .i64 y_3.H.a2, .int .i64 y_3.H.a3, .int .i64 y_3.H.a4, .int .i64 y_3.H.a5, .int .i64 y_3.H.a6, .int .i64 y_3.H.a7]) Tryd.isAgg24 Tryd.sizeOf24 rfl hK rfl (hS.cells_of (m := 11) (.tail _ (.tail _ (.head _))) rfl)) fun a hK => ?_
          obtain ⟨y_40, h_41, H⟩ := bind_some H
          refine sl_callV Tryd.call14 hS hK (by decide) (wtt hb_39) rfl rfl (value_Valid.calls y_3 h_41 _) fun a w hS hK => ?_
          refine sl hK (by decide) rfl rfl (r_pick_t hb_39 hK rfl rfl) fun a hK => ?_
          refine sl hK (by decide) rfl rfl (r_move hK rfl) fun a hK => ?_
          rcases or_b y_40 with hb_42 | hb_42
          · rw [ifb_t hb_42] at H
            refine sl hK (by decide) (wtt hb_42) rfl (r_loadA (cs := [.int .i64 y_6.Kind, .int .i64 y_6.N, .string y_6.S, .int .i64 y_6.H.a0, .int .i64 y_6.H.a1, .int .i64 y_6.H.a2, .int .i64 y_6.H.a3, .int .i64 y_6.H.a4, .int .i64 y_6.H.a5, .int .i64 y_6.H.a6, .int .i64 y_6.H.a7]) Tryd.isAgg24 Tryd.sizeOf24 rfl hK rfl (hS.cells_of (m := 11) (.tail _ (.head _)) rfl)) fun a hK => ?_
            obtain ⟨y_43, h_44, H⟩ := bind_some H
            refine sl_callV Tryd.call14 hS hK (by decide) (wtt hb_42) rfl rfl (value_Valid.calls y_6 h_44 _) fun a w hS hK => ?_
            refine sl hK (by decide) rfl rfl (r_pick_t hb_42 hK rfl rfl) fun a hK => ?_
            refine sl hK (by decide) rfl rfl (r_move hK rfl) fun a hK => ?_
            rcases or_b y_43 with hb_45 | hb_45
            · rw [ifb_t hb_45] at H
              refine sl hK (by decide) (wtt hb_45) rfl (r_loadA (cs := [.int .i64 y_9.Kind, .int .i64 y_9.N, .string y_9.S, .int .i64 y_9.H.a0, .int .i64 y_9.H.a1, .int .i64 y_9.H.a2, .int .i64 y_9.H.a3, .int .i64 y_9.H.a4, .int .i64 y_9.H.a5, .int .i64 y_9.H.a6, .int .i64 y_9.H.a7]) Tryd.isAgg24 Tryd.sizeOf24 rfl hK rfl (hS.cells_of (m := 11) (.head _) rfl)) fun a hK => ?_
              obtain ⟨y_46, h_47, H⟩ := bind_some H
              refine sl_callV Tryd.call14 hS hK (by decide) (wtt hb_45) rfl rfl (value_Valid.calls y_9 h_47 _) fun a w hS hK => ?_
              refine sl hK (by decide) rfl rfl (r_pick_t hb_45 hK rfl rfl) fun a hK => ?_
              refine sl hK (by decide) rfl rfl (r_assign hK rfl) fun a hK => ?_
              refine wpList_nil (NoP_nil ?_)
              have hr_ := Option.some.inj H
              refine wp_ret ?_
              repeat (first | refine ret_then ?_ | refine ret_block ?_ | refine ret_scope ?_)
              exact ret_1 Tryd.results9 hK (rv_tmp hK rfl) ⟨congrArg (fun b => Ending.returned (Value.bool b)) hr_, hS.bel⟩
            · rw [ifb_f hb_45] at H
              refine sl_skip hK (by decide) (wtf hb_45) rfl fun a hK => ?_
              refine sl_skip hK (by decide) (wtf hb_45) rfl fun a hK => ?_
              refine sl hK (by decide) rfl rfl (r_pick_f hb_45 hK rfl rfl) fun a hK => ?_
              refine sl hK (by decide) rfl rfl (r_assign hK rfl) fun a hK => ?_
              refine wpList_nil (NoP_nil ?_)
              exact absurd (Option.some.inj H) (by decide)
          · rw [ifb_f hb_42] at H
            refine sl_skip hK (by decide) (wtf hb_42) rfl fun a hK => ?_
            refine sl_skip hK (by decide) (wtf hb_42) rfl fun a hK => ?_
            refine sl hK (by decide) rfl rfl (r_pick_f hb_42 hK rfl rfl) fun a hK => ?_
            refine sl hK (by decide) rfl rfl (r_move hK rfl) fun a hK => ?_
            refine sl_skip hK (by decide) rfl rfl fun a hK => ?_
            refine sl_skip hK (by decide) rfl rfl fun a hK => ?_
            refine sl hK (by decide) rfl rfl (r_pick hK rfl rfl rfl) fun a hK => ?_
            refine sl hK (by decide) rfl rfl (r_assign hK rfl) fun a hK => ?_
            refine wpList_nil (NoP_nil ?_)
            exact absurd (Option.some.inj H) (by decide)
        · rw [ifb_f hb_39] at H
          refine sl_skip hK (by decide) (wtf hb_39) rfl fun a hK => ?_
          refine sl_skip hK (by decide) (wtf hb_39) rfl fun a hK => ?_
          refine sl hK (by decide) rfl rfl (r_pick_f hb_39 hK rfl rfl) fun a hK => ?_
          refine sl hK (by decide) rfl rfl (r_move hK rfl) fun a hK => ?_
          refine sl_skip hK (by decide) rfl rfl fun a hK => ?_
          refine sl_skip hK (by decide) rfl rfl fun a hK => ?_
          refine sl hK (by decide) rfl rfl (r_pick hK rfl rfl rfl) fun a hK => ?_
          refine sl hK (by decide) rfl rfl (r_move hK rfl) fun a hK => ?_
          refine sl_skip hK (by decide) rfl rfl fun a hK => ?_
          refine sl_skip hK (by decide) rfl rfl fun a hK => ?_
          refine sl hK (by decide) rfl rfl (r_pick hK rfl rfl rfl) fun a hK => ?_
          refine sl hK (by decide) rfl rfl (r_assign hK rfl) fun a hK => ?_
          refine wpList_nil (NoP_nil ?_)
          exact absurd (Option.some.inj H) (by decide)
      · rw [ifb_f hb_36] at H
        refine sp_skip (k := 14) rfl hK (by decide) (wtf hb_36) rfl fun a hK => ?_
        refine sp_skip (k := 15) rfl hK (by decide) (wtf hb_36) rfl fun a hK => ?_
        refine spw (k := 16) rfl rfl hS ?_
        refine sl_skip hK (by decide) (wtf hb_36) rfl fun a hK => ?_
        refine parK_nil hS ?_
        refine thenL_nil ?_
        refine sl_skip hK (by decide) (wtf hb_36) rfl fun a hK => ?_
        refine sl hK (by decide) rfl rfl (r_pick_f hb_36 hK rfl rfl) fun a hK => ?_
        refine sl hK (by decide) rfl rfl (r_move hK rfl) fun a hK => ?_
        refine sl_skip hK (by decide) rfl rfl fun a hK => ?_
        refine sl_skip hK (by decide) rfl rfl fun a hK => ?_
        refine sl hK (by decide) rfl rfl (r_pick hK rfl rfl rfl) fun a hK => ?_
        refine sl hK (by decide) rfl rfl (r_move hK rfl) fun a hK => ?_
        refine sl_skip hK (by decide) rfl rfl fun a hK => ?_
        refine sl_skip hK (by decide) rfl rfl fun a hK => ?_
        refine sl hK (by decide) rfl rfl (r_pick hK rfl rfl rfl) fun a hK => ?_
        refine sl hK (by decide) rfl rfl (r_move hK rfl) fun a hK => ?_
        refine sl_skip hK (by decide) rfl rfl fun a hK => ?_
        refine sl_skip hK (by decide) rfl rfl fun a hK => ?_
        refine sl hK (by decide) rfl rfl (r_pick hK rfl rfl rfl) fun a hK => ?_
        refine sl hK (by decide) rfl rfl (r_assign hK rfl) fun a hK => ?_
        refine wpList_nil (NoP_nil ?_)
        exact absurd (Option.some.inj H) (by decide)
    · rw [ifb_f hb_33] at H
      refine sp_skip (k := 8) rfl hK (by decide) (wtf hb_33) rfl fun a hK => ?_
      refine sp_skip (k := 9) rfl hK (by decide) (wtf hb_33) rfl fun a hK => ?_
      refine spw (k := 10) rfl rfl hS ?_
      refine sl_skip hK (by decide) (wtf hb_33) rfl fun a hK => ?_
      refine parK_nil hS ?_
      refine sp_skip (k := 11) rfl hK (by decide) (wtf hb_33) rfl fun a hK => ?_
      refine sp (k := 12) rfl hK (by decide) rfl rfl (fun w hS => r_pick_f hb_33 hK rfl rfl) fun a hK => ?_
      refine sp (k := 13) rfl hK (by decide) rfl rfl (fun w hS => r_move hK rfl) fun a hK => ?_
      refine sp_skip (k := 14) rfl hK (by decide) rfl rfl fun a hK => ?_
      refine sp_skip (k := 15) rfl hK (by decide) rfl rfl fun a hK => ?_
      refine spw (k := 16) rfl rfl hS ?_
      refine sl_skip hK (by decide) rfl rfl fun a hK => ?_
      refine parK_nil hS ?_
      refine thenL_nil ?_
      refine sl_skip hK (by decide) rfl rfl fun a hK => ?_
      refine sl hK (by decide) rfl rfl (r_pick hK rfl rfl rfl) fun a hK => ?_
      refine sl hK (by decide) rfl rfl (r_move hK rfl) fun a hK => ?_
      refine sl_skip hK (by decide) rfl rfl fun a hK => ?_
      refine sl_skip hK (by decide) rfl rfl fun a hK => ?_
      refine sl hK (by decide) rfl rfl (r_pick hK rfl rfl rfl) fun a hK => ?_
      refine sl hK (by decide) rfl rfl (r_move hK rfl) fun a hK => ?_
      refine sl_skip hK (by decide) rfl rfl fun a hK => ?_
      refine sl_skip hK (by decide) rfl rfl fun a hK => ?_
      refine sl hK (by decide) rfl rfl (r_pick hK rfl rfl rfl) fun a hK => ?_
      refine sl hK (by decide) rfl rfl (r_move hK rfl) fun a hK => ?_
      refine sl_skip hK (by decide) rfl rfl fun a hK => ?_
      refine sl_skip hK (by decide) rfl rfl fun a hK => ?_
      refine sl hK (by decide) rfl rfl (r_pick hK rfl rfl rfl) fun a hK => ?_
      refine sl hK (by decide) rfl rfl (r_assign hK rfl) fun a hK => ?_
      refine wpList_nil (NoP_nil ?_)
      exact absurd (Option.some.inj H) (by decide)
  · rw [ifb_f hb_30] at H
    refine sp_skip (k := 2) rfl hK (by decide) (wtf hb_30) rfl fun a hK => ?_
    refine sp_skip (k := 3) rfl hK (by decide) (wtf hb_30) rfl fun a hK => ?_
    refine spw (k := 4) rfl rfl hS ?_
    refine sl_skip hK (by decide) (wtf hb_30) rfl fun a hK => ?_
    refine parK_nil hS ?_
    refine sp_skip (k := 5) rfl hK (by decide) (wtf hb_30) rfl fun a hK => ?_
    refine sp (k := 6) rfl hK (by decide) rfl rfl (fun w hS => r_pick_f hb_30 hK rfl rfl) fun a hK => ?_
    refine sp (k := 7) rfl hK (by decide) rfl rfl (fun w hS => r_move hK rfl) fun a hK => ?_
    refine sp_skip (k := 8) rfl hK (by decide) rfl rfl fun a hK => ?_
    refine sp_skip (k := 9) rfl hK (by decide) rfl rfl fun a hK => ?_
    refine spw (k := 10) rfl rfl hS ?_
    refine sl_skip hK (by decide) rfl rfl fun a hK => ?_
    refine parK_nil hS ?_
    refine sp_skip (k := 11) rfl hK (by decide) rfl rfl fun a hK => ?_
    refine sp (k := 12) rfl hK (by decide) rfl rfl (fun w hS => r_pick hK rfl rfl rfl) fun a hK => ?_
    refine sp (k := 13) rfl hK (by decide) rfl rfl (fun w hS => r_move hK rfl) fun a hK => ?_
    refine sp_skip (k := 14) rfl hK (by decide) rfl rfl fun a hK => ?_
    refine sp_skip (k := 15) rfl hK (by decide) rfl rfl fun a hK => ?_
    refine spw (k := 16) rfl rfl hS ?_
    refine sl_skip hK (by decide) rfl rfl fun a hK => ?_
    refine parK_nil hS ?_
    refine thenL_nil ?_
    refine sl_skip hK (by decide) rfl rfl fun a hK => ?_
    refine sl hK (by decide) rfl rfl (r_pick hK rfl rfl rfl) fun a hK => ?_
    refine sl hK (by decide) rfl rfl (r_move hK rfl) fun a hK => ?_
    refine sl_skip hK (by decide) rfl rfl fun a hK => ?_
    refine sl_skip hK (by decide) rfl rfl fun a hK => ?_
    refine sl hK (by decide) rfl rfl (r_pick hK rfl rfl rfl) fun a hK => ?_
    refine sl hK (by decide) rfl rfl (r_move hK rfl) fun a hK => ?_
    refine sl_skip hK (by decide) rfl rfl fun a hK => ?_
    refine sl_skip hK (by decide) rfl rfl fun a hK => ?_
    refine sl hK (by decide) rfl rfl (r_pick hK rfl rfl rfl) fun a hK => ?_
    refine sl hK (by decide) rfl rfl (r_move hK rfl) fun a hK => ?_
    refine sl_skip hK (by decide) rfl rfl fun a hK => ?_
    refine sl_skip hK (by decide) rfl rfl fun a hK => ?_
    refine sl hK (by decide) rfl rfl (r_pick hK rfl rfl rfl) fun a hK => ?_
    refine sl hK (by decide) rfl rfl (r_assign hK rfl) fun a hK => ?_
    refine wpList_nil (NoP_nil ?_)
    exact absurd (Option.some.inj H) (by decide)

end Go.Proofs.YtmohocmmelaeaaaDoor.M
