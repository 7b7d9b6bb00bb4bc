/- Each Go function of the laws answers as its plain Lean function tells, wherever that tells something. Printed by wip/eng/gen.py. -/
import Derived.Test.YtjimddbbpjpgdaaWalk3
namespace Go.Proofs.Ytjimddbbpjpgdaa.M
open Go Go.Eng Go.Proofs Go.RowKit
set_option linter.unusedVariables false
set_option linter.unusedSimpArgs false

/-! ### catchment/pred.Holds$1: function 65 -/
set_option maxHeartbeats 4000000 in
set_option maxRecDepth 100000 in
theorem pred_Holds_1_cp_cp.calls (a0 : api_Node) (a1 : List api_Col) (a2 : List api_Value) {w0 : World} {RA : Hp} {v0_0 : Value} {v0_1 : Value} {v0_2 : Value} {b1 : Nat} {o1 : Nat} {v1_0 : Value} {b2 : Nat} {o2 : Nat} {v2_0 : Value} (hRA : RA.sub w0) (h0_0 : SlR (tyInt .i64) RA v0_0 a0.L) (h0_1 : SlR tyStr RA v0_1 a0.Names) (h0_2 : SlR ty_api_Agg RA v0_2 a0.Aggs) (hc1 : ∀ j u, ([v1_0] : List Value)[j]? = some u → RA.cell b1 (o1 + j) = some u) (h1_0 : SlR ty_api_Col RA v1_0 a1) (hc2 : ∀ j u, ([v2_0] : List Value)[j]? = some u → RA.cell b2 (o2 + j) = some u) (h2_0 : SlR ty_api_Value RA v2_0 a2) {r : api_Value × Bool} (H : pred_Holds_1_cp_cp a0 a1 a2 = some r) : CallsV Try.prog 65 #[.agg #[.int .i64 a0.Kind, .string a0.S, .int .i64 a0.N, .int .i64 a0.From, .int .i64 a0.To, .int .i64 a0.V.Kind, .int .i64 a0.V.N, .string a0.V.S, .int .i64 a0.V.H.a0, .int .i64 a0.V.H.a1, .int .i64 a0.V.H.a2, .int .i64 a0.V.H.a3, .int .i64 a0.V.H.a4, .int .i64 a0.V.H.a5, .int .i64 a0.V.H.a6, .int .i64 a0.V.H.a7, v0_0, v0_1, v0_2], .pointer (some ⟨b1, o1, none⟩), .pointer (some ⟨b2, o2, none⟩)] w0 (.tuple #[.agg #[.int .i64 r.1.Kind, .int .i64 r.1.N, .string r.1.S, .int .i64 r.1.H.a0, .int .i64 r.1.H.a1, .int .i64 r.1.H.a2, .int .i64 r.1.H.a3, .int .i64 r.1.H.a4, .int .i64 r.1.H.a5, .int .i64 r.1.H.a6, .int .i64 r.1.H.a7], .bool r.2]) := by
  unfold pred_Holds_1_cp_cp at H
  refine enter (args := [.agg #[.int .i64 a0.Kind, .string a0.S, .int .i64 a0.N, .int .i64 a0.From, .int .i64 a0.To, .int .i64 a0.V.Kind, .int .i64 a0.V.N, .string a0.V.S, .int .i64 a0.V.H.a0, .int .i64 a0.V.H.a1, .int .i64 a0.V.H.a2, .int .i64 a0.V.H.a3, .int .i64 a0.V.H.a4, .int .i64 a0.V.H.a5, .int .i64 a0.V.H.a6, .int .i64 a0.V.H.a7, v0_0, v0_1, v0_2], .pointer (some ⟨b1, o1, none⟩), .pointer (some ⟨b2, o2, none⟩)]) Try.func65 rfl Try.ntmps65 rfl fun a hK => ?_
  have hS := St.init (R := fun _ => none) (w := w0) (fun _ _ h => by cases h)
  have hRL := RLe.refl (M := []) w0 (fun _ => none)
  refine wp_seq ?_
  refine wp_region_lit ?_
  refine sl_box hS hK (by decide) rfl rfl (c := [.int .i64 a0.Kind, .string a0.S, .int .i64 a0.N, .int .i64 a0.From, .int .i64 a0.To, .int .i64 a0.V.Kind, .int .i64 a0.V.N, .string a0.V.S, .int .i64 a0.V.H.a0, .int .i64 a0.V.H.a1, .int .i64 a0.V.H.a2, .int .i64 a0.V.H.a3, .int .i64 a0.V.H.a4, .int .i64 a0.V.H.a5, .int .i64 a0.V.H.a6, .int .i64 a0.V.H.a7, v0_0, v0_1, v0_2]) rfl fun a w b_1 hS hK => ?_
  refine sl_alloc Try.zeroValue43 hS hK (by decide) rfl rfl fun a w b_2 hS hK => ?_
  refine sl hK (by decide) rfl rfl (r_assign hK rfl) fun a hK => ?_
  refine wpList_nil ?_
  refine wp_seq ?_
  refine wp_region_lit ?_
  refine sl hK (by decide) rfl rfl (r_load Try.isAgg22 hK rfl ((hS.ra hRA nil_not).cell (hc1 0 _ rfl))) fun a hK => ?_
  refine sl hK (by decide) rfl rfl (r_fieldAddr Try.underlying85 rfl Try.sizeOf9 hK rfl) fun a hK => ?_
  refine sl hK (by decide) rfl rfl (r_load Try.isAgg9 hK rfl (hS.cell (.tail _ (.head _)) rfl)) fun a hK => ?_
  obtain ⟨y_3, h_4, H⟩ := bind_some H
  refine sl_callV Try.call32 hS hK (by decide) rfl rfl rfl (table_Find.calls a1 a0.S (lentOf_sub [] _) (h1_0.mono (hS.raLe0 hRA nil_not)) h_4) fun a w hS hK => ?_
  refine sl hK (by decide) rfl rfl (r_assign hK rfl) fun a hK => ?_
  refine wpList_nil ?_
  refine wp_seq ?_
  refine wp_seq ?_
  refine wp_mid (fun a w => ∃ (x_6 : Bool), pred_Holds_1_cp_cp.j0 a2 y_3 x_6 = some r ∧ Kn 24 a [(2, .pointer (some ⟨b2, o2, none⟩)), (4, .pointer (some ⟨b_2, 0, none⟩)), (6, .int .i64 y_3), (18, .bool x_6)] ∧ St [] w0 w (fun _ => none) [.cells b_2 [.int .i64 0, .int .i64 0, .string (⟨#[]⟩ : ByteArray), .int .i64 0, .int .i64 0, .int .i64 0, .int .i64 0, .int .i64 0, .int .i64 0, .int .i64 0, .int .i64 0] 43]) ?_ ?_
  · refine wp_region_lit ?_
    refine sl hK (by decide) rfl rfl (r_move hK rfl) fun a hK => ?_
    refine sl hK (by decide) rfl rfl (r_ibin hK rfl rfl rfl) fun a hK => ?_
    refine sl hK (by decide) rfl rfl (r_move hK rfl) fun a hK => ?_
    rcases or_b (decide (y_3 < 0)) with hb_8 | hb_8
    · rw [ifb_t hb_8] at H
      refine sl_skip hK (by decide) (wft hb_8) rfl fun a hK => ?_
      refine sl_skip hK (by decide) (wft hb_8) rfl fun a hK => ?_
      refine sl_skip hK (by decide) (wft hb_8) rfl fun a hK => ?_
      refine sl_skip hK (by decide) (wft hb_8) rfl fun a hK => ?_
      refine sl hK (by decide) rfl rfl (r_pick_t hb_8 hK rfl rfl) fun a hK => ?_
      refine wpList_nil ?_
      exact ⟨true, H, hK.sub (all_cons rfl (all_cons rfl (all_cons rfl (all_cons rfl (all_nil))))), hS.trunc 1⟩
    · rw [ifb_f hb_8] at H
      refine sl hK (by decide) (wff hb_8) rfl (r_move hK rfl) fun a hK => ?_
      refine sl hK (by decide) (wff hb_8) rfl (r_load Try.isAgg44 hK rfl ((hS.ra hRA nil_not).cell (hc2 0 _ rfl))) fun a hK => ?_
      refine sl hK (by decide) (wff hb_8) rfl (r_len_R Try.underlying44 h2_0 hK rfl) fun a hK => ?_
      refine sl hK (by decide) (wff hb_8) rfl (r_ibin hK rfl rfl rfl) fun a hK => ?_
      refine sl hK (by decide) rfl rfl (r_pick_f hb_8 hK rfl rfl) fun a hK => ?_
      refine wpList_nil ?_
      exact ⟨(decide (y_3 ≥ (a2.length : Int))), H, hK.sub (all_cons rfl (all_cons rfl (all_cons rfl (all_cons rfl (all_nil))))), hS.trunc 1⟩
  · rintro a w ⟨x_6, H, hK, hS⟩
    unfold pred_Holds_1_cp_cp.j0 at H
    refine wp_cond_split (hK.ev rfl) (fun (hb_9 : x_6 = true) => ?_) (fun (hb_9 : x_6 = false) => ?_)
    · rw [ifb_t hb_9] at H
      refine wp_seq ?_
      refine wp_region_lit ?_
      refine sl hK (by decide) rfl rfl (r_buildC (ps := []) (c := [.int .i64 0, .int .i64 0, .string (⟨#[]⟩ : ByteArray), .int .i64 0, .int .i64 0, .int .i64 0, .int .i64 0, .int .i64 0, .int .i64 0, .int .i64 0, .int .i64 0]) Try.underlying43 Try.zeroValue43 places43 hK rfl pc_nil rfl rfl) fun a hK => ?_
      refine sl_storeA (vs := [.int .i64 0, .int .i64 0, .string (⟨#[]⟩ : ByteArray), .int .i64 0, .int .i64 0, .int .i64 0, .int .i64 0, .int .i64 0, .int .i64 0, .int .i64 0, .int .i64 0]) (c' := [.int .i64 0, .int .i64 0, .string (⟨#[]⟩ : ByteArray), .int .i64 0, .int .i64 0, .int .i64 0, .int .i64 0, .int .i64 0, .int .i64 0, .int .i64 0, .int .i64 0]) Try.sizeOf43 hS hK rfl rfl rfl rfl (all_cons rfl (all_cons rfl (all_cons rfl (all_cons rfl (all_cons rfl (all_cons rfl (all_cons rfl (all_cons rfl (all_cons rfl (all_cons rfl (all_cons rfl (all_nil)))))))))))) (Nat.le_of_ble_eq_true rfl) rfl fun a w hS hK => ?_
      refine sl hK (by decide) rfl rfl (r_assign hK rfl) fun a hK => ?_
      refine wpList_nil ?_
      obtain rfl := Option.some.inj H
      refine wp_ret ?_
      repeat (first | refine ret_then ?_ | refine ret_block ?_ | refine ret_scope ?_)
      exact ret_2 Try.results65 hK (rv_cell (c := [.int .i64 0, .int .i64 0, .string (⟨#[]⟩ : ByteArray), .int .i64 0, .int .i64 0, .int .i64 0, .int .i64 0, .int .i64 0, .int .i64 0, .int .i64 0, .int .i64 0]) Try.isAgg43 Try.sizeOf43 hS (.head _) rfl hK rfl) (rv_tmp hK rfl) ⟨rfl, hS.bel⟩
    · rw [ifb_f hb_9] at H
      refine wp_skip ?_
      refine wp_seq ?_
      refine wp_region_lit ?_
      refine sl hK (by decide) rfl rfl (r_load Try.isAgg44 hK rfl ((hS.ra hRA nil_not).cell (hc2 0 _ rfl))) fun a hK => ?_
      refine sl hK (by decide) rfl rfl (r_move hK rfl) fun a hK => ?_
      obtain ⟨y_10, h_11, H⟩ := bind_some H
      obtain ⟨b_12, o_13, c_14, cs_15, hv_16, hr_17, hc_18, h_110, h_111⟩ := h2_0.ix h_11
      subst hr_17
      refine sl hK (by decide) rfl rfl (r_indexAddr_R Try.underlying44 Try.sizeOf43 hv_16 h_110 h_111 hK rfl rfl) fun a hK => ?_
      refine sl hK (by decide) rfl rfl (r_loadA (cs := [.int .i64 y_10.Kind, .int .i64 y_10.N, .string y_10.S, .int .i64 y_10.H.a0, .int .i64 y_10.H.a1, .int .i64 y_10.H.a2, .int .i64 y_10.H.a3, .int .i64 y_10.H.a4, .int .i64 y_10.H.a5, .int .i64 y_10.H.a6, .int .i64 y_10.H.a7]) Try.isAgg43 Try.sizeOf43 rfl hK rfl (fun j v hv => (hS.ra hRA nil_not).cell (hc_18 j v hv))) fun a hK => ?_
      refine sl_storeA (vs := [.int .i64 y_10.Kind, .int .i64 y_10.N, .string y_10.S, .int .i64 y_10.H.a0, .int .i64 y_10.H.a1, .int .i64 y_10.H.a2, .int .i64 y_10.H.a3, .int .i64 y_10.H.a4, .int .i64 y_10.H.a5, .int .i64 y_10.H.a6, .int .i64 y_10.H.a7]) (c' := [.int .i64 y_10.Kind, .int .i64 y_10.N, .string y_10.S, .int .i64 y_10.H.a0, .int .i64 y_10.H.a1, .int .i64 y_10.H.a2, .int .i64 y_10.H.a3, .int .i64 y_10.H.a4, .int .i64 y_10.H.a5, .int .i64 y_10.H.a6, .int .i64 y_10.H.a7]) Try.sizeOf43 hS hK rfl rfl rfl rfl (all_cons rfl (all_cons rfl (all_cons rfl (all_cons rfl (all_cons rfl (all_cons rfl (all_cons rfl (all_cons rfl (all_cons rfl (all_cons rfl (all_cons rfl (all_nil)))))))))))) (Nat.le_of_ble_eq_true rfl) rfl fun a w hS hK => ?_
      refine sl hK (by decide) rfl rfl (r_assign hK rfl) fun a hK => ?_
      refine wpList_nil ?_
      obtain rfl := Option.some.inj H
      refine wp_ret ?_
      repeat (first | refine ret_then ?_ | refine ret_block ?_ | refine ret_scope ?_)
      exact ret_2 Try.results65 hK (rv_cell (c := [.int .i64 y_10.Kind, .int .i64 y_10.N, .string y_10.S, .int .i64 y_10.H.a0, .int .i64 y_10.H.a1, .int .i64 y_10.H.a2, .int .i64 y_10.H.a3, .int .i64 y_10.H.a4, .int .i64 y_10.H.a5, .int .i64 y_10.H.a6, .int .i64 y_10.H.a7]) Try.isAgg43 Try.sizeOf43 hS (.head _) rfl hK rfl) (rv_tmp hK rfl) ⟨rfl, hS.bel⟩

/-! ### catchment/value.Holds: function 69 -/
set_option maxHeartbeats 4000000 in
set_option maxRecDepth 100000 in
theorem value_Holds.calls (a0 : Int) (a1 : api_Value) (a2 : api_Value) {r : Bool} (H : value_Holds a0 a1 a2 = some r) (w0 : World) : CallsV Try.prog 69 #[.int .i64 a0, .agg #[.int .i64 a1.Kind, .int .i64 a1.N, .string a1.S, .int .i64 a1.H.a0, .int .i64 a1.H.a1, .int .i64 a1.H.a2, .int .i64 a1.H.a3, .int .i64 a1.H.a4, .int .i64 a1.H.a5, .int .i64 a1.H.a6, .int .i64 a1.H.a7], .agg #[.int .i64 a2.Kind, .int .i64 a2.N, .string a2.S, .int .i64 a2.H.a0, .int .i64 a2.H.a1, .int .i64 a2.H.a2, .int .i64 a2.H.a3, .int .i64 a2.H.a4, .int .i64 a2.H.a5, .int .i64 a2.H.a6, .int .i64 a2.H.a7]] w0 (.bool r) := by
  unfold value_Holds at H
  refine enter (args := [.int .i64 a0, .agg #[.int .i64 a1.Kind, .int .i64 a1.N, .string a1.S, .int .i64 a1.H.a0, .int .i64 a1.H.a1, .int .i64 a1.H.a2, .int .i64 a1.H.a3, .int .i64 a1.H.a4, .int .i64 a1.H.a5, .int .i64 a1.H.a6, .int .i64 a1.H.a7], .agg #[.int .i64 a2.Kind, .int .i64 a2.N, .string a2.S, .int .i64 a2.H.a0, .int .i64 a2.H.a1, .int .i64 a2.H.a2, .int .i64 a2.H.a3, .int .i64 a2.H.a4, .int .i64 a2.H.a5, .int .i64 a2.H.a6, .int .i64 a2.H.a7]]) Try.func69 rfl Try.ntmps69 rfl fun a hK => ?_
  have hS := St.init (R := fun _ => none) (w := w0) (fun _ _ h => by cases h)
  have hRL := RLe.refl (M := []) w0 (fun _ => none)
  refine wp_seq ?_
  refine wp_region_lit ?_
  refine sl_box hS hK (by decide) rfl rfl (c := [.int .i64 a1.Kind, .int .i64 a1.N, .string a1.S, .int .i64 a1.H.a0, .int .i64 a1.H.a1, .int .i64 a1.H.a2, .int .i64 a1.H.a3, .int .i64 a1.H.a4, .int .i64 a1.H.a5, .int .i64 a1.H.a6, .int .i64 a1.H.a7]) rfl fun a w b_1 hS hK => ?_
  refine sl_box hS hK (by decide) rfl rfl (c := [.int .i64 a2.Kind, .int .i64 a2.N, .string a2.S, .int .i64 a2.H.a0, .int .i64 a2.H.a1, .int .i64 a2.H.a2, .int .i64 a2.H.a3, .int .i64 a2.H.a4, .int .i64 a2.H.a5, .int .i64 a2.H.a6, .int .i64 a2.H.a7]) rfl fun a w b_2 hS hK => ?_
  refine sl hK (by decide) rfl rfl (r_assign hK rfl) fun a hK => ?_
  refine wpList_nil ?_
  refine wp_seq ?_
  refine wp_region_lit ?_
  refine sl hK (by decide) rfl rfl (r_loadA (cs := [.int .i64 a1.Kind, .int .i64 a1.N, .string a1.S, .int .i64 a1.H.a0, .int .i64 a1.H.a1, .int .i64 a1.H.a2, .int .i64 a1.H.a3, .int .i64 a1.H.a4, .int .i64 a1.H.a5, .int .i64 a1.H.a6, .int .i64 a1.H.a7]) Try.isAgg43 Try.sizeOf43 rfl hK rfl (hS.cells_of (m := 11) (.tail _ (.head _)) rfl)) fun a hK => ?_
  refine sl hK (by decide) rfl rfl (r_loadA (cs := [.int .i64 a2.Kind, .int .i64 a2.N, .string a2.S, .int .i64 a2.H.a0, .int .i64 a2.H.a1, .int .i64 a2.H.a2, .int .i64 a2.H.a3, .int .i64 a2.H.a4, .int .i64 a2.H.a5, .int .i64 a2.H.a6, .int .i64 a2.H.a7]) Try.isAgg43 Try.sizeOf43 rfl hK rfl (hS.cells_of (m := 11) (.head _) rfl)) fun a hK => ?_
  obtain ⟨y_3, h_4, H⟩ := bind_some H
  refine sl_callV Try.call35 hS hK (by decide) rfl rfl rfl (value_Compare.calls a1 a2 h_4 _) fun a w hS hK => ?_
  refine sl hK (by decide) rfl rfl (r_assign hK rfl) fun a hK => ?_
  refine wpList_nil ?_
  refine wp_seq ?_
  refine wp_seq ?_
  refine wp_region_lit ?_
  refine sl hK (by decide) rfl rfl (r_fieldAddr Try.underlying43 rfl Try.sizeOf3 hK rfl) fun a hK => ?_
  refine sl hK (by decide) rfl rfl (r_load Try.isAgg3 hK rfl (hS.cell (.tail _ (.head _)) rfl)) fun a hK => ?_
  refine sl hK (by decide) rfl rfl (r_fieldAddr Try.underlying43 rfl Try.sizeOf3 hK rfl) fun a hK => ?_
  refine sl hK (by decide) rfl rfl (r_load Try.isAgg3 hK rfl (hS.cell (.head _) rfl)) fun a hK => ?_
  refine sl hK (by decide) rfl rfl (r_ibin hK rfl rfl rfl) fun a hK => ?_
  refine wpList_nil ?_
  refine wp_cond_split (hK.ev rfl) (fun (hb_5 : (a1.Kind != a2.Kind) = true) => ?_) (fun (hb_5 : (a1.Kind != a2.Kind) = false) => ?_)
  · rw [ifb_t hb_5] at H
    refine wp_seq ?_
    refine wp_region_lit ?_
    refine sl hK (by decide) rfl rfl (r_assign hK rfl) fun a hK => ?_
    refine wpList_nil ?_
    obtain rfl := Option.some.inj H
    refine wp_ret ?_
    repeat (first | refine ret_then ?_ | refine ret_block ?_ | refine ret_scope ?_)
    exact ret_1 Try.results69 hK (rv_tmp hK rfl) ⟨rfl, hS.bel⟩
  · rw [ifb_f hb_5] at H
    refine wp_skip ?_
    refine wp_seq ?_
    refine wp_seq ?_
    refine wp_region_lit ?_
    refine sl hK (by decide) rfl rfl (r_move hK rfl) fun a hK => ?_
    refine wpList_nil ?_
    refine wp_block ?_
    refine wp_seq ?_
    refine wp_region_lit ?_
    refine sl hK (by decide) rfl rfl (r_ibin hK rfl rfl rfl) fun a hK => ?_
    refine sl hK (by decide) rfl rfl (r_assign hK rfl) fun a hK => ?_
    refine wpList_nil ?_
    refine wp_cond_split (hK.ev rfl) (fun (hb_6 : (a0 == 1) = true) => ?_) (fun (hb_6 : (a0 == 1) = false) => ?_)
    · rw [ifb_t hb_6] at H
      refine wp_seq ?_
      refine wp_region_lit ?_
      refine sl hK (by decide) rfl rfl (r_move hK rfl) fun a hK => ?_
      refine sl hK (by decide) rfl rfl (r_ibin hK rfl rfl rfl) fun a hK => ?_
      refine sl hK (by decide) rfl rfl (r_assign hK rfl) fun a hK => ?_
      refine wpList_nil ?_
      obtain rfl := Option.some.inj H
      refine wp_ret ?_
      repeat (first | refine ret_then ?_ | refine ret_block ?_ | refine ret_scope ?_)
      exact ret_1 Try.results69 hK (rv_tmp hK rfl) ⟨rfl, hS.bel⟩
    · rw [ifb_f hb_6] at H
      refine wp_seq ?_
      refine wp_region_lit ?_
      refine sl hK (by decide) rfl rfl (r_ibin hK rfl rfl rfl) fun a hK => ?_
      refine sl hK (by decide) rfl rfl (r_assign hK rfl) fun a hK => ?_
      refine wpList_nil ?_
      refine wp_cond_split (hK.ev rfl) (fun (hb_7 : (a0 == 2) = true) => ?_) (fun (hb_7 : (a0 == 2) = false) => ?_)
      · rw [ifb_t hb_7] at H
        refine wp_seq ?_
        refine wp_region_lit ?_
        refine sl hK (by decide) rfl rfl (r_move hK rfl) fun a hK => ?_
        refine sl hK (by decide) rfl rfl (r_ibin hK rfl rfl rfl) fun a hK => ?_
        refine sl hK (by decide) rfl rfl (r_assign hK rfl) fun a hK => ?_
        refine wpList_nil ?_
        obtain rfl := Option.some.inj H
        refine wp_ret ?_
        repeat (first | refine ret_then ?_ | refine ret_block ?_ | refine ret_scope ?_)
        exact ret_1 Try.results69 hK (rv_tmp hK rfl) ⟨rfl, hS.bel⟩
      · rw [ifb_f hb_7] at H
        refine wp_seq ?_
        refine wp_region_lit ?_
        refine sl hK (by decide) rfl rfl (r_ibin hK rfl rfl rfl) fun a hK => ?_
        refine sl hK (by decide) rfl rfl (r_assign hK rfl) fun a hK => ?_
        refine wpList_nil ?_
        refine wp_cond_split (hK.ev rfl) (fun (hb_8 : (a0 == 3) = true) => ?_) (fun (hb_8 : (a0 == 3) = false) => ?_)
        · rw [ifb_t hb_8] at H
          refine wp_seq ?_
          refine wp_region_lit ?_
          refine sl hK (by decide) rfl rfl (r_move hK rfl) fun a hK => ?_
          refine sl hK (by decide) rfl rfl (r_ibin hK rfl rfl rfl) fun a hK => ?_
          refine sl hK (by decide) rfl rfl (r_assign hK rfl) fun a hK => ?_
          refine wpList_nil ?_
          obtain rfl := Option.some.inj H
          refine wp_ret ?_
          repeat (first | refine ret_then ?_ | refine ret_block ?_ | refine ret_scope ?_)
          exact ret_1 Try.results69 hK (rv_tmp hK rfl) ⟨rfl, hS.bel⟩
        · rw [ifb_f hb_8] at H
          refine wp_seq ?_
          refine wp_region_lit ?_
          refine sl hK (by decide) rfl rfl (r_ibin hK rfl rfl rfl) fun a hK => ?_
          refine sl hK (by decide) rfl rfl (r_assign hK rfl) fun a hK => ?_
          refine wpList_nil ?_
          refine wp_cond_split (hK.ev rfl) (fun (hb_9 : (a0 == 4) = true) => ?_) (fun (hb_9 : (a0 == 4) = false) => ?_)
          · rw [ifb_t hb_9] at H
            refine wp_seq ?_
            refine wp_region_lit ?_
            refine sl hK (by decide) rfl rfl (r_move hK rfl) fun a hK => ?_
            refine sl hK (by decide) rfl rfl (r_ibin hK rfl rfl rfl) fun a hK => ?_
            refine sl hK (by decide) rfl rfl (r_assign hK rfl) fun a hK => ?_
            refine wpList_nil ?_
            obtain rfl := Option.some.inj H
            refine wp_ret ?_
            repeat (first | refine ret_then ?_ | refine ret_block ?_ | refine ret_scope ?_)
            exact ret_1 Try.results69 hK (rv_tmp hK rfl) ⟨rfl, hS.bel⟩
          · rw [ifb_f hb_9] at H
            refine wp_seq ?_
            refine wp_region_lit ?_
            refine sl hK (by decide) rfl rfl (r_ibin hK rfl rfl rfl) fun a hK => ?_
            refine sl hK (by decide) rfl rfl (r_assign hK rfl) fun a hK => ?_
            refine wpList_nil ?_
            refine wp_cond_split (hK.ev rfl) (fun (hb_10 : (a0 == 5) = true) => ?_) (fun (hb_10 : (a0 == 5) = false) => ?_)
            · rw [ifb_t hb_10] at H
              refine wp_seq ?_
              refine wp_region_lit ?_
              refine sl hK (by decide) rfl rfl (r_move hK rfl) fun a hK => ?_
              refine sl hK (by decide) rfl rfl (r_ibin hK rfl rfl rfl) fun a hK => ?_
              refine sl hK (by decide) rfl rfl (r_assign hK rfl) fun a hK => ?_
              refine wpList_nil ?_
              obtain rfl := Option.some.inj H
              refine wp_ret ?_
              repeat (first | refine ret_then ?_ | refine ret_block ?_ | refine ret_scope ?_)
              exact ret_1 Try.results69 hK (rv_tmp hK rfl) ⟨rfl, hS.bel⟩
            · rw [ifb_f hb_10] at H
              refine wp_seq ?_
              refine wp_region_lit ?_
              refine sl hK (by decide) rfl rfl (r_ibin hK rfl rfl rfl) fun a hK => ?_
              refine sl hK (by decide) rfl rfl (r_assign hK rfl) fun a hK => ?_
              refine wpList_nil ?_
              refine wp_cond_split (hK.ev rfl) (fun (hb_11 : (a0 == 6) = true) => ?_) (fun (hb_11 : (a0 == 6) = false) => ?_)
              · rw [ifb_t hb_11] at H
                refine wp_seq ?_
                refine wp_region_lit ?_
                refine sl hK (by decide) rfl rfl (r_move hK rfl) fun a hK => ?_
                refine sl hK (by decide) rfl rfl (r_ibin hK rfl rfl rfl) fun a hK => ?_
                refine sl hK (by decide) rfl rfl (r_assign hK rfl) fun a hK => ?_
                refine wpList_nil ?_
                obtain rfl := Option.some.inj H
                refine wp_ret ?_
                repeat (first | refine ret_then ?_ | refine ret_block ?_ | refine ret_scope ?_)
                exact ret_1 Try.results69 hK (rv_tmp hK rfl) ⟨rfl, hS.bel⟩
              · rw [ifb_f hb_11] at H
                refine wp_skip ?_
                refine wp_seq ?_
                refine wp_region_lit ?_
                refine sl hK (by decide) rfl rfl (r_assign hK rfl) fun a hK => ?_
                refine wpList_nil ?_
                obtain rfl := Option.some.inj H
                refine wp_ret ?_
                repeat (first | refine ret_then ?_ | refine ret_block ?_ | refine ret_scope ?_)
                exact ret_1 Try.results69 hK (rv_tmp hK rfl) ⟨rfl, hS.bel⟩

/-! ### strings.Contains: function 70 -/
set_option maxHeartbeats 4000000 in
set_option maxRecDepth 100000 in
theorem strings_Contains.calls (a0 : ByteArray) (a1 : ByteArray) {w0 : World} {RA : Hp} (hRA : RA.sub w0) (hG : GF RA) {r : Bool} (H : strings_Contains a0 a1 = some r) : CallsV Try.prog 70 #[.string a0, .string a1] w0 (.bool r) := by
  unfold strings_Contains at H
  split at H
  · rename_i hs
    obtain rfl := Option.some.inj H
    obtain ⟨gm, hgm⟩ := GF_maxlen hG hRA
    exact (Any.strings_Contains conL70 a0 a1 gm w0 hs hgm).mono fun e w' ⟨he, hw⟩ => ⟨he, by rw [hw]; exact Bel.refl _ _⟩
  · cases H

/-! ### catchment/pred.Holds$2$1: function 68 -/
set_option maxHeartbeats 4000000 in
set_option maxRecDepth 100000 in
theorem pred_Holds_2_1_cp.calls (a0 : Int) (a1 : Int) {w0 : World} {RA : Hp} {b1 : Nat} {o1 : Nat} (hRA : RA.sub w0) (hc1 : ∀ j u, ([.int .i64 a1] : List Value)[j]? = some u → RA.cell b1 (o1 + j) = some u) {r : Bool} (H : pred_Holds_2_1_cp a0 a1 = some r) : CallsV Try.prog 68 #[.int .i64 a0, .pointer (some ⟨b1, o1, none⟩)] w0 (.bool r) := by
  unfold pred_Holds_2_1_cp at H
  refine enter (args := [.int .i64 a0, .pointer (some ⟨b1, o1, none⟩)]) Try.func68 rfl Try.ntmps68 rfl fun a hK => ?_
  have hS := St.init (R := fun _ => none) (w := w0) (fun _ _ h => by cases h)
  have hRL := RLe.refl (M := []) w0 (fun _ => none)
  refine wp_seq ?_
  refine wp_region_lit ?_
  refine sl hK (by decide) rfl rfl (r_assign hK rfl) fun a hK => ?_
  refine wpList_nil ?_
  refine wp_seq ?_
  refine wp_region_lit ?_
  refine sl hK (by decide) rfl rfl (r_move hK rfl) fun a hK => ?_
  refine sl hK (by decide) rfl rfl (r_ibin hK rfl rfl rfl) fun a hK => ?_
  refine sl hK (by decide) rfl rfl (r_move hK rfl) fun a hK => ?_
  rcases or_b (decide (a0 < 0)) with hb_1 | hb_1
  · rw [ifb_t hb_1] at H
    refine sl_skip hK (by decide) (wft hb_1) rfl fun a hK => ?_
    refine sl_skip hK (by decide) (wft hb_1) rfl fun a hK => ?_
    refine sl_skip hK (by decide) (wft hb_1) rfl fun a hK => ?_
    refine sl hK (by decide) rfl rfl (r_pick_t hb_1 hK rfl rfl) fun a hK => ?_
    refine sl hK (by decide) rfl rfl (r_assign hK rfl) fun a hK => ?_
    refine wpList_nil ?_
    obtain rfl := Option.some.inj H
    refine wp_ret ?_
    repeat (first | refine ret_then ?_ | refine ret_block ?_ | refine ret_scope ?_)
    exact ret_1 Try.results68 hK (rv_tmp hK rfl) ⟨rfl, hS.bel⟩
  · rw [ifb_f hb_1] at H
    refine sl hK (by decide) (wff hb_1) rfl (r_move hK rfl) fun a hK => ?_
    refine sl hK (by decide) (wff hb_1) rfl (r_load Try.isAgg3 hK rfl ((hS.ra hRA nil_not).cell (hc1 0 _ rfl))) fun a hK => ?_
    refine sl hK (by decide) (wff hb_1) rfl (r_ibin hK rfl rfl rfl) fun a hK => ?_
    refine sl hK (by decide) rfl rfl (r_pick_f hb_1 hK rfl rfl) fun a hK => ?_
    refine sl hK (by decide) rfl rfl (r_assign hK rfl) fun a hK => ?_
    refine wpList_nil ?_
    obtain rfl := Option.some.inj H
    refine wp_ret ?_
    repeat (first | refine ret_then ?_ | refine ret_block ?_ | refine ret_scope ?_)
    exact ret_1 Try.results68 hK (rv_tmp hK rfl) ⟨rfl, hS.bel⟩

/-! ### slices.IndexFunc[[]int,int]: function 84 -/
set_option maxHeartbeats 4000000 in
set_option maxRecDepth 100000 in
theorem slices_IndexFunc_int_int_f_pred_Holds_2_1p.calls (a0 : List Int) (a1_0 : Int) {w0 : World} {RA : Hp} {v0_0 : Value} {b1q0 : Nat} {o1q0 : Nat} (hRA : RA.sub w0) (h0_0 : SlR (tyInt .i64) RA v0_0 a0) (hc1q0 : ∀ j u, ([.int .i64 a1_0] : List Value)[j]? = some u → RA.cell b1q0 (o1q0 + j) = some u) {r : Int} (H : slices_IndexFunc_int_int_f_pred_Holds_2_1p a0 a1_0 = some r) : CallsV Try.prog 84 #[v0_0, .func (.func 68) #[] #[.pointer (some ⟨b1q0, o1q0, none⟩)]] w0 (.int .i64 r) := by
  unfold slices_IndexFunc_int_int_f_pred_Holds_2_1p at H
  refine enter (args := [v0_0, .func (.func 68) #[] #[.pointer (some ⟨b1q0, o1q0, none⟩)]]) Try.func84 rfl Try.ntmps84 rfl fun a hK => ?_
  have hS := St.init (R := fun _ => none) (w := w0) (fun _ _ h => by cases h)
  have hRL := RLe.refl (M := []) w0 (fun _ => none)
  refine wp_seq ?_
  refine wp_region_lit ?_
  refine sl hK (by decide) rfl rfl (r_assign hK rfl) fun a hK => ?_
  refine wpList_nil ?_
  refine wp_seq ?_
  refine wp_seq ?_
  refine wp_region_lit ?_
  refine sl hK (by decide) rfl rfl (r_move hK rfl) fun a hK => ?_
  refine sl hK (by decide) rfl rfl (r_len_R Try.underlying47 h0_0 hK rfl) fun a hK => ?_
  refine sl hK (by decide) rfl rfl (r_move hK rfl) fun a hK => ?_
  refine wpList_nil ?_
  refine wp_block ?_
  refine wp_loop_k (fun k_l0 a w => ∃ (x_15 : Int), slices_IndexFunc_int_int_f_pred_Holds_2_1p.l0 a0 a1_0 k_l0 x_15 = some r ∧ Kn 19 a [(0, v0_0), (1, .func (.func 68) #[] #[.pointer (some ⟨b1q0, o1q0, none⟩)]), (7, .int .i64 (a0.length : Int)), (8, .int .i64 x_15)] ∧ St [] w0 w (fun _ => none) []) (((a0.length : Int) - 0).toNat + 1) ?_ ?_
  · exact ⟨0, H, hK.sub (all_cons rfl (all_cons rfl (all_cons rfl (all_cons rfl (all_nil))))), hS⟩
  · rintro k_l0 a w ⟨x_15, H, hK, hS⟩
    cases k_l0 with
    | zero => cases H
    | succ k_l0 =>
    rw [slices_IndexFunc_int_int_f_pred_Holds_2_1p.l0.eq_2] at H
    refine wp_seq ?_
    refine wp_region_lit ?_
    refine sl hK (by decide) rfl rfl (r_ibin hK rfl rfl rfl) fun a hK => ?_
    refine wpList_nil ?_
    refine wp_seq ?_
    refine wp_cond_split (hK.ev rfl) (fun (hb_30 : (decide (x_15 < (a0.length : Int))) = true) => ?_) (fun (hb_30 : (decide (x_15 < (a0.length : Int))) = false) => ?_)
    · rw [ifb_t hb_30] at H
      refine wp_skip ?_
      refine wp_seq ?_
      refine wp_block ?_
      refine wp_seq ?_
      refine wp_region_lit ?_
      refine sl hK (by decide) rfl rfl (r_move hK rfl) fun a hK => ?_
      refine sl hK (by decide) rfl rfl (r_assign hK rfl) fun a hK => ?_
      refine wpList_nil ?_
      refine wp_seq ?_
      refine wp_region_lit ?_
      refine sl hK (by decide) rfl rfl (r_move hK rfl) fun a hK => ?_
      refine sl hK (by decide) rfl rfl (r_move hK rfl) fun a hK => ?_
      refine sl hK (by decide) rfl rfl (r_move hK rfl) fun a hK => ?_
      obtain ⟨y_31, h_32, H⟩ := bind_some H
      obtain ⟨b_33, o_34, c_35, cs_36, hv_37, hr_38, hc_39, h_320, h_321⟩ := h0_0.ix h_32
      subst hr_38
      refine sl hK (by decide) rfl rfl (r_indexAddr_R Try.underlying47 Try.sizeOf3 hv_37 h_320 h_321 hK rfl rfl) fun a hK => ?_
      refine sl hK (by decide) rfl rfl (r_load Try.isAgg3 hK rfl ((hS.ra hRA nil_not).cell (hc_39 0 _ rfl))) fun a hK => ?_
      obtain ⟨y_40, h_41, H⟩ := bind_some H
      refine sl_callV Try.call68 hS hK (by decide) rfl rfl rfl (pred_Holds_2_1_cp.calls y_31 a1_0 (lentOf_sub [] _) (fun j u hu => Hp.cell_le (hS.raLe0 hRA nil_not) (hc1q0 j u hu)) h_41) fun a w hS hK => ?_
      refine wpList_nil ?_
      refine wp_cond_split (hK.ev rfl) (fun (hb_42 : y_40 = true) => ?_) (fun (hb_42 : y_40 = false) => ?_)
      · rw [ifb_t hb_42] at H
        refine wp_seq ?_
        refine wp_region_lit ?_
        refine sl hK (by decide) rfl rfl (r_move hK rfl) fun a hK => ?_
        refine sl hK (by decide) rfl rfl (r_assign hK rfl) fun a hK => ?_
        refine wpList_nil ?_
        obtain rfl := Option.some.inj H
        refine wp_ret ?_
        repeat (first | refine ret_then ?_ | refine ret_block ?_ | refine ret_scope ?_)
        exact ret_1 Try.results84 hK (rv_tmp hK rfl) ⟨rfl, hS.bel⟩
      · rw [ifb_f hb_42] at H
        refine wp_skip ?_
        refine wp_region_lit ?_
        refine sl hK (by decide) rfl rfl (r_ibin hK rfl rfl rfl) fun a hK => ?_
        refine sl hK (by decide) rfl rfl (r_move hK rfl) fun a hK => ?_
        refine wpList_nil ?_
        exact ⟨_, Nat.lt_succ_self _, (IntKind.i64.wrap (x_15 + 1)), H, hK.sub (all_cons rfl (all_cons rfl (all_cons rfl (all_cons rfl (all_nil))))), hS⟩
    · rw [ifb_f hb_30] at H
      refine wp_exit ?_
      refine wp_seq ?_
      refine wp_region_lit ?_
      refine sl hK (by decide) rfl rfl (r_assign hK rfl) fun a hK => ?_
      refine wpList_nil ?_
      obtain rfl := Option.some.inj H
      refine wp_ret ?_
      repeat (first | refine ret_then ?_ | refine ret_block ?_ | refine ret_scope ?_)
      exact ret_1 Try.results84 hK (rv_tmp hK rfl) ⟨rfl, hS.bel⟩

/-! ### slices.ContainsFunc[[]int,int]: function 67 -/
set_option maxHeartbeats 4000000 in
set_option maxRecDepth 100000 in
theorem slices_ContainsFunc_int_int_f_pred_Holds_2_1p.calls (a0 : List Int) (a1_0 : Int) {w0 : World} {RA : Hp} {v0_0 : Value} {b1q0 : Nat} {o1q0 : Nat} (hRA : RA.sub w0) (h0_0 : SlR (tyInt .i64) RA v0_0 a0) (hc1q0 : ∀ j u, ([.int .i64 a1_0] : List Value)[j]? = some u → RA.cell b1q0 (o1q0 + j) = some u) {r : Bool} (H : slices_ContainsFunc_int_int_f_pred_Holds_2_1p a0 a1_0 = some r) : CallsV Try.prog 67 #[v0_0, .func (.func 68) #[] #[.pointer (some ⟨b1q0, o1q0, none⟩)]] w0 (.bool r) := by
  unfold slices_ContainsFunc_int_int_f_pred_Holds_2_1p at H
  refine enter (args := [v0_0, .func (.func 68) #[] #[.pointer (some ⟨b1q0, o1q0, none⟩)]]) Try.func67 rfl Try.ntmps67 rfl fun a hK => ?_
  have hS := St.init (R := fun _ => none) (w := w0) (fun _ _ h => by cases h)
  have hRL := RLe.refl (M := []) w0 (fun _ => none)
  refine wp_seq ?_
  refine wp_region_lit ?_
  refine sl hK (by decide) rfl rfl (r_assign hK rfl) fun a hK => ?_
  refine wpList_nil ?_
  refine wp_seq ?_
  refine wp_region_lit ?_
  refine sl hK (by decide) rfl rfl (r_move hK rfl) fun a hK => ?_
  refine sl hK (by decide) rfl rfl (r_move hK rfl) fun a hK => ?_
  obtain ⟨y_1, h_2, H⟩ := bind_some H
  refine sl_callV Try.call84 hS hK (by decide) rfl rfl rfl (slices_IndexFunc_int_int_f_pred_Holds_2_1p.calls a0 a1_0 (lentOf_sub [] _) (h0_0.mono (hS.raLe0 hRA nil_not)) (fun j u hu => Hp.cell_le (hS.raLe0 hRA nil_not) (hc1q0 j u hu)) h_2) fun a w hS hK => ?_
  refine sl hK (by decide) rfl rfl (r_ibin hK rfl rfl rfl) fun a hK => ?_
  refine sl hK (by decide) rfl rfl (r_assign hK rfl) fun a hK => ?_
  refine wpList_nil ?_
  obtain rfl := Option.some.inj H
  refine wp_ret ?_
  repeat (first | refine ret_then ?_ | refine ret_block ?_ | refine ret_scope ?_)
  exact ret_1 Try.results67 hK (rv_tmp hK rfl) ⟨rfl, hS.bel⟩

/-! ### catchment/pred.Holds$2: function 66 -/
set_option maxHeartbeats 4000000 in
set_option maxRecDepth 100000 in
theorem pred_Holds_2_cp_cp.calls (a0 : Int) (a1 : api_Node) (a2 : Int) {w0 : World} {RA : Hp} {b1 : Nat} {o1 : Nat} {v1_0 : Value} {v1_1 : Value} {v1_2 : Value} {b2 : Nat} {o2 : Nat} (hRA : RA.sub w0) (hc1 : ∀ j u, ([.int .i64 a1.Kind, .string a1.S, .int .i64 a1.N, .int .i64 a1.From, .int .i64 a1.To, .int .i64 a1.V.Kind, .int .i64 a1.V.N, .string a1.V.S, .int .i64 a1.V.H.a0, .int .i64 a1.V.H.a1, .int .i64 a1.V.H.a2, .int .i64 a1.V.H.a3, .int .i64 a1.V.H.a4, .int .i64 a1.V.H.a5, .int .i64 a1.V.H.a6, .int .i64 a1.V.H.a7, v1_0, v1_1, v1_2] : List Value)[j]? = some u → RA.cell b1 (o1 + j) = some u) (h1_0 : SlR (tyInt .i64) RA v1_0 a1.L) (h1_1 : SlR tyStr RA v1_1 a1.Names) (h1_2 : SlR ty_api_Agg RA v1_2 a1.Aggs) (hc2 : ∀ j u, ([.int .i64 a2] : List Value)[j]? = some u → RA.cell b2 (o2 + j) = some u) {r : Bool} (H : pred_Holds_2_cp_cp a0 a1 a2 = some r) : CallsV Try.prog 66 #[.int .i64 a0, .pointer (some ⟨b1, o1, none⟩), .pointer (some ⟨b2, o2, none⟩)] w0 (.bool r) := by
  unfold pred_Holds_2_cp_cp at H
  refine enter (args := [.int .i64 a0, .pointer (some ⟨b1, o1, none⟩), .pointer (some ⟨b2, o2, none⟩)]) Try.func66 rfl Try.ntmps66 rfl fun a hK => ?_
  have hS := St.init (R := fun _ => none) (w := w0) (fun _ _ h => by cases h)
  have hRL := RLe.refl (M := []) w0 (fun _ => none)
  refine wp_seq ?_
  refine wp_region_lit ?_
  refine sl hK (by decide) rfl rfl (r_assign hK rfl) fun a hK => ?_
  refine wpList_nil ?_
  refine wp_seq ?_
  refine wp_region_lit ?_
  refine sl hK (by decide) rfl rfl (r_fieldAddr Try.underlying85 rfl Try.sizeOf47 hK rfl) fun a hK => ?_
  refine sl hK (by decide) rfl rfl (r_load Try.isAgg47 hK rfl ((hS.ra hRA nil_not).cell (hc1 16 _ rfl))) fun a hK => ?_
  refine sl hK (by decide) rfl rfl (r_len_R Try.underlying47 h1_0 hK rfl) fun a hK => ?_
  refine sl hK (by decide) rfl rfl (r_move hK rfl) fun a hK => ?_
  refine sl hK (by decide) rfl rfl (r_ibin hK rfl rfl rfl) fun a hK => ?_
  refine sl hK (by decide) rfl rfl (r_move hK rfl) fun a hK => ?_
  rcases or_b ((a1.L.length : Int) == a0) with hb_1 | hb_1
  · rw [ifb_t hb_1] at H
    refine sl hK (by decide) (wtt hb_1) rfl (r_fieldAddr Try.underlying85 rfl Try.sizeOf47 hK rfl) fun a hK => ?_
    refine sl hK (by decide) (wtt hb_1) rfl (r_load Try.isAgg47 hK rfl ((hS.ra hRA nil_not).cell (hc1 16 _ rfl))) fun a hK => ?_
    refine sl hK (by decide) (wtt hb_1) rfl (r_func (us := []) (vs := [.pointer (some ⟨b2, o2, none⟩)]) rfl (hK.evs rfl)) fun a hK => ?_
    obtain ⟨y_2, h_3, H⟩ := bind_some H
    refine sl_callV Try.call67 hS hK (by decide) (wtt hb_1) rfl rfl (slices_ContainsFunc_int_int_f_pred_Holds_2_1p.calls a1.L a2 (lentOf_sub [] _) (h1_0.mono (hS.raLe0 hRA nil_not)) (fun j u hu => Hp.cell_le (hS.raLe0 hRA nil_not) (hc2 j u hu)) h_3) fun a w hS hK => ?_
    refine sl hK (by decide) (wtt hb_1) rfl (r_un hK rfl (u_not _)) fun a hK => ?_
    refine sl hK (by decide) rfl rfl (r_pick_t hb_1 hK rfl rfl) fun a hK => ?_
    refine sl hK (by decide) rfl rfl (r_assign hK rfl) fun a hK => ?_
    refine wpList_nil ?_
    obtain rfl := Option.some.inj H
    refine wp_ret ?_
    repeat (first | refine ret_then ?_ | refine ret_block ?_ | refine ret_scope ?_)
    exact ret_1 Try.results66 hK (rv_tmp hK rfl) ⟨rfl, hS.bel⟩
  · rw [ifb_f hb_1] at H
    refine sl_skip hK (by decide) (wtf hb_1) rfl fun a hK => ?_
    refine sl_skip hK (by decide) (wtf hb_1) rfl fun a hK => ?_
    refine sl_skip hK (by decide) (wtf hb_1) rfl fun a hK => ?_
    refine sl_skip hK (by decide) (wtf hb_1) rfl fun a hK => ?_
    refine sl_skip hK (by decide) (wtf hb_1) rfl fun a hK => ?_
    refine sl hK (by decide) rfl rfl (r_pick_f hb_1 hK rfl rfl) fun a hK => ?_
    refine sl hK (by decide) rfl rfl (r_assign hK rfl) fun a hK => ?_
    refine wpList_nil ?_
    obtain rfl := Option.some.inj H
    refine wp_ret ?_
    repeat (first | refine ret_then ?_ | refine ret_block ?_ | refine ret_scope ?_)
    exact ret_1 Try.results66 hK (rv_tmp hK rfl) ⟨rfl, hS.bel⟩

/-! ### catchment/pred.Holds: function 55 -/
set_option maxHeartbeats 4000000 in
set_option maxRecDepth 100000 in
theorem pred_Holds.calls (a0 : api_Query) (a1 : Int) (a2 : List api_Col) (a3 : List api_Value) {w0 : World} {RA : Hp} {v0_0 : Value} {v2_0 : Value} {v3_0 : Value} (hRA : RA.sub w0) (h0_0 : SlR ty_api_Node RA v0_0 a0.N) (h2_0 : SlR ty_api_Col RA v2_0 a2) (h3_0 : SlR ty_api_Value RA v3_0 a3) (hG : GF RA) {r : Bool} (H : pred_Holds a0 a1 a2 a3 = some r) : CallsV Try.prog 55 #[.agg #[v0_0], .int .i64 a1, v2_0, v3_0] w0 (.bool r) := by
  unfold pred_Holds at H
  refine enter (args := [.agg #[v0_0], .int .i64 a1, v2_0, v3_0]) Try.func55 rfl Try.ntmps55 rfl fun a hK => ?_
  have hS := St.init (R := fun _ => none) (w := w0) (fun _ _ h => by cases h)
  have hRL := RLe.refl (M := []) w0 (fun _ => none)
  refine wp_seq ?_
  refine wp_region_lit ?_
  refine sl_box hS hK (by decide) rfl rfl (c := [v0_0]) rfl fun a w b_1 hS hK => ?_
  refine sl_box hS hK (by decide) rfl rfl (c := [v2_0]) (cellsA h2_0.one) fun a w b_2 hS hK => ?_
  refine sl_box hS hK (by decide) rfl rfl (c := [v3_0]) (cellsA h3_0.one) fun a w b_3 hS hK => ?_
  refine sl hK (by decide) rfl rfl (r_assign hK rfl) fun a hK => ?_
  refine wpList_nil ?_
  refine wp_seq ?_
  refine wp_seq ?_
  refine wp_mid (fun a w => ∃ (x_5 : Bool), pred_Holds.j0 a0 a1 a2 a3 x_5 = some r ∧ Kn 162 a [(1, .int .i64 a1), (4, .pointer (some ⟨b_1, 0, none⟩)), (6, .pointer (some ⟨b_2, 0, none⟩)), (7, .pointer (some ⟨b_3, 0, none⟩)), (26, .bool x_5)] ∧ St [] w0 w (fun _ => none) [.cells b_1 [v0_0] 52, .cells b_2 [v2_0] 22, .cells b_3 [v3_0] 44]) ?_ ?_
  · refine wp_region_lit ?_
    refine sl hK (by decide) rfl rfl (r_move hK rfl) fun a hK => ?_
    refine sl hK (by decide) rfl rfl (r_ibin hK rfl rfl rfl) fun a hK => ?_
    refine sl hK (by decide) rfl rfl (r_move hK rfl) fun a hK => ?_
    rcases or_b (decide (a1 < 0)) with hb_7 | hb_7
    · rw [ifb_t hb_7] at H
      refine sl_skip hK (by decide) (wft hb_7) rfl fun a hK => ?_
      refine sl_skip hK (by decide) (wft hb_7) rfl fun a hK => ?_
      refine sl_skip hK (by decide) (wft hb_7) rfl fun a hK => ?_
      refine sl_skip hK (by decide) (wft hb_7) rfl fun a hK => ?_
      refine sl_skip hK (by decide) (wft hb_7) rfl fun a hK => ?_
      refine sl hK (by decide) rfl rfl (r_pick_t hb_7 hK rfl rfl) fun a hK => ?_
      refine wpList_nil ?_
      have hS := hS.pk1
      have hS := hS.pk2
      exact ⟨true, H, hK.sub (all_cons rfl (all_cons rfl (all_cons rfl (all_cons rfl (all_cons rfl (all_nil)))))), hS⟩
    · rw [ifb_f hb_7] at H
      refine sl hK (by decide) (wff hb_7) rfl (r_move hK rfl) fun a hK => ?_
      refine sl hK (by decide) (wff hb_7) rfl (r_fieldAddr Try.underlying52 rfl Try.sizeOf50 hK rfl) fun a hK => ?_
      refine sl hK (by decide) (wff hb_7) rfl (r_load Try.isAgg50 hK rfl (hS.cell (.tail _ (.tail _ (.head _))) rfl)) fun a hK => ?_
      refine sl hK (by decide) (wff hb_7) rfl (r_len_R Try.underlying50 h0_0 hK rfl) fun a hK => ?_
      refine sl hK (by decide) (wff hb_7) rfl (r_ibin hK rfl rfl rfl) fun a hK => ?_
      refine sl hK (by decide) rfl rfl (r_pick_f hb_7 hK rfl rfl) fun a hK => ?_
      refine wpList_nil ?_
      have hS := hS.pk1
      have hS := hS.pk2
      exact ⟨(decide (a1 ≥ (a0.N.length : Int))), H, hK.sub (all_cons rfl (all_cons rfl (all_cons rfl (all_cons rfl (all_cons rfl (all_nil)))))), hS⟩
  · rintro a w ⟨x_5, H, hK, hS⟩
    unfold pred_Holds.j0 at H
    refine wp_cond_split (hK.ev rfl) (fun (hb_8 : x_5 = true) => ?_) (fun (hb_8 : x_5 = false) => ?_)
    · rw [ifb_t hb_8] at H
      refine wp_seq ?_
      refine wp_region_lit ?_
      refine sl hK (by decide) rfl rfl (r_assign hK rfl) fun a hK => ?_
      refine wpList_nil ?_
      obtain rfl := Option.some.inj H
      refine wp_ret ?_
      repeat (first | refine ret_then ?_ | refine ret_block ?_ | refine ret_scope ?_)
      exact ret_1 Try.results55 hK (rv_tmp hK rfl) ⟨rfl, hS.bel⟩
    · rw [ifb_f hb_8] at H
      refine wp_skip ?_
      refine wp_seq ?_
      refine wp_region_lit ?_
      refine sl hK (by decide) rfl rfl (r_move hK rfl) fun a hK => ?_
      refine sl hK (by decide) rfl rfl (r_ibin hK rfl rfl rfl) fun a hK => ?_
      obtain ⟨y_9, h_10, H⟩ := bind_some H
      refine sl_make (ty := tyBool) (c0 := .bool false) (z := false) elT81 (by decide) rfl Try.zeroValue4 rfl rfl h_10 hS hK (by decide) rfl rfl rfl fun a w v_11 cs_12 hq_13 hS hK => ?_
      refine sl hK (by decide) rfl rfl (r_assign hK rfl) fun a hK => ?_
      refine wpList_nil ?_
      refine wp_seq ?_
      refine wp_region_lit ?_
      refine sl hK (by decide) rfl rfl (r_func (us := []) (vs := [.pointer (some ⟨b_2, 0, none⟩), .pointer (some ⟨b_3, 0, none⟩)]) rfl (hK.evs rfl)) fun a hK => ?_
      refine sl hK (by decide) rfl rfl (r_assign hK rfl) fun a hK => ?_
      refine wpList_nil ?_
      refine wp_seq ?_
      refine wp_seq ?_
      refine wp_region_lit ?_
      refine sl hK (by decide) rfl rfl (r_fieldAddr Try.underlying52 rfl Try.sizeOf50 hK rfl) fun a hK => ?_
      refine sl hK (by decide) rfl rfl (r_load Try.isAgg50 hK rfl (hS.cell (.tail _ (.head _)) rfl)) fun a hK => ?_
      refine sl hK (by decide) rfl rfl (r_move hK rfl) fun a hK => ?_
      refine sl hK (by decide) rfl rfl (r_ibin hK rfl rfl rfl) fun a hK => ?_
      obtain ⟨y_15, h_16, H⟩ := bind_some H
      obtain ⟨v_17, hs_18, hr_19⟩ := r_slice_R (x := .tmp 32) (lo := none) (hi := some (.tmp 34)) Try.underlying50 Try.sizeOf85 h0_0 h_16 hK rfl rfl ⟨_, rfl⟩
      refine sl hK (by decide) rfl rfl (hr_19 _ _ _ _ _ _ _ hK) fun a hK => ?_
      refine sl hK (by decide) rfl rfl (r_len_R Try.underlying50 hs_18 hK rfl) fun a hK => ?_
      refine sl hK (by decide) rfl rfl (r_move hK rfl) fun a hK => ?_
      refine wpList_nil ?_
      refine wp_block ?_
      refine wp_loop_k (fun k_l1 a w => ∃ (x_18270 : List Bool) (x_18274 : Int) (v_18271 : Value) (cs_18272 : List Value), pred_Holds.l1 a1 a2 a3 y_15 k_l1 x_18270 x_18274 = some r ∧ Reps tyBool (fun _ => none) cs_18272 x_18270 ∧ Kn 162 a [(1, .int .i64 a1), (9, v_18271), (10, .func (.func 65) #[] #[.pointer (some ⟨b_2, 0, none⟩), .pointer (some ⟨b_3, 0, none⟩)]), (35, v_17), (36, .int .i64 (y_15.length : Int)), (37, .int .i64 x_18274)] ∧ St [] w0 w (fun _ => none) [.row 4 1 v_18271 x_18270.length cs_18272, .cells b_2 [v2_0] 22, .cells b_3 [v3_0] 44]) (((y_15.length : Int) - 0).toNat + 1) ?_ ?_
      · have hS := hS.pk3
        have hS := hS.pk3
        have hS := hS.pk2
        exact ⟨y_9, 0, _, _, H, hq_13, hK.sub (all_cons rfl (all_cons rfl (all_cons rfl (all_cons rfl (all_cons rfl (all_cons rfl (all_nil))))))), hS.trunc 3⟩
      · rintro k_l1 a w ⟨x_18270, x_18274, v_18271, cs_18272, H, hq_18273, hK, hS⟩
        cases k_l1 with
        | zero => cases H
        | succ k_l1 =>
        rw [pred_Holds.l1.eq_2] at H
        refine wp_seq ?_
        refine wp_region_lit ?_
        refine sl hK (by decide) rfl rfl (r_ibin hK rfl rfl rfl) fun a hK => ?_
        refine wpList_nil ?_
        refine wp_seq ?_
        refine wp_cond_split (hK.ev rfl) (fun (hb_36524 : (decide (x_18274 < (y_15.length : Int))) = true) => ?_) (fun (hb_36524 : (decide (x_18274 < (y_15.length : Int))) = false) => ?_)
        · rw [ifb_t hb_36524] at H
          refine wp_skip ?_
          refine wp_seq ?_
          refine wp_block ?_
          refine wp_seq ?_
          refine wp_region_lit ?_
          refine sl hK (by decide) rfl rfl (r_move hK rfl) fun a hK => ?_
          obtain ⟨y_36525, h_36526, H⟩ := bind_some H
          obtain ⟨b_36527, o_36528, c_36529, cs_36530, hv_36531, hr_36532, hc_36533, h_365260, h_365261⟩ := hs_18.ix h_36526
          obtain ⟨v_36534, v_36536, v_36538, rfl, hs_36535, hs_36537, hs_36539⟩ := hr_36532
          refine sl hK (by decide) rfl rfl (r_indexAddr_R Try.underlying50 Try.sizeOf85 hv_36531 h_365260 h_365261 hK rfl rfl) fun a hK => ?_
          refine sl hK (by decide) rfl rfl (r_loadA (cs := [.int .i64 y_36525.Kind, .string y_36525.S, .int .i64 y_36525.N, .int .i64 y_36525.From, .int .i64 y_36525.To, .int .i64 y_36525.V.Kind, .int .i64 y_36525.V.N, .string y_36525.V.S, .int .i64 y_36525.V.H.a0, .int .i64 y_36525.V.H.a1, .int .i64 y_36525.V.H.a2, .int .i64 y_36525.V.H.a3, .int .i64 y_36525.V.H.a4, .int .i64 y_36525.V.H.a5, .int .i64 y_36525.V.H.a6, .int .i64 y_36525.V.H.a7, v_36534, v_36536, v_36538]) Try.isAgg85 Try.sizeOf85 rfl hK rfl (fun j v hv => (hS.ra hRA nil_not).cell (hc_36533 j v hv))) fun a hK => ?_
          refine sl_alloc Try.zeroValue3 hS hK (by decide) rfl rfl fun a w b_36540 hS hK => ?_
          refine sl_alloc Try.zeroValue85 hS hK (by decide) rfl rfl fun a w b_36541 hS hK => ?_
          have hS := hS.pk1
          refine sl_store1 (c' := [.int .i64 x_18274]) Try.sizeOf3 hS hK rfl rfl rfl rfl (Nat.le_of_ble_eq_true rfl) rfl fun a w hS hK => ?_
          have hS := hS.pk1
          refine sl_storeA (vs := [.int .i64 y_36525.Kind, .string y_36525.S, .int .i64 y_36525.N, .int .i64 y_36525.From, .int .i64 y_36525.To, .int .i64 y_36525.V.Kind, .int .i64 y_36525.V.N, .string y_36525.V.S, .int .i64 y_36525.V.H.a0, .int .i64 y_36525.V.H.a1, .int .i64 y_36525.V.H.a2, .int .i64 y_36525.V.H.a3, .int .i64 y_36525.V.H.a4, .int .i64 y_36525.V.H.a5, .int .i64 y_36525.V.H.a6, .int .i64 y_36525.V.H.a7, v_36534, v_36536, v_36538]) (c' := [.int .i64 y_36525.Kind, .string y_36525.S, .int .i64 y_36525.N, .int .i64 y_36525.From, .int .i64 y_36525.To, .int .i64 y_36525.V.Kind, .int .i64 y_36525.V.N, .string y_36525.V.S, .int .i64 y_36525.V.H.a0, .int .i64 y_36525.V.H.a1, .int .i64 y_36525.V.H.a2, .int .i64 y_36525.V.H.a3, .int .i64 y_36525.V.H.a4, .int .i64 y_36525.V.H.a5, .int .i64 y_36525.V.H.a6, .int .i64 y_36525.V.H.a7, v_36534, v_36536, v_36538]) Try.sizeOf85 hS hK rfl rfl rfl rfl (all_cons rfl (all_cons rfl (all_cons rfl (all_cons rfl (all_cons rfl (all_cons rfl (all_cons rfl (all_cons rfl (all_cons rfl (all_cons rfl (all_cons rfl (all_cons rfl (all_cons rfl (all_cons rfl (all_cons rfl (all_cons rfl (all_cons hs_36535.one (all_cons hs_36537.one (all_cons hs_36539.one (all_nil)))))))))))))))))))) (Nat.le_of_ble_eq_true rfl) rfl fun a w hS hK => ?_
          refine wpList_nil ?_
          refine wp_seq ?_
          refine wp_region_lit ?_
          refine sl hK (by decide) rfl rfl (r_func (us := []) (vs := [.pointer (some ⟨b_36541, 0, none⟩), .pointer (some ⟨b_36540, 0, none⟩)]) rfl (hK.evs rfl)) fun a hK => ?_
          refine sl hK (by decide) rfl rfl (r_assign hK rfl) fun a hK => ?_
          refine wpList_nil ?_
          refine wp_seq ?_
          refine wp_region_lit ?_
          refine sl hK (by decide) rfl rfl (r_fieldAddr Try.underlying85 rfl Try.sizeOf3 hK rfl) fun a hK => ?_
          refine sl hK (by decide) rfl rfl (r_load Try.isAgg3 hK rfl (hS.cell (.head _) rfl)) fun a hK => ?_
          refine wpList_nil ?_
          refine wp_block ?_
          refine wp_seq ?_
          refine wp_region_lit ?_
          refine sl hK (by decide) rfl rfl (r_ibin hK rfl rfl rfl) fun a hK => ?_
          refine sl hK (by decide) rfl rfl (r_assign hK rfl) fun a hK => ?_
          refine wpList_nil ?_
          refine wp_mid (fun a w => ∃ (x_45655 : List Bool) (v_45656 : Value) (cs_45657 : List Value), pred_Holds.j2 (pred_Holds.l1 a1 a2 a3 y_15 k_l1) y_15 x_18274 x_45655 = some r ∧ Reps tyBool (fun _ => none) cs_45657 x_45655 ∧ Kn 162 a [(1, .int .i64 a1), (9, v_45656), (10, .func (.func 65) #[] #[.pointer (some ⟨b_2, 0, none⟩), .pointer (some ⟨b_3, 0, none⟩)]), (35, v_17), (36, .int .i64 (y_15.length : Int)), (37, .int .i64 x_18274)] ∧ St [] w0 w (fun _ => none) [.row 4 1 v_45656 x_45655.length cs_45657, .cells b_2 [v2_0] 22, .cells b_3 [v3_0] 44]) ?_ ?_
          · refine wp_cond_split (hK.ev rfl) (fun (hb_45660 : (y_36525.Kind == 14) = true) => ?_) (fun (hb_45660 : (y_36525.Kind == 14) = false) => ?_)
            · rw [ifb_t hb_45660] at H
              refine wp_seq ?_
              refine wp_region_lit ?_
              refine sl hK (by decide) rfl rfl (r_move hK rfl) fun a hK => ?_
              refine sl hK (by decide) rfl rfl (r_loadA (cs := [.int .i64 y_36525.Kind, .string y_36525.S, .int .i64 y_36525.N, .int .i64 y_36525.From, .int .i64 y_36525.To, .int .i64 y_36525.V.Kind, .int .i64 y_36525.V.N, .string y_36525.V.S, .int .i64 y_36525.V.H.a0, .int .i64 y_36525.V.H.a1, .int .i64 y_36525.V.H.a2, .int .i64 y_36525.V.H.a3, .int .i64 y_36525.V.H.a4, .int .i64 y_36525.V.H.a5, .int .i64 y_36525.V.H.a6, .int .i64 y_36525.V.H.a7, v_36534, v_36536, v_36538]) Try.isAgg85 Try.sizeOf85 rfl hK rfl (hS.cells_of (m := 19) (.head _) rfl)) fun a hK => ?_
              obtain ⟨y_45661, h_45662, H⟩ := bind_some H
              refine sl_callV Try.call65 hS hK (by decide) rfl rfl rfl (pred_Holds_1_cp_cp.calls y_36525 a2 a3 (lentOf_sub [] _) (hs_36535.mono (hS.raLe0 hRA nil_not)) (hs_36537.mono (hS.raLe0 hRA nil_not)) (hs_36539.mono (hS.raLe0 hRA nil_not)) (hS.lend_box0 (.tail _ (.tail _ (.tail _ (.head _))))) (h2_0.mono (hS.raLe0 hRA nil_not)) (hS.lend_box0 (.tail _ (.tail _ (.tail _ (.tail _ (.head _)))))) (h3_0.mono (hS.raLe0 hRA nil_not)) h_45662) fun a w hS hK => ?_
              refine sl hK (by decide) rfl rfl (r_move hK rfl) fun a hK => ?_
              refine sl hK (by decide) rfl rfl (r_extract hK rfl rfl) fun a hK => ?_
              refine sl hK (by decide) rfl rfl (r_extract hK rfl rfl) fun a hK => ?_
              refine sl_alloc Try.zeroValue43 hS hK (by decide) rfl rfl fun a w b_45663 hS hK => ?_
              refine sl_storeA (vs := [.int .i64 y_45661.1.Kind, .int .i64 y_45661.1.N, .string y_45661.1.S, .int .i64 y_45661.1.H.a0, .int .i64 y_45661.1.H.a1, .int .i64 y_45661.1.H.a2, .int .i64 y_45661.1.H.a3, .int .i64 y_45661.1.H.a4, .int .i64 y_45661.1.H.a5, .int .i64 y_45661.1.H.a6, .int .i64 y_45661.1.H.a7]) (c' := [.int .i64 y_45661.1.Kind, .int .i64 y_45661.1.N, .string y_45661.1.S, .int .i64 y_45661.1.H.a0, .int .i64 y_45661.1.H.a1, .int .i64 y_45661.1.H.a2, .int .i64 y_45661.1.H.a3, .int .i64 y_45661.1.H.a4, .int .i64 y_45661.1.H.a5, .int .i64 y_45661.1.H.a6, .int .i64 y_45661.1.H.a7]) Try.sizeOf43 hS hK rfl rfl rfl rfl (all_cons rfl (all_cons rfl (all_cons rfl (all_cons rfl (all_cons rfl (all_cons rfl (all_cons rfl (all_cons rfl (all_cons rfl (all_cons rfl (all_cons rfl (all_nil)))))))))))) (Nat.le_of_ble_eq_true rfl) rfl fun a w hS hK => ?_
              refine sl hK (by decide) rfl rfl (r_assign hK rfl) fun a hK => ?_
              refine wpList_nil ?_
              refine wp_mid (fun a w => ∃ (x_45715 : List Bool) (v_45716 : Value) (cs_45717 : List Value), pred_Holds.j3 (pred_Holds.l1 a1 a2 a3 y_15 k_l1) y_15 x_18274 x_45715 = some r ∧ Reps tyBool (fun _ => none) cs_45717 x_45715 ∧ Kn 162 a [(1, .int .i64 a1), (9, v_45716), (10, .func (.func 65) #[] #[.pointer (some ⟨b_2, 0, none⟩), .pointer (some ⟨b_3, 0, none⟩)]), (35, v_17), (36, .int .i64 (y_15.length : Int)), (37, .int .i64 x_18274)] ∧ St [] w0 w (fun _ => none) [.row 4 1 v_45716 x_45715.length cs_45717, .cells b_2 [v2_0] 22, .cells b_3 [v3_0] 44]) ?_ ?_
              · refine parT_region (C := fun w => St [] w0 w (fun _ => none) [.cells b_45663 [.int .i64 y_45661.1.Kind, .int .i64 y_45661.1.N, .string y_45661.1.S, .int .i64 y_45661.1.H.a0, .int .i64 y_45661.1.H.a1, .int .i64 y_45661.1.H.a2, .int .i64 y_45661.1.H.a3, .int .i64 y_45661.1.H.a4, .int .i64 y_45661.1.H.a5, .int .i64 y_45661.1.H.a6, .int .i64 y_45661.1.H.a7] 43, .cells b_36541 [.int .i64 y_36525.Kind, .string y_36525.S, .int .i64 y_36525.N, .int .i64 y_36525.From, .int .i64 y_36525.To, .int .i64 y_36525.V.Kind, .int .i64 y_36525.V.N, .string y_36525.V.S, .int .i64 y_36525.V.H.a0, .int .i64 y_36525.V.H.a1, .int .i64 y_36525.V.H.a2, .int .i64 y_36525.V.H.a3, .int .i64 y_36525.V.H.a4, .int .i64 y_36525.V.H.a5, .int .i64 y_36525.V.H.a6, .int .i64 y_36525.V.H.a7, v_36534, v_36536, v_36538] 85, .cells b_36540 [.int .i64 x_18274] 3, .row 4 1 v_18271 x_18270.length cs_18272, .cells b_2 [v2_0] 22, .cells b_3 [v3_0] 44]) 11 [(0, true), (1, true), (2, true), (3, true), (4, true), (5, true), (6, true), (7, true), (8, true), (9, false), (10, true)] mixed (by kernel_rfl) hS (fun w hS => hS) fun w hS => ?_
                refine sp (k := 0) rfl hK (by decide) rfl rfl (fun w hS => r_move hK rfl) fun a hK => ?_
                refine sp (k := 1) rfl hK (by decide) rfl rfl (fun w hS => r_load Try.isAgg3 hK rfl (hS.cell (.tail _ (.tail _ (.head _))) rfl)) fun a hK => ?_
                refine sp (k := 2) rfl hK (by decide) rfl rfl (fun w hS => r_move hK rfl) fun a hK => ?_
                refine sp (k := 3) rfl hK (by decide) rfl rfl (fun w hS => r_move hK rfl) fun a hK => ?_
                rcases or_b y_45661.2 with hb_45745 | hb_45745
                · rw [ifb_t hb_45745] at H
                  refine sp (k := 4) rfl hK (by decide) (wtt hb_45745) rfl (fun w hS => r_fieldAddr Try.underlying85 rfl Try.sizeOf3 hK rfl) fun a hK => ?_
                  refine sp (k := 5) rfl hK (by decide) (wtt hb_45745) rfl (fun w hS => r_load Try.isAgg3 hK rfl (hS.cell (.tail _ (.head _)) rfl)) fun a hK => ?_
                  refine sp (k := 6) rfl hK (by decide) (wtt hb_45745) rfl (fun w hS => r_loadA (cs := [.int .i64 y_45661.1.Kind, .int .i64 y_45661.1.N, .string y_45661.1.S, .int .i64 y_45661.1.H.a0, .int .i64 y_45661.1.H.a1, .int .i64 y_45661.1.H.a2, .int .i64 y_45661.1.H.a3, .int .i64 y_45661.1.H.a4, .int .i64 y_45661.1.H.a5, .int .i64 y_45661.1.H.a6, .int .i64 y_45661.1.H.a7]) Try.isAgg43 Try.sizeOf43 rfl hK rfl (hS.cells_of (m := 11) (.head _) rfl)) fun a hK => ?_
                  refine sp (k := 7) rfl hK (by decide) (wtt hb_45745) rfl (fun w hS => r_fieldAddr Try.underlying85 rfl Try.sizeOf43 hK rfl) fun a hK => ?_
                  refine sp (k := 8) rfl hK (by decide) (wtt hb_45745) rfl (fun w hS => r_loadA (cs := [.int .i64 y_36525.V.Kind, .int .i64 y_36525.V.N, .string y_36525.V.S, .int .i64 y_36525.V.H.a0, .int .i64 y_36525.V.H.a1, .int .i64 y_36525.V.H.a2, .int .i64 y_36525.V.H.a3, .int .i64 y_36525.V.H.a4, .int .i64 y_36525.V.H.a5, .int .i64 y_36525.V.H.a6, .int .i64 y_36525.V.H.a7]) Try.isAgg43 Try.sizeOf43 rfl hK rfl (hS.cells_of (m := 11) (.tail _ (.head _)) rfl)) fun a hK => ?_
                  refine spw (k := 9) rfl rfl hS ?_
                  obtain ⟨y_45746, h_45747, H⟩ := bind_some H
                  refine sl_callV Try.call69 hS hK (by decide) (wtt hb_45745) rfl rfl (value_Holds.calls y_36525.N y_45661.1 y_36525.V h_45747 _) fun a w hS hK => ?_
                  refine parK_nil hS ?_
                  refine sp (k := 10) rfl hK (by decide) rfl rfl (fun w hS => r_pick_t hb_45745 hK rfl rfl) fun a hK => ?_
                  refine thenL_nil ?_
                  obtain ⟨y_45748, h_45749, H⟩ := bind_some H
                  obtain ⟨b_45751, c_45752, cs_45753, hv_45750, hr_45754, hc_45755, h_457490, h_457491⟩ := hS.row_ix (.tail _ (.tail _ (.tail _ (.head _)))) hq_18273 rfl rfl h_45749
                  subst hr_45754
                  refine sl hK (by decide) rfl rfl (r_indexAddr_R Try.underlying81 Try.sizeOf4 hv_45750 h_457490 h_457491 hK rfl rfl) fun a hK => ?_
                  have hS := hS.pk3
                  refine sl_store_row Try.sizeOf4 hv_45750 h_45749 rfl (show Ty.rep tyBool _ [.bool y_45746] y_45746 from rfl) hq_18273 rfl hS hK rfl rfl rfl rfl fun a w cs_45756 hq_45757 hS hK => ?_
                  refine wpList_nil (NoP_nil ?_)
                  have hS := hS.pk5
                  have hS := hS.pk5
                  have hS := hS.pk2
                  exact ⟨(upd x_18270 x_18274 y_45746), _, _, H, hq_45757, hK.sub (all_cons rfl (all_cons rfl (all_cons rfl (all_cons rfl (all_cons rfl (all_cons rfl (all_nil))))))), hS.trunc 3⟩
                · rw [ifb_f hb_45745] at H
                  refine sp_skip (k := 4) rfl hK (by decide) (wtf hb_45745) rfl fun a hK => ?_
                  refine sp_skip (k := 5) rfl hK (by decide) (wtf hb_45745) rfl fun a hK => ?_
                  refine sp_skip (k := 6) rfl hK (by decide) (wtf hb_45745) rfl fun a hK => ?_
                  refine sp_skip (k := 7) rfl hK (by decide) (wtf hb_45745) rfl fun a hK => ?_
                  refine sp_skip (k := 8) rfl hK (by decide) (wtf hb_45745) rfl fun a hK => ?_
                  refine spw (k := 9) rfl rfl hS ?_
                  refine sl_skip hK (by decide) (wtf hb_45745) rfl fun a hK => ?_
                  refine parK_nil hS ?_
                  refine sp (k := 10) rfl hK (by decide) rfl rfl (fun w hS => r_pick_f hb_45745 hK rfl rfl) fun a hK => ?_
                  refine thenL_nil ?_
                  obtain ⟨y_45759, h_45760, H⟩ := bind_some H
                  obtain ⟨b_45762, c_45763, cs_45764, hv_45761, hr_45765, hc_45766, h_457600, h_457601⟩ := hS.row_ix (.tail _ (.tail _ (.tail _ (.head _)))) hq_18273 rfl rfl h_45760
                  subst hr_45765
                  refine sl hK (by decide) rfl rfl (r_indexAddr_R Try.underlying81 Try.sizeOf4 hv_45761 h_457600 h_457601 hK rfl rfl) fun a hK => ?_
                  have hS := hS.pk3
                  refine sl_store_row Try.sizeOf4 hv_45761 h_45760 rfl (show Ty.rep tyBool _ [.bool false] false from rfl) hq_18273 rfl hS hK rfl rfl rfl rfl fun a w cs_45767 hq_45768 hS hK => ?_
                  refine wpList_nil (NoP_nil ?_)
                  have hS := hS.pk5
                  have hS := hS.pk5
                  have hS := hS.pk2
                  exact ⟨(upd x_18270 x_18274 false), _, _, H, hq_45768, hK.sub (all_cons rfl (all_cons rfl (all_cons rfl (all_cons rfl (all_cons rfl (all_cons rfl (all_nil))))))), hS.trunc 3⟩
              · rintro a w ⟨x_45715, v_45716, cs_45717, H, hq_45718, hK, hS⟩
                unfold pred_Holds.j3 at H
                have hS := hS.pk2
                have hS := hS.pk2
                have hS := hS.pk2
                exact ⟨x_45715, _, _, H, hq_45718, hK.sub (all_cons rfl (all_cons rfl (all_cons rfl (all_cons rfl (all_cons rfl (all_cons rfl (all_nil))))))), hS⟩
            · rw [ifb_f hb_45660] at H
              refine wp_seq ?_
              refine wp_region_lit ?_
              refine sl hK (by decide) rfl rfl (r_ibin hK rfl rfl rfl) fun a hK => ?_
              refine sl hK (by decide) rfl rfl (r_assign hK rfl) fun a hK => ?_
              refine wpList_nil ?_
              refine wp_mid (fun a w => ∃ (x_50269 : List Bool) (v_50270 : Value) (cs_50271 : List Value), pred_Holds.j4 (pred_Holds.l1 a1 a2 a3 y_15 k_l1) y_15 x_18274 x_50269 = some r ∧ Reps tyBool (fun _ => none) cs_50271 x_50269 ∧ Kn 162 a [(1, .int .i64 a1), (9, v_50270), (10, .func (.func 65) #[] #[.pointer (some ⟨b_2, 0, none⟩), .pointer (some ⟨b_3, 0, none⟩)]), (35, v_17), (36, .int .i64 (y_15.length : Int)), (37, .int .i64 x_18274)] ∧ St [] w0 w (fun _ => none) [.row 4 1 v_50270 x_50269.length cs_50271, .cells b_2 [v2_0] 22, .cells b_3 [v3_0] 44]) ?_ ?_
              · refine wp_cond_split (hK.ev rfl) (fun (hb_50274 : (y_36525.Kind == 15) = true) => ?_) (fun (hb_50274 : (y_36525.Kind == 15) = false) => ?_)
                · rw [ifb_t hb_50274] at H
                  refine wp_seq ?_
                  refine wp_region_lit ?_
                  refine sl hK (by decide) rfl rfl (r_move hK rfl) fun a hK => ?_
                  refine sl hK (by decide) rfl rfl (r_loadA (cs := [.int .i64 y_36525.Kind, .string y_36525.S, .int .i64 y_36525.N, .int .i64 y_36525.From, .int .i64 y_36525.To, .int .i64 y_36525.V.Kind, .int .i64 y_36525.V.N, .string y_36525.V.S, .int .i64 y_36525.V.H.a0, .int .i64 y_36525.V.H.a1, .int .i64 y_36525.V.H.a2, .int .i64 y_36525.V.H.a3, .int .i64 y_36525.V.H.a4, .int .i64 y_36525.V.H.a5, .int .i64 y_36525.V.H.a6, .int .i64 y_36525.V.H.a7, v_36534, v_36536, v_36538]) Try.isAgg85 Try.sizeOf85 rfl hK rfl (hS.cells_of (m := 19) (.head _) rfl)) fun a hK => ?_
                  obtain ⟨y_50275, h_50276, H⟩ := bind_some H
                  refine sl_callV Try.call65 hS hK (by decide) rfl rfl rfl (pred_Holds_1_cp_cp.calls y_36525 a2 a3 (lentOf_sub [] _) (hs_36535.mono (hS.raLe0 hRA nil_not)) (hs_36537.mono (hS.raLe0 hRA nil_not)) (hs_36539.mono (hS.raLe0 hRA nil_not)) (hS.lend_box0 (.tail _ (.tail _ (.tail _ (.head _))))) (h2_0.mono (hS.raLe0 hRA nil_not)) (hS.lend_box0 (.tail _ (.tail _ (.tail _ (.tail _ (.head _)))))) (h3_0.mono (hS.raLe0 hRA nil_not)) h_50276) fun a w hS hK => ?_
                  refine sl hK (by decide) rfl rfl (r_move hK rfl) fun a hK => ?_
                  refine sl hK (by decide) rfl rfl (r_extract hK rfl rfl) fun a hK => ?_
                  refine sl hK (by decide) rfl rfl (r_extract hK rfl rfl) fun a hK => ?_
                  refine sl_alloc Try.zeroValue43 hS hK (by decide) rfl rfl fun a w b_50277 hS hK => ?_
                  refine sl_storeA (vs := [.int .i64 y_50275.1.Kind, .int .i64 y_50275.1.N, .string y_50275.1.S, .int .i64 y_50275.1.H.a0, .int .i64 y_50275.1.H.a1, .int .i64 y_50275.1.H.a2, .int .i64 y_50275.1.H.a3, .int .i64 y_50275.1.H.a4, .int .i64 y_50275.1.H.a5, .int .i64 y_50275.1.H.a6, .int .i64 y_50275.1.H.a7]) (c' := [.int .i64 y_50275.1.Kind, .int .i64 y_50275.1.N, .string y_50275.1.S, .int .i64 y_50275.1.H.a0, .int .i64 y_50275.1.H.a1, .int .i64 y_50275.1.H.a2, .int .i64 y_50275.1.H.a3, .int .i64 y_50275.1.H.a4, .int .i64 y_50275.1.H.a5, .int .i64 y_50275.1.H.a6, .int .i64 y_50275.1.H.a7]) Try.sizeOf43 hS hK rfl rfl rfl rfl (all_cons rfl (all_cons rfl (all_cons rfl (all_cons rfl (all_cons rfl (all_cons rfl (all_cons rfl (all_cons rfl (all_cons rfl (all_cons rfl (all_cons rfl (all_nil)))))))))))) (Nat.le_of_ble_eq_true rfl) rfl fun a w hS hK => ?_
                  refine sl hK (by decide) rfl rfl (r_assign hK rfl) fun a hK => ?_
                  refine wpList_nil ?_
                  refine wp_mid (fun a w => ∃ (x_50353 : List Bool) (v_50354 : Value) (cs_50355 : List Value), pred_Holds.j5 (pred_Holds.l1 a1 a2 a3 y_15 k_l1) y_15 x_18274 x_50353 = some r ∧ Reps tyBool (fun _ => none) cs_50355 x_50353 ∧ Kn 162 a [(1, .int .i64 a1), (9, v_50354), (10, .func (.func 65) #[] #[.pointer (some ⟨b_2, 0, none⟩), .pointer (some ⟨b_3, 0, none⟩)]), (35, v_17), (36, .int .i64 (y_15.length : Int)), (37, .int .i64 x_18274)] ∧ St [] w0 w (fun _ => none) [.row 4 1 v_50354 x_50353.length cs_50355, .cells b_2 [v2_0] 22, .cells b_3 [v3_0] 44]) ?_ ?_
                  · refine parT_region (C := fun w => St [] w0 w (fun _ => none) [.cells b_50277 [.int .i64 y_50275.1.Kind, .int .i64 y_50275.1.N, .string y_50275.1.S, .int .i64 y_50275.1.H.a0, .int .i64 y_50275.1.H.a1, .int .i64 y_50275.1.H.a2, .int .i64 y_50275.1.H.a3, .int .i64 y_50275.1.H.a4, .int .i64 y_50275.1.H.a5, .int .i64 y_50275.1.H.a6, .int .i64 y_50275.1.H.a7] 43, .cells b_36541 [.int .i64 y_36525.Kind, .string y_36525.S, .int .i64 y_36525.N, .int .i64 y_36525.From, .int .i64 y_36525.To, .int .i64 y_36525.V.Kind, .int .i64 y_36525.V.N, .string y_36525.V.S, .int .i64 y_36525.V.H.a0, .int .i64 y_36525.V.H.a1, .int .i64 y_36525.V.H.a2, .int .i64 y_36525.V.H.a3, .int .i64 y_36525.V.H.a4, .int .i64 y_36525.V.H.a5, .int .i64 y_36525.V.H.a6, .int .i64 y_36525.V.H.a7, v_36534, v_36536, v_36538] 85, .cells b_36540 [.int .i64 x_18274] 3, .row 4 1 v_18271 x_18270.length cs_18272, .cells b_2 [v2_0] 22, .cells b_3 [v3_0] 44]) 16 [(0, true), (1, true), (2, true), (3, true), (4, true), (5, true), (6, true), (7, true), (8, true), (9, true), (10, true), (11, true), (12, true), (13, true), (14, false), (15, true)] mixed (by kernel_rfl) hS (fun w hS => hS) fun w hS => ?_
                    refine sp (k := 0) rfl hK (by decide) rfl rfl (fun w hS => r_move hK rfl) fun a hK => ?_
                    refine sp (k := 1) rfl hK (by decide) rfl rfl (fun w hS => r_load Try.isAgg3 hK rfl (hS.cell (.tail _ (.tail _ (.head _))) rfl)) fun a hK => ?_
                    refine sp (k := 2) rfl hK (by decide) rfl rfl (fun w hS => r_move hK rfl) fun a hK => ?_
                    refine sp (k := 3) rfl hK (by decide) rfl rfl (fun w hS => r_move hK rfl) fun a hK => ?_
                    rcases or_b y_50275.2 with hb_50395 | hb_50395
                    · rw [ifb_t hb_50395] at H
                      refine sp (k := 4) rfl hK (by decide) (wtt hb_50395) rfl (fun w hS => r_fieldAddr Try.underlying43 rfl Try.sizeOf3 hK rfl) fun a hK => ?_
                      refine sp (k := 5) rfl hK (by decide) (wtt hb_50395) rfl (fun w hS => r_load Try.isAgg3 hK rfl (hS.cell (.head _) rfl)) fun a hK => ?_
                      refine sp (k := 6) rfl hK (by decide) (wtt hb_50395) rfl (fun w hS => r_ibin hK rfl rfl rfl) fun a hK => ?_
                      refine sp (k := 7) rfl hK (by decide) rfl rfl (fun w hS => r_pick_t hb_50395 hK rfl rfl) fun a hK => ?_
                      refine sp (k := 8) rfl hK (by decide) rfl rfl (fun w hS => r_move hK rfl) fun a hK => ?_
                      rcases or_b (y_50275.1.Kind == 2) with hb_50396 | hb_50396
                      · rw [ifb_t hb_50396] at H
                        refine sp (k := 9) rfl hK (by decide) (wtt hb_50396) rfl (fun w hS => r_fieldAddr Try.underlying43 rfl Try.sizeOf9 hK rfl) fun a hK => ?_
                        refine sp (k := 10) rfl hK (by decide) (wtt hb_50396) rfl (fun w hS => r_load Try.isAgg9 hK rfl (hS.cell (.head _) rfl)) fun a hK => ?_
                        refine sp (k := 11) rfl hK (by decide) (wtt hb_50396) rfl (fun w hS => r_fieldAddr Try.underlying85 rfl Try.sizeOf43 hK rfl) fun a hK => ?_
                        refine sp (k := 12) rfl hK (by decide) (wtt hb_50396) rfl (fun w hS => r_fieldAddr Try.underlying43 rfl Try.sizeOf9 hK rfl) fun a hK => ?_
                        refine sp (k := 13) rfl hK (by decide) (wtt hb_50396) rfl (fun w hS => r_load Try.isAgg9 hK rfl (hS.cell (.tail _ (.head _)) rfl)) fun a hK => ?_
                        refine spw (k := 14) rfl rfl hS ?_
                        obtain ⟨y_50397, h_50398, H⟩ := bind_some H
                        refine sl_callV Try.call70 hS hK (by decide) (wtt hb_50396) rfl rfl (strings_Contains.calls y_50275.1.S y_36525.V.S (lentOf_sub [] _) (GF.mono (hS.raLe0 hRA nil_not) hG) h_50398) fun a w hS hK => ?_
                        refine parK_nil hS ?_
                        refine sp (k := 15) rfl hK (by decide) rfl rfl (fun w hS => r_pick_t hb_50396 hK rfl rfl) fun a hK => ?_
                        refine thenL_nil ?_
                        obtain ⟨y_50399, h_50400, H⟩ := bind_some H
                        obtain ⟨b_50402, c_50403, cs_50404, hv_50401, hr_50405, hc_50406, h_504000, h_504001⟩ := hS.row_ix (.tail _ (.tail _ (.tail _ (.head _)))) hq_18273 rfl rfl h_50400
                        subst hr_50405
                        refine sl hK (by decide) rfl rfl (r_indexAddr_R Try.underlying81 Try.sizeOf4 hv_50401 h_504000 h_504001 hK rfl rfl) fun a hK => ?_
                        have hS := hS.pk3
                        refine sl_store_row Try.sizeOf4 hv_50401 h_50400 rfl (show Ty.rep tyBool _ [.bool y_50397] y_50397 from rfl) hq_18273 rfl hS hK rfl rfl rfl rfl fun a w cs_50407 hq_50408 hS hK => ?_
                        refine wpList_nil (NoP_nil ?_)
                        have hS := hS.pk5
                        have hS := hS.pk5
                        have hS := hS.pk2
                        exact ⟨(upd x_18270 x_18274 y_50397), _, _, H, hq_50408, hK.sub (all_cons rfl (all_cons rfl (all_cons rfl (all_cons rfl (all_cons rfl (all_cons rfl (all_nil))))))), hS.trunc 3⟩
                      · rw [ifb_f hb_50396] at H
                        refine sp_skip (k := 9) rfl hK (by decide) (wtf hb_50396) rfl fun a hK => ?_
                        refine sp_skip (k := 10) rfl hK (by decide) (wtf hb_50396) rfl fun a hK => ?_
                        refine sp_skip (k := 11) rfl hK (by decide) (wtf hb_50396) rfl fun a hK => ?_
                        refine sp_skip (k := 12) rfl hK (by decide) (wtf hb_50396) rfl fun a hK => ?_
                        refine sp_skip (k := 13) rfl hK (by decide) (wtf hb_50396) rfl fun a hK => ?_
                        refine spw (k := 14) rfl rfl hS ?_
                        refine sl_skip hK (by decide) (wtf hb_50396) rfl fun a hK => ?_
                        refine parK_nil hS ?_
                        refine sp (k := 15) rfl hK (by decide) rfl rfl (fun w hS => r_pick_f hb_50396 hK rfl rfl) fun a hK => ?_
                        refine thenL_nil ?_
                        obtain ⟨y_50410, h_50411, H⟩ := bind_some H
                        obtain ⟨b_50413, c_50414, cs_50415, hv_50412, hr_50416, hc_50417, h_504110, h_504111⟩ := hS.row_ix (.tail _ (.tail _ (.tail _ (.head _)))) hq_18273 rfl rfl h_50411
                        subst hr_50416
                        refine sl hK (by decide) rfl rfl (r_indexAddr_R Try.underlying81 Try.sizeOf4 hv_50412 h_504110 h_504111 hK rfl rfl) fun a hK => ?_
                        have hS := hS.pk3
                        refine sl_store_row Try.sizeOf4 hv_50412 h_50411 rfl (show Ty.rep tyBool _ [.bool false] false from rfl) hq_18273 rfl hS hK rfl rfl rfl rfl fun a w cs_50418 hq_50419 hS hK => ?_
                        refine wpList_nil (NoP_nil ?_)
                        have hS := hS.pk5
                        have hS := hS.pk5
                        have hS := hS.pk2
                        exact ⟨(upd x_18270 x_18274 false), _, _, H, hq_50419, hK.sub (all_cons rfl (all_cons rfl (all_cons rfl (all_cons rfl (all_cons rfl (all_cons rfl (all_nil))))))), hS.trunc 3⟩
                    · rw [ifb_f hb_50395] at H
                      refine sp_skip (k := 4) rfl hK (by decide) (wtf hb_50395) rfl fun a hK => ?_
                      refine sp_skip (k := 5) rfl hK (by decide) (wtf hb_50395) rfl fun a hK => ?_
                      refine sp_skip (k := 6) rfl hK (by decide) (wtf hb_50395) rfl fun a hK => ?_
                      refine sp (k := 7) rfl hK (by decide) rfl rfl (fun w hS => r_pick_f hb_50395 hK rfl rfl) fun a hK => ?_
                      refine sp (k := 8) rfl hK (by decide) rfl rfl (fun w hS => r_move hK rfl) fun a hK => ?_
                      refine sp_skip (k := 9) rfl hK (by decide) rfl rfl fun a hK => ?_
                      refine sp_skip (k := 10) rfl hK (by decide) rfl rfl fun a hK => ?_
                      refine sp_skip (k := 11) rfl hK (by decide) rfl rfl fun a hK => ?_
                      refine sp_skip (k := 12) rfl hK (by decide) rfl rfl fun a hK => ?_
                      refine sp_skip (k := 13) rfl hK (by decide) rfl rfl fun a hK => ?_
                      refine spw (k := 14) rfl rfl hS ?_
                      refine sl_skip hK (by decide) rfl rfl fun a hK => ?_
                      refine parK_nil hS ?_
                      refine sp (k := 15) rfl hK (by decide) rfl rfl (fun w hS => r_pick hK rfl rfl rfl) fun a hK => ?_
                      refine thenL_nil ?_
                      obtain ⟨y_50421, h_50422, H⟩ := bind_some H
                      obtain ⟨b_50424, c_50425, cs_50426, hv_50423, hr_50427, hc_50428, h_504220, h_504221⟩ := hS.row_ix (.tail _ (.tail _ (.tail _ (.head _)))) hq_18273 rfl rfl h_50422
                      subst hr_50427
                      refine sl hK (by decide) rfl rfl (r_indexAddr_R Try.underlying81 Try.sizeOf4 hv_50423 h_504220 h_504221 hK rfl rfl) fun a hK => ?_
                      have hS := hS.pk3
                      refine sl_store_row Try.sizeOf4 hv_50423 h_50422 rfl (show Ty.rep tyBool _ [.bool false] false from rfl) hq_18273 rfl hS hK rfl rfl rfl rfl fun a w cs_50429 hq_50430 hS hK => ?_
                      refine wpList_nil (NoP_nil ?_)
                      have hS := hS.pk5
                      have hS := hS.pk5
                      have hS := hS.pk2
                      exact ⟨(upd x_18270 x_18274 false), _, _, H, hq_50430, hK.sub (all_cons rfl (all_cons rfl (all_cons rfl (all_cons rfl (all_cons rfl (all_cons rfl (all_nil))))))), hS.trunc 3⟩
                  · rintro a w ⟨x_50353, v_50354, cs_50355, H, hq_50356, hK, hS⟩
                    unfold pred_Holds.j5 at H
                    have hS := hS.pk2
                    have hS := hS.pk2
                    have hS := hS.pk2
                    exact ⟨x_50353, _, _, H, hq_50356, hK.sub (all_cons rfl (all_cons rfl (all_cons rfl (all_cons rfl (all_cons rfl (all_cons rfl (all_nil))))))), hS⟩
                · rw [ifb_f hb_50274] at H
                  refine wp_seq ?_
                  refine wp_region_lit ?_
                  refine sl hK (by decide) rfl rfl (r_ibin hK rfl rfl rfl) fun a hK => ?_
                  refine sl hK (by decide) rfl rfl (r_assign hK rfl) fun a hK => ?_
                  refine wpList_nil ?_
                  refine wp_mid (fun a w => ∃ (x_52600 : List Bool) (v_52601 : Value) (cs_52602 : List Value), pred_Holds.j6 (pred_Holds.l1 a1 a2 a3 y_15 k_l1) y_15 x_18274 x_52600 = some r ∧ Reps tyBool (fun _ => none) cs_52602 x_52600 ∧ Kn 162 a [(1, .int .i64 a1), (9, v_52601), (10, .func (.func 65) #[] #[.pointer (some ⟨b_2, 0, none⟩), .pointer (some ⟨b_3, 0, none⟩)]), (35, v_17), (36, .int .i64 (y_15.length : Int)), (37, .int .i64 x_18274)] ∧ St [] w0 w (fun _ => none) [.row 4 1 v_52601 x_52600.length cs_52602, .cells b_2 [v2_0] 22, .cells b_3 [v3_0] 44]) ?_ ?_
                  · refine wp_cond_split (hK.ev rfl) (fun (hb_52605 : (y_36525.Kind == 13) = true) => ?_) (fun (hb_52605 : (y_36525.Kind == 13) = false) => ?_)
                    · rw [ifb_t hb_52605] at H
                      refine wp_mid (fun a w => ∃ (x_52697 : List Bool) (v_52698 : Value) (cs_52699 : List Value), pred_Holds.j7 (pred_Holds.l1 a1 a2 a3 y_15 k_l1) y_15 x_18274 x_52697 = some r ∧ Reps tyBool (fun _ => none) cs_52699 x_52697 ∧ Kn 162 a [(1, .int .i64 a1), (9, v_52698), (10, .func (.func 65) #[] #[.pointer (some ⟨b_2, 0, none⟩), .pointer (some ⟨b_3, 0, none⟩)]), (35, v_17), (36, .int .i64 (y_15.length : Int)), (37, .int .i64 x_18274)] ∧ St [] w0 w (fun _ => none) [.row 4 1 v_52698 x_52697.length cs_52699, .cells b_2 [v2_0] 22, .cells b_3 [v3_0] 44]) ?_ ?_
                      · refine parT_region (C := fun w => St [] w0 w (fun _ => none) [.cells b_36541 [.int .i64 y_36525.Kind, .string y_36525.S, .int .i64 y_36525.N, .int .i64 y_36525.From, .int .i64 y_36525.To, .int .i64 y_36525.V.Kind, .int .i64 y_36525.V.N, .string y_36525.V.S, .int .i64 y_36525.V.H.a0, .int .i64 y_36525.V.H.a1, .int .i64 y_36525.V.H.a2, .int .i64 y_36525.V.H.a3, .int .i64 y_36525.V.H.a4, .int .i64 y_36525.V.H.a5, .int .i64 y_36525.V.H.a6, .int .i64 y_36525.V.H.a7, v_36534, v_36536, v_36538] 85, .cells b_36540 [.int .i64 x_18274] 3, .row 4 1 v_18271 x_18270.length cs_18272, .cells b_2 [v2_0] 22, .cells b_3 [v3_0] 44]) 14 [(0, true), (1, true), (2, true), (3, false), (4, true), (5, true), (6, true), (7, true), (8, true), (9, true), (10, true), (11, true), (12, true), (13, true)] mixed (by kernel_rfl) hS (fun w hS => hS) fun w hS => ?_
                        refine sp (k := 0) rfl hK (by decide) rfl rfl (fun w hS => r_move hK rfl) fun a hK => ?_
                        refine sp (k := 1) rfl hK (by decide) rfl rfl (fun w hS => r_load Try.isAgg3 hK rfl (hS.cell (.tail _ (.head _)) rfl)) fun a hK => ?_
                        refine sp (k := 2) rfl hK (by decide) rfl rfl (fun w hS => r_move hK rfl) fun a hK => ?_
                        refine spw (k := 3) rfl rfl hS ?_
                        obtain ⟨y_52747, h_52748, H⟩ := bind_some H
                        refine sl_callV Try.call66 hS hK (by decide) rfl rfl rfl (pred_Holds_2_cp_cp.calls 1 y_36525 x_18274 (lentOf_sub [] _) (hS.lend_box0 (.head _)) (hs_36535.mono (hS.raLe0 hRA nil_not)) (hs_36537.mono (hS.raLe0 hRA nil_not)) (hs_36539.mono (hS.raLe0 hRA nil_not)) (hS.lend_box0 (.tail _ (.head _))) h_52748) fun a w hS hK => ?_
                        refine parK_nil hS ?_
                        refine sp (k := 4) rfl hK (by decide) rfl rfl (fun w hS => r_move hK rfl) fun a hK => ?_
                        rcases or_b y_52747 with hb_52749 | hb_52749
                        · rw [ifb_t hb_52749] at H
                          refine sp (k := 5) rfl hK (by decide) (wtt hb_52749) rfl (fun w hS => r_move hK rfl) fun a hK => ?_
                          refine sp (k := 6) rfl hK (by decide) (wtt hb_52749) rfl (fun w hS => r_fieldAddr Try.underlying85 rfl Try.sizeOf47 hK rfl) fun a hK => ?_
                          refine sp (k := 7) rfl hK (by decide) (wtt hb_52749) rfl (fun w hS => r_load Try.isAgg47 hK rfl (hS.cell (.head _) rfl)) fun a hK => ?_
                          obtain ⟨y_52750, h_52751, H⟩ := bind_some H
                          obtain ⟨b_52752, o_52753, c_52754, cs_52755, hv_52756, hr_52757, hc_52758, h_527510, h_527511⟩ := hs_36535.ix h_52751
                          subst hr_52757
                          refine sp (k := 8) rfl hK (by decide) (wtt hb_52749) rfl (fun w hS => r_indexAddr_R Try.underlying47 Try.sizeOf3 hv_52756 h_527510 h_527511 hK rfl rfl) fun a hK => ?_
                          refine sp (k := 9) rfl hK (by decide) (wtt hb_52749) rfl (fun w hS => r_load Try.isAgg3 hK rfl ((hS.ra hRA nil_not).cell (hc_52758 0 _ rfl))) fun a hK => ?_
                          obtain ⟨y_52759, h_52760, H⟩ := bind_some H
                          obtain ⟨b_52762, c_52763, cs_52764, hv_52761, hr_52765, hc_52766, h_527600, h_527601⟩ := hS.row_ix (.tail _ (.tail _ (.head _))) hq_18273 rfl rfl h_52760
                          subst hr_52765
                          refine sp (k := 10) rfl hK (by decide) (wtt hb_52749) rfl (fun w hS => r_indexAddr_R Try.underlying81 Try.sizeOf4 hv_52761 h_527600 h_527601 hK rfl rfl) fun a hK => ?_
                          refine sp (k := 11) rfl hK (by decide) (wtt hb_52749) rfl (fun w hS => r_load Try.isAgg4 hK rfl (hS.row_cell (.tail _ (.tail _ (.head _))) hv_52761 (hc_52766 0 _ rfl))) fun a hK => ?_
                          refine sp (k := 12) rfl hK (by decide) (wtt hb_52749) rfl (fun w hS => r_un hK rfl (u_not _)) fun a hK => ?_
                          refine sp (k := 13) rfl hK (by decide) rfl rfl (fun w hS => r_pick_t hb_52749 hK rfl rfl) fun a hK => ?_
                          refine thenL_nil ?_
                          obtain ⟨y_52767, h_52768, H⟩ := bind_some H
                          obtain ⟨b_52770, c_52771, cs_52772, hv_52769, hr_52773, hc_52774, h_527680, h_527681⟩ := hS.row_ix (.tail _ (.tail _ (.head _))) hq_18273 rfl rfl h_52768
                          subst hr_52773
                          refine sl hK (by decide) rfl rfl (r_indexAddr_R Try.underlying81 Try.sizeOf4 hv_52769 h_527680 h_527681 hK rfl rfl) fun a hK => ?_
                          have hS := hS.pk2
                          refine sl_store_row Try.sizeOf4 hv_52769 h_52768 rfl (show Ty.rep tyBool _ [.bool (!y_52759)] (!y_52759) from rfl) hq_18273 rfl hS hK rfl rfl rfl rfl fun a w cs_52775 hq_52776 hS hK => ?_
                          obtain ⟨z_52780, h_52778⟩ := ix_upd x_18274 (!y_52759) h_52760
                          have hv_52779 : v_18271 = Value.slice (some ⟨b_52762, 0, none⟩) (upd x_18270 x_18274 (!y_52759)).length c_52763 := by rw [upd_length]; exact hv_52761
                          refine wpList_nil (NoP_nil ?_)
                          have hS := hS.pk4
                          have hS := hS.pk4
                          have hS := hS.pk2
                          exact ⟨(upd x_18270 x_18274 (!y_52759)), _, _, H, hq_52776, hK.sub (all_cons rfl (all_cons rfl (all_cons rfl (all_cons rfl (all_cons rfl (all_cons rfl (all_nil))))))), hS.trunc 3⟩
                        · rw [ifb_f hb_52749] at H
                          refine sp_skip (k := 5) rfl hK (by decide) (wtf hb_52749) rfl fun a hK => ?_
                          refine sp_skip (k := 6) rfl hK (by decide) (wtf hb_52749) rfl fun a hK => ?_
                          refine sp_skip (k := 7) rfl hK (by decide) (wtf hb_52749) rfl fun a hK => ?_
                          refine sp_skip (k := 8) rfl hK (by decide) (wtf hb_52749) rfl fun a hK => ?_
                          refine sp_skip (k := 9) rfl hK (by decide) (wtf hb_52749) rfl fun a hK => ?_
                          refine sp_skip (k := 10) rfl hK (by decide) (wtf hb_52749) rfl fun a hK => ?_
                          refine sp_skip (k := 11) rfl hK (by decide) (wtf hb_52749) rfl fun a hK => ?_
                          refine sp_skip (k := 12) rfl hK (by decide) (wtf hb_52749) rfl fun a hK => ?_
                          refine sp (k := 13) rfl hK (by decide) rfl rfl (fun w hS => r_pick_f hb_52749 hK rfl rfl) fun a hK => ?_
                          refine thenL_nil ?_
                          obtain ⟨y_52781, h_52782, H⟩ := bind_some H
                          obtain ⟨b_52784, c_52785, cs_52786, hv_52783, hr_52787, hc_52788, h_527820, h_527821⟩ := hS.row_ix (.tail _ (.tail _ (.head _))) hq_18273 rfl rfl h_52782
                          subst hr_52787
                          refine sl hK (by decide) rfl rfl (r_indexAddr_R Try.underlying81 Try.sizeOf4 hv_52783 h_527820 h_527821 hK rfl rfl) fun a hK => ?_
                          have hS := hS.pk2
                          refine sl_store_row Try.sizeOf4 hv_52783 h_52782 rfl (show Ty.rep tyBool _ [.bool false] false from rfl) hq_18273 rfl hS hK rfl rfl rfl rfl fun a w cs_52789 hq_52790 hS hK => ?_
                          refine wpList_nil (NoP_nil ?_)
                          have hS := hS.pk4
                          have hS := hS.pk4
                          have hS := hS.pk2
                          exact ⟨(upd x_18270 x_18274 false), _, _, H, hq_52790, hK.sub (all_cons rfl (all_cons rfl (all_cons rfl (all_cons rfl (all_cons rfl (all_cons rfl (all_nil))))))), hS.trunc 3⟩
                      · rintro a w ⟨x_52697, v_52698, cs_52699, H, hq_52700, hK, hS⟩
                        unfold pred_Holds.j7 at H
                        have hS := hS.pk2
                        have hS := hS.pk2
                        have hS := hS.pk2
                        exact ⟨x_52697, _, _, H, hq_52700, hK.sub (all_cons rfl (all_cons rfl (all_cons rfl (all_cons rfl (all_cons rfl (all_cons rfl (all_nil))))))), hS⟩
                    · rw [ifb_f hb_52605] at H
                      refine wp_seq ?_
                      refine wp_region_lit ?_
                      refine sl hK (by decide) rfl rfl (r_ibin hK rfl rfl rfl) fun a hK => ?_
                      refine sl hK (by decide) rfl rfl (r_assign hK rfl) fun a hK => ?_
                      refine wpList_nil ?_
                      refine wp_mid (fun a w => ∃ (x_53780 : List Bool) (v_53781 : Value) (cs_53782 : List Value), pred_Holds.j8 (pred_Holds.l1 a1 a2 a3 y_15 k_l1) y_15 x_18274 x_53780 = some r ∧ Reps tyBool (fun _ => none) cs_53782 x_53780 ∧ Kn 162 a [(1, .int .i64 a1), (9, v_53781), (10, .func (.func 65) #[] #[.pointer (some ⟨b_2, 0, none⟩), .pointer (some ⟨b_3, 0, none⟩)]), (35, v_17), (36, .int .i64 (y_15.length : Int)), (37, .int .i64 x_18274)] ∧ St [] w0 w (fun _ => none) [.row 4 1 v_53781 x_53780.length cs_53782, .cells b_2 [v2_0] 22, .cells b_3 [v3_0] 44]) ?_ ?_
                      · refine wp_cond_split (hK.ev rfl) (fun (hb_53785 : (y_36525.Kind == 11) = true) => ?_) (fun (hb_53785 : (y_36525.Kind == 11) = false) => ?_)
                        · rw [ifb_t hb_53785] at H
                          refine wp_mid (fun a w => ∃ (x_53947 : List Bool) (v_53948 : Value) (cs_53949 : List Value), pred_Holds.j9 (pred_Holds.l1 a1 a2 a3 y_15 k_l1) y_15 x_18274 x_53947 = some r ∧ Reps tyBool (fun _ => none) cs_53949 x_53947 ∧ Kn 162 a [(1, .int .i64 a1), (9, v_53948), (10, .func (.func 65) #[] #[.pointer (some ⟨b_2, 0, none⟩), .pointer (some ⟨b_3, 0, none⟩)]), (35, v_17), (36, .int .i64 (y_15.length : Int)), (37, .int .i64 x_18274)] ∧ St [] w0 w (fun _ => none) [.row 4 1 v_53948 x_53947.length cs_53949, .cells b_2 [v2_0] 22, .cells b_3 [v3_0] 44]) ?_ ?_
                          · refine parT_region (C := fun w => St [] w0 w (fun _ => none) [.cells b_36541 [.int .i64 y_36525.Kind, .string y_36525.S, .int .i64 y_36525.N, .int .i64 y_36525.From, .int .i64 y_36525.To, .int .i64 y_36525.V.Kind, .int .i64 y_36525.V.N, .string y_36525.V.S, .int .i64 y_36525.V.H.a0, .int .i64 y_36525.V.H.a1, .int .i64 y_36525.V.H.a2, .int .i64 y_36525.V.H.a3, .int .i64 y_36525.V.H.a4, .int .i64 y_36525.V.H.a5, .int .i64 y_36525.V.H.a6, .int .i64 y_36525.V.H.a7, v_36534, v_36536, v_36538] 85, .cells b_36540 [.int .i64 x_18274] 3, .row 4 1 v_18271 x_18270.length cs_18272, .cells b_2 [v2_0] 22, .cells b_3 [v3_0] 44]) 22 [(0, true), (1, true), (2, true), (3, false), (4, true), (5, true), (6, true), (7, true), (8, true), (9, true), (10, true), (11, true), (12, true), (13, true), (14, true), (15, true), (16, true), (17, true), (18, true), (19, true), (20, true), (21, true)] mixed (by kernel_rfl) hS (fun w hS => hS) fun w hS => ?_
                            refine sp (k := 0) rfl hK (by decide) rfl rfl (fun w hS => r_move hK rfl) fun a hK => ?_
                            refine sp (k := 1) rfl hK (by decide) rfl rfl (fun w hS => r_load Try.isAgg3 hK rfl (hS.cell (.tail _ (.head _)) rfl)) fun a hK => ?_
                            refine sp (k := 2) rfl hK (by decide) rfl rfl (fun w hS => r_move hK rfl) fun a hK => ?_
                            refine spw (k := 3) rfl rfl hS ?_
                            obtain ⟨y_54032, h_54033, H⟩ := bind_some H
                            refine sl_callV Try.call66 hS hK (by decide) rfl rfl rfl (pred_Holds_2_cp_cp.calls 2 y_36525 x_18274 (lentOf_sub [] _) (hS.lend_box0 (.head _)) (hs_36535.mono (hS.raLe0 hRA nil_not)) (hs_36537.mono (hS.raLe0 hRA nil_not)) (hs_36539.mono (hS.raLe0 hRA nil_not)) (hS.lend_box0 (.tail _ (.head _))) h_54033) fun a w hS hK => ?_
                            refine parK_nil hS ?_
                            refine sp (k := 4) rfl hK (by decide) rfl rfl (fun w hS => r_move hK rfl) fun a hK => ?_
                            rcases or_b y_54032 with hb_54034 | hb_54034
                            · rw [ifb_t hb_54034] at H
                              refine sp (k := 5) rfl hK (by decide) (wtt hb_54034) rfl (fun w hS => r_move hK rfl) fun a hK => ?_
                              refine sp (k := 6) rfl hK (by decide) (wtt hb_54034) rfl (fun w hS => r_fieldAddr Try.underlying85 rfl Try.sizeOf47 hK rfl) fun a hK => ?_
                              refine sp (k := 7) rfl hK (by decide) (wtt hb_54034) rfl (fun w hS => r_load Try.isAgg47 hK rfl (hS.cell (.head _) rfl)) fun a hK => ?_
                              obtain ⟨y_54035, h_54036, H⟩ := bind_some H
                              obtain ⟨b_54037, o_54038, c_54039, cs_54040, hv_54041, hr_54042, hc_54043, h_540360, h_540361⟩ := hs_36535.ix h_54036
                              subst hr_54042
                              refine sp (k := 8) rfl hK (by decide) (wtt hb_54034) rfl (fun w hS => r_indexAddr_R Try.underlying47 Try.sizeOf3 hv_54041 h_540360 h_540361 hK rfl rfl) fun a hK => ?_
                              refine sp (k := 9) rfl hK (by decide) (wtt hb_54034) rfl (fun w hS => r_load Try.isAgg3 hK rfl ((hS.ra hRA nil_not).cell (hc_54043 0 _ rfl))) fun a hK => ?_
                              obtain ⟨y_54044, h_54045, H⟩ := bind_some H
                              obtain ⟨b_54047, c_54048, cs_54049, hv_54046, hr_54050, hc_54051, h_540450, h_540451⟩ := hS.row_ix (.tail _ (.tail _ (.head _))) hq_18273 rfl rfl h_54045
                              subst hr_54050
                              refine sp (k := 10) rfl hK (by decide) (wtt hb_54034) rfl (fun w hS => r_indexAddr_R Try.underlying81 Try.sizeOf4 hv_54046 h_540450 h_540451 hK rfl rfl) fun a hK => ?_
                              refine sp (k := 11) rfl hK (by decide) (wtt hb_54034) rfl (fun w hS => r_load Try.isAgg4 hK rfl (hS.row_cell (.tail _ (.tail _ (.head _))) hv_54046 (hc_54051 0 _ rfl))) fun a hK => ?_
                              refine sp (k := 12) rfl hK (by decide) rfl rfl (fun w hS => r_pick_t hb_54034 hK rfl rfl) fun a hK => ?_
                              refine sp (k := 13) rfl hK (by decide) rfl rfl (fun w hS => r_move hK rfl) fun a hK => ?_
                              rcases or_b y_54044 with hb_54052 | hb_54052
                              · rw [ifb_t hb_54052] at H
                                refine sp (k := 14) rfl hK (by decide) (wtt hb_54052) rfl (fun w hS => r_move hK rfl) fun a hK => ?_
                                refine sp (k := 15) rfl hK (by decide) (wtt hb_54052) rfl (fun w hS => r_fieldAddr Try.underlying85 rfl Try.sizeOf47 hK rfl) fun a hK => ?_
                                refine sp (k := 16) rfl hK (by decide) (wtt hb_54052) rfl (fun w hS => r_load Try.isAgg47 hK rfl (hS.cell (.head _) rfl)) fun a hK => ?_
                                obtain ⟨y_54053, h_54054, H⟩ := bind_some H
                                obtain ⟨b_54055, o_54056, c_54057, cs_54058, hv_54059, hr_54060, hc_54061, h_540540, h_540541⟩ := hs_36535.ix h_54054
                                subst hr_54060
                                refine sp (k := 17) rfl hK (by decide) (wtt hb_54052) rfl (fun w hS => r_indexAddr_R Try.underlying47 Try.sizeOf3 hv_54059 h_540540 h_540541 hK rfl rfl) fun a hK => ?_
                                refine sp (k := 18) rfl hK (by decide) (wtt hb_54052) rfl (fun w hS => r_load Try.isAgg3 hK rfl ((hS.ra hRA nil_not).cell (hc_54061 0 _ rfl))) fun a hK => ?_
                                obtain ⟨y_54062, h_54063, H⟩ := bind_some H
                                obtain ⟨b_54065, c_54066, cs_54067, hv_54064, hr_54068, hc_54069, h_540630, h_540631⟩ := hS.row_ix (.tail _ (.tail _ (.head _))) hq_18273 rfl rfl h_54063
                                subst hr_54068
                                refine sp (k := 19) rfl hK (by decide) (wtt hb_54052) rfl (fun w hS => r_indexAddr_R Try.underlying81 Try.sizeOf4 hv_54064 h_540630 h_540631 hK rfl rfl) fun a hK => ?_
                                refine sp (k := 20) rfl hK (by decide) (wtt hb_54052) rfl (fun w hS => r_load Try.isAgg4 hK rfl (hS.row_cell (.tail _ (.tail _ (.head _))) hv_54064 (hc_54069 0 _ rfl))) fun a hK => ?_
                                refine sp (k := 21) rfl hK (by decide) rfl rfl (fun w hS => r_pick_t hb_54052 hK rfl rfl) fun a hK => ?_
                                refine thenL_nil ?_
                                obtain ⟨y_54070, h_54071, H⟩ := bind_some H
                                obtain ⟨b_54073, c_54074, cs_54075, hv_54072, hr_54076, hc_54077, h_540710, h_540711⟩ := hS.row_ix (.tail _ (.tail _ (.head _))) hq_18273 rfl rfl h_54071
                                subst hr_54076
                                refine sl hK (by decide) rfl rfl (r_indexAddr_R Try.underlying81 Try.sizeOf4 hv_54072 h_540710 h_540711 hK rfl rfl) fun a hK => ?_
                                have hS := hS.pk2
                                refine sl_store_row Try.sizeOf4 hv_54072 h_54071 rfl (show Ty.rep tyBool _ [.bool y_54062] y_54062 from rfl) hq_18273 rfl hS hK rfl rfl rfl rfl fun a w cs_54078 hq_54079 hS hK => ?_
                                obtain ⟨z_54083, h_54081⟩ := ix_upd x_18274 y_54062 h_54045
                                have hv_54082 : v_18271 = Value.slice (some ⟨b_54047, 0, none⟩) (upd x_18270 x_18274 y_54062).length c_54048 := by rw [upd_length]; exact hv_54046
                                obtain ⟨z_54086, h_54084⟩ := ix_upd x_18274 y_54062 h_54063
                                have hv_54085 : v_18271 = Value.slice (some ⟨b_54065, 0, none⟩) (upd x_18270 x_18274 y_54062).length c_54066 := by rw [upd_length]; exact hv_54064
                                refine wpList_nil (NoP_nil ?_)
                                have hS := hS.pk4
                                have hS := hS.pk4
                                have hS := hS.pk2
                                exact ⟨(upd x_18270 x_18274 y_54062), _, _, H, hq_54079, hK.sub (all_cons rfl (all_cons rfl (all_cons rfl (all_cons rfl (all_cons rfl (all_cons rfl (all_nil))))))), hS.trunc 3⟩
                              · rw [ifb_f hb_54052] at H
                                refine sp_skip (k := 14) rfl hK (by decide) (wtf hb_54052) rfl fun a hK => ?_
                                refine sp_skip (k := 15) rfl hK (by decide) (wtf hb_54052) rfl fun a hK => ?_
                                refine sp_skip (k := 16) rfl hK (by decide) (wtf hb_54052) rfl fun a hK => ?_
                                refine sp_skip (k := 17) rfl hK (by decide) (wtf hb_54052) rfl fun a hK => ?_
                                refine sp_skip (k := 18) rfl hK (by decide) (wtf hb_54052) rfl fun a hK => ?_
                                refine sp_skip (k := 19) rfl hK (by decide) (wtf hb_54052) rfl fun a hK => ?_
                                refine sp_skip (k := 20) rfl hK (by decide) (wtf hb_54052) rfl fun a hK => ?_
                                refine sp (k := 21) rfl hK (by decide) rfl rfl (fun w hS => r_pick_f hb_54052 hK rfl rfl) fun a hK => ?_
                                refine thenL_nil ?_
                                obtain ⟨y_54087, h_54088, H⟩ := bind_some H
                                obtain ⟨b_54090, c_54091, cs_54092, hv_54089, hr_54093, hc_54094, h_540880, h_540881⟩ := hS.row_ix (.tail _ (.tail _ (.head _))) hq_18273 rfl rfl h_54088
                                subst hr_54093
                                refine sl hK (by decide) rfl rfl (r_indexAddr_R Try.underlying81 Try.sizeOf4 hv_54089 h_540880 h_540881 hK rfl rfl) fun a hK => ?_
                                have hS := hS.pk2
                                refine sl_store_row Try.sizeOf4 hv_54089 h_54088 rfl (show Ty.rep tyBool _ [.bool false] false from rfl) hq_18273 rfl hS hK rfl rfl rfl rfl fun a w cs_54095 hq_54096 hS hK => ?_
                                obtain ⟨z_54100, h_54098⟩ := ix_upd x_18274 false h_54045
                                have hv_54099 : v_18271 = Value.slice (some ⟨b_54047, 0, none⟩) (upd x_18270 x_18274 false).length c_54048 := by rw [upd_length]; exact hv_54046
                                refine wpList_nil (NoP_nil ?_)
                                have hS := hS.pk4
                                have hS := hS.pk4
                                have hS := hS.pk2
                                exact ⟨(upd x_18270 x_18274 false), _, _, H, hq_54096, hK.sub (all_cons rfl (all_cons rfl (all_cons rfl (all_cons rfl (all_cons rfl (all_cons rfl (all_nil))))))), hS.trunc 3⟩
                            · rw [ifb_f hb_54034] at H
                              refine sp_skip (k := 5) rfl hK (by decide) (wtf hb_54034) rfl fun a hK => ?_
                              refine sp_skip (k := 6) rfl hK (by decide) (wtf hb_54034) rfl fun a hK => ?_
                              refine sp_skip (k := 7) rfl hK (by decide) (wtf hb_54034) rfl fun a hK => ?_
                              refine sp_skip (k := 8) rfl hK (by decide) (wtf hb_54034) rfl fun a hK => ?_
                              refine sp_skip (k := 9) rfl hK (by decide) (wtf hb_54034) rfl fun a hK => ?_
                              refine sp_skip (k := 10) rfl hK (by decide) (wtf hb_54034) rfl fun a hK => ?_
                              refine sp_skip (k := 11) rfl hK (by decide) (wtf hb_54034) rfl fun a hK => ?_
                              refine sp (k := 12) rfl hK (by decide) rfl rfl (fun w hS => r_pick_f hb_54034 hK rfl rfl) fun a hK => ?_
                              refine sp (k := 13) rfl hK (by decide) rfl rfl (fun w hS => r_move hK rfl) fun a hK => ?_
                              refine sp_skip (k := 14) rfl hK (by decide) rfl rfl fun a hK => ?_
                              refine sp_skip (k := 15) rfl hK (by decide) rfl rfl fun a hK => ?_
                              refine sp_skip (k := 16) rfl hK (by decide) rfl rfl fun a hK => ?_
                              refine sp_skip (k := 17) rfl hK (by decide) rfl rfl fun a hK => ?_
                              refine sp_skip (k := 18) rfl hK (by decide) rfl rfl fun a hK => ?_
                              refine sp_skip (k := 19) rfl hK (by decide) rfl rfl fun a hK => ?_
                              refine sp_skip (k := 20) rfl hK (by decide) rfl rfl fun a hK => ?_
                              refine sp (k := 21) rfl hK (by decide) rfl rfl (fun w hS => r_pick hK rfl rfl rfl) fun a hK => ?_
                              refine thenL_nil ?_
                              obtain ⟨y_54101, h_54102, H⟩ := bind_some H
                              obtain ⟨b_54104, c_54105, cs_54106, hv_54103, hr_54107, hc_54108, h_541020, h_541021⟩ := hS.row_ix (.tail _ (.tail _ (.head _))) hq_18273 rfl rfl h_54102
                              subst hr_54107
                              refine sl hK (by decide) rfl rfl (r_indexAddr_R Try.underlying81 Try.sizeOf4 hv_54103 h_541020 h_541021 hK rfl rfl) fun a hK => ?_
                              have hS := hS.pk2
                              refine sl_store_row Try.sizeOf4 hv_54103 h_54102 rfl (show Ty.rep tyBool _ [.bool false] false from rfl) hq_18273 rfl hS hK rfl rfl rfl rfl fun a w cs_54109 hq_54110 hS hK => ?_
                              refine wpList_nil (NoP_nil ?_)
                              have hS := hS.pk4
                              have hS := hS.pk4
                              have hS := hS.pk2
                              exact ⟨(upd x_18270 x_18274 false), _, _, H, hq_54110, hK.sub (all_cons rfl (all_cons rfl (all_cons rfl (all_cons rfl (all_cons rfl (all_cons rfl (all_nil))))))), hS.trunc 3⟩
                          · rintro a w ⟨x_53947, v_53948, cs_53949, H, hq_53950, hK, hS⟩
                            unfold pred_Holds.j9 at H
                            have hS := hS.pk2
                            have hS := hS.pk2
                            have hS := hS.pk2
                            exact ⟨x_53947, _, _, H, hq_53950, hK.sub (all_cons rfl (all_cons rfl (all_cons rfl (all_cons rfl (all_cons rfl (all_cons rfl (all_nil))))))), hS⟩
                        · rw [ifb_f hb_53785] at H
                          refine wp_seq ?_
                          refine wp_region_lit ?_
                          refine sl hK (by decide) rfl rfl (r_ibin hK rfl rfl rfl) fun a hK => ?_
                          refine sl hK (by decide) rfl rfl (r_assign hK rfl) fun a hK => ?_
                          refine wpList_nil ?_
                          refine wp_mid (fun a w => ∃ (x_54440 : List Bool) (v_54441 : Value) (cs_54442 : List Value), pred_Holds.j10 (pred_Holds.l1 a1 a2 a3 y_15 k_l1) y_15 x_18274 x_54440 = some r ∧ Reps tyBool (fun _ => none) cs_54442 x_54440 ∧ Kn 162 a [(1, .int .i64 a1), (9, v_54441), (10, .func (.func 65) #[] #[.pointer (some ⟨b_2, 0, none⟩), .pointer (some ⟨b_3, 0, none⟩)]), (35, v_17), (36, .int .i64 (y_15.length : Int)), (37, .int .i64 x_18274)] ∧ St [] w0 w (fun _ => none) [.row 4 1 v_54441 x_54440.length cs_54442, .cells b_2 [v2_0] 22, .cells b_3 [v3_0] 44]) ?_ ?_
                          · refine wp_cond_split (hK.ev rfl) (fun (hb_54445 : (y_36525.Kind == 12) = true) => ?_) (fun (hb_54445 : (y_36525.Kind == 12) = false) => ?_)
                            · rw [ifb_t hb_54445] at H
                              refine wp_mid (fun a w => ∃ (x_54607 : List Bool) (v_54608 : Value) (cs_54609 : List Value), pred_Holds.j11 (pred_Holds.l1 a1 a2 a3 y_15 k_l1) y_15 x_18274 x_54607 = some r ∧ Reps tyBool (fun _ => none) cs_54609 x_54607 ∧ Kn 162 a [(1, .int .i64 a1), (9, v_54608), (10, .func (.func 65) #[] #[.pointer (some ⟨b_2, 0, none⟩), .pointer (some ⟨b_3, 0, none⟩)]), (35, v_17), (36, .int .i64 (y_15.length : Int)), (37, .int .i64 x_18274)] ∧ St [] w0 w (fun _ => none) [.row 4 1 v_54608 x_54607.length cs_54609, .cells b_2 [v2_0] 22, .cells b_3 [v3_0] 44]) ?_ ?_
                              · refine parT_region (C := fun w => St [] w0 w (fun _ => none) [.cells b_36541 [.int .i64 y_36525.Kind, .string y_36525.S, .int .i64 y_36525.N, .int .i64 y_36525.From, .int .i64 y_36525.To, .int .i64 y_36525.V.Kind, .int .i64 y_36525.V.N, .string y_36525.V.S, .int .i64 y_36525.V.H.a0, .int .i64 y_36525.V.H.a1, .int .i64 y_36525.V.H.a2, .int .i64 y_36525.V.H.a3, .int .i64 y_36525.V.H.a4, .int .i64 y_36525.V.H.a5, .int .i64 y_36525.V.H.a6, .int .i64 y_36525.V.H.a7, v_36534, v_36536, v_36538] 85, .cells b_36540 [.int .i64 x_18274] 3, .row 4 1 v_18271 x_18270.length cs_18272, .cells b_2 [v2_0] 22, .cells b_3 [v3_0] 44]) 22 [(0, true), (1, true), (2, true), (3, false), (4, true), (5, true), (6, true), (7, true), (8, true), (9, true), (10, true), (11, true), (12, true), (13, true), (14, true), (15, true), (16, true), (17, true), (18, true), (19, true), (20, true), (21, true)] mixed (by kernel_rfl) hS (fun w hS => hS) fun w hS => ?_
                                refine sp (k := 0) rfl hK (by decide) rfl rfl (fun w hS => r_move hK rfl) fun a hK => ?_
                                refine sp (k := 1) rfl hK (by decide) rfl rfl (fun w hS => r_load Try.isAgg3 hK rfl (hS.cell (.tail _ (.head _)) rfl)) fun a hK => ?_
                                refine sp (k := 2) rfl hK (by decide) rfl rfl (fun w hS => r_move hK rfl) fun a hK => ?_
                                refine spw (k := 3) rfl rfl hS ?_
                                obtain ⟨y_54692, h_54693, H⟩ := bind_some H
                                refine sl_callV Try.call66 hS hK (by decide) rfl rfl rfl (pred_Holds_2_cp_cp.calls 2 y_36525 x_18274 (lentOf_sub [] _) (hS.lend_box0 (.head _)) (hs_36535.mono (hS.raLe0 hRA nil_not)) (hs_36537.mono (hS.raLe0 hRA nil_not)) (hs_36539.mono (hS.raLe0 hRA nil_not)) (hS.lend_box0 (.tail _ (.head _))) h_54693) fun a w hS hK => ?_
                                refine parK_nil hS ?_
                                refine sp (k := 4) rfl hK (by decide) rfl rfl (fun w hS => r_move hK rfl) fun a hK => ?_
                                rcases or_b y_54692 with hb_54694 | hb_54694
                                · rw [ifb_t hb_54694] at H
                                  refine sp (k := 5) rfl hK (by decide) (wtt hb_54694) rfl (fun w hS => r_move hK rfl) fun a hK => ?_
                                  refine sp (k := 6) rfl hK (by decide) (wtt hb_54694) rfl (fun w hS => r_fieldAddr Try.underlying85 rfl Try.sizeOf47 hK rfl) fun a hK => ?_
                                  refine sp (k := 7) rfl hK (by decide) (wtt hb_54694) rfl (fun w hS => r_load Try.isAgg47 hK rfl (hS.cell (.head _) rfl)) fun a hK => ?_
                                  obtain ⟨y_54695, h_54696, H⟩ := bind_some H
                                  obtain ⟨b_54697, o_54698, c_54699, cs_54700, hv_54701, hr_54702, hc_54703, h_546960, h_546961⟩ := hs_36535.ix h_54696
                                  subst hr_54702
                                  refine sp (k := 8) rfl hK (by decide) (wtt hb_54694) rfl (fun w hS => r_indexAddr_R Try.underlying47 Try.sizeOf3 hv_54701 h_546960 h_546961 hK rfl rfl) fun a hK => ?_
                                  refine sp (k := 9) rfl hK (by decide) (wtt hb_54694) rfl (fun w hS => r_load Try.isAgg3 hK rfl ((hS.ra hRA nil_not).cell (hc_54703 0 _ rfl))) fun a hK => ?_
                                  obtain ⟨y_54704, h_54705, H⟩ := bind_some H
                                  obtain ⟨b_54707, c_54708, cs_54709, hv_54706, hr_54710, hc_54711, h_547050, h_547051⟩ := hS.row_ix (.tail _ (.tail _ (.head _))) hq_18273 rfl rfl h_54705
                                  subst hr_54710
                                  refine sp (k := 10) rfl hK (by decide) (wtt hb_54694) rfl (fun w hS => r_indexAddr_R Try.underlying81 Try.sizeOf4 hv_54706 h_547050 h_547051 hK rfl rfl) fun a hK => ?_
                                  refine sp (k := 11) rfl hK (by decide) (wtt hb_54694) rfl (fun w hS => r_load Try.isAgg4 hK rfl (hS.row_cell (.tail _ (.tail _ (.head _))) hv_54706 (hc_54711 0 _ rfl))) fun a hK => ?_
                                  refine sp (k := 12) rfl hK (by decide) (wtt hb_54694) rfl (fun w hS => r_move hK rfl) fun a hK => ?_
                                  rcases or_b y_54704 with hb_54712 | hb_54712
                                  · rw [ifb_t hb_54712] at H
                                    refine sp_skip (k := 13) rfl hK (by decide) (wft hb_54712) rfl fun a hK => ?_
                                    refine sp_skip (k := 14) rfl hK (by decide) (wft hb_54712) rfl fun a hK => ?_
                                    refine sp_skip (k := 15) rfl hK (by decide) (wft hb_54712) rfl fun a hK => ?_
                                    refine sp_skip (k := 16) rfl hK (by decide) (wft hb_54712) rfl fun a hK => ?_
                                    refine sp_skip (k := 17) rfl hK (by decide) (wft hb_54712) rfl fun a hK => ?_
                                    refine sp_skip (k := 18) rfl hK (by decide) (wft hb_54712) rfl fun a hK => ?_
                                    refine sp_skip (k := 19) rfl hK (by decide) (wft hb_54712) rfl fun a hK => ?_
                                    refine sp (k := 20) rfl hK (by decide) (wtt hb_54694) rfl (fun w hS => r_pick_t hb_54712 hK rfl rfl) fun a hK => ?_
                                    refine sp (k := 21) rfl hK (by decide) rfl rfl (fun w hS => r_pick_t hb_54694 hK rfl rfl) fun a hK => ?_
                                    refine thenL_nil ?_
                                    obtain ⟨y_54713, h_54714, H⟩ := bind_some H
                                    obtain ⟨b_54716, c_54717, cs_54718, hv_54715, hr_54719, hc_54720, h_547140, h_547141⟩ := hS.row_ix (.tail _ (.tail _ (.head _))) hq_18273 rfl rfl h_54714
                                    subst hr_54719
                                    refine sl hK (by decide) rfl rfl (r_indexAddr_R Try.underlying81 Try.sizeOf4 hv_54715 h_547140 h_547141 hK rfl rfl) fun a hK => ?_
                                    have hS := hS.pk2
                                    refine sl_store_row Try.sizeOf4 hv_54715 h_54714 rfl (show Ty.rep tyBool _ [.bool true] true from rfl) hq_18273 rfl hS hK rfl rfl rfl rfl fun a w cs_54721 hq_54722 hS hK => ?_
                                    obtain ⟨z_54726, h_54724⟩ := ix_upd x_18274 true h_54705
                                    have hv_54725 : v_18271 = Value.slice (some ⟨b_54707, 0, none⟩) (upd x_18270 x_18274 true).length c_54708 := by rw [upd_length]; exact hv_54706
                                    refine wpList_nil (NoP_nil ?_)
                                    have hS := hS.pk4
                                    have hS := hS.pk4
                                    have hS := hS.pk2
                                    exact ⟨(upd x_18270 x_18274 true), _, _, H, hq_54722, hK.sub (all_cons rfl (all_cons rfl (all_cons rfl (all_cons rfl (all_cons rfl (all_cons rfl (all_nil))))))), hS.trunc 3⟩
                                  · rw [ifb_f hb_54712] at H
                                    refine sp (k := 13) rfl hK (by decide) (wff hb_54712) rfl (fun w hS => r_move hK rfl) fun a hK => ?_
                                    refine sp (k := 14) rfl hK (by decide) (wff hb_54712) rfl (fun w hS => r_fieldAddr Try.underlying85 rfl Try.sizeOf47 hK rfl) fun a hK => ?_
                                    refine sp (k := 15) rfl hK (by decide) (wff hb_54712) rfl (fun w hS => r_load Try.isAgg47 hK rfl (hS.cell (.head _) rfl)) fun a hK => ?_
                                    obtain ⟨y_54727, h_54728, H⟩ := bind_some H
                                    obtain ⟨b_54729, o_54730, c_54731, cs_54732, hv_54733, hr_54734, hc_54735, h_547280, h_547281⟩ := hs_36535.ix h_54728
                                    subst hr_54734
                                    refine sp (k := 16) rfl hK (by decide) (wff hb_54712) rfl (fun w hS => r_indexAddr_R Try.underlying47 Try.sizeOf3 hv_54733 h_547280 h_547281 hK rfl rfl) fun a hK => ?_
                                    refine sp (k := 17) rfl hK (by decide) (wff hb_54712) rfl (fun w hS => r_load Try.isAgg3 hK rfl ((hS.ra hRA nil_not).cell (hc_54735 0 _ rfl))) fun a hK => ?_
                                    obtain ⟨y_54736, h_54737, H⟩ := bind_some H
                                    obtain ⟨b_54739, c_54740, cs_54741, hv_54738, hr_54742, hc_54743, h_547370, h_547371⟩ := hS.row_ix (.tail _ (.tail _ (.head _))) hq_18273 rfl rfl h_54737
                                    subst hr_54742
                                    refine sp (k := 18) rfl hK (by decide) (wff hb_54712) rfl (fun w hS => r_indexAddr_R Try.underlying81 Try.sizeOf4 hv_54738 h_547370 h_547371 hK rfl rfl) fun a hK => ?_
                                    refine sp (k := 19) rfl hK (by decide) (wff hb_54712) rfl (fun w hS => r_load Try.isAgg4 hK rfl (hS.row_cell (.tail _ (.tail _ (.head _))) hv_54738 (hc_54743 0 _ rfl))) fun a hK => ?_
                                    refine sp (k := 20) rfl hK (by decide) (wtt hb_54694) rfl (fun w hS => r_pick_f hb_54712 hK rfl rfl) fun a hK => ?_
                                    refine sp (k := 21) rfl hK (by decide) rfl rfl (fun w hS => r_pick_t hb_54694 hK rfl rfl) fun a hK => ?_
                                    refine thenL_nil ?_
                                    obtain ⟨y_54744, h_54745, H⟩ := bind_some H
                                    obtain ⟨b_54747, c_54748, cs_54749, hv_54746, hr_54750, hc_54751, h_547450, h_547451⟩ := hS.row_ix (.tail _ (.tail _ (.head _))) hq_18273 rfl rfl h_54745
                                    subst hr_54750
                                    refine sl hK (by decide) rfl rfl (r_indexAddr_R Try.underlying81 Try.sizeOf4 hv_54746 h_547450 h_547451 hK rfl rfl) fun a hK => ?_
                                    have hS := hS.pk2
                                    refine sl_store_row Try.sizeOf4 hv_54746 h_54745 rfl (show Ty.rep tyBool _ [.bool y_54736] y_54736 from rfl) hq_18273 rfl hS hK rfl rfl rfl rfl fun a w cs_54752 hq_54753 hS hK => ?_
                                    obtain ⟨z_54757, h_54755⟩ := ix_upd x_18274 y_54736 h_54705
                                    have hv_54756 : v_18271 = Value.slice (some ⟨b_54707, 0, none⟩) (upd x_18270 x_18274 y_54736).length c_54708 := by rw [upd_length]; exact hv_54706
                                    obtain ⟨z_54760, h_54758⟩ := ix_upd x_18274 y_54736 h_54737
                                    have hv_54759 : v_18271 = Value.slice (some ⟨b_54739, 0, none⟩) (upd x_18270 x_18274 y_54736).length c_54740 := by rw [upd_length]; exact hv_54738
                                    refine wpList_nil (NoP_nil ?_)
                                    have hS := hS.pk4
                                    have hS := hS.pk4
                                    have hS := hS.pk2
                                    exact ⟨(upd x_18270 x_18274 y_54736), _, _, H, hq_54753, hK.sub (all_cons rfl (all_cons rfl (all_cons rfl (all_cons rfl (all_cons rfl (all_cons rfl (all_nil))))))), hS.trunc 3⟩
                                · rw [ifb_f hb_54694] at H
                                  refine sp_skip (k := 5) rfl hK (by decide) (wtf hb_54694) rfl fun a hK => ?_
                                  refine sp_skip (k := 6) rfl hK (by decide) (wtf hb_54694) rfl fun a hK => ?_
                                  refine sp_skip (k := 7) rfl hK (by decide) (wtf hb_54694) rfl fun a hK => ?_
                                  refine sp_skip (k := 8) rfl hK (by decide) (wtf hb_54694) rfl fun a hK => ?_
                                  refine sp_skip (k := 9) rfl hK (by decide) (wtf hb_54694) rfl fun a hK => ?_
                                  refine sp_skip (k := 10) rfl hK (by decide) (wtf hb_54694) rfl fun a hK => ?_
                                  refine sp_skip (k := 11) rfl hK (by decide) (wtf hb_54694) rfl fun a hK => ?_
                                  refine sp_skip (k := 12) rfl hK (by decide) (wtf hb_54694) rfl fun a hK => ?_
                                  refine sp_skip (k := 13) rfl hK (by decide) rfl rfl fun a hK => ?_
                                  refine sp_skip (k := 14) rfl hK (by decide) rfl rfl fun a hK => ?_
                                  refine sp_skip (k := 15) rfl hK (by decide) rfl rfl fun a hK => ?_
                                  refine sp_skip (k := 16) rfl hK (by decide) rfl rfl fun a hK => ?_
                                  refine sp_skip (k := 17) rfl hK (by decide) rfl rfl fun a hK => ?_
                                  refine sp_skip (k := 18) rfl hK (by decide) rfl rfl fun a hK => ?_
                                  refine sp_skip (k := 19) rfl hK (by decide) rfl rfl fun a hK => ?_
                                  refine sp_skip (k := 20) rfl hK (by decide) (wtf hb_54694) rfl fun a hK => ?_
                                  refine sp (k := 21) rfl hK (by decide) rfl rfl (fun w hS => r_pick_f hb_54694 hK rfl rfl) fun a hK => ?_
                                  refine thenL_nil ?_
                                  obtain ⟨y_54761, h_54762, H⟩ := bind_some H
                                  obtain ⟨b_54764, c_54765, cs_54766, hv_54763, hr_54767, hc_54768, h_547620, h_547621⟩ := hS.row_ix (.tail _ (.tail _ (.head _))) hq_18273 rfl rfl h_54762
                                  subst hr_54767
                                  refine sl hK (by decide) rfl rfl (r_indexAddr_R Try.underlying81 Try.sizeOf4 hv_54763 h_547620 h_547621 hK rfl rfl) fun a hK => ?_
                                  have hS := hS.pk2
                                  refine sl_store_row Try.sizeOf4 hv_54763 h_54762 rfl (show Ty.rep tyBool _ [.bool false] false from rfl) hq_18273 rfl hS hK rfl rfl rfl rfl fun a w cs_54769 hq_54770 hS hK => ?_
                                  refine wpList_nil (NoP_nil ?_)
                                  have hS := hS.pk4
                                  have hS := hS.pk4
                                  have hS := hS.pk2
                                  exact ⟨(upd x_18270 x_18274 false), _, _, H, hq_54770, hK.sub (all_cons rfl (all_cons rfl (all_cons rfl (all_cons rfl (all_cons rfl (all_cons rfl (all_nil))))))), hS.trunc 3⟩
                              · rintro a w ⟨x_54607, v_54608, cs_54609, H, hq_54610, hK, hS⟩
                                unfold pred_Holds.j11 at H
                                have hS := hS.pk2
                                have hS := hS.pk2
                                have hS := hS.pk2
                                exact ⟨x_54607, _, _, H, hq_54610, hK.sub (all_cons rfl (all_cons rfl (all_cons rfl (all_cons rfl (all_cons rfl (all_cons rfl (all_nil))))))), hS⟩
                            · rw [ifb_f hb_54445] at H
                              refine wp_skip ?_
                              have hS := hS.pk4
                              have hS := hS.pk4
                              have hS := hS.pk4
                              exact ⟨x_18270, _, _, H, hq_18273, hK.sub (all_cons rfl (all_cons rfl (all_cons rfl (all_cons rfl (all_cons rfl (all_cons rfl (all_nil))))))), hS.trunc 3⟩
                          · rintro a w ⟨x_54440, v_54441, cs_54442, H, hq_54443, hK, hS⟩
                            unfold pred_Holds.j10 at H
                            have hS := hS.pk2
                            have hS := hS.pk2
                            have hS := hS.pk2
                            exact ⟨x_54440, _, _, H, hq_54443, hK.sub (all_cons rfl (all_cons rfl (all_cons rfl (all_cons rfl (all_cons rfl (all_cons rfl (all_nil))))))), hS⟩
                      · rintro a w ⟨x_53780, v_53781, cs_53782, H, hq_53783, hK, hS⟩
                        unfold pred_Holds.j8 at H
                        have hS := hS.pk2
                        have hS := hS.pk2
                        have hS := hS.pk2
                        exact ⟨x_53780, _, _, H, hq_53783, hK.sub (all_cons rfl (all_cons rfl (all_cons rfl (all_cons rfl (all_cons rfl (all_cons rfl (all_nil))))))), hS⟩
                  · rintro a w ⟨x_52600, v_52601, cs_52602, H, hq_52603, hK, hS⟩
                    unfold pred_Holds.j6 at H
                    have hS := hS.pk2
                    have hS := hS.pk2
                    have hS := hS.pk2
                    exact ⟨x_52600, _, _, H, hq_52603, hK.sub (all_cons rfl (all_cons rfl (all_cons rfl (all_cons rfl (all_cons rfl (all_cons rfl (all_nil))))))), hS⟩
              · rintro a w ⟨x_50269, v_50270, cs_50271, H, hq_50272, hK, hS⟩
                unfold pred_Holds.j4 at H
                have hS := hS.pk2
                have hS := hS.pk2
                have hS := hS.pk2
                exact ⟨x_50269, _, _, H, hq_50272, hK.sub (all_cons rfl (all_cons rfl (all_cons rfl (all_cons rfl (all_cons rfl (all_cons rfl (all_nil))))))), hS⟩
          · rintro a w ⟨x_45655, v_45656, cs_45657, H, hq_45658, hK, hS⟩
            unfold pred_Holds.j2 at H
            refine wp_region_lit ?_
            refine sl hK (by decide) rfl rfl (r_ibin hK rfl rfl rfl) fun a hK => ?_
            refine sl hK (by decide) rfl rfl (r_move hK rfl) fun a hK => ?_
            refine wpList_nil ?_
            have hS := hS.pk2
            have hS := hS.pk2
            have hS := hS.pk2
            exact ⟨_, Nat.lt_succ_self _, x_45655, (IntKind.i64.wrap (x_18274 + 1)), _, _, H, hq_45658, hK.sub (all_cons rfl (all_cons rfl (all_cons rfl (all_cons rfl (all_cons rfl (all_cons rfl (all_nil))))))), hS⟩
        · rw [ifb_f hb_36524] at H
          refine wp_exit ?_
          refine wp_seq ?_
          refine wp_region_lit ?_
          refine sl hK (by decide) rfl rfl (r_move hK rfl) fun a hK => ?_
          refine sl hK (by decide) rfl rfl (r_move hK rfl) fun a hK => ?_
          obtain ⟨y_54772, h_54773, H⟩ := bind_some H
          obtain ⟨b_54775, c_54776, cs_54777, hv_54774, hr_54778, hc_54779, h_547730, h_547731⟩ := hS.row_ix (.head _) hq_18273 rfl rfl h_54773
          subst hr_54778
          refine sl hK (by decide) rfl rfl (r_indexAddr_R Try.underlying81 Try.sizeOf4 hv_54774 h_547730 h_547731 hK rfl rfl) fun a hK => ?_
          refine sl hK (by decide) rfl rfl (r_load Try.isAgg4 hK rfl (hS.row_cell (.head _) hv_54774 (hc_54779 0 _ rfl))) fun a hK => ?_
          refine sl hK (by decide) rfl rfl (r_assign hK rfl) fun a hK => ?_
          refine wpList_nil ?_
          obtain rfl := Option.some.inj H
          refine wp_ret ?_
          repeat (first | refine ret_then ?_ | refine ret_block ?_ | refine ret_scope ?_)
          exact ret_1 Try.results55 hK (rv_tmp hK rfl) ⟨rfl, hS.bel⟩

/-! ### catchment/pred.Where: function 39 -/
set_option maxHeartbeats 4000000 in
set_option maxRecDepth 100000 in
theorem pred_Where.calls (a0 : api_Table) (a1 : api_Query) (a2 : Int) {w0 : World} {R : Hp} {RA : Hp} {v0_0 : Value} {v0_1 : Value} {v1_0 : Value} (hRA : RA.sub w0) (hR : R.sub w0) (h0_0 : SlR ty_api_Col RA v0_0 a0.Cols) (h0_1 : SlR (tySl ty_api_Value) RA v0_1 a0.Rows) (h1_0 : SlR ty_api_Node RA v1_0 a1.N) (hG : GF RA) {r : api_Table} (H : pred_Where a0 a1 a2 = some r) : Calls Try.prog 39 #[.agg #[v0_0, v0_1], .agg #[v1_0], .int .i64 a2] w0 (Rets fun v w' => ∃ (R' : Hp) (u0 : Value) (cu0 : List Value) (u1 : Value) (cu1 : List Value), v = .agg #[u0, u1] ∧ St [] w0 w' R' [.row 38 2 u0 r.Cols.length cu0, .row 44 1 u1 r.Rows.length cu1] ∧ RLe [] w0 R R' ∧ Reps ty_api_Col R' cu0 r.Cols ∧ Reps (tySl ty_api_Value) R' cu1 r.Rows ∧ Apart R R' cu1) := by
  unfold pred_Where at H
  refine enter (args := [.agg #[v0_0, v0_1], .agg #[v1_0], .int .i64 a2]) Try.func39 rfl Try.ntmps39 rfl fun a hK => ?_
  have hS := St.init hR
  have hRL := RLe.refl (M := []) w0 R
  refine wp_seq ?_
  refine wp_region_lit ?_
  refine sl_box hS hK (by decide) rfl rfl (c := [v0_0, v0_1]) rfl fun a w b_1 hS hK => ?_
  refine sl_box hS hK (by decide) rfl rfl (c := [v1_0]) rfl fun a w b_2 hS hK => ?_
  refine sl_alloc Try.zeroValue25 hS hK (by decide) rfl rfl fun a w b_3 hS hK => ?_
  refine wpList_nil ?_
  refine wp_seq ?_
  refine wp_region_lit ?_
  refine sl hK (by decide) rfl rfl (r_fieldAddr Try.underlying25 rfl Try.sizeOf22 hK rfl) fun a hK => ?_
  refine sl hK (by decide) rfl rfl (r_load Try.isAgg22 hK rfl (hS.cell (.tail _ (.tail _ (.head _))) rfl)) fun a hK => ?_
  obtain ⟨y_4, h_5, H⟩ := bind_some H
  refine sl_call Try.call43 hK (by decide) rfl rfl rfl (slices_Clone_api_Col_api_Col.calls a0.Cols (lentOf_sub [] _) hS.sub (h0_0.mono (hS.raLe0 hRA nil_not)) h_5) fun a v_ w hv_ hK => ?_
  obtain ⟨R_6, v_9, cs_10, hv_, hr_, hl_7, hq_11⟩ := hv_
  have hv_ := hv_.symm
  subst hv_
  obtain ⟨hS, hl_7⟩ := hS.sp0.back hr_ hl_7
  have hS := hS.un1
  have hRL := hRL.trans hl_7
  have ho_12 := hS.row_one (.head _)
  refine sl hK (by decide) rfl rfl (r_buildC (ps := [(0, v_9)]) (c := [v_9, .slice none 0 0]) Try.underlying25 Try.zeroValue25 places25 hK rfl (pc_cons (cells1 ho_12) pc_nil) rfl rfl) fun a hK => ?_
  refine sl_alloc Try.zeroValue25 hS hK (by decide) rfl rfl fun a w b_13 hS hK => ?_
  refine sl_storeA (vs := [v_9, .slice none 0 0]) (c' := [v_9, .slice none 0 0]) Try.sizeOf25 hS hK rfl rfl rfl rfl (all_cons (hS.row_one (.tail _ (.head _))) (all_cons rfl (all_nil))) (Nat.le_of_ble_eq_true rfl) rfl fun a w hS hK => ?_
  refine wpList_nil ?_
  refine wp_seq ?_
  refine wp_seq ?_
  refine wp_region_lit ?_
  refine sl hK (by decide) rfl rfl (r_fieldAddr Try.underlying25 rfl Try.sizeOf23 hK rfl) fun a hK => ?_
  refine sl hK (by decide) rfl rfl (r_load Try.isAgg23 hK rfl (hS.cell (.tail _ (.tail _ (.tail _ (.tail _ (.head _))))) rfl)) fun a hK => ?_
  refine sl hK (by decide) rfl rfl (r_len_R Try.underlying23 h0_1 hK rfl) fun a hK => ?_
  refine sl hK (by decide) rfl rfl (r_move hK rfl) fun a hK => ?_
  refine wpList_nil ?_
  refine wp_block ?_
  refine wp_loop_k (fun k_l0 a w => ∃ (x_146 : List (List api_Value)) (x_151 : Int) (R_152 : Hp) (v_147 : Value) (cs_148 : List Value), pred_Where.l0 a0 a1 a2 y_4 k_l0 x_146 x_151 = some r ∧ RLe [] w0 R_6 R_152 ∧ Reps (tySl ty_api_Value) R_152 cs_148 x_146 ∧ Apart R R_152 cs_148 ∧ Kn 36 a [(2, .int .i64 a2), (3, .pointer (some ⟨b_1, 0, none⟩)), (4, .pointer (some ⟨b_2, 0, none⟩)), (6, .pointer (some ⟨b_3, 0, none⟩)), (7, .pointer (some ⟨b_13, 0, none⟩)), (15, v0_1), (16, .int .i64 (a0.Rows.length : Int)), (17, .int .i64 x_151)] ∧ St [] w0 w R_152 [.cells b_1 [v0_0, v0_1] 25, .cells b_2 [v1_0] 52, .cells b_3 [.slice none 0 0, .slice none 0 0] 25, .row 38 2 v_9 y_4.length cs_10, .row 44 1 v_147 x_146.length cs_148, .cells b_13 [v_9, v_147] 25]) (((a0.Rows.length : Int) - 0).toNat + 1) ?_ ?_
  · have hS := hS.row_nil 44 1
    have hq_267 : Reps (tySl ty_api_Value) R_6 [] ([] : List (List api_Value)) := Reps.nil _ _
    have hS := hS.pk1
    have hS := hS.pk1
    have hS := hS.pk2
    have hS := hS.pk3
    have hS := hS.pk4
    have hS := hS.pk5
    exact ⟨[], 0, _, _, _, H, (RLe.refl _ _), hq_267, (Apart.nil _ _), hK.sub (all_cons rfl (all_cons rfl (all_cons rfl (all_cons rfl (all_cons rfl (all_cons rfl (all_cons rfl (all_cons rfl (all_nil))))))))), hS⟩
  · rintro k_l0 a w ⟨x_146, x_151, R_152, v_147, cs_148, H, hl_153, hq_149, hap_150, hK, hS⟩
    cases k_l0 with
    | zero => cases H
    | succ k_l0 =>
    rw [pred_Where.l0.eq_2] at H
    have hRL := hRL.trans hl_153
    refine wp_seq ?_
    refine wp_region_lit ?_
    refine sl hK (by decide) rfl rfl (r_ibin hK rfl rfl rfl) fun a hK => ?_
    refine wpList_nil ?_
    refine wp_seq ?_
    refine wp_cond_split (hK.ev rfl) (fun (hb_268 : (decide (x_151 < (a0.Rows.length : Int))) = true) => ?_) (fun (hb_268 : (decide (x_151 < (a0.Rows.length : Int))) = false) => ?_)
    · rw [ifb_t hb_268] at H
      refine wp_skip ?_
      refine wp_seq ?_
      refine wp_block ?_
      refine wp_seq ?_
      refine wp_region_lit ?_
      obtain ⟨y_269, h_270, H⟩ := bind_some H
      obtain ⟨b_271, o_272, c_273, cs_274, hv_275, hr_276, hc_277, h_2700, h_2701⟩ := h0_1.ix h_270
      obtain ⟨v_278, rfl, hs_279⟩ := hr_276
      refine sl hK (by decide) rfl rfl (r_indexAddr_R Try.underlying23 Try.sizeOf44 hv_275 h_2700 h_2701 hK rfl rfl) fun a hK => ?_
      refine sl hK (by decide) rfl rfl (r_load Try.isAgg44 hK rfl ((hS.ra hRA nil_not).cell (hc_277 0 _ rfl))) fun a hK => ?_
      refine sl hK (by decide) rfl rfl (r_assign hK rfl) fun a hK => ?_
      refine wpList_nil ?_
      refine wp_seq ?_
      refine wp_region_lit ?_
      refine sl hK (by decide) rfl rfl (r_loadA (cs := [v1_0]) Try.isAgg52 Try.sizeOf52 rfl hK rfl (hS.cells_of (m := 1) (.tail _ (.head _)) rfl)) fun a hK => ?_
      refine sl hK (by decide) rfl rfl (r_move hK rfl) fun a hK => ?_
      refine sl hK (by decide) rfl rfl (r_fieldAddr Try.underlying25 rfl Try.sizeOf22 hK rfl) fun a hK => ?_
      refine sl hK (by decide) rfl rfl (r_load Try.isAgg22 hK rfl (hS.cell (.head _) rfl)) fun a hK => ?_
      refine sl hK (by decide) rfl rfl (r_move hK rfl) fun a hK => ?_
      obtain ⟨y_280, h_281, H⟩ := bind_some H
      refine sl_callV Try.call55 hS hK (by decide) rfl rfl rfl (pred_Holds.calls a1 a2 a0.Cols y_269 (lentOf_sub [] _) (h1_0.mono (hS.raLe0 hRA nil_not)) (h0_0.mono (hS.raLe0 hRA nil_not)) (hs_279.mono (hS.raLe0 hRA nil_not)) (GF.mono (hS.raLe0 hRA nil_not) hG) h_281) fun a w hS hK => ?_
      refine wpList_nil ?_
      refine wp_mid (fun a w => ∃ (x_328 : List (List api_Value)) (R_333 : Hp) (v_329 : Value) (cs_330 : List Value), pred_Where.j1 (pred_Where.l0 a0 a1 a2 y_4 k_l0) a0 x_151 x_328 = some r ∧ RLe [] w0 R_152 R_333 ∧ Reps (tySl ty_api_Value) R_333 cs_330 x_328 ∧ Apart R R_333 cs_330 ∧ Kn 36 a [(2, .int .i64 a2), (3, .pointer (some ⟨b_1, 0, none⟩)), (4, .pointer (some ⟨b_2, 0, none⟩)), (6, .pointer (some ⟨b_3, 0, none⟩)), (7, .pointer (some ⟨b_13, 0, none⟩)), (15, v0_1), (16, .int .i64 (a0.Rows.length : Int)), (17, .int .i64 x_151)] ∧ St [] w0 w R_333 [.cells b_1 [v0_0, v0_1] 25, .cells b_2 [v1_0] 52, .cells b_3 [.slice none 0 0, .slice none 0 0] 25, .row 38 2 v_9 y_4.length cs_10, .row 44 1 v_329 x_328.length cs_330, .cells b_13 [v_9, v_329] 25]) ?_ ?_
      · refine wp_cond_split (hK.ev rfl) (fun (hb_335 : y_280 = true) => ?_) (fun (hb_335 : y_280 = false) => ?_)
        · rw [ifb_t hb_335] at H
          refine parT_region (C := fun w => St [] w0 w R_152 [.cells b_1 [v0_0, v0_1] 25, .cells b_2 [v1_0] 52, .cells b_3 [.slice none 0 0, .slice none 0 0] 25, .row 38 2 v_9 y_4.length cs_10, .row 44 1 v_147 x_146.length cs_148, .cells b_13 [v_9, v_147] 25]) 5 [(0, true), (1, true), (2, true), (3, false), (4, false)] mixed (by kernel_rfl) hS (fun w hS => hS) fun w hS => ?_
          refine sp (k := 0) rfl hK (by decide) rfl rfl (fun w hS => r_fieldAddr Try.underlying25 rfl Try.sizeOf23 hK rfl) fun a hK => ?_
          refine sp (k := 1) rfl hK (by decide) rfl rfl (fun w hS => r_load Try.isAgg23 hK rfl (hS.cell (.tail _ (.tail _ (.tail _ (.tail _ (.tail _ (.head _)))))) rfl)) fun a hK => ?_
          refine sp (k := 2) rfl hK (by decide) rfl rfl (fun w hS => r_move hK rfl) fun a hK => ?_
          refine spw (k := 3) rfl rfl hS ?_
          obtain ⟨y_358, h_359, H⟩ := bind_some H
          refine sl_call Try.call44 hK (by decide) rfl rfl rfl (slices_Clone_api_Value_api_Value.calls y_269 (lentOf_sub [] _) hS.sub (hs_279.mono (hS.raLe0 hRA nil_not)) h_359) fun a v_ w hv_ hK => ?_
          obtain ⟨R_360, v_363, cs_364, hv_, hr_, hl_361, hq_365⟩ := hv_
          have hv_ := hv_.symm
          subst hv_
          obtain ⟨hS, hl_361⟩ := hS.sp0.back hr_ hl_361
          have hS := hS.un1
          have hRL := hRL.trans hl_361
          refine parK_nil ((hS.pk6.pk6.pk6.pk6.pk6.pk6.trunc 6).lower hl_361.le) ?_
          refine spw (k := 4) rfl rfl ((hS.pk6.pk6.pk6.pk6.pk6.pk6.trunc 6).lower hl_361.le) ?_
          have ho_366 := hS.row_one (.head _)
          refine sl_buildSliceF (zc := [.slice none 0 0]) (ps := [(0, v_363)]) (c := [v_363]) [[v_363]] Try.underlying23 Try.sizeOf44 Try.zeroValue44 rfl (pc_cons (cells1 ho_366) pc_nil) rfl rfl (Nat.le_of_ble_eq_true rfl) rfl (all_cons rfl (all_nil)) rfl hS hK (by decide) rfl fun a w b_367 hS hK => ?_
          refine parK_nil ((hS.pk7.pk7.pk7.pk7.pk7.pk7.trunc 6).lower hl_361.le) ?_
          refine thenL_nil ?_
          have hS := hS.pk6
          have hS := hS.pk2
          obtain ⟨R_368, hS, hl_370, hs_369, hn_371⟩ := hS.fz_rowN hq_365 rfl rfl
          have hRL := hRL.trans hl_370
          obtain ⟨y_372, h_373, H⟩ := bind_some H
          refine sl_append_LA (ty := (tySl ty_api_Value)) (ys := [y_358]) elT23 (by decide) rfl (hq_149.mono (hl_361.le.trans hl_370.le)) rfl (Reps.cons (show Ty.rep (tySl ty_api_Value) _ [v_363] y_358 from ⟨_, rfl, hs_369⟩) (Reps.nil _ _)) rfl h_373 hS hK (by decide) rfl rfl rfl fun a w v_374 cs_375 hcq_378 hq_376 hS hK => ?_
          have hap_379 : Apart R R_368 cs_375 := by rw [hcq_378]; exact (Apart.app (hap_150.mono hl_361.le) (hl_7.le.trans (hl_153.le.trans hl_361.le)) hl_370.le hn_371)
          refine sl hK (by decide) rfl rfl (r_fieldAddr Try.underlying25 rfl Try.sizeOf23 hK rfl) fun a hK => ?_
          have hS := hS.pk5
          refine sl_store1 (c' := [v_9, v_374]) Try.sizeOf23 hS hK rfl rfl rfl (hS.row_one (.tail _ (.head _))) (Nat.le_of_ble_eq_true rfl) rfl fun a w hS hK => ?_
          refine wpList_nil (NoP_nil ?_)
          have hS := hS.pk1
          have hS := hS.pk5
          have hS := hS.pk5
          have hS := hS.pk5
          have hS := hS.pk5
          exact ⟨y_372, _, _, _, H, (hl_361.trans hl_370), hq_376, hap_379, hK.sub (all_cons rfl (all_cons rfl (all_cons rfl (all_cons rfl (all_cons rfl (all_cons rfl (all_cons rfl (all_cons rfl (all_nil))))))))), hS⟩
        · rw [ifb_f hb_335] at H
          refine wp_skip ?_
          have hS := hS.pk5
          have hS := hS.pk5
          have hS := hS.pk5
          have hS := hS.pk5
          have hS := hS.pk5
          have hS := hS.pk5
          exact ⟨x_146, _, _, _, H, (RLe.refl _ _), hq_149, hap_150, hK.sub (all_cons rfl (all_cons rfl (all_cons rfl (all_cons rfl (all_cons rfl (all_cons rfl (all_cons rfl (all_cons rfl (all_nil))))))))), hS⟩
      · rintro a w ⟨x_328, R_333, v_329, cs_330, H, hl_334, hq_331, hap_332, hK, hS⟩
        unfold pred_Where.j1 at H
        have hRL := hRL.trans hl_334
        refine wp_region_lit ?_
        refine sl hK (by decide) rfl rfl (r_ibin hK rfl rfl rfl) fun a hK => ?_
        refine sl hK (by decide) rfl rfl (r_move hK rfl) fun a hK => ?_
        refine wpList_nil ?_
        have hS := hS.pk5
        have hS := hS.pk5
        have hS := hS.pk5
        have hS := hS.pk5
        have hS := hS.pk5
        have hS := hS.pk5
        exact ⟨_, Nat.lt_succ_self _, x_328, (IntKind.i64.wrap (x_151 + 1)), _, _, _, H, (hl_153.trans hl_334), hq_331, hap_332, hK.sub (all_cons rfl (all_cons rfl (all_cons rfl (all_cons rfl (all_cons rfl (all_cons rfl (all_cons rfl (all_cons rfl (all_nil))))))))), hS⟩
    · rw [ifb_f hb_268] at H
      refine wp_exit ?_
      refine wp_seq ?_
      refine wp_region_lit ?_
      refine sl hK (by decide) rfl rfl (r_loadA (cs := [v_9, v_147]) Try.isAgg25 Try.sizeOf25 rfl hK rfl (hS.cells_of (m := 2) (.tail _ (.tail _ (.tail _ (.tail _ (.tail _ (.head _)))))) rfl)) fun a hK => ?_
      have hS := hS.pk2
      refine sl_storeA (vs := [v_9, v_147]) (c' := [v_9, v_147]) Try.sizeOf25 hS hK rfl rfl rfl rfl (all_cons (hS.row_one (.tail _ (.tail _ (.tail _ (.head _))))) (all_cons (hS.row_one (.tail _ (.tail _ (.tail _ (.tail _ (.head _)))))) (all_nil))) (Nat.le_of_ble_eq_true rfl) rfl fun a w hS hK => ?_
      refine wpList_nil ?_
      obtain rfl := Option.some.inj H
      refine wp_ret ?_
      repeat (first | refine ret_then ?_ | refine ret_block ?_ | refine ret_scope ?_)
      exact ret_1 Try.results39 hK (rv_cell (c := [v_9, v_147]) Try.isAgg25 Try.sizeOf25 hS (.head _) rfl hK rfl) ⟨_, rfl, _, _, _, _, _, rfl, (hS.pk4.pk4.trunc 2), hRL, (hq_11.mono hl_153.le), hq_149, hap_150⟩

/-! ### catchment/rowops.Filter: function 21 -/
set_option maxHeartbeats 4000000 in
set_option maxRecDepth 100000 in
theorem rowops_Filter.calls (a0 : api_Table) (a1 : api_Query) (a2 : Int) {w0 : World} {R : Hp} {RA : Hp} {v0_0 : Value} {v0_1 : Value} {v1_0 : Value} (hRA : RA.sub w0) (hR : R.sub w0) (h0_0 : SlR ty_api_Col RA v0_0 a0.Cols) (h0_1 : SlR (tySl ty_api_Value) RA v0_1 a0.Rows) (h1_0 : SlR ty_api_Node RA v1_0 a1.N) (hG : GF RA) {r : api_Table × Int} (H : rowops_Filter a0 a1 a2 = some r) : Calls Try.prog 21 #[.agg #[v0_0, v0_1], .agg #[v1_0], .int .i64 a2] w0 (Rets fun v w' => ∃ (R' : Hp) (u0 : Value) (cu0 : List Value) (u1 : Value) (cu1 : List Value), v = .tuple #[.agg #[u0, u1], .int .i64 r.2] ∧ St [] w0 w' R' [.row 38 2 u0 r.1.Cols.length cu0, .row 44 1 u1 r.1.Rows.length cu1] ∧ RLe [] w0 R R' ∧ Reps ty_api_Col R' cu0 r.1.Cols ∧ Reps (tySl ty_api_Value) R' cu1 r.1.Rows) := by
  unfold rowops_Filter at H
  refine enter (args := [.agg #[v0_0, v0_1], .agg #[v1_0], .int .i64 a2]) Try.func21 rfl Try.ntmps21 rfl fun a hK => ?_
  have hS := St.init hR
  have hRL := RLe.refl (M := []) w0 R
  refine wp_seq ?_
  refine wp_region_lit ?_
  refine sl_box hS hK (by decide) rfl rfl (c := [v0_0, v0_1]) rfl fun a w b_1 hS hK => ?_
  refine sl_box hS hK (by decide) rfl rfl (c := [v1_0]) rfl fun a w b_2 hS hK => ?_
  refine sl_alloc Try.zeroValue25 hS hK (by decide) rfl rfl fun a w b_3 hS hK => ?_
  refine sl hK (by decide) rfl rfl (r_assign hK rfl) fun a hK => ?_
  refine wpList_nil ?_
  refine wp_seq ?_
  refine wp_seq ?_
  refine wp_region_lit ?_
  refine sl hK (by decide) rfl rfl (r_loadA (cs := [v0_0, v0_1]) Try.isAgg25 Try.sizeOf25 rfl hK rfl (hS.cells_of (m := 2) (.tail _ (.tail _ (.head _))) rfl)) fun a hK => ?_
  obtain ⟨y_4, h_5, H⟩ := bind_some H
  refine sl_callV Try.call24 hS hK (by decide) rfl rfl rfl (table_Check.calls a0 (lentOf_sub [] _) (h0_0.mono (hS.raLe0 hRA nil_not)) (h0_1.mono (hS.raLe0 hRA nil_not)) h_5) fun a w hS hK => ?_
  refine sl hK (by decide) rfl rfl (r_assign hK rfl) fun a hK => ?_
  refine wpList_nil ?_
  refine wp_seq ?_
  refine wp_region_lit ?_
  refine sl hK (by decide) rfl rfl (r_move hK rfl) fun a hK => ?_
  refine sl hK (by decide) rfl rfl (r_ibin hK rfl rfl rfl) fun a hK => ?_
  refine wpList_nil ?_
  refine wp_cond_split (hK.ev rfl) (fun (hb_6 : (y_4 != 0) = true) => ?_) (fun (hb_6 : (y_4 != 0) = false) => ?_)
  · rw [ifb_t hb_6] at H
    refine wp_seq ?_
    refine wp_region_lit ?_
    refine sl hK (by decide) rfl rfl (r_buildC (ps := []) (c := [.slice none 0 0, .slice none 0 0]) Try.underlying25 Try.zeroValue25 places25 hK rfl pc_nil rfl rfl) fun a hK => ?_
    refine sl hK (by decide) rfl rfl (r_move hK rfl) fun a hK => ?_
    refine sl_storeA (vs := [.slice none 0 0, .slice none 0 0]) (c' := [.slice none 0 0, .slice none 0 0]) Try.sizeOf25 hS hK rfl rfl rfl rfl (all_cons rfl (all_cons rfl (all_nil))) (Nat.le_of_ble_eq_true rfl) rfl fun a w hS hK => ?_
    refine sl hK (by decide) rfl rfl (r_assign hK rfl) fun a hK => ?_
    refine wpList_nil ?_
    have hS := hS.row_nil 38 2
    have hq_8 : Reps ty_api_Col R [] ([] : List api_Col) := Reps.nil _ _
    have hS := hS.row_nil 44 1
    have hq_10 : Reps (tySl ty_api_Value) R [] ([] : List (List api_Value)) := Reps.nil _ _
    obtain rfl := Option.some.inj H
    refine wp_ret ?_
    repeat (first | refine ret_then ?_ | refine ret_block ?_ | refine ret_scope ?_)
    exact ret_2 Try.results21 hK (rv_cell (c := [(.slice none 0 0), (.slice none 0 0)]) Try.isAgg25 Try.sizeOf25 hS (.tail _ (.tail _ (.head _))) rfl hK rfl) (rv_tmp hK rfl) ⟨_, rfl, _, _, _, _, _, rfl, (hS.pk1.trunc 2), hRL, hq_8, hq_10⟩
  · rw [ifb_f hb_6] at H
    refine wp_skip ?_
    refine wp_seq ?_
    refine wp_region_lit ?_
    refine sl hK (by decide) rfl rfl (r_loadA (cs := [v0_0, v0_1]) Try.isAgg25 Try.sizeOf25 rfl hK rfl (hS.cells_of (m := 2) (.tail _ (.tail _ (.head _))) rfl)) fun a hK => ?_
    refine sl hK (by decide) rfl rfl (r_loadA (cs := [v1_0]) Try.isAgg52 Try.sizeOf52 rfl hK rfl (hS.cells_of (m := 1) (.tail _ (.head _)) rfl)) fun a hK => ?_
    refine sl hK (by decide) rfl rfl (r_move hK rfl) fun a hK => ?_
    obtain ⟨y_11, h_12, H⟩ := bind_some H
    refine sl_call Try.call39 hK (by decide) rfl rfl rfl (pred_Where.calls a0 a1 a2 (lentOf_sub [] _) hS.sub (h0_0.mono (hS.raLe0 hRA nil_not)) (h0_1.mono (hS.raLe0 hRA nil_not)) (h1_0.mono (hS.raLe0 hRA nil_not)) (GF.mono (hS.raLe0 hRA nil_not) hG) h_12) fun a v_ w hv_ hK => ?_
    obtain ⟨R_13, v_16, cs_17, v_20, cs_21, hv_, hr_, hl_14, hq_18, hq_22, hap_23⟩ := hv_
    have hv_ := hv_.symm
    subst hv_
    obtain ⟨hS, hl_14⟩ := hS.sp0.back hr_ hl_14
    have hS := hS.un2
    have hRL := hRL.trans hl_14
    obtain ⟨y_24, h_25, H⟩ := bind_some H
    refine sl_call Try.call26 hK (by decide) rfl rfl rfl (table_Canon.calls y_11 (lentOf_sub [] _) hS.sub (hS.lend_row0 (.head _) hq_18 rfl rfl) (hS.lend_row0 (.tail _ (.head _)) hq_22 rfl rfl) h_25) fun a v_ w hv_ hK => ?_
    obtain ⟨R_26, v_29, cs_30, v_33, cs_34, hv_, hr_, hl_27, hq_31, hq_35, hap_36⟩ := hv_
    have hv_ := hv_.symm
    subst hv_
    obtain ⟨hS, hl_27⟩ := hS.sp0.back hr_ hl_27
    have hS := hS.un2
    have hRL := hRL.trans hl_27
    have hS := hS.pk4
    refine sl_storeA (vs := [v_29, v_33]) (c' := [v_29, v_33]) Try.sizeOf25 hS hK rfl rfl rfl rfl (all_cons (hS.row_one (.tail _ (.head _))) (all_cons (hS.row_one (.tail _ (.tail _ (.head _)))) (all_nil))) (Nat.le_of_ble_eq_true rfl) rfl fun a w hS hK => ?_
    refine sl hK (by decide) rfl rfl (r_assign hK rfl) fun a hK => ?_
    refine wpList_nil ?_
    obtain rfl := Option.some.inj H
    refine wp_ret ?_
    repeat (first | refine ret_then ?_ | refine ret_block ?_ | refine ret_scope ?_)
    exact ret_2 Try.results21 hK (rv_cell (c := [v_29, v_33]) Try.isAgg25 Try.sizeOf25 hS (.head _) rfl hK rfl) (rv_tmp hK rfl) ⟨_, rfl, _, _, _, _, _, rfl, (hS.pk2.pk2.trunc 2), hRL, hq_31, hq_35⟩

/-! ### catchment/catchmentref01.Holds: function 71 -/
set_option maxHeartbeats 4000000 in
set_option maxRecDepth 100000 in
theorem ref01_Holds.calls (a0 : Int) (a1 : api_Value) (a2 : api_Value) {r : Bool} (H : ref01_Holds a0 a1 a2 = some r) (w0 : World) : CallsV Try.prog 71 #[.int .i64 a0, .agg #[.int .i64 a1.Kind, .int .i64 a1.N, .string a1.S, .int .i64 a1.H.a0, .int .i64 a1.H.a1, .int .i64 a1.H.a2, .int .i64 a1.H.a3, .int .i64 a1.H.a4, .int .i64 a1.H.a5, .int .i64 a1.H.a6, .int .i64 a1.H.a7], .agg #[.int .i64 a2.Kind, .int .i64 a2.N, .string a2.S, .int .i64 a2.H.a0, .int .i64 a2.H.a1, .int .i64 a2.H.a2, .int .i64 a2.H.a3, .int .i64 a2.H.a4, .int .i64 a2.H.a5, .int .i64 a2.H.a6, .int .i64 a2.H.a7]] w0 (.bool r) := by
  unfold ref01_Holds at H
  refine enter (args := [.int .i64 a0, .agg #[.int .i64 a1.Kind, .int .i64 a1.N, .string a1.S, .int .i64 a1.H.a0, .int .i64 a1.H.a1, .int .i64 a1.H.a2, .int .i64 a1.H.a3, .int .i64 a1.H.a4, .int .i64 a1.H.a5, .int .i64 a1.H.a6, .int .i64 a1.H.a7], .agg #[.int .i64 a2.Kind, .int .i64 a2.N, .string a2.S, .int .i64 a2.H.a0, .int .i64 a2.H.a1, .int .i64 a2.H.a2, .int .i64 a2.H.a3, .int .i64 a2.H.a4, .int .i64 a2.H.a5, .int .i64 a2.H.a6, .int .i64 a2.H.a7]]) Try.func71 rfl Try.ntmps71 rfl fun a hK => ?_
  have hS := St.init (R := fun _ => none) (w := w0) (fun _ _ h => by cases h)
  have hRL := RLe.refl (M := []) w0 (fun _ => none)
  refine wp_seq ?_
  refine wp_region_lit ?_
  refine sl_box hS hK (by decide) rfl rfl (c := [.int .i64 a1.Kind, .int .i64 a1.N, .string a1.S, .int .i64 a1.H.a0, .int .i64 a1.H.a1, .int .i64 a1.H.a2, .int .i64 a1.H.a3, .int .i64 a1.H.a4, .int .i64 a1.H.a5, .int .i64 a1.H.a6, .int .i64 a1.H.a7]) rfl fun a w b_1 hS hK => ?_
  refine sl_box hS hK (by decide) rfl rfl (c := [.int .i64 a2.Kind, .int .i64 a2.N, .string a2.S, .int .i64 a2.H.a0, .int .i64 a2.H.a1, .int .i64 a2.H.a2, .int .i64 a2.H.a3, .int .i64 a2.H.a4, .int .i64 a2.H.a5, .int .i64 a2.H.a6, .int .i64 a2.H.a7]) rfl fun a w b_2 hS hK => ?_
  refine sl hK (by decide) rfl rfl (r_assign hK rfl) fun a hK => ?_
  refine wpList_nil ?_
  refine wp_seq ?_
  refine wp_seq ?_
  refine wp_region_lit ?_
  refine sl hK (by decide) rfl rfl (r_fieldAddr Try.underlying43 rfl Try.sizeOf3 hK rfl) fun a hK => ?_
  refine sl hK (by decide) rfl rfl (r_load Try.isAgg3 hK rfl (hS.cell (.tail _ (.head _)) rfl)) fun a hK => ?_
  refine sl hK (by decide) rfl rfl (r_fieldAddr Try.underlying43 rfl Try.sizeOf3 hK rfl) fun a hK => ?_
  refine sl hK (by decide) rfl rfl (r_load Try.isAgg3 hK rfl (hS.cell (.head _) rfl)) fun a hK => ?_
  refine sl hK (by decide) rfl rfl (r_ibin hK rfl rfl rfl) fun a hK => ?_
  refine wpList_nil ?_
  refine wp_cond_split (hK.ev rfl) (fun (hb_3 : (a1.Kind != a2.Kind) = true) => ?_) (fun (hb_3 : (a1.Kind != a2.Kind) = false) => ?_)
  · rw [ifb_t hb_3] at H
    refine wp_seq ?_
    refine wp_region_lit ?_
    refine sl hK (by decide) rfl rfl (r_assign hK rfl) fun a hK => ?_
    refine wpList_nil ?_
    obtain rfl := Option.some.inj H
    refine wp_ret ?_
    repeat (first | refine ret_then ?_ | refine ret_block ?_ | refine ret_scope ?_)
    exact ret_1 Try.results71 hK (rv_tmp hK rfl) ⟨rfl, hS.bel⟩
  · rw [ifb_f hb_3] at H
    refine wp_skip ?_
    refine wp_seq ?_
    refine wp_region_lit ?_
    refine sl hK (by decide) rfl rfl (r_loadA (cs := [.int .i64 a1.Kind, .int .i64 a1.N, .string a1.S, .int .i64 a1.H.a0, .int .i64 a1.H.a1, .int .i64 a1.H.a2, .int .i64 a1.H.a3, .int .i64 a1.H.a4, .int .i64 a1.H.a5, .int .i64 a1.H.a6, .int .i64 a1.H.a7]) Try.isAgg43 Try.sizeOf43 rfl hK rfl (hS.cells_of (m := 11) (.tail _ (.head _)) rfl)) fun a hK => ?_
    refine sl hK (by decide) rfl rfl (r_loadA (cs := [.int .i64 a2.Kind, .int .i64 a2.N, .string a2.S, .int .i64 a2.H.a0, .int .i64 a2.H.a1, .int .i64 a2.H.a2, .int .i64 a2.H.a3, .int .i64 a2.H.a4, .int .i64 a2.H.a5, .int .i64 a2.H.a6, .int .i64 a2.H.a7]) Try.isAgg43 Try.sizeOf43 rfl hK rfl (hS.cells_of (m := 11) (.head _) rfl)) fun a hK => ?_
    obtain ⟨y_4, h_5, H⟩ := bind_some H
    refine sl_callV Try.call19 hS hK (by decide) rfl rfl rfl (ref01_Compare.calls a1 a2 h_5 _) fun a w hS hK => ?_
    refine sl hK (by decide) rfl rfl (r_assign hK rfl) fun a hK => ?_
    refine wpList_nil ?_
    refine wp_seq ?_
    refine wp_seq ?_
    refine wp_region_lit ?_
    refine sl hK (by decide) rfl rfl (r_move hK rfl) fun a hK => ?_
    refine wpList_nil ?_
    refine wp_block ?_
    refine wp_seq ?_
    refine wp_region_lit ?_
    refine sl hK (by decide) rfl rfl (r_ibin hK rfl rfl rfl) fun a hK => ?_
    refine sl hK (by decide) rfl rfl (r_assign hK rfl) fun a hK => ?_
    refine wpList_nil ?_
    refine wp_cond_split (hK.ev rfl) (fun (hb_6 : (a0 == 1) = true) => ?_) (fun (hb_6 : (a0 == 1) = false) => ?_)
    · rw [ifb_t hb_6] at H
      refine wp_seq ?_
      refine wp_region_lit ?_
      refine sl hK (by decide) rfl rfl (r_move hK rfl) fun a hK => ?_
      refine sl hK (by decide) rfl rfl (r_ibin hK rfl rfl rfl) fun a hK => ?_
      refine sl hK (by decide) rfl rfl (r_assign hK rfl) fun a hK => ?_
      refine wpList_nil ?_
      obtain rfl := Option.some.inj H
      refine wp_ret ?_
      repeat (first | refine ret_then ?_ | refine ret_block ?_ | refine ret_scope ?_)
      exact ret_1 Try.results71 hK (rv_tmp hK rfl) ⟨rfl, hS.bel⟩
    · rw [ifb_f hb_6] at H
      refine wp_seq ?_
      refine wp_region_lit ?_
      refine sl hK (by decide) rfl rfl (r_ibin hK rfl rfl rfl) fun a hK => ?_
      refine sl hK (by decide) rfl rfl (r_assign hK rfl) fun a hK => ?_
      refine wpList_nil ?_
      refine wp_cond_split (hK.ev rfl) (fun (hb_7 : (a0 == 2) = true) => ?_) (fun (hb_7 : (a0 == 2) = false) => ?_)
      · rw [ifb_t hb_7] at H
        refine wp_seq ?_
        refine wp_region_lit ?_
        refine sl hK (by decide) rfl rfl (r_move hK rfl) fun a hK => ?_
        refine sl hK (by decide) rfl rfl (r_ibin hK rfl rfl rfl) fun a hK => ?_
        refine sl hK (by decide) rfl rfl (r_assign hK rfl) fun a hK => ?_
        refine wpList_nil ?_
        obtain rfl := Option.some.inj H
        refine wp_ret ?_
        repeat (first | refine ret_then ?_ | refine ret_block ?_ | refine ret_scope ?_)
        exact ret_1 Try.results71 hK (rv_tmp hK rfl) ⟨rfl, hS.bel⟩
      · rw [ifb_f hb_7] at H
        refine wp_seq ?_
        refine wp_region_lit ?_
        refine sl hK (by decide) rfl rfl (r_ibin hK rfl rfl rfl) fun a hK => ?_
        refine sl hK (by decide) rfl rfl (r_assign hK rfl) fun a hK => ?_
        refine wpList_nil ?_
        refine wp_cond_split (hK.ev rfl) (fun (hb_8 : (a0 == 3) = true) => ?_) (fun (hb_8 : (a0 == 3) = false) => ?_)
        · rw [ifb_t hb_8] at H
          refine wp_seq ?_
          refine wp_region_lit ?_
          refine sl hK (by decide) rfl rfl (r_move hK rfl) fun a hK => ?_
          refine sl hK (by decide) rfl rfl (r_ibin hK rfl rfl rfl) fun a hK => ?_
          refine sl hK (by decide) rfl rfl (r_assign hK rfl) fun a hK => ?_
          refine wpList_nil ?_
          obtain rfl := Option.some.inj H
          refine wp_ret ?_
          repeat (first | refine ret_then ?_ | refine ret_block ?_ | refine ret_scope ?_)
          exact ret_1 Try.results71 hK (rv_tmp hK rfl) ⟨rfl, hS.bel⟩
        · rw [ifb_f hb_8] at H
          refine wp_seq ?_
          refine wp_region_lit ?_
          refine sl hK (by decide) rfl rfl (r_ibin hK rfl rfl rfl) fun a hK => ?_
          refine sl hK (by decide) rfl rfl (r_assign hK rfl) fun a hK => ?_
          refine wpList_nil ?_
          refine wp_cond_split (hK.ev rfl) (fun (hb_9 : (a0 == 4) = true) => ?_) (fun (hb_9 : (a0 == 4) = false) => ?_)
          · rw [ifb_t hb_9] at H
            refine wp_seq ?_
            refine wp_region_lit ?_
            refine sl hK (by decide) rfl rfl (r_move hK rfl) fun a hK => ?_
            refine sl hK (by decide) rfl rfl (r_ibin hK rfl rfl rfl) fun a hK => ?_
            refine sl hK (by decide) rfl rfl (r_assign hK rfl) fun a hK => ?_
            refine wpList_nil ?_
            obtain rfl := Option.some.inj H
            refine wp_ret ?_
            repeat (first | refine ret_then ?_ | refine ret_block ?_ | refine ret_scope ?_)
            exact ret_1 Try.results71 hK (rv_tmp hK rfl) ⟨rfl, hS.bel⟩
          · rw [ifb_f hb_9] at H
            refine wp_seq ?_
            refine wp_region_lit ?_
            refine sl hK (by decide) rfl rfl (r_ibin hK rfl rfl rfl) fun a hK => ?_
            refine sl hK (by decide) rfl rfl (r_assign hK rfl) fun a hK => ?_
            refine wpList_nil ?_
            refine wp_cond_split (hK.ev rfl) (fun (hb_10 : (a0 == 5) = true) => ?_) (fun (hb_10 : (a0 == 5) = false) => ?_)
            · rw [ifb_t hb_10] at H
              refine wp_seq ?_
              refine wp_region_lit ?_
              refine sl hK (by decide) rfl rfl (r_move hK rfl) fun a hK => ?_
              refine sl hK (by decide) rfl rfl (r_ibin hK rfl rfl rfl) fun a hK => ?_
              refine sl hK (by decide) rfl rfl (r_assign hK rfl) fun a hK => ?_
              refine wpList_nil ?_
              obtain rfl := Option.some.inj H
              refine wp_ret ?_
              repeat (first | refine ret_then ?_ | refine ret_block ?_ | refine ret_scope ?_)
              exact ret_1 Try.results71 hK (rv_tmp hK rfl) ⟨rfl, hS.bel⟩
            · rw [ifb_f hb_10] at H
              refine wp_seq ?_
              refine wp_region_lit ?_
              refine sl hK (by decide) rfl rfl (r_ibin hK rfl rfl rfl) fun a hK => ?_
              refine sl hK (by decide) rfl rfl (r_assign hK rfl) fun a hK => ?_
              refine wpList_nil ?_
              refine wp_cond_split (hK.ev rfl) (fun (hb_11 : (a0 == 6) = true) => ?_) (fun (hb_11 : (a0 == 6) = false) => ?_)
              · rw [ifb_t hb_11] at H
                refine wp_seq ?_
                refine wp_region_lit ?_
                refine sl hK (by decide) rfl rfl (r_move hK rfl) fun a hK => ?_
                refine sl hK (by decide) rfl rfl (r_ibin hK rfl rfl rfl) fun a hK => ?_
                refine sl hK (by decide) rfl rfl (r_assign hK rfl) fun a hK => ?_
                refine wpList_nil ?_
                obtain rfl := Option.some.inj H
                refine wp_ret ?_
                repeat (first | refine ret_then ?_ | refine ret_block ?_ | refine ret_scope ?_)
                exact ret_1 Try.results71 hK (rv_tmp hK rfl) ⟨rfl, hS.bel⟩
              · rw [ifb_f hb_11] at H
                refine wp_skip ?_
                refine wp_seq ?_
                refine wp_region_lit ?_
                refine sl hK (by decide) rfl rfl (r_assign hK rfl) fun a hK => ?_
                refine wpList_nil ?_
                obtain rfl := Option.some.inj H
                refine wp_ret ?_
                repeat (first | refine ret_then ?_ | refine ret_block ?_ | refine ret_scope ?_)
                exact ret_1 Try.results71 hK (rv_tmp hK rfl) ⟨rfl, hS.bel⟩

/-! ### catchment/catchmentref15.part: function 72 -/
set_option maxHeartbeats 4000000 in
set_option maxRecDepth 100000 in
theorem ref15_part.calls (a0 : ByteArray) (a1 : ByteArray) {r : Bool} (H : ref15_part a0 a1 = some r) (w0 : World) : CallsV Try.prog 72 #[.string a0, .string a1] w0 (.bool r) := by
  unfold ref15_part at H
  refine enter (args := [.string a0, .string a1]) Try.func72 rfl Try.ntmps72 rfl fun a hK => ?_
  have hS := St.init (R := fun _ => none) (w := w0) (fun _ _ h => by cases h)
  have hRL := RLe.refl (M := []) w0 (fun _ => none)
  refine wp_seq ?_
  refine wp_region_lit ?_
  refine sl hK (by decide) rfl rfl (r_assign hK rfl) fun a hK => ?_
  refine wpList_nil ?_
  refine wp_seq ?_
  refine wp_seq ?_
  refine wp_region_lit ?_
  refine sl hK (by decide) rfl rfl (r_assign hK rfl) fun a hK => ?_
  refine wpList_nil ?_
  refine wp_block ?_
  refine wp_loop_k (fun k_l0 a w => ∃ (x_6 : Int), ref15_part.l0 a0 a1 k_l0 x_6 = some r ∧ Kn 24 a [(0, .string a0), (1, .string a1), (5, .int .i64 x_6)] ∧ St [] w0 w (fun _ => none) []) (((a1.size : Int) - (IntKind.i64.wrap (0 + (a0.size : Int)))).toNat + 2) ?_ ?_
  · exact ⟨0, H, hK.sub (all_cons rfl (all_cons rfl (all_cons rfl (all_nil)))), hS⟩
  · rintro k_l0 a w ⟨x_6, H, hK, hS⟩
    cases k_l0 with
    | zero => cases H
    | succ k_l0 =>
    rw [ref15_part.l0.eq_2] at H
    refine wp_seq ?_
    refine wp_seq ?_
    refine wp_region_lit ?_
    refine sl hK (by decide) rfl rfl (r_move hK rfl) fun a hK => ?_
    refine sl hK (by decide) rfl rfl (r_move hK rfl) fun a hK => ?_
    refine sl hK (by decide) rfl rfl (r_len_str Try.underlying9 hK rfl) fun a hK => ?_
    refine sl hK (by decide) rfl rfl (r_ibin hK rfl rfl rfl) fun a hK => ?_
    refine sl hK (by decide) rfl rfl (r_move hK rfl) fun a hK => ?_
    refine sl hK (by decide) rfl rfl (r_len_str Try.underlying9 hK rfl) fun a hK => ?_
    refine sl hK (by decide) rfl rfl (r_ibin hK rfl rfl rfl) fun a hK => ?_
    refine wpList_nil ?_
    refine wp_cond_split (hK.ev rfl) (fun (hb_12 : (decide ((IntKind.i64.wrap (x_6 + (a0.size : Int))) ≤ (a1.size : Int))) = true) => ?_) (fun (hb_12 : (decide ((IntKind.i64.wrap (x_6 + (a0.size : Int))) ≤ (a1.size : Int))) = false) => ?_)
    · rw [ifb_t hb_12] at H
      refine wp_skip ?_
      refine wp_seq ?_
      refine wp_block ?_
      refine wp_seq ?_
      refine wp_region_lit ?_
      refine sl hK (by decide) rfl rfl (r_move hK rfl) fun a hK => ?_
      refine sl hK (by decide) rfl rfl (r_move hK rfl) fun a hK => ?_
      refine sl hK (by decide) rfl rfl (r_move hK rfl) fun a hK => ?_
      refine sl hK (by decide) rfl rfl (r_move hK rfl) fun a hK => ?_
      refine sl hK (by decide) rfl rfl (r_len_str Try.underlying9 hK rfl) fun a hK => ?_
      refine sl hK (by decide) rfl rfl (r_ibin hK rfl rfl rfl) fun a hK => ?_
      obtain ⟨y_13, h_14, H⟩ := bind_some H
      refine sl hK (by decide) rfl rfl (r_slice_s (lo := some (.tmp 16)) (hi := some (.tmp 20)) Try.underlying9 h_14 hK rfl ⟨_, rfl⟩ ⟨_, rfl⟩) fun a hK => ?_
      refine sl hK (by decide) rfl rfl (r_move hK rfl) fun a hK => ?_
      refine sl hK (by decide) rfl rfl (r_sbin hK rfl rfl rfl) fun a hK => ?_
      refine wpList_nil ?_
      refine wp_cond_split (hK.ev rfl) (fun (hb_15 : (y_13.toList == a0.toList) = true) => ?_) (fun (hb_15 : (y_13.toList == a0.toList) = false) => ?_)
      · rw [ifb_t hb_15] at H
        refine wp_seq ?_
        refine wp_region_lit ?_
        refine sl hK (by decide) rfl rfl (r_assign hK rfl) fun a hK => ?_
        refine wpList_nil ?_
        obtain rfl := Option.some.inj H
        refine wp_ret ?_
        repeat (first | refine ret_then ?_ | refine ret_block ?_ | refine ret_scope ?_)
        exact ret_1 Try.results72 hK (rv_tmp hK rfl) ⟨rfl, hS.bel⟩
      · rw [ifb_f hb_15] at H
        refine wp_skip ?_
        refine wp_region_lit ?_
        refine sl hK (by decide) rfl rfl (r_move hK rfl) fun a hK => ?_
        refine sl hK (by decide) rfl rfl (r_ibin hK rfl rfl rfl) fun a hK => ?_
        refine sl hK (by decide) rfl rfl (r_assign hK rfl) fun a hK => ?_
        refine wpList_nil ?_
        exact ⟨_, Nat.lt_succ_self _, (IntKind.i64.wrap (x_6 + 1)), H, hK.sub (all_cons rfl (all_cons rfl (all_cons rfl (all_nil)))), hS⟩
    · rw [ifb_f hb_12] at H
      refine wp_exit ?_
      refine wp_seq ?_
      refine wp_region_lit ?_
      refine sl hK (by decide) rfl rfl (r_assign hK rfl) fun a hK => ?_
      refine wpList_nil ?_
      obtain rfl := Option.some.inj H
      refine wp_ret ?_
      repeat (first | refine ret_then ?_ | refine ret_block ?_ | refine ret_scope ?_)
      exact ret_1 Try.results72 hK (rv_tmp hK rfl) ⟨rfl, hS.bel⟩

/-! ### catchment/catchmentref15.Holds: function 56 -/
set_option maxHeartbeats 4000000 in
set_option maxRecDepth 100000 in
theorem ref15_Holds.calls (a0 : api_Query) (a1 : Int) (a2 : List api_Col) (a3 : List api_Value) {w0 : World} {RA : Hp} {v0_0 : Value} {v2_0 : Value} {v3_0 : Value} (hRA : RA.sub w0) (h0_0 : SlR ty_api_Node RA v0_0 a0.N) (h2_0 : SlR ty_api_Col RA v2_0 a2) (h3_0 : SlR ty_api_Value RA v3_0 a3) {r : Bool} (H : ref15_Holds a0 a1 a2 a3 = some r) : CallsV Try.prog 56 #[.agg #[v0_0], .int .i64 a1, v2_0, v3_0] w0 (.bool r) := by
  unfold ref15_Holds at H
  refine enter (args := [.agg #[v0_0], .int .i64 a1, v2_0, v3_0]) Try.func56 rfl Try.ntmps56 rfl fun a hK => ?_
  have hS := St.init (R := fun _ => none) (w := w0) (fun _ _ h => by cases h)
  have hRL := RLe.refl (M := []) w0 (fun _ => none)
  refine wp_seq ?_
  refine wp_region_lit ?_
  refine sl_box hS hK (by decide) rfl rfl (c := [v0_0]) rfl fun a w b_1 hS hK => ?_
  refine sl hK (by decide) rfl rfl (r_assign hK rfl) fun a hK => ?_
  refine wpList_nil ?_
  refine wp_seq ?_
  refine wp_seq ?_
  refine wp_mid (fun a w => ∃ (x_3 : Bool), ref15_Holds.j0 a0 a1 a2 a3 x_3 = some r ∧ Kn 196 a [(1, .int .i64 a1), (2, v2_0), (3, v3_0), (4, .pointer (some ⟨b_1, 0, none⟩)), (25, .bool x_3)] ∧ St [] w0 w (fun _ => none) [.cells b_1 [v0_0] 52]) ?_ ?_
  · refine wp_region_lit ?_
    refine sl hK (by decide) rfl rfl (r_move hK rfl) fun a hK => ?_
    refine sl hK (by decide) rfl rfl (r_ibin hK rfl rfl rfl) fun a hK => ?_
    refine sl hK (by decide) rfl rfl (r_move hK rfl) fun a hK => ?_
    rcases or_b (decide (a1 < 0)) with hb_5 | hb_5
    · rw [ifb_t hb_5] at H
      refine sl_skip hK (by decide) (wft hb_5) rfl fun a hK => ?_
      refine sl_skip hK (by decide) (wft hb_5) rfl fun a hK => ?_
      refine sl_skip hK (by decide) (wft hb_5) rfl fun a hK => ?_
      refine sl_skip hK (by decide) (wft hb_5) rfl fun a hK => ?_
      refine sl_skip hK (by decide) (wft hb_5) rfl fun a hK => ?_
      refine sl hK (by decide) rfl rfl (r_pick_t hb_5 hK rfl rfl) fun a hK => ?_
      refine wpList_nil ?_
      exact ⟨true, H, hK.sub (all_cons rfl (all_cons rfl (all_cons rfl (all_cons rfl (all_cons rfl (all_nil)))))), hS⟩
    · rw [ifb_f hb_5] at H
      refine sl hK (by decide) (wff hb_5) rfl (r_move hK rfl) fun a hK => ?_
      refine sl hK (by decide) (wff hb_5) rfl (r_fieldAddr Try.underlying52 rfl Try.sizeOf50 hK rfl) fun a hK => ?_
      refine sl hK (by decide) (wff hb_5) rfl (r_load Try.isAgg50 hK rfl (hS.cell (.head _) rfl)) fun a hK => ?_
      refine sl hK (by decide) (wff hb_5) rfl (r_len_R Try.underlying50 h0_0 hK rfl) fun a hK => ?_
      refine sl hK (by decide) (wff hb_5) rfl (r_ibin hK rfl rfl rfl) fun a hK => ?_
      refine sl hK (by decide) rfl rfl (r_pick_f hb_5 hK rfl rfl) fun a hK => ?_
      refine wpList_nil ?_
      exact ⟨(decide (a1 ≥ (a0.N.length : Int))), H, hK.sub (all_cons rfl (all_cons rfl (all_cons rfl (all_cons rfl (all_cons rfl (all_nil)))))), hS⟩
  · rintro a w ⟨x_3, H, hK, hS⟩
    unfold ref15_Holds.j0 at H
    refine wp_cond_split (hK.ev rfl) (fun (hb_6 : x_3 = true) => ?_) (fun (hb_6 : x_3 = false) => ?_)
    · rw [ifb_t hb_6] at H
      refine wp_seq ?_
      refine wp_region_lit ?_
      refine sl hK (by decide) rfl rfl (r_assign hK rfl) fun a hK => ?_
      refine wpList_nil ?_
      obtain rfl := Option.some.inj H
      refine wp_ret ?_
      repeat (first | refine ret_then ?_ | refine ret_block ?_ | refine ret_scope ?_)
      exact ret_1 Try.results56 hK (rv_tmp hK rfl) ⟨rfl, hS.bel⟩
    · rw [ifb_f hb_6] at H
      refine wp_skip ?_
      refine wp_seq ?_
      refine wp_region_lit ?_
      refine sl hK (by decide) rfl rfl (r_move hK rfl) fun a hK => ?_
      refine sl hK (by decide) rfl rfl (r_ibin hK rfl rfl rfl) fun a hK => ?_
      obtain ⟨y_7, h_8, H⟩ := bind_some H
      refine sl_make (ty := tyBool) (c0 := .bool false) (z := false) elT81 (by decide) rfl Try.zeroValue4 rfl rfl h_8 hS hK (by decide) rfl rfl rfl fun a w v_9 cs_10 hq_11 hS hK => ?_
      refine sl hK (by decide) rfl rfl (r_assign hK rfl) fun a hK => ?_
      refine wpList_nil ?_
      refine wp_seq ?_
      refine wp_seq ?_
      refine wp_region_lit ?_
      refine sl hK (by decide) rfl rfl (r_assign hK rfl) fun a hK => ?_
      refine wpList_nil ?_
      refine wp_block ?_
      refine wp_loop_k (fun k_l1 a w => ∃ (x_10130 : List Bool) (x_10134 : Int) (v_10131 : Value) (cs_10132 : List Value), ref15_Holds.l1 a0 a1 a2 a3 k_l1 x_10130 x_10134 = some r ∧ Reps tyBool (fun _ => none) cs_10132 x_10130 ∧ Kn 196 a [(1, .int .i64 a1), (2, v2_0), (3, v3_0), (4, .pointer (some ⟨b_1, 0, none⟩)), (9, v_10131), (10, .int .i64 x_10134)] ∧ St [] w0 w (fun _ => none) [.cells b_1 [v0_0] 52, .row 4 1 v_10131 x_10130.length cs_10132]) ((a1 - 0).toNat + 2) ?_ ?_
      · have hS := hS.pk1
        exact ⟨y_7, 0, _, _, H, hq_11, hK.sub (all_cons rfl (all_cons rfl (all_cons rfl (all_cons rfl (all_cons rfl (all_cons rfl (all_nil))))))), hS⟩
      · rintro k_l1 a w ⟨x_10130, x_10134, v_10131, cs_10132, H, hq_10133, hK, hS⟩
        cases k_l1 with
        | zero => cases H
        | succ k_l1 =>
        rw [ref15_Holds.l1.eq_2] at H
        refine wp_seq ?_
        refine wp_seq ?_
        refine wp_region_lit ?_
        refine sl hK (by decide) rfl rfl (r_move hK rfl) fun a hK => ?_
        refine sl hK (by decide) rfl rfl (r_move hK rfl) fun a hK => ?_
        refine sl hK (by decide) rfl rfl (r_ibin hK rfl rfl rfl) fun a hK => ?_
        refine wpList_nil ?_
        refine wp_cond_split (hK.ev rfl) (fun (hb_20251 : (decide (x_10134 ≤ a1)) = true) => ?_) (fun (hb_20251 : (decide (x_10134 ≤ a1)) = false) => ?_)
        · rw [ifb_t hb_20251] at H
          refine wp_skip ?_
          refine wp_seq ?_
          refine wp_block ?_
          refine wp_seq ?_
          refine wp_region_lit ?_
          refine sl hK (by decide) rfl rfl (r_fieldAddr Try.underlying52 rfl Try.sizeOf50 hK rfl) fun a hK => ?_
          refine sl hK (by decide) rfl rfl (r_load Try.isAgg50 hK rfl (hS.cell (.head _) rfl)) fun a hK => ?_
          refine sl hK (by decide) rfl rfl (r_move hK rfl) fun a hK => ?_
          obtain ⟨y_20252, h_20253, H⟩ := bind_some H
          obtain ⟨b_20254, o_20255, c_20256, cs_20257, hv_20258, hr_20259, hc_20260, h_202530, h_202531⟩ := h0_0.ix h_20253
          obtain ⟨v_20261, v_20263, v_20265, rfl, hs_20262, hs_20264, hs_20266⟩ := hr_20259
          refine sl hK (by decide) rfl rfl (r_indexAddr_R Try.underlying50 Try.sizeOf85 hv_20258 h_202530 h_202531 hK rfl rfl) fun a hK => ?_
          refine sl hK (by decide) rfl rfl (r_loadA (cs := [.int .i64 y_20252.Kind, .string y_20252.S, .int .i64 y_20252.N, .int .i64 y_20252.From, .int .i64 y_20252.To, .int .i64 y_20252.V.Kind, .int .i64 y_20252.V.N, .string y_20252.V.S, .int .i64 y_20252.V.H.a0, .int .i64 y_20252.V.H.a1, .int .i64 y_20252.V.H.a2, .int .i64 y_20252.V.H.a3, .int .i64 y_20252.V.H.a4, .int .i64 y_20252.V.H.a5, .int .i64 y_20252.V.H.a6, .int .i64 y_20252.V.H.a7, v_20261, v_20263, v_20265]) Try.isAgg85 Try.sizeOf85 rfl hK rfl (fun j v hv => (hS.ra hRA nil_not).cell (hc_20260 j v hv))) fun a hK => ?_
          refine sl_alloc Try.zeroValue85 hS hK (by decide) rfl rfl fun a w b_20267 hS hK => ?_
          refine sl_storeA (vs := [.int .i64 y_20252.Kind, .string y_20252.S, .int .i64 y_20252.N, .int .i64 y_20252.From, .int .i64 y_20252.To, .int .i64 y_20252.V.Kind, .int .i64 y_20252.V.N, .string y_20252.V.S, .int .i64 y_20252.V.H.a0, .int .i64 y_20252.V.H.a1, .int .i64 y_20252.V.H.a2, .int .i64 y_20252.V.H.a3, .int .i64 y_20252.V.H.a4, .int .i64 y_20252.V.H.a5, .int .i64 y_20252.V.H.a6, .int .i64 y_20252.V.H.a7, v_20261, v_20263, v_20265]) (c' := [.int .i64 y_20252.Kind, .string y_20252.S, .int .i64 y_20252.N, .int .i64 y_20252.From, .int .i64 y_20252.To, .int .i64 y_20252.V.Kind, .int .i64 y_20252.V.N, .string y_20252.V.S, .int .i64 y_20252.V.H.a0, .int .i64 y_20252.V.H.a1, .int .i64 y_20252.V.H.a2, .int .i64 y_20252.V.H.a3, .int .i64 y_20252.V.H.a4, .int .i64 y_20252.V.H.a5, .int .i64 y_20252.V.H.a6, .int .i64 y_20252.V.H.a7, v_20261, v_20263, v_20265]) Try.sizeOf85 hS hK rfl rfl rfl rfl (all_cons rfl (all_cons rfl (all_cons rfl (all_cons rfl (all_cons rfl (all_cons rfl (all_cons rfl (all_cons rfl (all_cons rfl (all_cons rfl (all_cons rfl (all_cons rfl (all_cons rfl (all_cons rfl (all_cons rfl (all_cons rfl (all_cons hs_20262.one (all_cons hs_20264.one (all_cons hs_20266.one (all_nil)))))))))))))))))))) (Nat.le_of_ble_eq_true rfl) rfl fun a w hS hK => ?_
          refine wpList_nil ?_
          refine wp_seq ?_
          refine wp_region_lit ?_
          refine sl hK (by decide) rfl rfl (r_assign hK rfl) fun a hK => ?_
          refine wpList_nil ?_
          refine wp_seq ?_
          refine wp_seq ?_
          refine wp_region_lit ?_
          refine sl hK (by decide) rfl rfl (r_fieldAddr Try.underlying85 rfl Try.sizeOf3 hK rfl) fun a hK => ?_
          refine sl hK (by decide) rfl rfl (r_load Try.isAgg3 hK rfl (hS.cell (.head _) rfl)) fun a hK => ?_
          refine sl hK (by decide) rfl rfl (r_ibin hK rfl rfl rfl) fun a hK => ?_
          refine wpList_nil ?_
          refine wp_mid (fun a w => ∃ (x_20269 : Int), ref15_Holds.j2 (ref15_Holds.l1 a0 a1 a2 a3 k_l1) a1 a2 a3 x_10130 x_10134 y_20252 x_20269 = some r ∧ Kn 196 a [(1, .int .i64 a1), (2, v2_0), (3, v3_0), (4, .pointer (some ⟨b_1, 0, none⟩)), (9, v_10131), (10, .int .i64 x_10134), (11, .pointer (some ⟨b_20267, 0, none⟩)), (12, .int .i64 x_20269)] ∧ St [] w0 w (fun _ => none) [.cells b_1 [v0_0] 52, .row 4 1 v_10131 x_10130.length cs_10132, .cells b_20267 [.int .i64 y_20252.Kind, .string y_20252.S, .int .i64 y_20252.N, .int .i64 y_20252.From, .int .i64 y_20252.To, .int .i64 y_20252.V.Kind, .int .i64 y_20252.V.N, .string y_20252.V.S, .int .i64 y_20252.V.H.a0, .int .i64 y_20252.V.H.a1, .int .i64 y_20252.V.H.a2, .int .i64 y_20252.V.H.a3, .int .i64 y_20252.V.H.a4, .int .i64 y_20252.V.H.a5, .int .i64 y_20252.V.H.a6, .int .i64 y_20252.V.H.a7, v_20261, v_20263, v_20265] 85]) ?_ ?_
          · refine wp_cond_split (hK.ev rfl) (fun (hb_20271 : (y_20252.Kind == 13) = true) => ?_) (fun (hb_20271 : (y_20252.Kind == 13) = false) => ?_)
            · rw [ifb_t hb_20271] at H
              refine wp_region_lit ?_
              refine sl hK (by decide) rfl rfl (r_assign hK rfl) fun a hK => ?_
              refine wpList_nil ?_
              have hS := hS.pk2
              have hS := hS.pk2
              exact ⟨1, H, hK.sub (all_cons rfl (all_cons rfl (all_cons rfl (all_cons rfl (all_cons rfl (all_cons rfl (all_cons rfl (all_cons rfl (all_nil))))))))), hS⟩
            · rw [ifb_f hb_20271] at H
              refine wp_skip ?_
              have hS := hS.pk2
              have hS := hS.pk2
              exact ⟨2, H, hK.sub (all_cons rfl (all_cons rfl (all_cons rfl (all_cons rfl (all_cons rfl (all_cons rfl (all_cons rfl (all_cons rfl (all_nil))))))))), hS⟩
          · rintro a w ⟨x_20269, H, hK, hS⟩
            unfold ref15_Holds.j2 at H
            refine wp_seq ?_
            refine wp_region_lit ?_
            refine sl hK (by decide) rfl rfl (r_fieldAddr Try.underlying85 rfl Try.sizeOf47 hK rfl) fun a hK => ?_
            refine sl hK (by decide) rfl rfl (r_load Try.isAgg47 hK rfl (hS.cell (.tail _ (.tail _ (.head _))) rfl)) fun a hK => ?_
            refine sl hK (by decide) rfl rfl (r_len_R Try.underlying47 hs_20262 hK rfl) fun a hK => ?_
            refine sl hK (by decide) rfl rfl (r_move hK rfl) fun a hK => ?_
            refine sl hK (by decide) rfl rfl (r_ibin hK rfl rfl rfl) fun a hK => ?_
            refine sl hK (by decide) rfl rfl (r_assign hK rfl) fun a hK => ?_
            refine wpList_nil ?_
            refine wp_seq ?_
            refine wp_seq ?_
            refine wp_region_lit ?_
            refine sl hK (by decide) rfl rfl (r_assign hK rfl) fun a hK => ?_
            refine wpList_nil ?_
            refine wp_block ?_
            refine wp_loop_k (fun k_l3 a w => ∃ (x_20318 : Bool) (x_20319 : Int), ref15_Holds.l3 (ref15_Holds.l1 a0 a1 a2 a3 k_l1) a1 a2 a3 x_10130 x_10134 y_20252 k_l3 x_20318 x_20319 = some r ∧ Kn 196 a [(1, .int .i64 a1), (2, v2_0), (3, v3_0), (4, .pointer (some ⟨b_1, 0, none⟩)), (9, v_10131), (10, .int .i64 x_10134), (11, .pointer (some ⟨b_20267, 0, none⟩)), (13, .bool x_20318), (14, .int .i64 x_20319)] ∧ St [] w0 w (fun _ => none) [.cells b_1 [v0_0] 52, .row 4 1 v_10131 x_10130.length cs_10132, .cells b_20267 [.int .i64 y_20252.Kind, .string y_20252.S, .int .i64 y_20252.N, .int .i64 y_20252.From, .int .i64 y_20252.To, .int .i64 y_20252.V.Kind, .int .i64 y_20252.V.N, .string y_20252.V.S, .int .i64 y_20252.V.H.a0, .int .i64 y_20252.V.H.a1, .int .i64 y_20252.V.H.a2, .int .i64 y_20252.V.H.a3, .int .i64 y_20252.V.H.a4, .int .i64 y_20252.V.H.a5, .int .i64 y_20252.V.H.a6, .int .i64 y_20252.V.H.a7, v_20261, v_20263, v_20265] 85]) (((y_20252.L.length : Int) - 0).toNat + 1) ?_ ?_
            · have hS := hS.pk2
              have hS := hS.pk2
              have hS := hS.pk2
              exact ⟨((y_20252.L.length : Int) == x_20269), 0, H, hK.sub (all_cons rfl (all_cons rfl (all_cons rfl (all_cons rfl (all_cons rfl (all_cons rfl (all_cons rfl (all_cons rfl (all_cons rfl (all_nil)))))))))), hS⟩
            · rintro k_l3 a w ⟨x_20318, x_20319, H, hK, hS⟩
              cases k_l3 with
              | zero => cases H
              | succ k_l3 =>
              rw [ref15_Holds.l3.eq_2] at H
              refine wp_seq ?_
              refine wp_seq ?_
              refine wp_mid (fun a w => ∃ (x_20368 : Bool), ref15_Holds.j4 (ref15_Holds.l1 a0 a1 a2 a3 k_l1) (ref15_Holds.l3 (ref15_Holds.l1 a0 a1 a2 a3 k_l1) a1 a2 a3 x_10130 x_10134 y_20252 k_l3) a1 a2 a3 x_10130 x_10134 y_20252 x_20318 x_20319 x_20368 = some r ∧ Kn 196 a [(1, .int .i64 a1), (2, v2_0), (3, v3_0), (4, .pointer (some ⟨b_1, 0, none⟩)), (9, v_10131), (10, .int .i64 x_10134), (11, .pointer (some ⟨b_20267, 0, none⟩)), (13, .bool x_20318), (14, .int .i64 x_20319), (54, .bool x_20368)] ∧ St [] w0 w (fun _ => none) [.cells b_1 [v0_0] 52, .row 4 1 v_10131 x_10130.length cs_10132, .cells b_20267 [.int .i64 y_20252.Kind, .string y_20252.S, .int .i64 y_20252.N, .int .i64 y_20252.From, .int .i64 y_20252.To, .int .i64 y_20252.V.Kind, .int .i64 y_20252.V.N, .string y_20252.V.S, .int .i64 y_20252.V.H.a0, .int .i64 y_20252.V.H.a1, .int .i64 y_20252.V.H.a2, .int .i64 y_20252.V.H.a3, .int .i64 y_20252.V.H.a4, .int .i64 y_20252.V.H.a5, .int .i64 y_20252.V.H.a6, .int .i64 y_20252.V.H.a7, v_20261, v_20263, v_20265] 85]) ?_ ?_
              · refine wp_region_lit ?_
                refine sl hK (by decide) rfl rfl (r_move hK rfl) fun a hK => ?_
                refine sl hK (by decide) rfl rfl (r_fieldAddr Try.underlying85 rfl Try.sizeOf47 hK rfl) fun a hK => ?_
                refine sl hK (by decide) rfl rfl (r_load Try.isAgg47 hK rfl (hS.cell (.tail _ (.tail _ (.head _))) rfl)) fun a hK => ?_
                refine sl hK (by decide) rfl rfl (r_len_R Try.underlying47 hs_20262 hK rfl) fun a hK => ?_
                refine sl hK (by decide) rfl rfl (r_ibin hK rfl rfl rfl) fun a hK => ?_
                refine sl hK (by decide) rfl rfl (r_move hK rfl) fun a hK => ?_
                rcases or_b (decide (x_20319 < (y_20252.L.length : Int))) with hb_20370 | hb_20370
                · rw [ifb_t hb_20370] at H
                  refine sl hK (by decide) (wtt hb_20370) rfl (r_move hK rfl) fun a hK => ?_
                  refine sl hK (by decide) rfl rfl (r_pick_t hb_20370 hK rfl rfl) fun a hK => ?_
                  refine wpList_nil ?_
                  have hS := hS.pk2
                  have hS := hS.pk2
                  have hS := hS.pk2
                  exact ⟨x_20318, H, hK.sub (all_cons rfl (all_cons rfl (all_cons rfl (all_cons rfl (all_cons rfl (all_cons rfl (all_cons rfl (all_cons rfl (all_cons rfl (all_cons rfl (all_nil))))))))))), hS⟩
                · rw [ifb_f hb_20370] at H
                  refine sl_skip hK (by decide) (wtf hb_20370) rfl fun a hK => ?_
                  refine sl hK (by decide) rfl rfl (r_pick_f hb_20370 hK rfl rfl) fun a hK => ?_
                  refine wpList_nil ?_
                  have hS := hS.pk2
                  have hS := hS.pk2
                  have hS := hS.pk2
                  exact ⟨false, H, hK.sub (all_cons rfl (all_cons rfl (all_cons rfl (all_cons rfl (all_cons rfl (all_cons rfl (all_cons rfl (all_cons rfl (all_cons rfl (all_cons rfl (all_nil))))))))))), hS⟩
              · rintro a w ⟨x_20368, H, hK, hS⟩
                unfold ref15_Holds.j4 at H
                refine wp_cond_split (hK.ev rfl) (fun (hb_20371 : x_20368 = true) => ?_) (fun (hb_20371 : x_20368 = false) => ?_)
                · rw [ifb_t hb_20371] at H
                  refine wp_skip ?_
                  refine wp_seq ?_
                  refine wp_block ?_
                  refine wp_mid (fun a w => ∃ (x_20391 : Bool), ref15_Holds.j5 (ref15_Holds.l3 (ref15_Holds.l1 a0 a1 a2 a3 k_l1) a1 a2 a3 x_10130 x_10134 y_20252 k_l3) y_20252 x_20319 x_20391 = some r ∧ Kn 196 a [(1, .int .i64 a1), (2, v2_0), (3, v3_0), (4, .pointer (some ⟨b_1, 0, none⟩)), (9, v_10131), (10, .int .i64 x_10134), (11, .pointer (some ⟨b_20267, 0, none⟩)), (13, .bool x_20391), (14, .int .i64 x_20319)] ∧ St [] w0 w (fun _ => none) [.cells b_1 [v0_0] 52, .row 4 1 v_10131 x_10130.length cs_10132, .cells b_20267 [.int .i64 y_20252.Kind, .string y_20252.S, .int .i64 y_20252.N, .int .i64 y_20252.From, .int .i64 y_20252.To, .int .i64 y_20252.V.Kind, .int .i64 y_20252.V.N, .string y_20252.V.S, .int .i64 y_20252.V.H.a0, .int .i64 y_20252.V.H.a1, .int .i64 y_20252.V.H.a2, .int .i64 y_20252.V.H.a3, .int .i64 y_20252.V.H.a4, .int .i64 y_20252.V.H.a5, .int .i64 y_20252.V.H.a6, .int .i64 y_20252.V.H.a7, v_20261, v_20263, v_20265] 85]) ?_ ?_
                  · refine wp_region_lit ?_
                    refine sl hK (by decide) rfl rfl (r_fieldAddr Try.underlying85 rfl Try.sizeOf47 hK rfl) fun a hK => ?_
                    refine sl hK (by decide) rfl rfl (r_load Try.isAgg47 hK rfl (hS.cell (.tail _ (.tail _ (.head _))) rfl)) fun a hK => ?_
                    refine sl hK (by decide) rfl rfl (r_move hK rfl) fun a hK => ?_
                    obtain ⟨y_20393, h_20394, H⟩ := bind_some H
                    obtain ⟨b_20395, o_20396, c_20397, cs_20398, hv_20399, hr_20400, hc_20401, h_203940, h_203941⟩ := hs_20262.ix h_20394
                    subst hr_20400
                    refine sl hK (by decide) rfl rfl (r_indexAddr_R Try.underlying47 Try.sizeOf3 hv_20399 h_203940 h_203941 hK rfl rfl) fun a hK => ?_
                    refine sl hK (by decide) rfl rfl (r_load Try.isAgg3 hK rfl ((hS.ra hRA nil_not).cell (hc_20401 0 _ rfl))) fun a hK => ?_
                    refine sl hK (by decide) rfl rfl (r_ibin hK rfl rfl rfl) fun a hK => ?_
                    refine sl hK (by decide) rfl rfl (r_move hK rfl) fun a hK => ?_
                    rcases or_b (decide (y_20393 ≥ 0)) with hb_20402 | hb_20402
                    · rw [ifb_t hb_20402] at H
                      refine sl hK (by decide) (wtt hb_20402) rfl (r_fieldAddr Try.underlying85 rfl Try.sizeOf47 hK rfl) fun a hK => ?_
                      refine sl hK (by decide) (wtt hb_20402) rfl (r_load Try.isAgg47 hK rfl (hS.cell (.tail _ (.tail _ (.head _))) rfl)) fun a hK => ?_
                      refine sl hK (by decide) (wtt hb_20402) rfl (r_move hK rfl) fun a hK => ?_
                      obtain ⟨y_20403, h_20404, H⟩ := bind_some H
                      obtain ⟨b_20405, o_20406, c_20407, cs_20408, hv_20409, hr_20410, hc_20411, h_204040, h_204041⟩ := hs_20262.ix h_20404
                      subst hr_20410
                      refine sl hK (by decide) (wtt hb_20402) rfl (r_indexAddr_R Try.underlying47 Try.sizeOf3 hv_20409 h_204040 h_204041 hK rfl rfl) fun a hK => ?_
                      refine sl hK (by decide) (wtt hb_20402) rfl (r_load Try.isAgg3 hK rfl ((hS.ra hRA nil_not).cell (hc_20411 0 _ rfl))) fun a hK => ?_
                      refine sl hK (by decide) (wtt hb_20402) rfl (r_move hK rfl) fun a hK => ?_
                      refine sl hK (by decide) (wtt hb_20402) rfl (r_ibin hK rfl rfl rfl) fun a hK => ?_
                      refine sl hK (by decide) rfl rfl (r_pick_t hb_20402 hK rfl rfl) fun a hK => ?_
                      refine sl hK (by decide) rfl rfl (r_assign hK rfl) fun a hK => ?_
                      refine wpList_nil ?_
                      have hS := hS.pk2
                      have hS := hS.pk2
                      have hS := hS.pk2
                      exact ⟨(decide (y_20403 < x_10134)), H, hK.sub (all_cons rfl (all_cons rfl (all_cons rfl (all_cons rfl (all_cons rfl (all_cons rfl (all_cons rfl (all_cons rfl (all_cons rfl (all_nil)))))))))), hS⟩
                    · rw [ifb_f hb_20402] at H
                      refine sl_skip hK (by decide) (wtf hb_20402) rfl fun a hK => ?_
                      refine sl_skip hK (by decide) (wtf hb_20402) rfl fun a hK => ?_
                      refine sl_skip hK (by decide) (wtf hb_20402) rfl fun a hK => ?_
                      refine sl_skip hK (by decide) (wtf hb_20402) rfl fun a hK => ?_
                      refine sl_skip hK (by decide) (wtf hb_20402) rfl fun a hK => ?_
                      refine sl_skip hK (by decide) (wtf hb_20402) rfl fun a hK => ?_
                      refine sl_skip hK (by decide) (wtf hb_20402) rfl fun a hK => ?_
                      refine sl hK (by decide) rfl rfl (r_pick_f hb_20402 hK rfl rfl) fun a hK => ?_
                      refine sl hK (by decide) rfl rfl (r_assign hK rfl) fun a hK => ?_
                      refine wpList_nil ?_
                      have hS := hS.pk2
                      have hS := hS.pk2
                      have hS := hS.pk2
                      exact ⟨false, H, hK.sub (all_cons rfl (all_cons rfl (all_cons rfl (all_cons rfl (all_cons rfl (all_cons rfl (all_cons rfl (all_cons rfl (all_cons rfl (all_nil)))))))))), hS⟩
                  · rintro a w ⟨x_20391, H, hK, hS⟩
                    unfold ref15_Holds.j5 at H
                    refine wp_region_lit ?_
                    refine sl hK (by decide) rfl rfl (r_move hK rfl) fun a hK => ?_
                    refine sl hK (by decide) rfl rfl (r_ibin hK rfl rfl rfl) fun a hK => ?_
                    refine sl hK (by decide) rfl rfl (r_assign hK rfl) fun a hK => ?_
                    refine wpList_nil ?_
                    have hS := hS.pk2
                    have hS := hS.pk2
                    have hS := hS.pk2
                    exact ⟨_, Nat.lt_succ_self _, x_20391, (IntKind.i64.wrap (x_20319 + 1)), H, hK.sub (all_cons rfl (all_cons rfl (all_cons rfl (all_cons rfl (all_cons rfl (all_cons rfl (all_cons rfl (all_cons rfl (all_cons rfl (all_nil)))))))))), hS⟩
                · rw [ifb_f hb_20371] at H
                  refine wp_exit ?_
                  refine wp_seq ?_
                  refine wp_region_lit ?_
                  refine sl hK (by decide) rfl rfl (r_move hK rfl) fun a hK => ?_
                  refine sl hK (by decide) rfl rfl (r_fieldAddr Try.underlying85 rfl Try.sizeOf9 hK rfl) fun a hK => ?_
                  refine sl hK (by decide) rfl rfl (r_load Try.isAgg9 hK rfl (hS.cell (.tail _ (.tail _ (.head _))) rfl)) fun a hK => ?_
                  obtain ⟨y_20412, h_20413, H⟩ := bind_some H
                  refine sl_callV Try.call28 hS hK (by decide) rfl rfl rfl (ref02_Find.calls a2 y_20252.S (lentOf_sub [] _) (h2_0.mono (hS.raLe0 hRA nil_not)) h_20413) fun a w hS hK => ?_
                  refine sl hK (by decide) rfl rfl (r_assign hK rfl) fun a hK => ?_
                  refine wpList_nil ?_
                  refine wp_seq ?_
                  refine wp_mid (fun a w => ∃ (x_20415 : Bool), ref15_Holds.j6 (ref15_Holds.l1 a0 a1 a2 a3 k_l1) a1 a3 x_10130 x_10134 y_20252 x_20318 y_20412 x_20415 = some r ∧ Kn 196 a [(1, .int .i64 a1), (2, v2_0), (3, v3_0), (4, .pointer (some ⟨b_1, 0, none⟩)), (9, v_10131), (10, .int .i64 x_10134), (11, .pointer (some ⟨b_20267, 0, none⟩)), (13, .bool x_20318), (15, .int .i64 y_20412), (16, .bool x_20415)] ∧ St [] w0 w (fun _ => none) [.cells b_1 [v0_0] 52, .row 4 1 v_10131 x_10130.length cs_10132, .cells b_20267 [.int .i64 y_20252.Kind, .string y_20252.S, .int .i64 y_20252.N, .int .i64 y_20252.From, .int .i64 y_20252.To, .int .i64 y_20252.V.Kind, .int .i64 y_20252.V.N, .string y_20252.V.S, .int .i64 y_20252.V.H.a0, .int .i64 y_20252.V.H.a1, .int .i64 y_20252.V.H.a2, .int .i64 y_20252.V.H.a3, .int .i64 y_20252.V.H.a4, .int .i64 y_20252.V.H.a5, .int .i64 y_20252.V.H.a6, .int .i64 y_20252.V.H.a7, v_20261, v_20263, v_20265] 85]) ?_ ?_
                  · refine wp_region_lit ?_
                    refine sl hK (by decide) rfl rfl (r_move hK rfl) fun a hK => ?_
                    refine sl hK (by decide) rfl rfl (r_ibin hK rfl rfl rfl) fun a hK => ?_
                    refine sl hK (by decide) rfl rfl (r_move hK rfl) fun a hK => ?_
                    rcases or_b (decide (y_20412 ≥ 0)) with hb_20417 | hb_20417
                    · rw [ifb_t hb_20417] at H
                      refine sl hK (by decide) (wtt hb_20417) rfl (r_move hK rfl) fun a hK => ?_
                      refine sl hK (by decide) (wtt hb_20417) rfl (r_move hK rfl) fun a hK => ?_
                      refine sl hK (by decide) (wtt hb_20417) rfl (r_len_R Try.underlying44 h3_0 hK rfl) fun a hK => ?_
                      refine sl hK (by decide) (wtt hb_20417) rfl (r_ibin hK rfl rfl rfl) fun a hK => ?_
                      refine sl hK (by decide) rfl rfl (r_pick_t hb_20417 hK rfl rfl) fun a hK => ?_
                      refine sl hK (by decide) rfl rfl (r_assign hK rfl) fun a hK => ?_
                      refine wpList_nil ?_
                      have hS := hS.pk2
                      have hS := hS.pk2
                      have hS := hS.pk2
                      exact ⟨(decide (y_20412 < (a3.length : Int))), H, hK.sub (all_cons rfl (all_cons rfl (all_cons rfl (all_cons rfl (all_cons rfl (all_cons rfl (all_cons rfl (all_cons rfl (all_cons rfl (all_cons rfl (all_nil))))))))))), hS⟩
                    · rw [ifb_f hb_20417] at H
                      refine sl_skip hK (by decide) (wtf hb_20417) rfl fun a hK => ?_
                      refine sl_skip hK (by decide) (wtf hb_20417) rfl fun a hK => ?_
                      refine sl_skip hK (by decide) (wtf hb_20417) rfl fun a hK => ?_
                      refine sl_skip hK (by decide) (wtf hb_20417) rfl fun a hK => ?_
                      refine sl hK (by decide) rfl rfl (r_pick_f hb_20417 hK rfl rfl) fun a hK => ?_
                      refine sl hK (by decide) rfl rfl (r_assign hK rfl) fun a hK => ?_
                      refine wpList_nil ?_
                      have hS := hS.pk2
                      have hS := hS.pk2
                      have hS := hS.pk2
                      exact ⟨false, H, hK.sub (all_cons rfl (all_cons rfl (all_cons rfl (all_cons rfl (all_cons rfl (all_cons rfl (all_cons rfl (all_cons rfl (all_cons rfl (all_cons rfl (all_nil))))))))))), hS⟩
                  · rintro a w ⟨x_20415, H, hK, hS⟩
                    unfold ref15_Holds.j6 at H
                    refine wp_seq ?_
                    refine wp_region_lit ?_
                    refine sl hK (by decide) rfl rfl (r_fieldAddr Try.underlying85 rfl Try.sizeOf3 hK rfl) fun a hK => ?_
                    refine sl hK (by decide) rfl rfl (r_load Try.isAgg3 hK rfl (hS.cell (.tail _ (.tail _ (.head _))) rfl)) fun a hK => ?_
                    refine wpList_nil ?_
                    refine wp_block ?_
                    refine wp_seq ?_
                    refine wp_region_lit ?_
                    refine sl hK (by decide) rfl rfl (r_ibin hK rfl rfl rfl) fun a hK => ?_
                    refine sl hK (by decide) rfl rfl (r_assign hK rfl) fun a hK => ?_
                    refine wpList_nil ?_
                    refine wp_mid (fun a w => ∃ (x_25390 : List Bool) (v_25391 : Value) (cs_25392 : List Value), ref15_Holds.j7 (ref15_Holds.l1 a0 a1 a2 a3 k_l1) a1 x_10134 x_25390 = some r ∧ Reps tyBool (fun _ => none) cs_25392 x_25390 ∧ Kn 196 a [(1, .int .i64 a1), (2, v2_0), (3, v3_0), (4, .pointer (some ⟨b_1, 0, none⟩)), (9, v_25391), (10, .int .i64 x_10134)] ∧ St [] w0 w (fun _ => none) [.cells b_1 [v0_0] 52, .row 4 1 v_25391 x_25390.length cs_25392]) ?_ ?_
                    · refine wp_cond_split (hK.ev rfl) (fun (hb_25395 : (y_20252.Kind == 14) = true) => ?_) (fun (hb_25395 : (y_20252.Kind == 14) = false) => ?_)
                      · rw [ifb_t hb_25395] at H
                        refine wp_mid (fun a w => ∃ (x_25465 : List Bool) (v_25466 : Value) (cs_25467 : List Value), ref15_Holds.j8 (ref15_Holds.l1 a0 a1 a2 a3 k_l1) a1 x_10134 x_25465 = some r ∧ Reps tyBool (fun _ => none) cs_25467 x_25465 ∧ Kn 196 a [(1, .int .i64 a1), (2, v2_0), (3, v3_0), (4, .pointer (some ⟨b_1, 0, none⟩)), (9, v_25466), (10, .int .i64 x_10134)] ∧ St [] w0 w (fun _ => none) [.cells b_1 [v0_0] 52, .row 4 1 v_25466 x_25465.length cs_25467]) ?_ ?_
                        · refine parT_region (C := fun w => St [] w0 w (fun _ => none) [.cells b_1 [v0_0] 52, .row 4 1 v_10131 x_10130.length cs_10132, .cells b_20267 [.int .i64 y_20252.Kind, .string y_20252.S, .int .i64 y_20252.N, .int .i64 y_20252.From, .int .i64 y_20252.To, .int .i64 y_20252.V.Kind, .int .i64 y_20252.V.N, .string y_20252.V.S, .int .i64 y_20252.V.H.a0, .int .i64 y_20252.V.H.a1, .int .i64 y_20252.V.H.a2, .int .i64 y_20252.V.H.a3, .int .i64 y_20252.V.H.a4, .int .i64 y_20252.V.H.a5, .int .i64 y_20252.V.H.a6, .int .i64 y_20252.V.H.a7, v_20261, v_20263, v_20265] 85]) 14 [(0, true), (1, true), (2, true), (3, true), (4, true), (5, true), (6, true), (7, true), (8, true), (9, true), (10, true), (11, true), (12, false), (13, true)] mixed (by kernel_rfl) hS (fun w hS => hS) fun w hS => ?_
                          refine sp (k := 0) rfl hK (by decide) rfl rfl (fun w hS => r_move hK rfl) fun a hK => ?_
                          refine sp (k := 1) rfl hK (by decide) rfl rfl (fun w hS => r_move hK rfl) fun a hK => ?_
                          refine sp (k := 2) rfl hK (by decide) rfl rfl (fun w hS => r_move hK rfl) fun a hK => ?_
                          refine sp (k := 3) rfl hK (by decide) rfl rfl (fun w hS => r_move hK rfl) fun a hK => ?_
                          rcases or_b x_20415 with hb_25504 | hb_25504
                          · rw [ifb_t hb_25504] at H
                            refine sp (k := 4) rfl hK (by decide) (wtt hb_25504) rfl (fun w hS => r_fieldAddr Try.underlying85 rfl Try.sizeOf3 hK rfl) fun a hK => ?_
                            refine sp (k := 5) rfl hK (by decide) (wtt hb_25504) rfl (fun w hS => r_load Try.isAgg3 hK rfl (hS.cell (.tail _ (.tail _ (.head _))) rfl)) fun a hK => ?_
                            refine sp (k := 6) rfl hK (by decide) (wtt hb_25504) rfl (fun w hS => r_move hK rfl) fun a hK => ?_
                            refine sp (k := 7) rfl hK (by decide) (wtt hb_25504) rfl (fun w hS => r_move hK rfl) fun a hK => ?_
                            obtain ⟨y_25505, h_25506, H⟩ := bind_some H
                            obtain ⟨b_25507, o_25508, c_25509, cs_25510, hv_25511, hr_25512, hc_25513, h_255060, h_255061⟩ := h3_0.ix h_25506
                            subst hr_25512
                            refine sp (k := 8) rfl hK (by decide) (wtt hb_25504) rfl (fun w hS => r_indexAddr_R Try.underlying44 Try.sizeOf43 hv_25511 h_255060 h_255061 hK rfl rfl) fun a hK => ?_
                            refine sp (k := 9) rfl hK (by decide) (wtt hb_25504) rfl (fun w hS => r_loadA (cs := [.int .i64 y_25505.Kind, .int .i64 y_25505.N, .string y_25505.S, .int .i64 y_25505.H.a0, .int .i64 y_25505.H.a1, .int .i64 y_25505.H.a2, .int .i64 y_25505.H.a3, .int .i64 y_25505.H.a4, .int .i64 y_25505.H.a5, .int .i64 y_25505.H.a6, .int .i64 y_25505.H.a7]) Try.isAgg43 Try.sizeOf43 rfl hK rfl (fun j v hv => (hS.ra hRA nil_not).cell (hc_25513 j v hv))) fun a hK => ?_
                            refine sp (k := 10) rfl hK (by decide) (wtt hb_25504) rfl (fun w hS => r_fieldAddr Try.underlying85 rfl Try.sizeOf43 hK rfl) fun a hK => ?_
                            refine sp (k := 11) rfl hK (by decide) (wtt hb_25504) rfl (fun w hS => r_loadA (cs := [.int .i64 y_20252.V.Kind, .int .i64 y_20252.V.N, .string y_20252.V.S, .int .i64 y_20252.V.H.a0, .int .i64 y_20252.V.H.a1, .int .i64 y_20252.V.H.a2, .int .i64 y_20252.V.H.a3, .int .i64 y_20252.V.H.a4, .int .i64 y_20252.V.H.a5, .int .i64 y_20252.V.H.a6, .int .i64 y_20252.V.H.a7]) Try.isAgg43 Try.sizeOf43 rfl hK rfl (hS.cells_of (m := 11) (.tail _ (.tail _ (.head _))) rfl)) fun a hK => ?_
                            refine spw (k := 12) rfl rfl hS ?_
                            obtain ⟨y_25514, h_25515, H⟩ := bind_some H
                            refine sl_callV Try.call71 hS hK (by decide) (wtt hb_25504) rfl rfl (ref01_Holds.calls y_20252.N y_25505 y_20252.V h_25515 _) fun a w hS hK => ?_
                            refine parK_nil hS ?_
                            refine sp (k := 13) rfl hK (by decide) rfl rfl (fun w hS => r_pick_t hb_25504 hK rfl rfl) fun a hK => ?_
                            refine thenL_nil ?_
                            obtain ⟨y_25516, h_25517, H⟩ := bind_some H
                            obtain ⟨b_25519, c_25520, cs_25521, hv_25518, hr_25522, hc_25523, h_255170, h_255171⟩ := hS.row_ix (.tail _ (.head _)) hq_10133 rfl rfl h_25517
                            subst hr_25522
                            refine sl hK (by decide) rfl rfl (r_indexAddr_R Try.underlying81 Try.sizeOf4 hv_25518 h_255170 h_255171 hK rfl rfl) fun a hK => ?_
                            have hS := hS.pk1
                            refine sl_store_row Try.sizeOf4 hv_25518 h_25517 rfl (show Ty.rep tyBool _ [.bool y_25514] y_25514 from rfl) hq_10133 rfl hS hK rfl rfl rfl rfl fun a w cs_25524 hq_25525 hS hK => ?_
                            refine wpList_nil (NoP_nil ?_)
                            have hS := hS.pk1
                            exact ⟨(upd x_10130 x_10134 y_25514), _, _, H, hq_25525, hK.sub (all_cons rfl (all_cons rfl (all_cons rfl (all_cons rfl (all_cons rfl (all_cons rfl (all_nil))))))), hS.trunc 2⟩
                          · rw [ifb_f hb_25504] at H
                            refine sp_skip (k := 4) rfl hK (by decide) (wtf hb_25504) rfl fun a hK => ?_
                            refine sp_skip (k := 5) rfl hK (by decide) (wtf hb_25504) rfl fun a hK => ?_
                            refine sp_skip (k := 6) rfl hK (by decide) (wtf hb_25504) rfl fun a hK => ?_
                            refine sp_skip (k := 7) rfl hK (by decide) (wtf hb_25504) rfl fun a hK => ?_
                            refine sp_skip (k := 8) rfl hK (by decide) (wtf hb_25504) rfl fun a hK => ?_
                            refine sp_skip (k := 9) rfl hK (by decide) (wtf hb_25504) rfl fun a hK => ?_
                            refine sp_skip (k := 10) rfl hK (by decide) (wtf hb_25504) rfl fun a hK => ?_
                            refine sp_skip (k := 11) rfl hK (by decide) (wtf hb_25504) rfl fun a hK => ?_
                            refine spw (k := 12) rfl rfl hS ?_
                            refine sl_skip hK (by decide) (wtf hb_25504) rfl fun a hK => ?_
                            refine parK_nil hS ?_
                            refine sp (k := 13) rfl hK (by decide) rfl rfl (fun w hS => r_pick_f hb_25504 hK rfl rfl) fun a hK => ?_
                            refine thenL_nil ?_
                            obtain ⟨y_25527, h_25528, H⟩ := bind_some H
                            obtain ⟨b_25530, c_25531, cs_25532, hv_25529, hr_25533, hc_25534, h_255280, h_255281⟩ := hS.row_ix (.tail _ (.head _)) hq_10133 rfl rfl h_25528
                            subst hr_25533
                            refine sl hK (by decide) rfl rfl (r_indexAddr_R Try.underlying81 Try.sizeOf4 hv_25529 h_255280 h_255281 hK rfl rfl) fun a hK => ?_
                            have hS := hS.pk1
                            refine sl_store_row Try.sizeOf4 hv_25529 h_25528 rfl (show Ty.rep tyBool _ [.bool false] false from rfl) hq_10133 rfl hS hK rfl rfl rfl rfl fun a w cs_25535 hq_25536 hS hK => ?_
                            refine wpList_nil (NoP_nil ?_)
                            have hS := hS.pk1
                            exact ⟨(upd x_10130 x_10134 false), _, _, H, hq_25536, hK.sub (all_cons rfl (all_cons rfl (all_cons rfl (all_cons rfl (all_cons rfl (all_cons rfl (all_nil))))))), hS.trunc 2⟩
                        · rintro a w ⟨x_25465, v_25466, cs_25467, H, hq_25468, hK, hS⟩
                          unfold ref15_Holds.j8 at H
                          have hS := hS.pk1
                          have hS := hS.pk1
                          exact ⟨x_25465, _, _, H, hq_25468, hK.sub (all_cons rfl (all_cons rfl (all_cons rfl (all_cons rfl (all_cons rfl (all_cons rfl (all_nil))))))), hS⟩
                      · rw [ifb_f hb_25395] at H
                        refine wp_seq ?_
                        refine wp_region_lit ?_
                        refine sl hK (by decide) rfl rfl (r_ibin hK rfl rfl rfl) fun a hK => ?_
                        refine sl hK (by decide) rfl rfl (r_assign hK rfl) fun a hK => ?_
                        refine wpList_nil ?_
                        refine wp_mid (fun a w => ∃ (x_27950 : List Bool) (v_27951 : Value) (cs_27952 : List Value), ref15_Holds.j9 (ref15_Holds.l1 a0 a1 a2 a3 k_l1) a1 x_10134 x_27950 = some r ∧ Reps tyBool (fun _ => none) cs_27952 x_27950 ∧ Kn 196 a [(1, .int .i64 a1), (2, v2_0), (3, v3_0), (4, .pointer (some ⟨b_1, 0, none⟩)), (9, v_27951), (10, .int .i64 x_10134)] ∧ St [] w0 w (fun _ => none) [.cells b_1 [v0_0] 52, .row 4 1 v_27951 x_27950.length cs_27952]) ?_ ?_
                        · refine wp_cond_split (hK.ev rfl) (fun (hb_27955 : (y_20252.Kind == 15) = true) => ?_) (fun (hb_27955 : (y_20252.Kind == 15) = false) => ?_)
                          · rw [ifb_t hb_27955] at H
                            refine wp_mid (fun a w => ∃ (x_28067 : List Bool) (v_28068 : Value) (cs_28069 : List Value), ref15_Holds.j10 (ref15_Holds.l1 a0 a1 a2 a3 k_l1) a1 x_10134 x_28067 = some r ∧ Reps tyBool (fun _ => none) cs_28069 x_28067 ∧ Kn 196 a [(1, .int .i64 a1), (2, v2_0), (3, v3_0), (4, .pointer (some ⟨b_1, 0, none⟩)), (9, v_28068), (10, .int .i64 x_10134)] ∧ St [] w0 w (fun _ => none) [.cells b_1 [v0_0] 52, .row 4 1 v_28068 x_28067.length cs_28069]) ?_ ?_
                            · refine parT_region (C := fun w => St [] w0 w (fun _ => none) [.cells b_1 [v0_0] 52, .row 4 1 v_10131 x_10130.length cs_10132, .cells b_20267 [.int .i64 y_20252.Kind, .string y_20252.S, .int .i64 y_20252.N, .int .i64 y_20252.From, .int .i64 y_20252.To, .int .i64 y_20252.V.Kind, .int .i64 y_20252.V.N, .string y_20252.V.S, .int .i64 y_20252.V.H.a0, .int .i64 y_20252.V.H.a1, .int .i64 y_20252.V.H.a2, .int .i64 y_20252.V.H.a3, .int .i64 y_20252.V.H.a4, .int .i64 y_20252.V.H.a5, .int .i64 y_20252.V.H.a6, .int .i64 y_20252.V.H.a7, v_20261, v_20263, v_20265] 85]) 22 [(0, true), (1, true), (2, true), (3, true), (4, true), (5, true), (6, true), (7, true), (8, true), (9, true), (10, true), (11, true), (12, true), (13, true), (14, true), (15, true), (16, true), (17, true), (18, true), (19, true), (20, false), (21, true)] mixed (by kernel_rfl) hS (fun w hS => hS) fun w hS => ?_
                              refine sp (k := 0) rfl hK (by decide) rfl rfl (fun w hS => r_move hK rfl) fun a hK => ?_
                              refine sp (k := 1) rfl hK (by decide) rfl rfl (fun w hS => r_move hK rfl) fun a hK => ?_
                              refine sp (k := 2) rfl hK (by decide) rfl rfl (fun w hS => r_move hK rfl) fun a hK => ?_
                              refine sp (k := 3) rfl hK (by decide) rfl rfl (fun w hS => r_move hK rfl) fun a hK => ?_
                              rcases or_b x_20415 with hb_28127 | hb_28127
                              · rw [ifb_t hb_28127] at H
                                refine sp (k := 4) rfl hK (by decide) (wtt hb_28127) rfl (fun w hS => r_move hK rfl) fun a hK => ?_
                                refine sp (k := 5) rfl hK (by decide) (wtt hb_28127) rfl (fun w hS => r_move hK rfl) fun a hK => ?_
                                obtain ⟨y_28128, h_28129, H⟩ := bind_some H
                                obtain ⟨b_28130, o_28131, c_28132, cs_28133, hv_28134, hr_28135, hc_28136, h_281290, h_281291⟩ := h3_0.ix h_28129
                                subst hr_28135
                                refine sp (k := 6) rfl hK (by decide) (wtt hb_28127) rfl (fun w hS => r_indexAddr_R Try.underlying44 Try.sizeOf43 hv_28134 h_281290 h_281291 hK rfl rfl) fun a hK => ?_
                                refine sp (k := 7) rfl hK (by decide) (wtt hb_28127) rfl (fun w hS => r_fieldAddr Try.underlying43 rfl Try.sizeOf3 hK rfl) fun a hK => ?_
                                refine sp (k := 8) rfl hK (by decide) (wtt hb_28127) rfl (fun w hS => r_load Try.isAgg3 hK rfl ((hS.ra hRA nil_not).cell (hc_28136 0 _ rfl))) fun a hK => ?_
                                refine sp (k := 9) rfl hK (by decide) (wtt hb_28127) rfl (fun w hS => r_ibin hK rfl rfl rfl) fun a hK => ?_
                                refine sp (k := 10) rfl hK (by decide) rfl rfl (fun w hS => r_pick_t hb_28127 hK rfl rfl) fun a hK => ?_
                                refine sp (k := 11) rfl hK (by decide) rfl rfl (fun w hS => r_move hK rfl) fun a hK => ?_
                                rcases or_b (y_28128.Kind == 2) with hb_28137 | hb_28137
                                · rw [ifb_t hb_28137] at H
                                  refine sp (k := 12) rfl hK (by decide) (wtt hb_28137) rfl (fun w hS => r_fieldAddr Try.underlying85 rfl Try.sizeOf43 hK rfl) fun a hK => ?_
                                  refine sp (k := 13) rfl hK (by decide) (wtt hb_28137) rfl (fun w hS => r_fieldAddr Try.underlying43 rfl Try.sizeOf9 hK rfl) fun a hK => ?_
                                  refine sp (k := 14) rfl hK (by decide) (wtt hb_28137) rfl (fun w hS => r_load Try.isAgg9 hK rfl (hS.cell (.tail _ (.tail _ (.head _))) rfl)) fun a hK => ?_
                                  refine sp (k := 15) rfl hK (by decide) (wtt hb_28137) rfl (fun w hS => r_move hK rfl) fun a hK => ?_
                                  refine sp (k := 16) rfl hK (by decide) (wtt hb_28137) rfl (fun w hS => r_move hK rfl) fun a hK => ?_
                                  obtain ⟨y_28138, h_28139, H⟩ := bind_some H
                                  obtain ⟨b_28140, o_28141, c_28142, cs_28143, hv_28144, hr_28145, hc_28146, h_281390, h_281391⟩ := h3_0.ix h_28139
                                  subst hr_28145
                                  refine sp (k := 17) rfl hK (by decide) (wtt hb_28137) rfl (fun w hS => r_indexAddr_R Try.underlying44 Try.sizeOf43 hv_28144 h_281390 h_281391 hK rfl rfl) fun a hK => ?_
                                  refine sp (k := 18) rfl hK (by decide) (wtt hb_28137) rfl (fun w hS => r_fieldAddr Try.underlying43 rfl Try.sizeOf9 hK rfl) fun a hK => ?_
                                  refine sp (k := 19) rfl hK (by decide) (wtt hb_28137) rfl (fun w hS => r_load Try.isAgg9 hK rfl ((hS.ra hRA nil_not).cell (hc_28146 2 _ rfl))) fun a hK => ?_
                                  refine spw (k := 20) rfl rfl hS ?_
                                  obtain ⟨y_28147, h_28148, H⟩ := bind_some H
                                  refine sl_callV Try.call72 hS hK (by decide) (wtt hb_28137) rfl rfl (ref15_part.calls y_20252.V.S y_28138.S h_28148 _) fun a w hS hK => ?_
                                  refine parK_nil hS ?_
                                  refine sp (k := 21) rfl hK (by decide) rfl rfl (fun w hS => r_pick_t hb_28137 hK rfl rfl) fun a hK => ?_
                                  refine thenL_nil ?_
                                  obtain ⟨y_28149, h_28150, H⟩ := bind_some H
                                  obtain ⟨b_28152, c_28153, cs_28154, hv_28151, hr_28155, hc_28156, h_281500, h_281501⟩ := hS.row_ix (.tail _ (.head _)) hq_10133 rfl rfl h_28150
                                  subst hr_28155
                                  refine sl hK (by decide) rfl rfl (r_indexAddr_R Try.underlying81 Try.sizeOf4 hv_28151 h_281500 h_281501 hK rfl rfl) fun a hK => ?_
                                  have hS := hS.pk1
                                  refine sl_store_row Try.sizeOf4 hv_28151 h_28150 rfl (show Ty.rep tyBool _ [.bool y_28147] y_28147 from rfl) hq_10133 rfl hS hK rfl rfl rfl rfl fun a w cs_28157 hq_28158 hS hK => ?_
                                  refine wpList_nil (NoP_nil ?_)
                                  have hS := hS.pk1
                                  exact ⟨(upd x_10130 x_10134 y_28147), _, _, H, hq_28158, hK.sub (all_cons rfl (all_cons rfl (all_cons rfl (all_cons rfl (all_cons rfl (all_cons rfl (all_nil))))))), hS.trunc 2⟩
                                · rw [ifb_f hb_28137] at H
                                  refine sp_skip (k := 12) rfl hK (by decide) (wtf hb_28137) rfl fun a hK => ?_
                                  refine sp_skip (k := 13) rfl hK (by decide) (wtf hb_28137) rfl fun a hK => ?_
                                  refine sp_skip (k := 14) rfl hK (by decide) (wtf hb_28137) rfl fun a hK => ?_
                                  refine sp_skip (k := 15) rfl hK (by decide) (wtf hb_28137) rfl fun a hK => ?_
                                  refine sp_skip (k := 16) rfl hK (by decide) (wtf hb_28137) rfl fun a hK => ?_
                                  refine sp_skip (k := 17) rfl hK (by decide) (wtf hb_28137) rfl fun a hK => ?_
                                  refine sp_skip (k := 18) rfl hK (by decide) (wtf hb_28137) rfl fun a hK => ?_
                                  refine sp_skip (k := 19) rfl hK (by decide) (wtf hb_28137) rfl fun a hK => ?_
                                  refine spw (k := 20) rfl rfl hS ?_
                                  refine sl_skip hK (by decide) (wtf hb_28137) rfl fun a hK => ?_
                                  refine parK_nil hS ?_
                                  refine sp (k := 21) rfl hK (by decide) rfl rfl (fun w hS => r_pick_f hb_28137 hK rfl rfl) fun a hK => ?_
                                  refine thenL_nil ?_
                                  obtain ⟨y_28160, h_28161, H⟩ := bind_some H
                                  obtain ⟨b_28163, c_28164, cs_28165, hv_28162, hr_28166, hc_28167, h_281610, h_281611⟩ := hS.row_ix (.tail _ (.head _)) hq_10133 rfl rfl h_28161
                                  subst hr_28166
                                  refine sl hK (by decide) rfl rfl (r_indexAddr_R Try.underlying81 Try.sizeOf4 hv_28162 h_281610 h_281611 hK rfl rfl) fun a hK => ?_
                                  have hS := hS.pk1
                                  refine sl_store_row Try.sizeOf4 hv_28162 h_28161 rfl (show Ty.rep tyBool _ [.bool false] false from rfl) hq_10133 rfl hS hK rfl rfl rfl rfl fun a w cs_28168 hq_28169 hS hK => ?_
                                  refine wpList_nil (NoP_nil ?_)
                                  have hS := hS.pk1
                                  exact ⟨(upd x_10130 x_10134 false), _, _, H, hq_28169, hK.sub (all_cons rfl (all_cons rfl (all_cons rfl (all_cons rfl (all_cons rfl (all_cons rfl (all_nil))))))), hS.trunc 2⟩
                              · rw [ifb_f hb_28127] at H
                                refine sp_skip (k := 4) rfl hK (by decide) (wtf hb_28127) rfl fun a hK => ?_
                                refine sp_skip (k := 5) rfl hK (by decide) (wtf hb_28127) rfl fun a hK => ?_
                                refine sp_skip (k := 6) rfl hK (by decide) (wtf hb_28127) rfl fun a hK => ?_
                                refine sp_skip (k := 7) rfl hK (by decide) (wtf hb_28127) rfl fun a hK => ?_
                                refine sp_skip (k := 8) rfl hK (by decide) (wtf hb_28127) rfl fun a hK => ?_
                                refine sp_skip (k := 9) rfl hK (by decide) (wtf hb_28127) rfl fun a hK => ?_
                                refine sp (k := 10) rfl hK (by decide) rfl rfl (fun w hS => r_pick_f hb_28127 hK rfl rfl) fun a hK => ?_
                                refine sp (k := 11) rfl hK (by decide) rfl rfl (fun w hS => r_move hK rfl) fun a hK => ?_
                                refine sp_skip (k := 12) rfl hK (by decide) rfl rfl fun a hK => ?_
                                refine sp_skip (k := 13) rfl hK (by decide) rfl rfl fun a hK => ?_
                                refine sp_skip (k := 14) rfl hK (by decide) rfl rfl fun a hK => ?_
                                refine sp_skip (k := 15) rfl hK (by decide) rfl rfl fun a hK => ?_
                                refine sp_skip (k := 16) rfl hK (by decide) rfl rfl fun a hK => ?_
                                refine sp_skip (k := 17) rfl hK (by decide) rfl rfl fun a hK => ?_
                                refine sp_skip (k := 18) rfl hK (by decide) rfl rfl fun a hK => ?_
                                refine sp_skip (k := 19) rfl hK (by decide) rfl rfl fun a hK => ?_
                                refine spw (k := 20) rfl rfl hS ?_
                                refine sl_skip hK (by decide) rfl rfl fun a hK => ?_
                                refine parK_nil hS ?_
                                refine sp (k := 21) rfl hK (by decide) rfl rfl (fun w hS => r_pick hK rfl rfl rfl) fun a hK => ?_
                                refine thenL_nil ?_
                                obtain ⟨y_28171, h_28172, H⟩ := bind_some H
                                obtain ⟨b_28174, c_28175, cs_28176, hv_28173, hr_28177, hc_28178, h_281720, h_281721⟩ := hS.row_ix (.tail _ (.head _)) hq_10133 rfl rfl h_28172
                                subst hr_28177
                                refine sl hK (by decide) rfl rfl (r_indexAddr_R Try.underlying81 Try.sizeOf4 hv_28173 h_281720 h_281721 hK rfl rfl) fun a hK => ?_
                                have hS := hS.pk1
                                refine sl_store_row Try.sizeOf4 hv_28173 h_28172 rfl (show Ty.rep tyBool _ [.bool false] false from rfl) hq_10133 rfl hS hK rfl rfl rfl rfl fun a w cs_28179 hq_28180 hS hK => ?_
                                refine wpList_nil (NoP_nil ?_)
                                have hS := hS.pk1
                                exact ⟨(upd x_10130 x_10134 false), _, _, H, hq_28180, hK.sub (all_cons rfl (all_cons rfl (all_cons rfl (all_cons rfl (all_cons rfl (all_cons rfl (all_nil))))))), hS.trunc 2⟩
                            · rintro a w ⟨x_28067, v_28068, cs_28069, H, hq_28070, hK, hS⟩
                              unfold ref15_Holds.j10 at H
                              have hS := hS.pk1
                              have hS := hS.pk1
                              exact ⟨x_28067, _, _, H, hq_28070, hK.sub (all_cons rfl (all_cons rfl (all_cons rfl (all_cons rfl (all_cons rfl (all_cons rfl (all_nil))))))), hS⟩
                          · rw [ifb_f hb_27955] at H
                            refine wp_seq ?_
                            refine wp_region_lit ?_
                            refine sl hK (by decide) rfl rfl (r_ibin hK rfl rfl rfl) fun a hK => ?_
                            refine sl hK (by decide) rfl rfl (r_assign hK rfl) fun a hK => ?_
                            refine wpList_nil ?_
                            refine wp_mid (fun a w => ∃ (x_29272 : List Bool) (v_29273 : Value) (cs_29274 : List Value), ref15_Holds.j11 (ref15_Holds.l1 a0 a1 a2 a3 k_l1) a1 x_10134 x_29272 = some r ∧ Reps tyBool (fun _ => none) cs_29274 x_29272 ∧ Kn 196 a [(1, .int .i64 a1), (2, v2_0), (3, v3_0), (4, .pointer (some ⟨b_1, 0, none⟩)), (9, v_29273), (10, .int .i64 x_10134)] ∧ St [] w0 w (fun _ => none) [.cells b_1 [v0_0] 52, .row 4 1 v_29273 x_29272.length cs_29274]) ?_ ?_
                            · refine wp_cond_split (hK.ev rfl) (fun (hb_29277 : (y_20252.Kind == 13) = true) => ?_) (fun (hb_29277 : (y_20252.Kind == 13) = false) => ?_)
                              · rw [ifb_t hb_29277] at H
                                refine wp_mid (fun a w => ∃ (x_29322 : List Bool) (v_29323 : Value) (cs_29324 : List Value), ref15_Holds.j12 (ref15_Holds.l1 a0 a1 a2 a3 k_l1) a1 x_10134 x_29322 = some r ∧ Reps tyBool (fun _ => none) cs_29324 x_29322 ∧ Kn 196 a [(1, .int .i64 a1), (2, v2_0), (3, v3_0), (4, .pointer (some ⟨b_1, 0, none⟩)), (9, v_29323), (10, .int .i64 x_10134)] ∧ St [] w0 w (fun _ => none) [.cells b_1 [v0_0] 52, .row 4 1 v_29323 x_29322.length cs_29324]) ?_ ?_
                                · refine wp_region_lit ?_
                                  refine sl hK (by decide) rfl rfl (r_move hK rfl) fun a hK => ?_
                                  refine sl hK (by decide) rfl rfl (r_move hK rfl) fun a hK => ?_
                                  refine sl hK (by decide) rfl rfl (r_move hK rfl) fun a hK => ?_
                                  refine sl hK (by decide) rfl rfl (r_move hK rfl) fun a hK => ?_
                                  rcases or_b x_20318 with hb_29327 | hb_29327
                                  · rw [ifb_t hb_29327] at H
                                    refine sl hK (by decide) (wtt hb_29327) rfl (r_move hK rfl) fun a hK => ?_
                                    refine sl hK (by decide) (wtt hb_29327) rfl (r_fieldAddr Try.underlying85 rfl Try.sizeOf47 hK rfl) fun a hK => ?_
                                    refine sl hK (by decide) (wtt hb_29327) rfl (r_load Try.isAgg47 hK rfl (hS.cell (.tail _ (.tail _ (.head _))) rfl)) fun a hK => ?_
                                    obtain ⟨y_29328, h_29329, H⟩ := bind_some H
                                    obtain ⟨b_29330, o_29331, c_29332, cs_29333, hv_29334, hr_29335, hc_29336, h_293290, h_293291⟩ := hs_20262.ix h_29329
                                    subst hr_29335
                                    refine sl hK (by decide) (wtt hb_29327) rfl (r_indexAddr_R Try.underlying47 Try.sizeOf3 hv_29334 h_293290 h_293291 hK rfl rfl) fun a hK => ?_
                                    refine sl hK (by decide) (wtt hb_29327) rfl (r_load Try.isAgg3 hK rfl ((hS.ra hRA nil_not).cell (hc_29336 0 _ rfl))) fun a hK => ?_
                                    obtain ⟨y_29337, h_29338, H⟩ := bind_some H
                                    obtain ⟨b_29340, c_29341, cs_29342, hv_29339, hr_29343, hc_29344, h_293380, h_293381⟩ := hS.row_ix (.tail _ (.head _)) hq_10133 rfl rfl h_29338
                                    subst hr_29343
                                    refine sl hK (by decide) (wtt hb_29327) rfl (r_indexAddr_R Try.underlying81 Try.sizeOf4 hv_29339 h_293380 h_293381 hK rfl rfl) fun a hK => ?_
                                    refine sl hK (by decide) (wtt hb_29327) rfl (r_load Try.isAgg4 hK rfl (hS.row_cell (.tail _ (.head _)) hv_29339 (hc_29344 0 _ rfl))) fun a hK => ?_
                                    refine sl hK (by decide) (wtt hb_29327) rfl (r_un hK rfl (u_not _)) fun a hK => ?_
                                    refine sl hK (by decide) rfl rfl (r_pick_t hb_29327 hK rfl rfl) fun a hK => ?_
                                    obtain ⟨y_29345, h_29346, H⟩ := bind_some H
                                    obtain ⟨b_29348, c_29349, cs_29350, hv_29347, hr_29351, hc_29352, h_293460, h_293461⟩ := hS.row_ix (.tail _ (.head _)) hq_10133 rfl rfl h_29346
                                    subst hr_29351
                                    refine sl hK (by decide) rfl rfl (r_indexAddr_R Try.underlying81 Try.sizeOf4 hv_29347 h_293460 h_293461 hK rfl rfl) fun a hK => ?_
                                    have hS := hS.pk1
                                    refine sl_store_row Try.sizeOf4 hv_29347 h_29346 rfl (show Ty.rep tyBool _ [.bool (!y_29337)] (!y_29337) from rfl) hq_10133 rfl hS hK rfl rfl rfl rfl fun a w cs_29353 hq_29354 hS hK => ?_
                                    obtain ⟨z_29358, h_29356⟩ := ix_upd x_10134 (!y_29337) h_29338
                                    have hv_29357 : v_10131 = Value.slice (some ⟨b_29340, 0, none⟩) (upd x_10130 x_10134 (!y_29337)).length c_29341 := by rw [upd_length]; exact hv_29339
                                    refine wpList_nil ?_
                                    have hS := hS.pk1
                                    exact ⟨(upd x_10130 x_10134 (!y_29337)), _, _, H, hq_29354, hK.sub (all_cons rfl (all_cons rfl (all_cons rfl (all_cons rfl (all_cons rfl (all_cons rfl (all_nil))))))), hS.trunc 2⟩
                                  · rw [ifb_f hb_29327] at H
                                    refine sl_skip hK (by decide) (wtf hb_29327) rfl fun a hK => ?_
                                    refine sl_skip hK (by decide) (wtf hb_29327) rfl fun a hK => ?_
                                    refine sl_skip hK (by decide) (wtf hb_29327) rfl fun a hK => ?_
                                    refine sl_skip hK (by decide) (wtf hb_29327) rfl fun a hK => ?_
                                    refine sl_skip hK (by decide) (wtf hb_29327) rfl fun a hK => ?_
                                    refine sl_skip hK (by decide) (wtf hb_29327) rfl fun a hK => ?_
                                    refine sl_skip hK (by decide) (wtf hb_29327) rfl fun a hK => ?_
                                    refine sl_skip hK (by decide) (wtf hb_29327) rfl fun a hK => ?_
                                    refine sl hK (by decide) rfl rfl (r_pick_f hb_29327 hK rfl rfl) fun a hK => ?_
                                    obtain ⟨y_29359, h_29360, H⟩ := bind_some H
                                    obtain ⟨b_29362, c_29363, cs_29364, hv_29361, hr_29365, hc_29366, h_293600, h_293601⟩ := hS.row_ix (.tail _ (.head _)) hq_10133 rfl rfl h_29360
                                    subst hr_29365
                                    refine sl hK (by decide) rfl rfl (r_indexAddr_R Try.underlying81 Try.sizeOf4 hv_29361 h_293600 h_293601 hK rfl rfl) fun a hK => ?_
                                    have hS := hS.pk1
                                    refine sl_store_row Try.sizeOf4 hv_29361 h_29360 rfl (show Ty.rep tyBool _ [.bool false] false from rfl) hq_10133 rfl hS hK rfl rfl rfl rfl fun a w cs_29367 hq_29368 hS hK => ?_
                                    refine wpList_nil ?_
                                    have hS := hS.pk1
                                    exact ⟨(upd x_10130 x_10134 false), _, _, H, hq_29368, hK.sub (all_cons rfl (all_cons rfl (all_cons rfl (all_cons rfl (all_cons rfl (all_cons rfl (all_nil))))))), hS.trunc 2⟩
                                · rintro a w ⟨x_29322, v_29323, cs_29324, H, hq_29325, hK, hS⟩
                                  unfold ref15_Holds.j12 at H
                                  have hS := hS.pk1
                                  have hS := hS.pk1
                                  exact ⟨x_29322, _, _, H, hq_29325, hK.sub (all_cons rfl (all_cons rfl (all_cons rfl (all_cons rfl (all_cons rfl (all_cons rfl (all_nil))))))), hS⟩
                              · rw [ifb_f hb_29277] at H
                                refine wp_seq ?_
                                refine wp_region_lit ?_
                                refine sl hK (by decide) rfl rfl (r_ibin hK rfl rfl rfl) fun a hK => ?_
                                refine sl hK (by decide) rfl rfl (r_assign hK rfl) fun a hK => ?_
                                refine wpList_nil ?_
                                refine wp_mid (fun a w => ∃ (x_29866 : List Bool) (v_29867 : Value) (cs_29868 : List Value), ref15_Holds.j13 (ref15_Holds.l1 a0 a1 a2 a3 k_l1) a1 x_10134 x_29866 = some r ∧ Reps tyBool (fun _ => none) cs_29868 x_29866 ∧ Kn 196 a [(1, .int .i64 a1), (2, v2_0), (3, v3_0), (4, .pointer (some ⟨b_1, 0, none⟩)), (9, v_29867), (10, .int .i64 x_10134)] ∧ St [] w0 w (fun _ => none) [.cells b_1 [v0_0] 52, .row 4 1 v_29867 x_29866.length cs_29868]) ?_ ?_
                                · refine wp_cond_split (hK.ev rfl) (fun (hb_29871 : (y_20252.Kind == 11) = true) => ?_) (fun (hb_29871 : (y_20252.Kind == 11) = false) => ?_)
                                  · rw [ifb_t hb_29871] at H
                                    refine wp_mid (fun a w => ∃ (x_29951 : List Bool) (v_29952 : Value) (cs_29953 : List Value), ref15_Holds.j14 (ref15_Holds.l1 a0 a1 a2 a3 k_l1) a1 x_10134 x_29951 = some r ∧ Reps tyBool (fun _ => none) cs_29953 x_29951 ∧ Kn 196 a [(1, .int .i64 a1), (2, v2_0), (3, v3_0), (4, .pointer (some ⟨b_1, 0, none⟩)), (9, v_29952), (10, .int .i64 x_10134)] ∧ St [] w0 w (fun _ => none) [.cells b_1 [v0_0] 52, .row 4 1 v_29952 x_29951.length cs_29953]) ?_ ?_
                                    · refine wp_region_lit ?_
                                      refine sl hK (by decide) rfl rfl (r_move hK rfl) fun a hK => ?_
                                      refine sl hK (by decide) rfl rfl (r_move hK rfl) fun a hK => ?_
                                      refine sl hK (by decide) rfl rfl (r_move hK rfl) fun a hK => ?_
                                      refine sl hK (by decide) rfl rfl (r_move hK rfl) fun a hK => ?_
                                      rcases or_b x_20318 with hb_29956 | hb_29956
                                      · rw [ifb_t hb_29956] at H
                                        refine sl hK (by decide) (wtt hb_29956) rfl (r_move hK rfl) fun a hK => ?_
                                        refine sl hK (by decide) (wtt hb_29956) rfl (r_fieldAddr Try.underlying85 rfl Try.sizeOf47 hK rfl) fun a hK => ?_
                                        refine sl hK (by decide) (wtt hb_29956) rfl (r_load Try.isAgg47 hK rfl (hS.cell (.tail _ (.tail _ (.head _))) rfl)) fun a hK => ?_
                                        obtain ⟨y_29957, h_29958, H⟩ := bind_some H
                                        obtain ⟨b_29959, o_29960, c_29961, cs_29962, hv_29963, hr_29964, hc_29965, h_299580, h_299581⟩ := hs_20262.ix h_29958
                                        subst hr_29964
                                        refine sl hK (by decide) (wtt hb_29956) rfl (r_indexAddr_R Try.underlying47 Try.sizeOf3 hv_29963 h_299580 h_299581 hK rfl rfl) fun a hK => ?_
                                        refine sl hK (by decide) (wtt hb_29956) rfl (r_load Try.isAgg3 hK rfl ((hS.ra hRA nil_not).cell (hc_29965 0 _ rfl))) fun a hK => ?_
                                        obtain ⟨y_29966, h_29967, H⟩ := bind_some H
                                        obtain ⟨b_29969, c_29970, cs_29971, hv_29968, hr_29972, hc_29973, h_299670, h_299671⟩ := hS.row_ix (.tail _ (.head _)) hq_10133 rfl rfl h_29967
                                        subst hr_29972
                                        refine sl hK (by decide) (wtt hb_29956) rfl (r_indexAddr_R Try.underlying81 Try.sizeOf4 hv_29968 h_299670 h_299671 hK rfl rfl) fun a hK => ?_
                                        refine sl hK (by decide) (wtt hb_29956) rfl (r_load Try.isAgg4 hK rfl (hS.row_cell (.tail _ (.head _)) hv_29968 (hc_29973 0 _ rfl))) fun a hK => ?_
                                        refine sl hK (by decide) rfl rfl (r_pick_t hb_29956 hK rfl rfl) fun a hK => ?_
                                        refine sl hK (by decide) rfl rfl (r_move hK rfl) fun a hK => ?_
                                        rcases or_b y_29966 with hb_29974 | hb_29974
                                        · rw [ifb_t hb_29974] at H
                                          refine sl hK (by decide) (wtt hb_29974) rfl (r_move hK rfl) fun a hK => ?_
                                          refine sl hK (by decide) (wtt hb_29974) rfl (r_fieldAddr Try.underlying85 rfl Try.sizeOf47 hK rfl) fun a hK => ?_
                                          refine sl hK (by decide) (wtt hb_29974) rfl (r_load Try.isAgg47 hK rfl (hS.cell (.tail _ (.tail _ (.head _))) rfl)) fun a hK => ?_
                                          obtain ⟨y_29975, h_29976, H⟩ := bind_some H
                                          obtain ⟨b_29977, o_29978, c_29979, cs_29980, hv_29981, hr_29982, hc_29983, h_299760, h_299761⟩ := hs_20262.ix h_29976
                                          subst hr_29982
                                          refine sl hK (by decide) (wtt hb_29974) rfl (r_indexAddr_R Try.underlying47 Try.sizeOf3 hv_29981 h_299760 h_299761 hK rfl rfl) fun a hK => ?_
                                          refine sl hK (by decide) (wtt hb_29974) rfl (r_load Try.isAgg3 hK rfl ((hS.ra hRA nil_not).cell (hc_29983 0 _ rfl))) fun a hK => ?_
                                          obtain ⟨y_29984, h_29985, H⟩ := bind_some H
                                          obtain ⟨b_29987, c_29988, cs_29989, hv_29986, hr_29990, hc_29991, h_299850, h_299851⟩ := hS.row_ix (.tail _ (.head _)) hq_10133 rfl rfl h_29985
                                          subst hr_29990
                                          refine sl hK (by decide) (wtt hb_29974) rfl (r_indexAddr_R Try.underlying81 Try.sizeOf4 hv_29986 h_299850 h_299851 hK rfl rfl) fun a hK => ?_
                                          refine sl hK (by decide) (wtt hb_29974) rfl (r_load Try.isAgg4 hK rfl (hS.row_cell (.tail _ (.head _)) hv_29986 (hc_29991 0 _ rfl))) fun a hK => ?_
                                          refine sl hK (by decide) rfl rfl (r_pick_t hb_29974 hK rfl rfl) fun a hK => ?_
                                          obtain ⟨y_29992, h_29993, H⟩ := bind_some H
                                          obtain ⟨b_29995, c_29996, cs_29997, hv_29994, hr_29998, hc_29999, h_299930, h_299931⟩ := hS.row_ix (.tail _ (.head _)) hq_10133 rfl rfl h_29993
                                          subst hr_29998
                                          refine sl hK (by decide) rfl rfl (r_indexAddr_R Try.underlying81 Try.sizeOf4 hv_29994 h_299930 h_299931 hK rfl rfl) fun a hK => ?_
                                          have hS := hS.pk1
                                          refine sl_store_row Try.sizeOf4 hv_29994 h_29993 rfl (show Ty.rep tyBool _ [.bool y_29984] y_29984 from rfl) hq_10133 rfl hS hK rfl rfl rfl rfl fun a w cs_30000 hq_30001 hS hK => ?_
                                          obtain ⟨z_30005, h_30003⟩ := ix_upd x_10134 y_29984 h_29967
                                          have hv_30004 : v_10131 = Value.slice (some ⟨b_29969, 0, none⟩) (upd x_10130 x_10134 y_29984).length c_29970 := by rw [upd_length]; exact hv_29968
                                          obtain ⟨z_30008, h_30006⟩ := ix_upd x_10134 y_29984 h_29985
                                          have hv_30007 : v_10131 = Value.slice (some ⟨b_29987, 0, none⟩) (upd x_10130 x_10134 y_29984).length c_29988 := by rw [upd_length]; exact hv_29986
                                          refine wpList_nil ?_
                                          have hS := hS.pk1
                                          exact ⟨(upd x_10130 x_10134 y_29984), _, _, H, hq_30001, hK.sub (all_cons rfl (all_cons rfl (all_cons rfl (all_cons rfl (all_cons rfl (all_cons rfl (all_nil))))))), hS.trunc 2⟩
                                        · rw [ifb_f hb_29974] at H
                                          refine sl_skip hK (by decide) (wtf hb_29974) rfl fun a hK => ?_
                                          refine sl_skip hK (by decide) (wtf hb_29974) rfl fun a hK => ?_
                                          refine sl_skip hK (by decide) (wtf hb_29974) rfl fun a hK => ?_
                                          refine sl_skip hK (by decide) (wtf hb_29974) rfl fun a hK => ?_
                                          refine sl_skip hK (by decide) (wtf hb_29974) rfl fun a hK => ?_
                                          refine sl_skip hK (by decide) (wtf hb_29974) rfl fun a hK => ?_
                                          refine sl_skip hK (by decide) (wtf hb_29974) rfl fun a hK => ?_
                                          refine sl hK (by decide) rfl rfl (r_pick_f hb_29974 hK rfl rfl) fun a hK => ?_
                                          obtain ⟨y_30009, h_30010, H⟩ := bind_some H
                                          obtain ⟨b_30012, c_30013, cs_30014, hv_30011, hr_30015, hc_30016, h_300100, h_300101⟩ := hS.row_ix (.tail _ (.head _)) hq_10133 rfl rfl h_30010
                                          subst hr_30015
                                          refine sl hK (by decide) rfl rfl (r_indexAddr_R Try.underlying81 Try.sizeOf4 hv_30011 h_300100 h_300101 hK rfl rfl) fun a hK => ?_
                                          have hS := hS.pk1
                                          refine sl_store_row Try.sizeOf4 hv_30011 h_30010 rfl (show Ty.rep tyBool _ [.bool false] false from rfl) hq_10133 rfl hS hK rfl rfl rfl rfl fun a w cs_30017 hq_30018 hS hK => ?_
                                          obtain ⟨z_30022, h_30020⟩ := ix_upd x_10134 false h_29967
                                          have hv_30021 : v_10131 = Value.slice (some ⟨b_29969, 0, none⟩) (upd x_10130 x_10134 false).length c_29970 := by rw [upd_length]; exact hv_29968
                                          refine wpList_nil ?_
                                          have hS := hS.pk1
                                          exact ⟨(upd x_10130 x_10134 false), _, _, H, hq_30018, hK.sub (all_cons rfl (all_cons rfl (all_cons rfl (all_cons rfl (all_cons rfl (all_cons rfl (all_nil))))))), hS.trunc 2⟩
                                      · rw [ifb_f hb_29956] at H
                                        refine sl_skip hK (by decide) (wtf hb_29956) rfl fun a hK => ?_
                                        refine sl_skip hK (by decide) (wtf hb_29956) rfl fun a hK => ?_
                                        refine sl_skip hK (by decide) (wtf hb_29956) rfl fun a hK => ?_
                                        refine sl_skip hK (by decide) (wtf hb_29956) rfl fun a hK => ?_
                                        refine sl_skip hK (by decide) (wtf hb_29956) rfl fun a hK => ?_
                                        refine sl_skip hK (by decide) (wtf hb_29956) rfl fun a hK => ?_
                                        refine sl_skip hK (by decide) (wtf hb_29956) rfl fun a hK => ?_
                                        refine sl hK (by decide) rfl rfl (r_pick_f hb_29956 hK rfl rfl) fun a hK => ?_
                                        refine sl hK (by decide) rfl rfl (r_move hK rfl) fun a hK => ?_
                                        refine sl_skip hK (by decide) rfl rfl fun a hK => ?_
                                        refine sl_skip hK (by decide) rfl rfl fun a hK => ?_
                                        refine sl_skip hK (by decide) rfl rfl fun a hK => ?_
                                        refine sl_skip hK (by decide) rfl rfl fun a hK => ?_
                                        refine sl_skip hK (by decide) rfl rfl fun a hK => ?_
                                        refine sl_skip hK (by decide) rfl rfl fun a hK => ?_
                                        refine sl_skip hK (by decide) rfl rfl fun a hK => ?_
                                        refine sl hK (by decide) rfl rfl (r_pick hK rfl rfl rfl) fun a hK => ?_
                                        obtain ⟨y_30023, h_30024, H⟩ := bind_some H
                                        obtain ⟨b_30026, c_30027, cs_30028, hv_30025, hr_30029, hc_30030, h_300240, h_300241⟩ := hS.row_ix (.tail _ (.head _)) hq_10133 rfl rfl h_30024
                                        subst hr_30029
                                        refine sl hK (by decide) rfl rfl (r_indexAddr_R Try.underlying81 Try.sizeOf4 hv_30025 h_300240 h_300241 hK rfl rfl) fun a hK => ?_
                                        have hS := hS.pk1
                                        refine sl_store_row Try.sizeOf4 hv_30025 h_30024 rfl (show Ty.rep tyBool _ [.bool false] false from rfl) hq_10133 rfl hS hK rfl rfl rfl rfl fun a w cs_30031 hq_30032 hS hK => ?_
                                        refine wpList_nil ?_
                                        have hS := hS.pk1
                                        exact ⟨(upd x_10130 x_10134 false), _, _, H, hq_30032, hK.sub (all_cons rfl (all_cons rfl (all_cons rfl (all_cons rfl (all_cons rfl (all_cons rfl (all_nil))))))), hS.trunc 2⟩
                                    · rintro a w ⟨x_29951, v_29952, cs_29953, H, hq_29954, hK, hS⟩
                                      unfold ref15_Holds.j14 at H
                                      have hS := hS.pk1
                                      have hS := hS.pk1
                                      exact ⟨x_29951, _, _, H, hq_29954, hK.sub (all_cons rfl (all_cons rfl (all_cons rfl (all_cons rfl (all_cons rfl (all_cons rfl (all_nil))))))), hS⟩
                                  · rw [ifb_f hb_29871] at H
                                    refine wp_seq ?_
                                    refine wp_region_lit ?_
                                    refine sl hK (by decide) rfl rfl (r_ibin hK rfl rfl rfl) fun a hK => ?_
                                    refine sl hK (by decide) rfl rfl (r_assign hK rfl) fun a hK => ?_
                                    refine wpList_nil ?_
                                    refine wp_mid (fun a w => ∃ (x_30198 : List Bool) (v_30199 : Value) (cs_30200 : List Value), ref15_Holds.j15 (ref15_Holds.l1 a0 a1 a2 a3 k_l1) a1 x_10134 x_30198 = some r ∧ Reps tyBool (fun _ => none) cs_30200 x_30198 ∧ Kn 196 a [(1, .int .i64 a1), (2, v2_0), (3, v3_0), (4, .pointer (some ⟨b_1, 0, none⟩)), (9, v_30199), (10, .int .i64 x_10134)] ∧ St [] w0 w (fun _ => none) [.cells b_1 [v0_0] 52, .row 4 1 v_30199 x_30198.length cs_30200]) ?_ ?_
                                    · refine wp_cond_split (hK.ev rfl) (fun (hb_30203 : (y_20252.Kind == 12) = true) => ?_) (fun (hb_30203 : (y_20252.Kind == 12) = false) => ?_)
                                      · rw [ifb_t hb_30203] at H
                                        refine wp_mid (fun a w => ∃ (x_30283 : List Bool) (v_30284 : Value) (cs_30285 : List Value), ref15_Holds.j16 (ref15_Holds.l1 a0 a1 a2 a3 k_l1) a1 x_10134 x_30283 = some r ∧ Reps tyBool (fun _ => none) cs_30285 x_30283 ∧ Kn 196 a [(1, .int .i64 a1), (2, v2_0), (3, v3_0), (4, .pointer (some ⟨b_1, 0, none⟩)), (9, v_30284), (10, .int .i64 x_10134)] ∧ St [] w0 w (fun _ => none) [.cells b_1 [v0_0] 52, .row 4 1 v_30284 x_30283.length cs_30285]) ?_ ?_
                                        · refine wp_region_lit ?_
                                          refine sl hK (by decide) rfl rfl (r_move hK rfl) fun a hK => ?_
                                          refine sl hK (by decide) rfl rfl (r_move hK rfl) fun a hK => ?_
                                          refine sl hK (by decide) rfl rfl (r_move hK rfl) fun a hK => ?_
                                          refine sl hK (by decide) rfl rfl (r_move hK rfl) fun a hK => ?_
                                          rcases or_b x_20318 with hb_30288 | hb_30288
                                          · rw [ifb_t hb_30288] at H
                                            refine sl hK (by decide) (wtt hb_30288) rfl (r_move hK rfl) fun a hK => ?_
                                            refine sl hK (by decide) (wtt hb_30288) rfl (r_fieldAddr Try.underlying85 rfl Try.sizeOf47 hK rfl) fun a hK => ?_
                                            refine sl hK (by decide) (wtt hb_30288) rfl (r_load Try.isAgg47 hK rfl (hS.cell (.tail _ (.tail _ (.head _))) rfl)) fun a hK => ?_
                                            obtain ⟨y_30289, h_30290, H⟩ := bind_some H
                                            obtain ⟨b_30291, o_30292, c_30293, cs_30294, hv_30295, hr_30296, hc_30297, h_302900, h_302901⟩ := hs_20262.ix h_30290
                                            subst hr_30296
                                            refine sl hK (by decide) (wtt hb_30288) rfl (r_indexAddr_R Try.underlying47 Try.sizeOf3 hv_30295 h_302900 h_302901 hK rfl rfl) fun a hK => ?_
                                            refine sl hK (by decide) (wtt hb_30288) rfl (r_load Try.isAgg3 hK rfl ((hS.ra hRA nil_not).cell (hc_30297 0 _ rfl))) fun a hK => ?_
                                            obtain ⟨y_30298, h_30299, H⟩ := bind_some H
                                            obtain ⟨b_30301, c_30302, cs_30303, hv_30300, hr_30304, hc_30305, h_302990, h_302991⟩ := hS.row_ix (.tail _ (.head _)) hq_10133 rfl rfl h_30299
                                            subst hr_30304
                                            refine sl hK (by decide) (wtt hb_30288) rfl (r_indexAddr_R Try.underlying81 Try.sizeOf4 hv_30300 h_302990 h_302991 hK rfl rfl) fun a hK => ?_
                                            refine sl hK (by decide) (wtt hb_30288) rfl (r_load Try.isAgg4 hK rfl (hS.row_cell (.tail _ (.head _)) hv_30300 (hc_30305 0 _ rfl))) fun a hK => ?_
                                            refine sl hK (by decide) (wtt hb_30288) rfl (r_move hK rfl) fun a hK => ?_
                                            rcases or_b y_30298 with hb_30306 | hb_30306
                                            · rw [ifb_t hb_30306] at H
                                              refine sl_skip hK (by decide) (wft hb_30306) rfl fun a hK => ?_
                                              refine sl_skip hK (by decide) (wft hb_30306) rfl fun a hK => ?_
                                              refine sl_skip hK (by decide) (wft hb_30306) rfl fun a hK => ?_
                                              refine sl_skip hK (by decide) (wft hb_30306) rfl fun a hK => ?_
                                              refine sl_skip hK (by decide) (wft hb_30306) rfl fun a hK => ?_
                                              refine sl_skip hK (by decide) (wft hb_30306) rfl fun a hK => ?_
                                              refine sl_skip hK (by decide) (wft hb_30306) rfl fun a hK => ?_
                                              refine sl hK (by decide) (wtt hb_30288) rfl (r_pick_t hb_30306 hK rfl rfl) fun a hK => ?_
                                              refine sl hK (by decide) rfl rfl (r_pick_t hb_30288 hK rfl rfl) fun a hK => ?_
                                              obtain ⟨y_30307, h_30308, H⟩ := bind_some H
                                              obtain ⟨b_30310, c_30311, cs_30312, hv_30309, hr_30313, hc_30314, h_303080, h_303081⟩ := hS.row_ix (.tail _ (.head _)) hq_10133 rfl rfl h_30308
                                              subst hr_30313
                                              refine sl hK (by decide) rfl rfl (r_indexAddr_R Try.underlying81 Try.sizeOf4 hv_30309 h_303080 h_303081 hK rfl rfl) fun a hK => ?_
                                              have hS := hS.pk1
                                              refine sl_store_row Try.sizeOf4 hv_30309 h_30308 rfl (show Ty.rep tyBool _ [.bool true] true from rfl) hq_10133 rfl hS hK rfl rfl rfl rfl fun a w cs_30315 hq_30316 hS hK => ?_
                                              obtain ⟨z_30320, h_30318⟩ := ix_upd x_10134 true h_30299
                                              have hv_30319 : v_10131 = Value.slice (some ⟨b_30301, 0, none⟩) (upd x_10130 x_10134 true).length c_30302 := by rw [upd_length]; exact hv_30300
                                              refine wpList_nil ?_
                                              have hS := hS.pk1
                                              exact ⟨(upd x_10130 x_10134 true), _, _, H, hq_30316, hK.sub (all_cons rfl (all_cons rfl (all_cons rfl (all_cons rfl (all_cons rfl (all_cons rfl (all_nil))))))), hS.trunc 2⟩
                                            · rw [ifb_f hb_30306] at H
                                              refine sl hK (by decide) (wff hb_30306) rfl (r_move hK rfl) fun a hK => ?_
                                              refine sl hK (by decide) (wff hb_30306) rfl (r_fieldAddr Try.underlying85 rfl Try.sizeOf47 hK rfl) fun a hK => ?_
                                              refine sl hK (by decide) (wff hb_30306) rfl (r_load Try.isAgg47 hK rfl (hS.cell (.tail _ (.tail _ (.head _))) rfl)) fun a hK => ?_
                                              obtain ⟨y_30321, h_30322, H⟩ := bind_some H
                                              obtain ⟨b_30323, o_30324, c_30325, cs_30326, hv_30327, hr_30328, hc_30329, h_303220, h_303221⟩ := hs_20262.ix h_30322
                                              subst hr_30328
                                              refine sl hK (by decide) (wff hb_30306) rfl (r_indexAddr_R Try.underlying47 Try.sizeOf3 hv_30327 h_303220 h_303221 hK rfl rfl) fun a hK => ?_
                                              refine sl hK (by decide) (wff hb_30306) rfl (r_load Try.isAgg3 hK rfl ((hS.ra hRA nil_not).cell (hc_30329 0 _ rfl))) fun a hK => ?_
                                              obtain ⟨y_30330, h_30331, H⟩ := bind_some H
                                              obtain ⟨b_30333, c_30334, cs_30335, hv_30332, hr_30336, hc_30337, h_303310, h_303311⟩ := hS.row_ix (.tail _ (.head _)) hq_10133 rfl rfl h_30331
                                              subst hr_30336
                                              refine sl hK (by decide) (wff hb_30306) rfl (r_indexAddr_R Try.underlying81 Try.sizeOf4 hv_30332 h_303310 h_303311 hK rfl rfl) fun a hK => ?_
                                              refine sl hK (by decide) (wff hb_30306) rfl (r_load Try.isAgg4 hK rfl (hS.row_cell (.tail _ (.head _)) hv_30332 (hc_30337 0 _ rfl))) fun a hK => ?_
                                              refine sl hK (by decide) (wtt hb_30288) rfl (r_pick_f hb_30306 hK rfl rfl) fun a hK => ?_
                                              refine sl hK (by decide) rfl rfl (r_pick_t hb_30288 hK rfl rfl) fun a hK => ?_
                                              obtain ⟨y_30338, h_30339, H⟩ := bind_some H
                                              obtain ⟨b_30341, c_30342, cs_30343, hv_30340, hr_30344, hc_30345, h_303390, h_303391⟩ := hS.row_ix (.tail _ (.head _)) hq_10133 rfl rfl h_30339
                                              subst hr_30344
                                              refine sl hK (by decide) rfl rfl (r_indexAddr_R Try.underlying81 Try.sizeOf4 hv_30340 h_303390 h_303391 hK rfl rfl) fun a hK => ?_
                                              have hS := hS.pk1
                                              refine sl_store_row Try.sizeOf4 hv_30340 h_30339 rfl (show Ty.rep tyBool _ [.bool y_30330] y_30330 from rfl) hq_10133 rfl hS hK rfl rfl rfl rfl fun a w cs_30346 hq_30347 hS hK => ?_
                                              obtain ⟨z_30351, h_30349⟩ := ix_upd x_10134 y_30330 h_30299
                                              have hv_30350 : v_10131 = Value.slice (some ⟨b_30301, 0, none⟩) (upd x_10130 x_10134 y_30330).length c_30302 := by rw [upd_length]; exact hv_30300
                                              obtain ⟨z_30354, h_30352⟩ := ix_upd x_10134 y_30330 h_30331
                                              have hv_30353 : v_10131 = Value.slice (some ⟨b_30333, 0, none⟩) (upd x_10130 x_10134 y_30330).length c_30334 := by rw [upd_length]; exact hv_30332
                                              refine wpList_nil ?_
                                              have hS := hS.pk1
                                              exact ⟨(upd x_10130 x_10134 y_30330), _, _, H, hq_30347, hK.sub (all_cons rfl (all_cons rfl (all_cons rfl (all_cons rfl (all_cons rfl (all_cons rfl (all_nil))))))), hS.trunc 2⟩
                                          · rw [ifb_f hb_30288] at H
                                            refine sl_skip hK (by decide) (wtf hb_30288) rfl fun a hK => ?_
                                            refine sl_skip hK (by decide) (wtf hb_30288) rfl fun a hK => ?_
                                            refine sl_skip hK (by decide) (wtf hb_30288) rfl fun a hK => ?_
                                            refine sl_skip hK (by decide) (wtf hb_30288) rfl fun a hK => ?_
                                            refine sl_skip hK (by decide) (wtf hb_30288) rfl fun a hK => ?_
                                            refine sl_skip hK (by decide) (wtf hb_30288) rfl fun a hK => ?_
                                            refine sl_skip hK (by decide) (wtf hb_30288) rfl fun a hK => ?_
                                            refine sl_skip hK (by decide) (wtf hb_30288) rfl fun a hK => ?_
                                            refine sl_skip hK (by decide) rfl rfl fun a hK => ?_
                                            refine sl_skip hK (by decide) rfl rfl fun a hK => ?_
                                            refine sl_skip hK (by decide) rfl rfl fun a hK => ?_
                                            refine sl_skip hK (by decide) rfl rfl fun a hK => ?_
                                            refine sl_skip hK (by decide) rfl rfl fun a hK => ?_
                                            refine sl_skip hK (by decide) rfl rfl fun a hK => ?_
                                            refine sl_skip hK (by decide) rfl rfl fun a hK => ?_
                                            refine sl_skip hK (by decide) (wtf hb_30288) rfl fun a hK => ?_
                                            refine sl hK (by decide) rfl rfl (r_pick_f hb_30288 hK rfl rfl) fun a hK => ?_
                                            obtain ⟨y_30355, h_30356, H⟩ := bind_some H
                                            obtain ⟨b_30358, c_30359, cs_30360, hv_30357, hr_30361, hc_30362, h_303560, h_303561⟩ := hS.row_ix (.tail _ (.head _)) hq_10133 rfl rfl h_30356
                                            subst hr_30361
                                            refine sl hK (by decide) rfl rfl (r_indexAddr_R Try.underlying81 Try.sizeOf4 hv_30357 h_303560 h_303561 hK rfl rfl) fun a hK => ?_
                                            have hS := hS.pk1
                                            refine sl_store_row Try.sizeOf4 hv_30357 h_30356 rfl (show Ty.rep tyBool _ [.bool false] false from rfl) hq_10133 rfl hS hK rfl rfl rfl rfl fun a w cs_30363 hq_30364 hS hK => ?_
                                            refine wpList_nil ?_
                                            have hS := hS.pk1
                                            exact ⟨(upd x_10130 x_10134 false), _, _, H, hq_30364, hK.sub (all_cons rfl (all_cons rfl (all_cons rfl (all_cons rfl (all_cons rfl (all_cons rfl (all_nil))))))), hS.trunc 2⟩
                                        · rintro a w ⟨x_30283, v_30284, cs_30285, H, hq_30286, hK, hS⟩
                                          unfold ref15_Holds.j16 at H
                                          have hS := hS.pk1
                                          have hS := hS.pk1
                                          exact ⟨x_30283, _, _, H, hq_30286, hK.sub (all_cons rfl (all_cons rfl (all_cons rfl (all_cons rfl (all_cons rfl (all_cons rfl (all_nil))))))), hS⟩
                                      · rw [ifb_f hb_30203] at H
                                        refine wp_skip ?_
                                        have hS := hS.pk1
                                        have hS := hS.pk1
                                        exact ⟨x_10130, _, _, H, hq_10133, hK.sub (all_cons rfl (all_cons rfl (all_cons rfl (all_cons rfl (all_cons rfl (all_cons rfl (all_nil))))))), hS.trunc 2⟩
                                    · rintro a w ⟨x_30198, v_30199, cs_30200, H, hq_30201, hK, hS⟩
                                      unfold ref15_Holds.j15 at H
                                      have hS := hS.pk1
                                      have hS := hS.pk1
                                      exact ⟨x_30198, _, _, H, hq_30201, hK.sub (all_cons rfl (all_cons rfl (all_cons rfl (all_cons rfl (all_cons rfl (all_cons rfl (all_nil))))))), hS⟩
                                · rintro a w ⟨x_29866, v_29867, cs_29868, H, hq_29869, hK, hS⟩
                                  unfold ref15_Holds.j13 at H
                                  have hS := hS.pk1
                                  have hS := hS.pk1
                                  exact ⟨x_29866, _, _, H, hq_29869, hK.sub (all_cons rfl (all_cons rfl (all_cons rfl (all_cons rfl (all_cons rfl (all_cons rfl (all_nil))))))), hS⟩
                            · rintro a w ⟨x_29272, v_29273, cs_29274, H, hq_29275, hK, hS⟩
                              unfold ref15_Holds.j11 at H
                              have hS := hS.pk1
                              have hS := hS.pk1
                              exact ⟨x_29272, _, _, H, hq_29275, hK.sub (all_cons rfl (all_cons rfl (all_cons rfl (all_cons rfl (all_cons rfl (all_cons rfl (all_nil))))))), hS⟩
                        · rintro a w ⟨x_27950, v_27951, cs_27952, H, hq_27953, hK, hS⟩
                          unfold ref15_Holds.j9 at H
                          have hS := hS.pk1
                          have hS := hS.pk1
                          exact ⟨x_27950, _, _, H, hq_27953, hK.sub (all_cons rfl (all_cons rfl (all_cons rfl (all_cons rfl (all_cons rfl (all_cons rfl (all_nil))))))), hS⟩
                    · rintro a w ⟨x_25390, v_25391, cs_25392, H, hq_25393, hK, hS⟩
                      unfold ref15_Holds.j7 at H
                      refine wp_region_lit ?_
                      refine sl hK (by decide) rfl rfl (r_move hK rfl) fun a hK => ?_
                      refine sl hK (by decide) rfl rfl (r_ibin hK rfl rfl rfl) fun a hK => ?_
                      refine sl hK (by decide) rfl rfl (r_assign hK rfl) fun a hK => ?_
                      refine wpList_nil ?_
                      have hS := hS.pk1
                      have hS := hS.pk1
                      exact ⟨_, Nat.lt_succ_self _, x_25390, (IntKind.i64.wrap (x_10134 + 1)), _, _, H, hq_25393, hK.sub (all_cons rfl (all_cons rfl (all_cons rfl (all_cons rfl (all_cons rfl (all_cons rfl (all_nil))))))), hS⟩
        · rw [ifb_f hb_20251] at H
          refine wp_exit ?_
          refine wp_seq ?_
          refine wp_region_lit ?_
          refine sl hK (by decide) rfl rfl (r_move hK rfl) fun a hK => ?_
          refine sl hK (by decide) rfl rfl (r_move hK rfl) fun a hK => ?_
          obtain ⟨y_30366, h_30367, H⟩ := bind_some H
          obtain ⟨b_30369, c_30370, cs_30371, hv_30368, hr_30372, hc_30373, h_303670, h_303671⟩ := hS.row_ix (.tail _ (.head _)) hq_10133 rfl rfl h_30367
          subst hr_30372
          refine sl hK (by decide) rfl rfl (r_indexAddr_R Try.underlying81 Try.sizeOf4 hv_30368 h_303670 h_303671 hK rfl rfl) fun a hK => ?_
          refine sl hK (by decide) rfl rfl (r_load Try.isAgg4 hK rfl (hS.row_cell (.tail _ (.head _)) hv_30368 (hc_30373 0 _ rfl))) fun a hK => ?_
          refine sl hK (by decide) rfl rfl (r_assign hK rfl) fun a hK => ?_
          refine wpList_nil ?_
          obtain rfl := Option.some.inj H
          refine wp_ret ?_
          repeat (first | refine ret_then ?_ | refine ret_block ?_ | refine ret_scope ?_)
          exact ret_1 Try.results56 hK (rv_tmp hK rfl) ⟨rfl, hS.bel⟩

/-! ### catchment/catchmentref15.Where: function 40 -/
set_option maxHeartbeats 4000000 in
set_option maxRecDepth 100000 in
theorem ref15_Where.calls (a0 : api_Table) (a1 : api_Query) (a2 : Int) {w0 : World} {R : Hp} {RA : Hp} {v0_0 : Value} {v0_1 : Value} {v1_0 : Value} (hRA : RA.sub w0) (hR : R.sub w0) (h0_0 : SlR ty_api_Col RA v0_0 a0.Cols) (h0_1 : SlR (tySl ty_api_Value) RA v0_1 a0.Rows) (h1_0 : SlR ty_api_Node RA v1_0 a1.N) {r : api_Table} (H : ref15_Where a0 a1 a2 = some r) : Calls Try.prog 40 #[.agg #[v0_0, v0_1], .agg #[v1_0], .int .i64 a2] w0 (Rets fun v w' => ∃ (R' : Hp) (u0 : Value) (cu0 : List Value) (u1 : Value) (cu1 : List Value), v = .agg #[u0, u1] ∧ St [] w0 w' R' [.row 38 2 u0 r.Cols.length cu0, .row 44 1 u1 r.Rows.length cu1] ∧ RLe [] w0 R R' ∧ Reps ty_api_Col R' cu0 r.Cols ∧ Reps (tySl ty_api_Value) R' cu1 r.Rows) := by
  unfold ref15_Where at H
  refine enter (args := [.agg #[v0_0, v0_1], .agg #[v1_0], .int .i64 a2]) Try.func40 rfl Try.ntmps40 rfl fun a hK => ?_
  have hS := St.init hR
  have hRL := RLe.refl (M := []) w0 R
  refine wp_seq ?_
  refine wp_region_lit ?_
  refine sl_box hS hK (by decide) rfl rfl (c := [v0_0, v0_1]) rfl fun a w b_1 hS hK => ?_
  refine sl_box hS hK (by decide) rfl rfl (c := [v1_0]) rfl fun a w b_2 hS hK => ?_
  refine sl_alloc Try.zeroValue25 hS hK (by decide) rfl rfl fun a w b_3 hS hK => ?_
  refine wpList_nil ?_
  refine wp_seq ?_
  refine wp_region_lit ?_
  refine sl_buildSliceC (zc := [.string (⟨#[]⟩ : ByteArray), .int .i64 0]) (zs := []) (ps := []) (c := []) Try.underlying22 Try.sizeOf38 Try.zeroValue38 rfl pc_nil rfl rfl (by decide) (by kernel_rfl) rfl hS hK (by decide) rfl fun a w b_4 hS hK => ?_
  refine sl hK (by decide) rfl rfl (r_fieldAddr Try.underlying25 rfl Try.sizeOf22 hK rfl) fun a hK => ?_
  refine sl hK (by decide) rfl rfl (r_load Try.isAgg22 hK rfl (hS.cell (.tail _ (.tail _ (.tail _ (.head _)))) rfl)) fun a hK => ?_
  obtain ⟨y_7, h_8, H⟩ := bind_some H
  have hS := hS.row_lit (size := 2) (m := 0) rfl (by decide)
  have hq_6 : Reps ty_api_Col R [] ([] : List api_Col) := (Reps.nil _ _)
  refine sl_append_A elT22 (by decide) rfl (fun _ _ _ _ h => h) (hS.ra hRA nil_not) hq_6 rfl h0_0 h_8 hS hK (by decide) rfl rfl rfl fun a w v_9 cs_10 hq_11 hS hK => ?_
  have ho_13 := hS.row_one (.head _)
  refine sl hK (by decide) rfl rfl (r_buildC (ps := [(0, v_9)]) (c := [v_9, .slice none 0 0]) Try.underlying25 Try.zeroValue25 places25 hK rfl (pc_cons (cells1 ho_13) pc_nil) rfl rfl) fun a hK => ?_
  refine sl_alloc Try.zeroValue25 hS hK (by decide) rfl rfl fun a w b_14 hS hK => ?_
  refine sl_storeA (vs := [v_9, .slice none 0 0]) (c' := [v_9, .slice none 0 0]) Try.sizeOf25 hS hK rfl rfl rfl rfl (all_cons (hS.row_one (.tail _ (.head _))) (all_cons rfl (all_nil))) (Nat.le_of_ble_eq_true rfl) rfl fun a w hS hK => ?_
  refine wpList_nil ?_
  refine wp_seq ?_
  refine wp_seq ?_
  refine wp_region_lit ?_
  refine sl hK (by decide) rfl rfl (r_assign hK rfl) fun a hK => ?_
  refine wpList_nil ?_
  refine wp_block ?_
  refine wp_loop_k (fun k_l0 a w => ∃ (x_195 : List (List api_Value)) (x_199 : Int) (R_200 : Hp) (v_196 : Value) (cs_197 : List Value), ref15_Where.l0 a0 a1 a2 y_7 k_l0 x_195 x_199 = some r ∧ RLe [] w0 R R_200 ∧ Reps (tySl ty_api_Value) R_200 cs_197 x_195 ∧ Kn 44 a [(2, .int .i64 a2), (3, .pointer (some ⟨b_1, 0, none⟩)), (4, .pointer (some ⟨b_2, 0, none⟩)), (6, .pointer (some ⟨b_3, 0, none⟩)), (7, .pointer (some ⟨b_14, 0, none⟩)), (8, .int .i64 x_199)] ∧ St [] w0 w R_200 [.cells b_1 [v0_0, v0_1] 25, .cells b_2 [v1_0] 52, .cells b_3 [.slice none 0 0, .slice none 0 0] 25, .row 38 2 v_9 y_7.length cs_10, .row 44 1 v_196 x_195.length cs_197, .cells b_14 [v_9, v_196] 25]) (((a0.Rows.length : Int) - 0).toNat + 1) ?_ ?_
  · have hS := hS.row_nil 44 1
    have hq_363 : Reps (tySl ty_api_Value) R [] ([] : List (List api_Value)) := Reps.nil _ _
    have hS := hS.pk1
    have hS := hS.pk1
    have hS := hS.pk2
    have hS := hS.pk3
    have hS := hS.pk4
    have hS := hS.pk5
    exact ⟨[], 0, _, _, _, H, (RLe.refl _ _), hq_363, hK.sub (all_cons rfl (all_cons rfl (all_cons rfl (all_cons rfl (all_cons rfl (all_cons rfl (all_nil))))))), hS⟩
  · rintro k_l0 a w ⟨x_195, x_199, R_200, v_196, cs_197, H, hl_201, hq_198, hK, hS⟩
    cases k_l0 with
    | zero => cases H
    | succ k_l0 =>
    rw [ref15_Where.l0.eq_2] at H
    have hRL := hRL.trans hl_201
    refine wp_seq ?_
    refine wp_seq ?_
    refine wp_region_lit ?_
    refine sl hK (by decide) rfl rfl (r_move hK rfl) fun a hK => ?_
    refine sl hK (by decide) rfl rfl (r_fieldAddr Try.underlying25 rfl Try.sizeOf23 hK rfl) fun a hK => ?_
    refine sl hK (by decide) rfl rfl (r_load Try.isAgg23 hK rfl (hS.cell (.head _) rfl)) fun a hK => ?_
    refine sl hK (by decide) rfl rfl (r_len_R Try.underlying23 h0_1 hK rfl) fun a hK => ?_
    refine sl hK (by decide) rfl rfl (r_ibin hK rfl rfl rfl) fun a hK => ?_
    refine wpList_nil ?_
    refine wp_cond_split (hK.ev rfl) (fun (hb_364 : (decide (x_199 < (a0.Rows.length : Int))) = true) => ?_) (fun (hb_364 : (decide (x_199 < (a0.Rows.length : Int))) = false) => ?_)
    · rw [ifb_t hb_364] at H
      refine wp_skip ?_
      refine wp_seq ?_
      refine wp_block ?_
      refine wp_seq ?_
      refine parT_region (C := fun w => St [] w0 w R_200 [.cells b_1 [v0_0, v0_1] 25, .cells b_2 [v1_0] 52, .cells b_3 [.slice none 0 0, .slice none 0 0] 25, .row 38 2 v_9 y_7.length cs_10, .row 44 1 v_196 x_195.length cs_197, .cells b_14 [v_9, v_196] 25]) 9 [(0, true), (1, true), (2, true), (3, true), (4, true), (5, true), (6, true), (7, true), (8, true)] mixed (by kernel_rfl) hS (fun w hS => hS) fun w hS => ?_
      refine sp (k := 0) rfl hK (by decide) rfl rfl (fun w hS => r_loadA (cs := [v1_0]) Try.isAgg52 Try.sizeOf52 rfl hK rfl (hS.cells_of (m := 1) (.tail _ (.head _)) rfl)) fun a hK => ?_
      refine sp (k := 1) rfl hK (by decide) rfl rfl (fun w hS => r_move hK rfl) fun a hK => ?_
      refine sp (k := 2) rfl hK (by decide) rfl rfl (fun w hS => r_fieldAddr Try.underlying25 rfl Try.sizeOf22 hK rfl) fun a hK => ?_
      refine sp (k := 3) rfl hK (by decide) rfl rfl (fun w hS => r_load Try.isAgg22 hK rfl (hS.cell (.head _) rfl)) fun a hK => ?_
      refine sp (k := 4) rfl hK (by decide) rfl rfl (fun w hS => r_fieldAddr Try.underlying25 rfl Try.sizeOf23 hK rfl) fun a hK => ?_
      refine sp (k := 5) rfl hK (by decide) rfl rfl (fun w hS => r_load Try.isAgg23 hK rfl (hS.cell (.head _) rfl)) fun a hK => ?_
      refine sp (k := 6) rfl hK (by decide) rfl rfl (fun w hS => r_move hK rfl) fun a hK => ?_
      obtain ⟨y_378, h_379, H⟩ := bind_some H
      obtain ⟨b_380, o_381, c_382, cs_383, hv_384, hr_385, hc_386, h_3790, h_3791⟩ := h0_1.ix h_379
      obtain ⟨v_387, rfl, hs_388⟩ := hr_385
      refine sp (k := 7) rfl hK (by decide) rfl rfl (fun w hS => r_indexAddr_R Try.underlying23 Try.sizeOf44 hv_384 h_3790 h_3791 hK rfl rfl) fun a hK => ?_
      refine sp (k := 8) rfl hK (by decide) rfl rfl (fun w hS => r_load Try.isAgg44 hK rfl ((hS.ra hRA nil_not).cell (hc_386 0 _ rfl))) fun a hK => ?_
      refine thenL_nil ?_
      obtain ⟨y_389, h_390, H⟩ := bind_some H
      refine sl_callV Try.call56 hS hK (by decide) rfl rfl rfl (ref15_Holds.calls a1 a2 a0.Cols y_378 (lentOf_sub [] _) (h1_0.mono (hS.raLe0 hRA nil_not)) (h0_0.mono (hS.raLe0 hRA nil_not)) (hs_388.mono (hS.raLe0 hRA nil_not)) h_390) fun a w hS hK => ?_
      refine wpList_nil (NoP_nil ?_)
      refine wp_mid (fun a w => ∃ (x_455 : List (List api_Value)) (R_459 : Hp) (v_456 : Value) (cs_457 : List Value), ref15_Where.j1 (ref15_Where.l0 a0 a1 a2 y_7 k_l0) a0 x_199 x_455 = some r ∧ RLe [] w0 R_200 R_459 ∧ Reps (tySl ty_api_Value) R_459 cs_457 x_455 ∧ Kn 44 a [(2, .int .i64 a2), (3, .pointer (some ⟨b_1, 0, none⟩)), (4, .pointer (some ⟨b_2, 0, none⟩)), (6, .pointer (some ⟨b_3, 0, none⟩)), (7, .pointer (some ⟨b_14, 0, none⟩)), (8, .int .i64 x_199)] ∧ St [] w0 w R_459 [.cells b_1 [v0_0, v0_1] 25, .cells b_2 [v1_0] 52, .cells b_3 [.slice none 0 0, .slice none 0 0] 25, .row 38 2 v_9 y_7.length cs_10, .row 44 1 v_456 x_455.length cs_457, .cells b_14 [v_9, v_456] 25]) ?_ ?_
      · refine wp_cond_split (hK.ev rfl) (fun (hb_461 : y_389 = true) => ?_) (fun (hb_461 : y_389 = false) => ?_)
        · rw [ifb_t hb_461] at H
          refine parT_region (C := fun w => St [] w0 w R_200 [.cells b_1 [v0_0, v0_1] 25, .cells b_2 [v1_0] 52, .cells b_3 [.slice none 0 0, .slice none 0 0] 25, .row 38 2 v_9 y_7.length cs_10, .row 44 1 v_196 x_195.length cs_197, .cells b_14 [v_9, v_196] 25]) 10 [(0, true), (1, true), (3, true), (4, true), (5, true), (6, true), (7, true), (2, false), (8, false), (9, false)] mixed (by kernel_rfl) hS (fun w hS => hS) fun w hS => ?_
          refine sp (k := 0) rfl hK (by decide) rfl rfl (fun w hS => r_fieldAddr Try.underlying25 rfl Try.sizeOf23 hK rfl) fun a hK => ?_
          refine sp (k := 1) rfl hK (by decide) rfl rfl (fun w hS => r_load Try.isAgg23 hK rfl (hS.cell (.tail _ (.tail _ (.tail _ (.tail _ (.tail _ (.head _)))))) rfl)) fun a hK => ?_
          refine sp (k := 3) rfl hK (by decide) rfl rfl (fun w hS => r_fieldAddr Try.underlying25 rfl Try.sizeOf23 hK rfl) fun a hK => ?_
          refine sp (k := 4) rfl hK (by decide) rfl rfl (fun w hS => r_load Try.isAgg23 hK rfl (hS.cell (.head _) rfl)) fun a hK => ?_
          refine sp (k := 5) rfl hK (by decide) rfl rfl (fun w hS => r_move hK rfl) fun a hK => ?_
          obtain ⟨y_493, h_494, H⟩ := bind_some H
          obtain ⟨b_495, o_496, c_497, cs_498, hv_499, hr_500, hc_501, h_4940, h_4941⟩ := h0_1.ix h_494
          obtain ⟨v_502, rfl, hs_503⟩ := hr_500
          refine sp (k := 6) rfl hK (by decide) rfl rfl (fun w hS => r_indexAddr_R Try.underlying23 Try.sizeOf44 hv_499 h_4940 h_4941 hK rfl rfl) fun a hK => ?_
          refine sp (k := 7) rfl hK (by decide) rfl rfl (fun w hS => r_load Try.isAgg44 hK rfl ((hS.ra hRA nil_not).cell (hc_501 0 _ rfl))) fun a hK => ?_
          refine spw (k := 2) rfl rfl hS ?_
          refine sl_buildSliceC (zc := [.int .i64 0, .int .i64 0, .string (⟨#[]⟩ : ByteArray), .int .i64 0, .int .i64 0, .int .i64 0, .int .i64 0, .int .i64 0, .int .i64 0, .int .i64 0, .int .i64 0]) (zs := []) (ps := []) (c := []) Try.underlying44 Try.sizeOf43 Try.zeroValue43 rfl pc_nil rfl rfl (by decide) (by kernel_rfl) rfl hS hK (by decide) rfl fun a w b_504 hS hK => ?_
          refine parK_nil (hS.pk6.pk6.pk6.pk6.pk6.pk6.trunc 6) ?_
          refine spw (k := 8) rfl rfl (hS.pk6.pk6.pk6.pk6.pk6.pk6.trunc 6) ?_
          obtain ⟨y_507, h_508, H⟩ := bind_some H
          have hS := hS.row_lit (size := 11) (m := 0) rfl (by decide)
          have hq_506 : Reps ty_api_Value R_200 [] ([] : List api_Value) := (Reps.nil _ _)
          refine sl_append_A elT44 (by decide) rfl (fun _ _ _ _ h => h) (hS.ra hRA nil_not) hq_506 rfl hs_503 h_508 hS hK (by decide) rfl rfl rfl fun a w v_509 cs_510 hq_511 hS hK => ?_
          refine parK_nil (hS.pk6.pk6.pk6.pk6.pk6.pk6.trunc 6) ?_
          refine spw (k := 9) rfl rfl (hS.pk6.pk6.pk6.pk6.pk6.pk6.trunc 6) ?_
          have ho_513 := hS.row_one (.head _)
          refine sl_buildSliceF (zc := [.slice none 0 0]) (ps := [(0, v_509)]) (c := [v_509]) [[v_509]] Try.underlying23 Try.sizeOf44 Try.zeroValue44 rfl (pc_cons (cells1 ho_513) pc_nil) rfl rfl (Nat.le_of_ble_eq_true rfl) rfl (all_cons rfl (all_nil)) rfl hS hK (by decide) rfl fun a w b_514 hS hK => ?_
          refine parK_nil (hS.pk7.pk7.pk7.pk7.pk7.pk7.trunc 6) ?_
          refine thenL_nil ?_
          have hS := hS.pk6
          have hS := hS.pk2
          obtain ⟨R_515, hS, hl_517, hs_516⟩ := hS.fz_row hq_511 rfl rfl
          have hRL := hRL.trans hl_517
          obtain ⟨y_518, h_519, H⟩ := bind_some H
          refine sl_append_L (ty := (tySl ty_api_Value)) (ys := [y_507]) elT23 (by decide) rfl (hq_198.mono hl_517.le) rfl (Reps.cons (show Ty.rep (tySl ty_api_Value) _ [v_509] y_507 from ⟨_, rfl, hs_516⟩) (Reps.nil _ _)) rfl h_519 hS hK (by decide) rfl rfl rfl fun a w v_520 cs_521 hq_522 hS hK => ?_
          refine sl hK (by decide) rfl rfl (r_fieldAddr Try.underlying25 rfl Try.sizeOf23 hK rfl) fun a hK => ?_
          have hS := hS.pk5
          refine sl_store1 (c' := [v_9, v_520]) Try.sizeOf23 hS hK rfl rfl rfl (hS.row_one (.tail _ (.head _))) (Nat.le_of_ble_eq_true rfl) rfl fun a w hS hK => ?_
          refine wpList_nil (NoP_nil ?_)
          have hS := hS.pk1
          have hS := hS.pk5
          have hS := hS.pk5
          have hS := hS.pk5
          have hS := hS.pk5
          exact ⟨y_518, _, _, _, H, hl_517, hq_522, hK.sub (all_cons rfl (all_cons rfl (all_cons rfl (all_cons rfl (all_cons rfl (all_cons rfl (all_nil))))))), hS⟩
        · rw [ifb_f hb_461] at H
          refine wp_skip ?_
          have hS := hS.pk5
          have hS := hS.pk5
          have hS := hS.pk5
          have hS := hS.pk5
          have hS := hS.pk5
          have hS := hS.pk5
          exact ⟨x_195, _, _, _, H, (RLe.refl _ _), hq_198, hK.sub (all_cons rfl (all_cons rfl (all_cons rfl (all_cons rfl (all_cons rfl (all_cons rfl (all_nil))))))), hS⟩
      · rintro a w ⟨x_455, R_459, v_456, cs_457, H, hl_460, hq_458, hK, hS⟩
        unfold ref15_Where.j1 at H
        have hRL := hRL.trans hl_460
        refine wp_region_lit ?_
        refine sl hK (by decide) rfl rfl (r_move hK rfl) fun a hK => ?_
        refine sl hK (by decide) rfl rfl (r_ibin hK rfl rfl rfl) fun a hK => ?_
        refine sl hK (by decide) rfl rfl (r_assign hK rfl) fun a hK => ?_
        refine wpList_nil ?_
        have hS := hS.pk5
        have hS := hS.pk5
        have hS := hS.pk5
        have hS := hS.pk5
        have hS := hS.pk5
        have hS := hS.pk5
        exact ⟨_, Nat.lt_succ_self _, x_455, (IntKind.i64.wrap (x_199 + 1)), _, _, _, H, (hl_201.trans hl_460), hq_458, hK.sub (all_cons rfl (all_cons rfl (all_cons rfl (all_cons rfl (all_cons rfl (all_cons rfl (all_nil))))))), hS⟩
    · rw [ifb_f hb_364] at H
      refine wp_exit ?_
      refine wp_seq ?_
      refine wp_region_lit ?_
      refine sl hK (by decide) rfl rfl (r_loadA (cs := [v_9, v_196]) Try.isAgg25 Try.sizeOf25 rfl hK rfl (hS.cells_of (m := 2) (.tail _ (.tail _ (.tail _ (.tail _ (.tail _ (.head _)))))) rfl)) fun a hK => ?_
      have hS := hS.pk2
      refine sl_storeA (vs := [v_9, v_196]) (c' := [v_9, v_196]) Try.sizeOf25 hS hK rfl rfl rfl rfl (all_cons (hS.row_one (.tail _ (.tail _ (.tail _ (.head _))))) (all_cons (hS.row_one (.tail _ (.tail _ (.tail _ (.tail _ (.head _)))))) (all_nil))) (Nat.le_of_ble_eq_true rfl) rfl fun a w hS hK => ?_
      refine wpList_nil ?_
      obtain rfl := Option.some.inj H
      refine wp_ret ?_
      repeat (first | refine ret_then ?_ | refine ret_block ?_ | refine ret_scope ?_)
      exact ret_1 Try.results40 hK (rv_cell (c := [v_9, v_196]) Try.isAgg25 Try.sizeOf25 hS (.head _) rfl hK rfl) ⟨_, rfl, _, _, _, _, _, rfl, (hS.pk4.pk4.trunc 2), hRL, (hq_11.mono hl_201.le), hq_198⟩

/-! ### catchment/catchmentref16.Filter: function 22 -/
set_option maxHeartbeats 4000000 in
set_option maxRecDepth 100000 in
theorem ref16_Filter.calls (a0 : api_Table) (a1 : api_Query) (a2 : Int) {w0 : World} {R : Hp} {RA : Hp} {v0_0 : Value} {v0_1 : Value} {v1_0 : Value} (hRA : RA.sub w0) (hR : R.sub w0) (h0_0 : SlR ty_api_Col RA v0_0 a0.Cols) (h0_1 : SlR (tySl ty_api_Value) RA v0_1 a0.Rows) (h1_0 : SlR ty_api_Node RA v1_0 a1.N) {r : api_Table × Int} (H : ref16_Filter a0 a1 a2 = some r) : Calls Try.prog 22 #[.agg #[v0_0, v0_1], .agg #[v1_0], .int .i64 a2] w0 (Rets fun v w' => ∃ (R' : Hp) (u0 : Value) (cu0 : List Value) (u1 : Value) (cu1 : List Value), v = .tuple #[.agg #[u0, u1], .int .i64 r.2] ∧ St [] w0 w' R' [.row 38 2 u0 r.1.Cols.length cu0, .row 44 1 u1 r.1.Rows.length cu1] ∧ RLe [] w0 R R' ∧ Reps ty_api_Col R' cu0 r.1.Cols ∧ Reps (tySl ty_api_Value) R' cu1 r.1.Rows) := by
  unfold ref16_Filter at H
  refine enter (args := [.agg #[v0_0, v0_1], .agg #[v1_0], .int .i64 a2]) Try.func22 rfl Try.ntmps22 rfl fun a hK => ?_
  have hS := St.init hR
  have hRL := RLe.refl (M := []) w0 R
  refine wp_seq ?_
  refine wp_region_lit ?_
  refine sl_box hS hK (by decide) rfl rfl (c := [v0_0, v0_1]) rfl fun a w b_1 hS hK => ?_
  refine sl_box hS hK (by decide) rfl rfl (c := [v1_0]) rfl fun a w b_2 hS hK => ?_
  refine sl_alloc Try.zeroValue25 hS hK (by decide) rfl rfl fun a w b_3 hS hK => ?_
  refine sl hK (by decide) rfl rfl (r_assign hK rfl) fun a hK => ?_
  refine wpList_nil ?_
  refine wp_seq ?_
  refine wp_region_lit ?_
  refine sl hK (by decide) rfl rfl (r_loadA (cs := [v0_0, v0_1]) Try.isAgg25 Try.sizeOf25 rfl hK rfl (hS.cells_of (m := 2) (.tail _ (.tail _ (.head _))) rfl)) fun a hK => ?_
  obtain ⟨y_4, h_5, H⟩ := bind_some H
  refine sl_callV Try.call17 hS hK (by decide) rfl rfl rfl (ref02_Check.calls a0 (lentOf_sub [] _) (h0_0.mono (hS.raLe0 hRA nil_not)) (h0_1.mono (hS.raLe0 hRA nil_not)) h_5) fun a w hS hK => ?_
  refine sl hK (by decide) rfl rfl (r_assign hK rfl) fun a hK => ?_
  refine wpList_nil ?_
  refine wp_seq ?_
  refine wp_seq ?_
  refine wp_region_lit ?_
  refine sl hK (by decide) rfl rfl (r_move hK rfl) fun a hK => ?_
  refine sl hK (by decide) rfl rfl (r_ibin hK rfl rfl rfl) fun a hK => ?_
  refine wpList_nil ?_
  refine wp_cond_split (hK.ev rfl) (fun (hb_6 : (y_4 != 0) = true) => ?_) (fun (hb_6 : (y_4 != 0) = false) => ?_)
  · rw [ifb_t hb_6] at H
    refine wp_seq ?_
    refine wp_region_lit ?_
    refine sl hK (by decide) rfl rfl (r_buildC (ps := []) (c := [.slice none 0 0, .slice none 0 0]) Try.underlying25 Try.zeroValue25 places25 hK rfl pc_nil rfl rfl) fun a hK => ?_
    refine sl hK (by decide) rfl rfl (r_move hK rfl) fun a hK => ?_
    refine sl_storeA (vs := [.slice none 0 0, .slice none 0 0]) (c' := [.slice none 0 0, .slice none 0 0]) Try.sizeOf25 hS hK rfl rfl rfl rfl (all_cons rfl (all_cons rfl (all_nil))) (Nat.le_of_ble_eq_true rfl) rfl fun a w hS hK => ?_
    refine sl hK (by decide) rfl rfl (r_assign hK rfl) fun a hK => ?_
    refine wpList_nil ?_
    have hS := hS.row_nil 38 2
    have hq_8 : Reps ty_api_Col R [] ([] : List api_Col) := Reps.nil _ _
    have hS := hS.row_nil 44 1
    have hq_10 : Reps (tySl ty_api_Value) R [] ([] : List (List api_Value)) := Reps.nil _ _
    obtain rfl := Option.some.inj H
    refine wp_ret ?_
    repeat (first | refine ret_then ?_ | refine ret_block ?_ | refine ret_scope ?_)
    exact ret_2 Try.results22 hK (rv_cell (c := [(.slice none 0 0), (.slice none 0 0)]) Try.isAgg25 Try.sizeOf25 hS (.tail _ (.tail _ (.head _))) rfl hK rfl) (rv_tmp hK rfl) ⟨_, rfl, _, _, _, _, _, rfl, (hS.pk1.trunc 2), hRL, hq_8, hq_10⟩
  · rw [ifb_f hb_6] at H
    refine wp_skip ?_
    refine wp_seq ?_
    refine wp_region_lit ?_
    refine sl hK (by decide) rfl rfl (r_loadA (cs := [v0_0, v0_1]) Try.isAgg25 Try.sizeOf25 rfl hK rfl (hS.cells_of (m := 2) (.tail _ (.tail _ (.head _))) rfl)) fun a hK => ?_
    refine sl hK (by decide) rfl rfl (r_loadA (cs := [v1_0]) Try.isAgg52 Try.sizeOf52 rfl hK rfl (hS.cells_of (m := 1) (.tail _ (.head _)) rfl)) fun a hK => ?_
    refine sl hK (by decide) rfl rfl (r_move hK rfl) fun a hK => ?_
    obtain ⟨y_11, h_12, H⟩ := bind_some H
    refine sl_call Try.call40 hK (by decide) rfl rfl rfl (ref15_Where.calls a0 a1 a2 (lentOf_sub [] _) hS.sub (h0_0.mono (hS.raLe0 hRA nil_not)) (h0_1.mono (hS.raLe0 hRA nil_not)) (h1_0.mono (hS.raLe0 hRA nil_not)) h_12) fun a v_ w hv_ hK => ?_
    obtain ⟨R_13, v_16, cs_17, v_20, cs_21, hv_, hr_, hl_14, hq_18, hq_22⟩ := hv_
    have hv_ := hv_.symm
    subst hv_
    obtain ⟨hS, hl_14⟩ := hS.sp0.back hr_ hl_14
    have hS := hS.un2
    have hRL := hRL.trans hl_14
    obtain ⟨R_23, hS, hl_25, hs_24⟩ := hS.fz_row hq_18 rfl rfl
    have hRL := hRL.trans hl_25
    obtain ⟨R_26, hS, hl_28, hs_27⟩ := hS.fz_row (hq_22.mono hl_25.le) rfl rfl
    have hRL := hRL.trans hl_28
    obtain ⟨y_29, h_30, H⟩ := bind_some H
    refine sl_call Try.call11 hK (by decide) rfl rfl rfl (ref02_Canon.calls y_11 hS.sub (hs_24.mono hl_28.le) hs_27 h_30) fun a v_ w hv_ hK => ?_
    obtain ⟨R_31, v_34, cs_35, v_38, cs_39, hv_, hr_, hl_32, hq_36, hq_40⟩ := hv_
    have hv_ := hv_.symm
    subst hv_
    obtain ⟨hS, hl_32⟩ := hS.sp0.back hr_ hl_32
    have hS := hS.un2
    have hRL := hRL.trans hl_32
    have hS := hS.pk2
    refine sl_storeA (vs := [v_34, v_38]) (c' := [v_34, v_38]) Try.sizeOf25 hS hK rfl rfl rfl rfl (all_cons (hS.row_one (.tail _ (.head _))) (all_cons (hS.row_one (.tail _ (.tail _ (.head _)))) (all_nil))) (Nat.le_of_ble_eq_true rfl) rfl fun a w hS hK => ?_
    refine sl hK (by decide) rfl rfl (r_assign hK rfl) fun a hK => ?_
    refine wpList_nil ?_
    obtain rfl := Option.some.inj H
    refine wp_ret ?_
    repeat (first | refine ret_then ?_ | refine ret_block ?_ | refine ret_scope ?_)
    exact ret_2 Try.results22 hK (rv_cell (c := [v_34, v_38]) Try.isAgg25 Try.sizeOf25 hS (.head _) rfl hK rfl) (rv_tmp hK rfl) ⟨_, rfl, _, _, _, _, _, rfl, (hS.pk2.pk2.trunc 2), hRL, hq_36, hq_40⟩

/-! ### catchment/catchmentlaw16.RowopsFilters: function 8 -/
set_option maxHeartbeats 4000000 in
set_option maxRecDepth 100000 in
theorem law16_RowopsFilters.calls (a0 : api_Table) (a1 : api_Query) (a2 : Int) {w0 : World} {R : Hp} {RA : Hp} {v0_0 : Value} {v0_1 : Value} {v1_0 : Value} (hRA : RA.sub w0) (hR : R.sub w0) (h0_0 : SlR ty_api_Col R v0_0 a0.Cols) (h0_1 : SlR (tySl ty_api_Value) R v0_1 a0.Rows) (h1_0 : SlR ty_api_Node RA v1_0 a1.N) (hG : GF RA) (H : law16_RowopsFilters a0 a1 a2 = some true) : CallsV Try.prog 8 #[.agg #[v0_0, v0_1], .agg #[v1_0], .int .i64 a2] w0 (.bool true) := by
  unfold law16_RowopsFilters at H
  refine enter (args := [.agg #[v0_0, v0_1], .agg #[v1_0], .int .i64 a2]) Try.func8 rfl Try.ntmps8 rfl fun a hK => ?_
  have hS := St.init hR
  have hRL := RLe.refl (M := []) w0 R
  refine wp_seq ?_
  refine wp_region_lit ?_
  refine sl_box hS hK (by decide) rfl rfl (c := [v0_0, v0_1]) rfl fun a w b_1 hS hK => ?_
  refine sl_box hS hK (by decide) rfl rfl (c := [v1_0]) rfl fun a w b_2 hS hK => ?_
  refine sl hK (by decide) rfl rfl (r_assign hK rfl) fun a hK => ?_
  refine wpList_nil ?_
  refine wp_seq ?_
  refine wp_region_lit ?_
  obtain ⟨y_3, h_4, H⟩ := bind_some H
  refine sl_callV Try.call9 hS hK (by decide) rfl rfl rfl (law16_shown.calls h_4 _) fun a w hS hK => ?_
  refine sl hK (by decide) rfl rfl (r_assign hK rfl) fun a hK => ?_
  refine wpList_nil ?_
  refine wp_seq ?_
  refine wp_region_lit ?_
  refine sl hK (by decide) rfl rfl (r_loadA (cs := [v0_0, v0_1]) Try.isAgg25 Try.sizeOf25 rfl hK rfl (hS.cells_of (m := 2) (.tail _ (.head _)) rfl)) fun a hK => ?_
  obtain ⟨y_5, h_6, H⟩ := bind_some H
  refine sl_call Try.call10 hK (by decide) rfl rfl rfl (law16_cut.calls a0 hS.sub h0_0 h0_1 h_6) fun a v_ w hv_ hK => ?_
  obtain ⟨R_7, v_9, v_11, hv_, hr_, hl_8, hs_10, hs_12⟩ := hv_
  have hv_ := hv_.symm
  subst hv_
  obtain ⟨hS, hl_8⟩ := hS.sp0.back hr_ hl_8
  have hS := hS.un0
  have hRL := hRL.trans hl_8
  have hS := hS.pk1
  refine sl_storeA (vs := [v_9, v_11]) (c' := [v_9, v_11]) Try.sizeOf25 hS hK rfl rfl rfl rfl (all_cons hs_10.one (all_cons hs_12.one (all_nil))) (Nat.le_of_ble_eq_true rfl) rfl fun a w hS hK => ?_
  refine wpList_nil ?_
  refine wp_seq ?_
  refine wp_seq ?_
  refine wp_region_lit ?_
  refine sl hK (by decide) rfl rfl (r_fieldAddr Try.underlying52 rfl Try.sizeOf50 hK rfl) fun a hK => ?_
  refine sl hK (by decide) rfl rfl (r_load Try.isAgg50 hK rfl (hS.cell (.tail _ (.head _)) rfl)) fun a hK => ?_
  refine sl hK (by decide) rfl rfl (r_len_R Try.underlying50 h1_0 hK rfl) fun a hK => ?_
  refine sl hK (by decide) rfl rfl (r_ibin hK rfl rfl rfl) fun a hK => ?_
  refine wpList_nil ?_
  refine wp_mid (fun a w => ∃ (x_21 : List api_Node) (v_19 : Value), law16_RowopsFilters.j0 a2 y_3 y_5 x_21 = some true ∧ SlR ty_api_Node RA v_19 x_21 ∧ Kn 50 a [(2, .int .i64 a2), (3, .pointer (some ⟨b_1, 0, none⟩)), (4, .pointer (some ⟨b_2, 0, none⟩)), (7, .bool y_3)] ∧ St [] w0 w R_7 [.cells b_1 [v_9, v_11] 25, .cells b_2 [v_19] 52]) ?_ ?_
  · refine wp_cond_split (hK.ev rfl) (fun (hb_23 : (decide ((a1.N.length : Int) > 100)) = true) => ?_) (fun (hb_23 : (decide ((a1.N.length : Int) > 100)) = false) => ?_)
    · rw [ifb_t hb_23] at H
      refine wp_region_lit ?_
      refine sl hK (by decide) rfl rfl (r_fieldAddr Try.underlying52 rfl Try.sizeOf50 hK rfl) fun a hK => ?_
      refine sl hK (by decide) rfl rfl (r_load Try.isAgg50 hK rfl (hS.cell (.tail _ (.head _)) rfl)) fun a hK => ?_
      obtain ⟨y_24, h_25, H⟩ := bind_some H
      obtain ⟨v_26, hs_27, hr_28⟩ := r_slice_R (x := .tmp 21) (lo := none) (hi := some (.const (.int .i64 100))) Try.underlying50 Try.sizeOf85 h1_0 h_25 hK rfl rfl ⟨_, rfl⟩
      refine sl hK (by decide) rfl rfl (hr_28 _ _ _ _ _ _ _ hK) fun a hK => ?_
      refine sl hK (by decide) rfl rfl (r_fieldAddr Try.underlying52 rfl Try.sizeOf50 hK rfl) fun a hK => ?_
      have hS := hS.pk1
      refine sl_store1 (c' := [v_26]) Try.sizeOf50 hS hK rfl rfl rfl hs_27.one (Nat.le_of_ble_eq_true rfl) rfl fun a w hS hK => ?_
      refine wpList_nil ?_
      have hS := hS.pk1
      exact ⟨y_24, v_26, H, hs_27, hK.sub (all_cons rfl (all_cons rfl (all_cons rfl (all_cons rfl (all_nil))))), hS⟩
    · rw [ifb_f hb_23] at H
      refine wp_skip ?_
      have hS := hS.pk1
      have hS := hS.pk1
      exact ⟨a1.N, v1_0, H, h1_0, hK.sub (all_cons rfl (all_cons rfl (all_cons rfl (all_cons rfl (all_nil))))), hS⟩
  · rintro a w ⟨x_21, v_19, H, hs_20, hK, hS⟩
    unfold law16_RowopsFilters.j0 at H
    refine wp_seq ?_
    refine wp_region_lit ?_
    refine sl hK (by decide) rfl rfl (r_loadA (cs := [v_9, v_11]) Try.isAgg25 Try.sizeOf25 rfl hK rfl (hS.cells_of (m := 2) (.head _) rfl)) fun a hK => ?_
    refine sl hK (by decide) rfl rfl (r_loadA (cs := [v_19]) Try.isAgg52 Try.sizeOf52 rfl hK rfl (hS.cells_of (m := 1) (.tail _ (.head _)) rfl)) fun a hK => ?_
    refine sl hK (by decide) rfl rfl (r_move hK rfl) fun a hK => ?_
    obtain ⟨y_29, h_30, H⟩ := bind_some H
    refine sl_call Try.call21 hK (by decide) rfl rfl rfl (rowops_Filter.calls y_5 (⟨x_21⟩ : api_Query) a2 (lentOf_sub [] _) hS.sub (hs_10.mono hS.rLe0) (hs_12.mono hS.rLe0) (hs_20.mono (hS.raLe0 hRA nil_not)) (GF.mono (hS.raLe0 hRA nil_not) hG) h_30) fun a v_ w hv_ hK => ?_
    obtain ⟨R_31, v_34, cs_35, v_38, cs_39, hv_, hr_, hl_32, hq_36, hq_40⟩ := hv_
    have hv_ := hv_.symm
    subst hv_
    obtain ⟨hS, hl_32⟩ := hS.sp0.back hr_ hl_32
    have hS := hS.un2
    have hRL := hRL.trans hl_32
    refine sl hK (by decide) rfl rfl (r_move hK rfl) fun a hK => ?_
    refine sl hK (by decide) rfl rfl (r_extract hK rfl rfl) fun a hK => ?_
    refine sl hK (by decide) rfl rfl (r_extract hK rfl rfl) fun a hK => ?_
    refine sl_alloc Try.zeroValue25 hS hK (by decide) rfl rfl fun a w b_41 hS hK => ?_
    refine sl_storeA (vs := [v_34, v_38]) (c' := [v_34, v_38]) Try.sizeOf25 hS hK rfl rfl rfl rfl (all_cons (hS.row_one (.tail _ (.head _))) (all_cons (hS.row_one (.tail _ (.tail _ (.head _)))) (all_nil))) (Nat.le_of_ble_eq_true rfl) rfl fun a w hS hK => ?_
    refine sl hK (by decide) rfl rfl (r_assign hK rfl) fun a hK => ?_
    refine wpList_nil ?_
    refine wp_seq ?_
    refine wp_region_lit ?_
    refine sl hK (by decide) rfl rfl (r_loadA (cs := [v_9, v_11]) Try.isAgg25 Try.sizeOf25 rfl hK rfl (hS.cells_of (m := 2) (.tail _ (.tail _ (.tail _ (.head _)))) rfl)) fun a hK => ?_
    refine sl hK (by decide) rfl rfl (r_loadA (cs := [v_19]) Try.isAgg52 Try.sizeOf52 rfl hK rfl (hS.cells_of (m := 1) (.tail _ (.tail _ (.tail _ (.tail _ (.head _))))) rfl)) fun a hK => ?_
    refine sl hK (by decide) rfl rfl (r_move hK rfl) fun a hK => ?_
    obtain ⟨y_42, h_43, H⟩ := bind_some H
    refine sl_call Try.call22 hK (by decide) rfl rfl rfl (ref16_Filter.calls y_5 (⟨x_21⟩ : api_Query) a2 (lentOf_sub [] _) hS.sub (hs_10.mono (hl_32.le.trans hS.rLe0)) (hs_12.mono (hl_32.le.trans hS.rLe0)) (hs_20.mono (hS.raLe0 hRA nil_not)) h_43) fun a v_ w hv_ hK => ?_
    obtain ⟨R_44, v_47, cs_48, v_51, cs_52, hv_, hr_, hl_45, hq_49, hq_53⟩ := hv_
    have hv_ := hv_.symm
    subst hv_
    obtain ⟨hS, hl_45⟩ := hS.sp0.back hr_ hl_45
    have hS := hS.un2
    have hRL := hRL.trans hl_45
    refine sl hK (by decide) rfl rfl (r_move hK rfl) fun a hK => ?_
    refine sl hK (by decide) rfl rfl (r_extract hK rfl rfl) fun a hK => ?_
    refine sl hK (by decide) rfl rfl (r_extract hK rfl rfl) fun a hK => ?_
    refine sl_alloc Try.zeroValue25 hS hK (by decide) rfl rfl fun a w b_54 hS hK => ?_
    refine sl_storeA (vs := [v_47, v_51]) (c' := [v_47, v_51]) Try.sizeOf25 hS hK rfl rfl rfl rfl (all_cons (hS.row_one (.tail _ (.head _))) (all_cons (hS.row_one (.tail _ (.tail _ (.head _)))) (all_nil))) (Nat.le_of_ble_eq_true rfl) rfl fun a w hS hK => ?_
    refine sl hK (by decide) rfl rfl (r_assign hK rfl) fun a hK => ?_
    refine wpList_nil ?_
    refine wp_seq ?_
    refine wp_region_lit ?_
    refine sl hK (by decide) rfl rfl (r_loadA (cs := [v_34, v_38]) Try.isAgg25 Try.sizeOf25 rfl hK rfl (hS.cells_of (m := 2) (.tail _ (.tail _ (.tail _ (.head _)))) rfl)) fun a hK => ?_
    refine sl hK (by decide) rfl rfl (r_loadA (cs := [v_47, v_51]) Try.isAgg25 Try.sizeOf25 rfl hK rfl (hS.cells_of (m := 2) (.head _) rfl)) fun a hK => ?_
    obtain ⟨y_55, h_56, H⟩ := bind_some H
    refine sl_callV Try.call14 hS hK (by decide) rfl rfl rfl (ref02_Same.calls y_29.1 y_42.1 (lentOf_sub [] _) (hS.lend_row0 (.tail _ (.tail _ (.tail _ (.tail _ (.head _))))) (hq_36.mono hl_45.le) rfl rfl) (hS.lend_row0 (.tail _ (.tail _ (.tail _ (.tail _ (.tail _ (.head _)))))) (hq_40.mono hl_45.le) rfl rfl) (hS.lend_row0 (.tail _ (.head _)) hq_49 rfl rfl) (hS.lend_row0 (.tail _ (.tail _ (.head _))) hq_53 rfl rfl) h_56) fun a w hS hK => ?_
    refine sl hK (by decide) rfl rfl (r_assign hK rfl) fun a hK => ?_
    refine wpList_nil ?_
    refine wp_seq ?_
    refine wp_region_lit ?_
    refine sl hK (by decide) rfl rfl (r_move hK rfl) fun a hK => ?_
    refine sl hK (by decide) rfl rfl (r_move hK rfl) fun a hK => ?_
    rcases or_b y_3 with hb_57 | hb_57
    · rw [ifb_t hb_57] at H
      refine sl hK (by decide) (wtt hb_57) rfl (r_move hK rfl) fun a hK => ?_
      refine sl hK (by decide) rfl rfl (r_pick_t hb_57 hK rfl rfl) fun a hK => ?_
      refine sl hK (by decide) rfl rfl (r_move hK rfl) fun a hK => ?_
      rcases or_b y_55 with hb_58 | hb_58
      · rw [ifb_t hb_58] at H
        refine sl hK (by decide) (wtt hb_58) rfl (r_move hK rfl) fun a hK => ?_
        refine sl hK (by decide) (wtt hb_58) rfl (r_move hK rfl) fun a hK => ?_
        refine sl hK (by decide) (wtt hb_58) rfl (r_ibin hK rfl rfl rfl) fun a hK => ?_
        refine sl hK (by decide) rfl rfl (r_pick_t hb_58 hK rfl rfl) fun a hK => ?_
        refine sl hK (by decide) rfl rfl (r_assign hK rfl) fun a hK => ?_
        refine wpList_nil ?_
        have hr_ := Option.some.inj H
        refine wp_ret ?_
        repeat (first | refine ret_then ?_ | refine ret_block ?_ | refine ret_scope ?_)
        exact ret_1 Try.results8 hK (rv_tmp hK rfl) ⟨congrArg (fun b => Ending.returned (Value.bool b)) hr_, hS.bel⟩
      · rw [ifb_f hb_58] at H
        refine sl_skip hK (by decide) (wtf hb_58) rfl fun a hK => ?_
        refine sl_skip hK (by decide) (wtf hb_58) rfl fun a hK => ?_
        refine sl_skip hK (by decide) (wtf hb_58) rfl fun a hK => ?_
        refine sl hK (by decide) rfl rfl (r_pick_f hb_58 hK rfl rfl) fun a hK => ?_
        refine sl hK (by decide) rfl rfl (r_assign hK rfl) fun a hK => ?_
        refine wpList_nil ?_
        exact absurd (Option.some.inj H) (by decide)
    · rw [ifb_f hb_57] at H
      refine sl_skip hK (by decide) (wtf hb_57) rfl fun a hK => ?_
      refine sl hK (by decide) rfl rfl (r_pick_f hb_57 hK rfl rfl) fun a hK => ?_
      refine sl hK (by decide) rfl rfl (r_move hK rfl) fun a hK => ?_
      refine sl_skip hK (by decide) rfl rfl fun a hK => ?_
      refine sl_skip hK (by decide) rfl rfl fun a hK => ?_
      refine sl_skip hK (by decide) rfl rfl fun a hK => ?_
      refine sl hK (by decide) rfl rfl (r_pick hK rfl rfl rfl) fun a hK => ?_
      refine sl hK (by decide) rfl rfl (r_assign hK rfl) fun a hK => ?_
      refine wpList_nil ?_
      exact absurd (Option.some.inj H) (by decide)

end Go.Proofs.Ytjimddbbpjpgdaa.M
