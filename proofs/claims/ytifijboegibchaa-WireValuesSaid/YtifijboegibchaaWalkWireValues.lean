/- Each Go function of the laws answers as its plain Lean function tells, wherever that tells something. Printed by wip/eng/gen.py. -/
import Derived.Test.YtifijboegibchaaWalk3
namespace Go.Proofs.Ytifijboegibchaa.M
open Go Go.Eng Go.Proofs Go.RowKit
set_option linter.unusedVariables false
set_option linter.unusedSimpArgs false

/-! ### catchment/catchmentlaw04.WireValues: function 3 -/
set_option maxHeartbeats 4000000 in
set_option maxRecDepth 100000 in
theorem law04_WireValues.calls (a0 : List Int) (a1 : api_Value) (a2 : Int) {w0 : World} {RA : Hp} {v0_0 : Value} (hRA : RA.sub w0) (h0_0 : SlR (tyInt .u8) RA v0_0 a0) (H : law04_WireValues a0 a1 a2 = some true) : CallsV Try.prog 3 #[v0_0, .agg #[.int .i64 a1.Kind, .int .i64 a1.N, .string a1.S, .int .i64 a1.H.a0, .int .i64 a1.H.a1, .int .i64 a1.H.a2, .int .i64 a1.H.a3, .int .i64 a1.H.a4, .int .i64 a1.H.a5, .int .i64 a1.H.a6, .int .i64 a1.H.a7], .int .i64 a2] w0 (.bool true) := by
  unfold law04_WireValues at H
  refine enter (args := [v0_0, .agg #[.int .i64 a1.Kind, .int .i64 a1.N, .string a1.S, .int .i64 a1.H.a0, .int .i64 a1.H.a1, .int .i64 a1.H.a2, .int .i64 a1.H.a3, .int .i64 a1.H.a4, .int .i64 a1.H.a5, .int .i64 a1.H.a6, .int .i64 a1.H.a7], .int .i64 a2]) Try.func3 rfl Try.ntmps3 rfl fun a hK => ?_
  have hS := St.init (R := fun _ => none) (w := w0) (fun _ _ h => by cases h)
  have hRL := RLe.refl (M := []) w0 (fun _ => none)
  refine wp_seq ?_
  refine wp_region_lit ?_
  refine sl_box hS hK (by decide) rfl rfl (c := [.int .i64 a1.Kind, .int .i64 a1.N, .string a1.S, .int .i64 a1.H.a0, .int .i64 a1.H.a1, .int .i64 a1.H.a2, .int .i64 a1.H.a3, .int .i64 a1.H.a4, .int .i64 a1.H.a5, .int .i64 a1.H.a6, .int .i64 a1.H.a7]) rfl fun a w b_1 hS hK => ?_
  refine sl hK (by decide) rfl rfl (r_assign hK rfl) fun a hK => ?_
  refine wpList_nil ?_
  refine wp_seq ?_
  refine wp_region_lit ?_
  obtain ⟨y_2, h_3, H⟩ := bind_some H
  refine sl_callV Try.call11 hS hK (by decide) rfl rfl rfl (law04_shown.calls h_3 _) fun a w hS hK => ?_
  refine sl hK (by decide) rfl rfl (r_assign hK rfl) fun a hK => ?_
  refine wpList_nil ?_
  refine wp_seq ?_
  refine wp_region_lit ?_
  refine sl_buildSliceC (zc := [.int .u8 0]) (zs := []) (ps := []) (c := []) Try.underlying22 Try.sizeOf5 Try.zeroValue5 rfl pc_nil rfl rfl (by decide) (by kernel_rfl) rfl hS hK (by decide) rfl fun a w b_4 hS hK => ?_
  refine sl hK (by decide) rfl rfl (r_move hK rfl) fun a hK => ?_
  obtain ⟨y_7, h_8, H⟩ := bind_some H
  have hS := hS.row_lit (size := 1) (m := 0) rfl (by decide)
  have hq_6 : Reps (tyInt .u8) (fun _ => none) [] ([] : List Int) := (Reps.nil _ _)
  refine sl_append_A elT22 (by decide) rfl (fun _ _ _ _ h => h) (hS.ra hRA nil_not) hq_6 rfl h0_0 h_8 hS hK (by decide) rfl rfl rfl fun a w v_9 cs_10 hq_11 hS hK => ?_
  refine sl hK (by decide) rfl rfl (r_assign hK rfl) fun a hK => ?_
  refine wpList_nil ?_
  refine wp_seq ?_
  refine wp_region_lit ?_
  refine sl hK (by decide) rfl rfl (r_move hK rfl) fun a hK => ?_
  refine sl hK (by decide) rfl rfl (r_loadA (cs := [.int .i64 a1.Kind, .int .i64 a1.N, .string a1.S, .int .i64 a1.H.a0, .int .i64 a1.H.a1, .int .i64 a1.H.a2, .int .i64 a1.H.a3, .int .i64 a1.H.a4, .int .i64 a1.H.a5, .int .i64 a1.H.a6, .int .i64 a1.H.a7]) Try.isAgg25 Try.sizeOf25 rfl hK rfl (hS.cells_of (m := 11) (.tail _ (.head _)) rfl)) fun a hK => ?_
  obtain ⟨y_13, h_14, H⟩ := bind_some H
  refine sl_call Try.call12 hK (by decide) rfl rfl rfl (wire_Put.calls y_7 a1 (lentOf_sub [] _) hS.sub (hS.lend_row0 (.head _) hq_11 rfl rfl) h_14) fun a v_ w hv_ hK => ?_
  obtain ⟨R_15, v_18, cs_19, hv_, hr_, hl_16, hq_20⟩ := hv_
  have hv_ := hv_.symm
  subst hv_
  obtain ⟨hS, hl_16⟩ := hS.sp0.back hr_ hl_16
  have hS := hS.un1
  have hRL := hRL.trans hl_16
  refine sl hK (by decide) rfl rfl (r_move hK rfl) fun a hK => ?_
  refine sl hK (by decide) rfl rfl (r_extract hK rfl rfl) fun a hK => ?_
  refine sl hK (by decide) rfl rfl (r_extract hK rfl rfl) fun a hK => ?_
  refine sl hK (by decide) rfl rfl (r_assign hK rfl) fun a hK => ?_
  refine sl hK (by decide) rfl rfl (r_assign hK rfl) fun a hK => ?_
  refine wpList_nil ?_
  refine wp_seq ?_
  refine wp_region_lit ?_
  refine sl hK (by decide) rfl rfl (r_move hK rfl) fun a hK => ?_
  refine sl hK (by decide) rfl rfl (r_loadA (cs := [.int .i64 a1.Kind, .int .i64 a1.N, .string a1.S, .int .i64 a1.H.a0, .int .i64 a1.H.a1, .int .i64 a1.H.a2, .int .i64 a1.H.a3, .int .i64 a1.H.a4, .int .i64 a1.H.a5, .int .i64 a1.H.a6, .int .i64 a1.H.a7]) Try.isAgg25 Try.sizeOf25 rfl hK rfl (hS.cells_of (m := 11) (.tail _ (.tail _ (.head _))) rfl)) fun a hK => ?_
  obtain ⟨y_21, h_22, H⟩ := bind_some H
  refine sl_call Try.call13 hK (by decide) rfl rfl rfl (ref04_Put.calls a0 a1 (lentOf_sub [] _) hS.sub (h0_0.mono (hS.raLe0 hRA nil_not)) h_22) fun a v_ w hv_ hK => ?_
  obtain ⟨R_23, v_26, cs_27, hv_, hr_, hl_24, hq_28⟩ := hv_
  have hv_ := hv_.symm
  subst hv_
  obtain ⟨hS, hl_24⟩ := hS.sp0.back hr_ hl_24
  have hS := hS.un1
  have hRL := hRL.trans hl_24
  refine sl hK (by decide) rfl rfl (r_move hK rfl) fun a hK => ?_
  refine sl hK (by decide) rfl rfl (r_extract hK rfl rfl) fun a hK => ?_
  refine sl hK (by decide) rfl rfl (r_extract hK rfl rfl) fun a hK => ?_
  refine sl hK (by decide) rfl rfl (r_assign hK rfl) fun a hK => ?_
  refine sl hK (by decide) rfl rfl (r_assign hK rfl) fun a hK => ?_
  refine wpList_nil ?_
  refine wp_seq ?_
  refine wp_region_lit ?_
  refine sl hK (by decide) rfl rfl (r_move hK rfl) fun a hK => ?_
  refine sl hK (by decide) rfl rfl (r_move hK rfl) fun a hK => ?_
  have hS := hS.pk2
  obtain ⟨R_29, hS, hl_31, hs_30⟩ := hS.fz_row (hq_11.mono (hl_16.le.trans hl_24.le)) rfl rfl
  have hRL := hRL.trans hl_31
  obtain ⟨y_32, h_33, H⟩ := bind_some H
  refine sl_call Try.call14 hK (by decide) rfl rfl rfl (wire_Take.calls y_7 a2 hS.sub hs_30 h_33) fun a v_ w hv_ hK => ?_
  obtain ⟨R_34, v_37, cs_38, hv_, hr_, hl_35, hq_39⟩ := hv_
  have hv_ := hv_.symm
  subst hv_
  obtain ⟨hS, hl_35⟩ := hS.sp0.back hr_ hl_35
  have hS := hS.un1
  have hRL := hRL.trans hl_35
  refine sl hK (by decide) rfl rfl (r_move hK rfl) fun a hK => ?_
  refine sl hK (by decide) rfl rfl (r_extract hK rfl rfl) fun a hK => ?_
  refine sl hK (by decide) rfl rfl (r_extract hK rfl rfl) fun a hK => ?_
  refine sl hK (by decide) rfl rfl (r_extract hK rfl rfl) fun a hK => ?_
  refine sl_alloc Try.zeroValue25 hS hK (by decide) rfl rfl fun a w b_40 hS hK => ?_
  refine sl_storeA (vs := [.int .i64 y_32.1.Kind, .int .i64 y_32.1.N, .string y_32.1.S, .int .i64 y_32.1.H.a0, .int .i64 y_32.1.H.a1, .int .i64 y_32.1.H.a2, .int .i64 y_32.1.H.a3, .int .i64 y_32.1.H.a4, .int .i64 y_32.1.H.a5, .int .i64 y_32.1.H.a6, .int .i64 y_32.1.H.a7]) (c' := [.int .i64 y_32.1.Kind, .int .i64 y_32.1.N, .string y_32.1.S, .int .i64 y_32.1.H.a0, .int .i64 y_32.1.H.a1, .int .i64 y_32.1.H.a2, .int .i64 y_32.1.H.a3, .int .i64 y_32.1.H.a4, .int .i64 y_32.1.H.a5, .int .i64 y_32.1.H.a6, .int .i64 y_32.1.H.a7]) Try.sizeOf25 hS hK rfl rfl rfl rfl (all_cons rfl (all_cons rfl (all_cons rfl (all_cons rfl (all_cons rfl (all_cons rfl (all_cons rfl (all_cons rfl (all_cons rfl (all_cons rfl (all_cons rfl (all_nil)))))))))))) (Nat.le_of_ble_eq_true rfl) rfl fun a w hS hK => ?_
  refine sl hK (by decide) rfl rfl (r_assign hK rfl) fun a hK => ?_
  refine sl hK (by decide) rfl rfl (r_assign hK rfl) fun a hK => ?_
  refine wpList_nil ?_
  refine wp_seq ?_
  refine wp_region_lit ?_
  refine sl hK (by decide) rfl rfl (r_move hK rfl) fun a hK => ?_
  refine sl hK (by decide) rfl rfl (r_move hK rfl) fun a hK => ?_
  obtain ⟨y_41, h_42, H⟩ := bind_some H
  refine sl_call Try.call15 hK (by decide) rfl rfl rfl (ref04_Take.calls a0 a2 (lentOf_sub [] _) hS.sub (h0_0.mono (hS.raLe0 hRA nil_not)) h_42) fun a v_ w hv_ hK => ?_
  obtain ⟨R_43, v_46, cs_47, hv_, hr_, hl_44, hq_48⟩ := hv_
  have hv_ := hv_.symm
  subst hv_
  obtain ⟨hS, hl_44⟩ := hS.sp0.back hr_ hl_44
  have hS := hS.un1
  have hRL := hRL.trans hl_44
  refine sl hK (by decide) rfl rfl (r_move hK rfl) fun a hK => ?_
  refine sl hK (by decide) rfl rfl (r_extract hK rfl rfl) fun a hK => ?_
  refine sl hK (by decide) rfl rfl (r_extract hK rfl rfl) fun a hK => ?_
  refine sl hK (by decide) rfl rfl (r_extract hK rfl rfl) fun a hK => ?_
  refine sl_alloc Try.zeroValue25 hS hK (by decide) rfl rfl fun a w b_49 hS hK => ?_
  refine sl_storeA (vs := [.int .i64 y_41.1.Kind, .int .i64 y_41.1.N, .string y_41.1.S, .int .i64 y_41.1.H.a0, .int .i64 y_41.1.H.a1, .int .i64 y_41.1.H.a2, .int .i64 y_41.1.H.a3, .int .i64 y_41.1.H.a4, .int .i64 y_41.1.H.a5, .int .i64 y_41.1.H.a6, .int .i64 y_41.1.H.a7]) (c' := [.int .i64 y_41.1.Kind, .int .i64 y_41.1.N, .string y_41.1.S, .int .i64 y_41.1.H.a0, .int .i64 y_41.1.H.a1, .int .i64 y_41.1.H.a2, .int .i64 y_41.1.H.a3, .int .i64 y_41.1.H.a4, .int .i64 y_41.1.H.a5, .int .i64 y_41.1.H.a6, .int .i64 y_41.1.H.a7]) Try.sizeOf25 hS hK rfl rfl rfl rfl (all_cons rfl (all_cons rfl (all_cons rfl (all_cons rfl (all_cons rfl (all_cons rfl (all_cons rfl (all_cons rfl (all_cons rfl (all_cons rfl (all_cons rfl (all_nil)))))))))))) (Nat.le_of_ble_eq_true rfl) rfl fun a w hS hK => ?_
  refine sl hK (by decide) rfl rfl (r_assign hK rfl) fun a hK => ?_
  refine sl hK (by decide) rfl rfl (r_assign hK rfl) fun a hK => ?_
  refine wpList_nil ?_
  refine wp_seq ?_
  refine wp_region_lit ?_
  refine sl hK (by decide) rfl rfl (r_move hK rfl) fun a hK => ?_
  refine sl hK (by decide) rfl rfl (r_move hK rfl) fun a hK => ?_
  rcases or_b y_2 with hb_50 | hb_50
  · rw [ifb_t hb_50] at H
    refine sl hK (by decide) (wtt hb_50) rfl (r_move hK rfl) fun a hK => ?_
    refine sl hK (by decide) (wtt hb_50) rfl (r_conv_bo Try.underlying22 Try.underlying9 Try.underlying5 (hq_20.mono (hl_24.le.trans (hl_31.le.trans (hl_35.le.trans hl_44.le)))) rfl hS (.tail _ (.tail _ (.tail _ (.tail _ (.tail _ (.head _)))))) hK rfl) fun a hK => ?_
    refine sl hK (by decide) (wtt hb_50) rfl (r_move hK rfl) fun a hK => ?_
    refine sl hK (by decide) (wtt hb_50) rfl (r_conv_bo Try.underlying22 Try.underlying9 Try.underlying5 (hq_28.mono (hl_31.le.trans (hl_35.le.trans hl_44.le))) rfl hS (.tail _ (.tail _ (.tail _ (.tail _ (.head _))))) hK rfl) fun a hK => ?_
    refine sl hK (by decide) (wtt hb_50) rfl (r_sbin hK rfl rfl rfl) fun a hK => ?_
    refine sl hK (by decide) rfl rfl (r_pick_t hb_50 hK rfl rfl) fun a hK => ?_
    refine sl hK (by decide) rfl rfl (r_move hK rfl) fun a hK => ?_
    rcases or_b ((bstr y_13.1).toList == (bstr y_21.1).toList) with hb_51 | hb_51
    · rw [ifb_t hb_51] at H
      refine sl hK (by decide) (wtt hb_51) rfl (r_move hK rfl) fun a hK => ?_
      refine sl hK (by decide) (wtt hb_51) rfl (r_move hK rfl) fun a hK => ?_
      refine sl hK (by decide) (wtt hb_51) rfl (r_ibin hK rfl rfl rfl) fun a hK => ?_
      refine sl hK (by decide) rfl rfl (r_pick_t hb_51 hK rfl rfl) fun a hK => ?_
      refine sl hK (by decide) rfl rfl (r_move hK rfl) fun a hK => ?_
      rcases or_b (y_13.2 == y_21.2) with hb_52 | hb_52
      · rw [ifb_t hb_52] at H
        refine sl hK (by decide) (wtt hb_52) rfl (r_loadA (cs := [.int .i64 y_32.1.Kind, .int .i64 y_32.1.N, .string y_32.1.S, .int .i64 y_32.1.H.a0, .int .i64 y_32.1.H.a1, .int .i64 y_32.1.H.a2, .int .i64 y_32.1.H.a3, .int .i64 y_32.1.H.a4, .int .i64 y_32.1.H.a5, .int .i64 y_32.1.H.a6, .int .i64 y_32.1.H.a7]) Try.isAgg25 Try.sizeOf25 rfl hK rfl (hS.cells_of (m := 11) (.tail _ (.tail _ (.head _))) rfl)) fun a hK => ?_
        refine sl hK (by decide) (wtt hb_52) rfl (r_loadA (cs := [.int .i64 y_41.1.Kind, .int .i64 y_41.1.N, .string y_41.1.S, .int .i64 y_41.1.H.a0, .int .i64 y_41.1.H.a1, .int .i64 y_41.1.H.a2, .int .i64 y_41.1.H.a3, .int .i64 y_41.1.H.a4, .int .i64 y_41.1.H.a5, .int .i64 y_41.1.H.a6, .int .i64 y_41.1.H.a7]) Try.isAgg25 Try.sizeOf25 rfl hK rfl (hS.cells_of (m := 11) (.head _) rfl)) fun a hK => ?_
        refine sl hK (by decide) (wtt hb_52) rfl (r_seq (by kernel_rfl) (eqs25 y_32.1 y_41.1) hK rfl rfl) fun a hK => ?_
        refine sl hK (by decide) rfl rfl (r_pick_t hb_52 hK rfl rfl) fun a hK => ?_
        refine sl hK (by decide) rfl rfl (r_move hK rfl) fun a hK => ?_
        rcases or_b (decide (y_32.1 = y_41.1)) with hb_53 | hb_53
        · rw [ifb_t hb_53] at H
          refine sl hK (by decide) (wtt hb_53) rfl (r_move hK rfl) fun a hK => ?_
          refine sl hK (by decide) (wtt hb_53) rfl (r_conv_bo Try.underlying22 Try.underlying9 Try.underlying5 (hq_39.mono hl_44.le) rfl hS (.tail _ (.tail _ (.tail _ (.head _)))) hK rfl) fun a hK => ?_
          refine sl hK (by decide) (wtt hb_53) rfl (r_move hK rfl) fun a hK => ?_
          refine sl hK (by decide) (wtt hb_53) rfl (r_conv_bo Try.underlying22 Try.underlying9 Try.underlying5 hq_48 rfl hS (.tail _ (.head _)) hK rfl) fun a hK => ?_
          refine sl hK (by decide) (wtt hb_53) rfl (r_sbin hK rfl rfl rfl) fun a hK => ?_
          refine sl hK (by decide) rfl rfl (r_pick_t hb_53 hK rfl rfl) fun a hK => ?_
          refine sl hK (by decide) rfl rfl (r_move hK rfl) fun a hK => ?_
          rcases or_b ((bstr y_32.2.1).toList == (bstr y_41.2.1).toList) with hb_54 | hb_54
          · rw [ifb_t hb_54] at H
            refine sl hK (by decide) (wtt hb_54) rfl (r_move hK rfl) fun a hK => ?_
            refine sl hK (by decide) (wtt hb_54) rfl (r_move hK rfl) fun a hK => ?_
            refine sl hK (by decide) (wtt hb_54) rfl (r_ibin hK rfl rfl rfl) fun a hK => ?_
            refine sl hK (by decide) rfl rfl (r_pick_t hb_54 hK rfl rfl) fun a hK => ?_
            refine sl hK (by decide) rfl rfl (r_move hK rfl) fun a hK => ?_
            rcases or_b (y_32.2.2 == y_41.2.2) with hb_55 | hb_55
            · rw [ifb_t hb_55] at H
              refine sl hK (by decide) (wtt hb_55) rfl (r_move hK rfl) fun a hK => ?_
              refine sl hK (by decide) (wtt hb_55) rfl (r_conv_bs Try.underlying22 Try.underlying9 Try.underlying5 hs_30 hK rfl (hS.sub.le (hl_35.le.trans hl_44.le))) fun a hK => ?_
              refine sl hK (by decide) (wtt hb_55) rfl (r_move hK rfl) fun a hK => ?_
              refine sl hK (by decide) (wtt hb_55) rfl (r_conv_bs Try.underlying22 Try.underlying9 Try.underlying5 h0_0 hK rfl (hS.ra hRA nil_not)) fun a hK => ?_
              refine sl hK (by decide) (wtt hb_55) rfl (r_sbin hK rfl rfl rfl) fun a hK => ?_
              refine sl hK (by decide) rfl rfl (r_pick_t hb_55 hK rfl rfl) fun a hK => ?_
              refine sl hK (by decide) rfl rfl (r_assign hK rfl) fun a hK => ?_
              refine wpList_nil ?_
              have hr_ := Option.some.inj H
              refine wp_ret ?_
              repeat (first | refine ret_then ?_ | refine ret_block ?_ | refine ret_scope ?_)
              exact ret_1 Try.results3 hK (rv_tmp hK rfl) ⟨congrArg (fun b => Ending.returned (Value.bool b)) hr_, hS.bel⟩
            · rw [ifb_f hb_55] at H
              refine sl_skip hK (by decide) (wtf hb_55) rfl fun a hK => ?_
              refine sl_skip hK (by decide) (wtf hb_55) rfl fun a hK => ?_
              refine sl_skip hK (by decide) (wtf hb_55) rfl fun a hK => ?_
              refine sl_skip hK (by decide) (wtf hb_55) rfl fun a hK => ?_
              refine sl_skip hK (by decide) (wtf hb_55) rfl fun a hK => ?_
              refine sl hK (by decide) rfl rfl (r_pick_f hb_55 hK rfl rfl) fun a hK => ?_
              refine sl hK (by decide) rfl rfl (r_assign hK rfl) fun a hK => ?_
              refine wpList_nil ?_
              exact absurd (Option.some.inj H) (by decide)
          · rw [ifb_f hb_54] at H
            refine sl_skip hK (by decide) (wtf hb_54) rfl fun a hK => ?_
            refine sl_skip hK (by decide) (wtf hb_54) rfl fun a hK => ?_
            refine sl_skip hK (by decide) (wtf hb_54) rfl fun a hK => ?_
            refine sl hK (by decide) rfl rfl (r_pick_f hb_54 hK rfl rfl) fun a hK => ?_
            refine sl hK (by decide) rfl rfl (r_move hK rfl) fun a hK => ?_
            refine sl_skip hK (by decide) rfl rfl fun a hK => ?_
            refine sl_skip hK (by decide) rfl rfl fun a hK => ?_
            refine sl_skip hK (by decide) rfl rfl fun a hK => ?_
            refine sl_skip hK (by decide) rfl rfl fun a hK => ?_
            refine sl_skip hK (by decide) rfl rfl fun a hK => ?_
            refine sl hK (by decide) rfl rfl (r_pick hK rfl rfl rfl) fun a hK => ?_
            refine sl hK (by decide) rfl rfl (r_assign hK rfl) fun a hK => ?_
            refine wpList_nil ?_
            exact absurd (Option.some.inj H) (by decide)
        · rw [ifb_f hb_53] at H
          refine sl_skip hK (by decide) (wtf hb_53) rfl fun a hK => ?_
          refine sl_skip hK (by decide) (wtf hb_53) rfl fun a hK => ?_
          refine sl_skip hK (by decide) (wtf hb_53) rfl fun a hK => ?_
          refine sl_skip hK (by decide) (wtf hb_53) rfl fun a hK => ?_
          refine sl_skip hK (by decide) (wtf hb_53) rfl fun a hK => ?_
          refine sl hK (by decide) rfl rfl (r_pick_f hb_53 hK rfl rfl) fun a hK => ?_
          refine sl hK (by decide) rfl rfl (r_move hK rfl) fun a hK => ?_
          refine sl_skip hK (by decide) rfl rfl fun a hK => ?_
          refine sl_skip hK (by decide) rfl rfl fun a hK => ?_
          refine sl_skip hK (by decide) rfl rfl fun a hK => ?_
          refine sl hK (by decide) rfl rfl (r_pick hK rfl rfl rfl) fun a hK => ?_
          refine sl hK (by decide) rfl rfl (r_move hK rfl) fun a hK => ?_
          refine sl_skip hK (by decide) rfl rfl fun a hK => ?_
          refine sl_skip hK (by decide) rfl rfl fun a hK => ?_
          refine sl_skip hK (by decide) rfl rfl fun a hK => ?_
          refine sl_skip hK (by decide) rfl rfl fun a hK => ?_
          refine sl_skip hK (by decide) rfl rfl fun a hK => ?_
          refine sl hK (by decide) rfl rfl (r_pick hK rfl rfl rfl) fun a hK => ?_
          refine sl hK (by decide) rfl rfl (r_assign hK rfl) fun a hK => ?_
          refine wpList_nil ?_
          exact absurd (Option.some.inj H) (by decide)
      · rw [ifb_f hb_52] at H
        refine sl_skip hK (by decide) (wtf hb_52) rfl fun a hK => ?_
        refine sl_skip hK (by decide) (wtf hb_52) rfl fun a hK => ?_
        refine sl_skip hK (by decide) (wtf hb_52) rfl fun a hK => ?_
        refine sl hK (by decide) rfl rfl (r_pick_f hb_52 hK rfl rfl) fun a hK => ?_
        refine sl hK (by decide) rfl rfl (r_move hK rfl) fun a hK => ?_
        refine sl_skip hK (by decide) rfl rfl fun a hK => ?_
        refine sl_skip hK (by decide) rfl rfl fun a hK => ?_
        refine sl_skip hK (by decide) rfl rfl fun a hK => ?_
        refine sl_skip hK (by decide) rfl rfl fun a hK => ?_
        refine sl_skip hK (by decide) rfl rfl fun a hK => ?_
        refine sl hK (by decide) rfl rfl (r_pick hK rfl rfl rfl) fun a hK => ?_
        refine sl hK (by decide) rfl rfl (r_move hK rfl) fun a hK => ?_
        refine sl_skip hK (by decide) rfl rfl fun a hK => ?_
        refine sl_skip hK (by decide) rfl rfl fun a hK => ?_
        refine sl_skip hK (by decide) rfl rfl fun a hK => ?_
        refine sl hK (by decide) rfl rfl (r_pick hK rfl rfl rfl) fun a hK => ?_
        refine sl hK (by decide) rfl rfl (r_move hK rfl) fun a hK => ?_
        refine sl_skip hK (by decide) rfl rfl fun a hK => ?_
        refine sl_skip hK (by decide) rfl rfl fun a hK => ?_
        refine sl_skip hK (by decide) rfl rfl fun a hK => ?_
        refine sl_skip hK (by decide) rfl rfl fun a hK => ?_
        refine sl_skip hK (by decide) rfl rfl fun a hK => ?_
        refine sl hK (by decide) rfl rfl (r_pick hK rfl rfl rfl) fun a hK => ?_
        refine sl hK (by decide) rfl rfl (r_assign hK rfl) fun a hK => ?_
        refine wpList_nil ?_
        exact absurd (Option.some.inj H) (by decide)
    · rw [ifb_f hb_51] at H
      refine sl_skip hK (by decide) (wtf hb_51) rfl fun a hK => ?_
      refine sl_skip hK (by decide) (wtf hb_51) rfl fun a hK => ?_
      refine sl_skip hK (by decide) (wtf hb_51) rfl fun a hK => ?_
      refine sl hK (by decide) rfl rfl (r_pick_f hb_51 hK rfl rfl) fun a hK => ?_
      refine sl hK (by decide) rfl rfl (r_move hK rfl) fun a hK => ?_
      refine sl_skip hK (by decide) rfl rfl fun a hK => ?_
      refine sl_skip hK (by decide) rfl rfl fun a hK => ?_
      refine sl_skip hK (by decide) rfl rfl fun a hK => ?_
      refine sl hK (by decide) rfl rfl (r_pick hK rfl rfl rfl) fun a hK => ?_
      refine sl hK (by decide) rfl rfl (r_move hK rfl) fun a hK => ?_
      refine sl_skip hK (by decide) rfl rfl fun a hK => ?_
      refine sl_skip hK (by decide) rfl rfl fun a hK => ?_
      refine sl_skip hK (by decide) rfl rfl fun a hK => ?_
      refine sl_skip hK (by decide) rfl rfl fun a hK => ?_
      refine sl_skip hK (by decide) rfl rfl fun a hK => ?_
      refine sl hK (by decide) rfl rfl (r_pick hK rfl rfl rfl) fun a hK => ?_
      refine sl hK (by decide) rfl rfl (r_move hK rfl) fun a hK => ?_
      refine sl_skip hK (by decide) rfl rfl fun a hK => ?_
      refine sl_skip hK (by decide) rfl rfl fun a hK => ?_
      refine sl_skip hK (by decide) rfl rfl fun a hK => ?_
      refine sl hK (by decide) rfl rfl (r_pick hK rfl rfl rfl) fun a hK => ?_
      refine sl hK (by decide) rfl rfl (r_move hK rfl) fun a hK => ?_
      refine sl_skip hK (by decide) rfl rfl fun a hK => ?_
      refine sl_skip hK (by decide) rfl rfl fun a hK => ?_
      refine sl_skip hK (by decide) rfl rfl fun a hK => ?_
      refine sl_skip hK (by decide) rfl rfl fun a hK => ?_
      refine sl_skip hK (by decide) rfl rfl fun a hK => ?_
      refine sl hK (by decide) rfl rfl (r_pick hK rfl rfl rfl) fun a hK => ?_
      refine sl hK (by decide) rfl rfl (r_assign hK rfl) fun a hK => ?_
      refine wpList_nil ?_
      exact absurd (Option.some.inj H) (by decide)
  · rw [ifb_f hb_50] at H
    refine sl_skip hK (by decide) (wtf hb_50) rfl fun a hK => ?_
    refine sl_skip hK (by decide) (wtf hb_50) rfl fun a hK => ?_
    refine sl_skip hK (by decide) (wtf hb_50) rfl fun a hK => ?_
    refine sl_skip hK (by decide) (wtf hb_50) rfl fun a hK => ?_
    refine sl_skip hK (by decide) (wtf hb_50) rfl fun a hK => ?_
    refine sl hK (by decide) rfl rfl (r_pick_f hb_50 hK rfl rfl) fun a hK => ?_
    refine sl hK (by decide) rfl rfl (r_move hK rfl) fun a hK => ?_
    refine sl_skip hK (by decide) rfl rfl fun a hK => ?_
    refine sl_skip hK (by decide) rfl rfl fun a hK => ?_
    refine sl_skip hK (by decide) rfl rfl fun a hK => ?_
    refine sl hK (by decide) rfl rfl (r_pick hK rfl rfl rfl) fun a hK => ?_
    refine sl hK (by decide) rfl rfl (r_move hK rfl) fun a hK => ?_
    refine sl_skip hK (by decide) rfl rfl fun a hK => ?_
    refine sl_skip hK (by decide) rfl rfl fun a hK => ?_
    refine sl_skip hK (by decide) rfl rfl fun a hK => ?_
    refine sl hK (by decide) rfl rfl (r_pick hK rfl rfl rfl) fun a hK => ?_
    refine sl hK (by decide) rfl rfl (r_move hK rfl) fun a hK => ?_
    refine sl_skip hK (by decide) rfl rfl fun a hK => ?_
    refine sl_skip hK (by decide) rfl rfl fun a hK => ?_
    refine sl_skip hK (by decide) rfl rfl fun a hK => ?_
    refine sl_skip hK (by decide) rfl rfl fun a hK => ?_
    refine sl_skip hK (by decide) rfl rfl fun a hK => ?_
    refine sl hK (by decide) rfl rfl (r_pick hK rfl rfl rfl) fun a hK => ?_
    refine sl hK (by decide) rfl rfl (r_move hK rfl) fun a hK => ?_
    refine sl_skip hK (by decide) rfl rfl fun a hK => ?_
    refine sl_skip hK (by decide) rfl rfl fun a hK => ?_
    refine sl_skip hK (by decide) rfl rfl fun a hK => ?_
    refine sl hK (by decide) rfl rfl (r_pick hK rfl rfl rfl) fun a hK => ?_
    refine sl hK (by decide) rfl rfl (r_move hK rfl) fun a hK => ?_
    refine sl_skip hK (by decide) rfl rfl fun a hK => ?_
    refine sl_skip hK (by decide) rfl rfl fun a hK => ?_
    refine sl_skip hK (by decide) rfl rfl fun a hK => ?_
    refine sl_skip hK (by decide) rfl rfl fun a hK => ?_
    refine sl_skip hK (by decide) rfl rfl fun a hK => ?_
    refine sl hK (by decide) rfl rfl (r_pick hK rfl rfl rfl) fun a hK => ?_
    refine sl hK (by decide) rfl rfl (r_assign hK rfl) fun a hK => ?_
    refine wpList_nil ?_
    exact absurd (Option.some.inj H) (by decide)

end Go.Proofs.Ytifijboegibchaa.M
