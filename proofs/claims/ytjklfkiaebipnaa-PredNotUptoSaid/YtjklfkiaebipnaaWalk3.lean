/- Each Go function of the laws answers as its plain Lean function tells, wherever that tells something. Printed by wip/eng/gen.py. -/
import Derived.Test.YtjklfkiaebipnaaWalk2
namespace Go.Proofs.Ytjklfkiaebipnaa.M
open Go Go.Eng Go.Proofs Go.RowKit
set_option linter.unusedVariables false
set_option linter.unusedSimpArgs false

/-! ### catchment/catchmentref15.Holds: function 13 -/
set_option maxHeartbeats 4000000 in
set_option maxRecDepth 100000 in
theorem ref15_Holds.calls (a0 : api_Query) (a1 : Int) (a2 : List api_Col) (a3 : List api_Value) {w0 : World} {RA : Hp} {v0_0 : Value} {v2_0 : Value} {v3_0 : Value} (hRA : RA.sub w0) (h0_0 : SlR ty_api_Node RA v0_0 a0.N) (h2_0 : SlR ty_api_Col RA v2_0 a2) (h3_0 : SlR ty_api_Value RA v3_0 a3) {r : Bool} (H : ref15_Holds a0 a1 a2 a3 = some r) : CallsV Try.prog 13 #[.agg #[v0_0], .int .i64 a1, v2_0, v3_0] w0 (.bool r) := by
  unfold ref15_Holds at H
  refine enter (args := [.agg #[v0_0], .int .i64 a1, v2_0, v3_0]) Try.func13 rfl Try.ntmps13 rfl fun a hK => ?_
  have hS := St.init (R := fun _ => none) (w := w0) (fun _ _ h => by cases h)
  have hRL := RLe.refl (M := []) w0 (fun _ => none)
  refine wp_seq ?_
  refine wp_region_lit ?_
  refine sl_box hS hK (by decide) rfl rfl (c := [v0_0]) rfl fun a w b_1 hS hK => ?_
  refine sl hK (by decide) rfl rfl (r_assign hK rfl) fun a hK => ?_
  refine wpList_nil ?_
  refine wp_seq ?_
  refine wp_seq ?_
  refine wp_mid (fun a w => ∃ (x_3 : Bool), ref15_Holds.j0 a0 a1 a2 a3 x_3 = some r ∧ Kn 196 a [(1, .int .i64 a1), (2, v2_0), (3, v3_0), (4, .pointer (some ⟨b_1, 0, none⟩)), (25, .bool x_3)] ∧ St [] w0 w (fun _ => none) [.cells b_1 [v0_0] 24]) ?_ ?_
  · refine wp_region_lit ?_
    refine sl hK (by decide) rfl rfl (r_move hK rfl) fun a hK => ?_
    refine sl hK (by decide) rfl rfl (r_ibin hK rfl rfl rfl) fun a hK => ?_
    refine sl hK (by decide) rfl rfl (r_move hK rfl) fun a hK => ?_
    rcases or_b (decide (a1 < 0)) with hb_5 | hb_5
    · rw [ifb_t hb_5] at H
      refine sl_skip hK (by decide) (wft hb_5) rfl fun a hK => ?_
      refine sl_skip hK (by decide) (wft hb_5) rfl fun a hK => ?_
      refine sl_skip hK (by decide) (wft hb_5) rfl fun a hK => ?_
      refine sl_skip hK (by decide) (wft hb_5) rfl fun a hK => ?_
      refine sl_skip hK (by decide) (wft hb_5) rfl fun a hK => ?_
      refine sl hK (by decide) rfl rfl (r_pick_t hb_5 hK rfl rfl) fun a hK => ?_
      refine wpList_nil ?_
      exact ⟨true, H, hK.sub (all_cons rfl (all_cons rfl (all_cons rfl (all_cons rfl (all_cons rfl (all_nil)))))), hS⟩
    · rw [ifb_f hb_5] at H
      refine sl hK (by decide) (wff hb_5) rfl (r_move hK rfl) fun a hK => ?_
      refine sl hK (by decide) (wff hb_5) rfl (r_fieldAddr Try.underlying24 rfl Try.sizeOf22 hK rfl) fun a hK => ?_
      refine sl hK (by decide) (wff hb_5) rfl (r_load Try.isAgg22 hK rfl (hS.cell (.head _) rfl)) fun a hK => ?_
      refine sl hK (by decide) (wff hb_5) rfl (r_len_R Try.underlying22 h0_0 hK rfl) fun a hK => ?_
      refine sl hK (by decide) (wff hb_5) rfl (r_ibin hK rfl rfl rfl) fun a hK => ?_
      refine sl hK (by decide) rfl rfl (r_pick_f hb_5 hK rfl rfl) fun a hK => ?_
      refine wpList_nil ?_
      exact ⟨(decide (a1 ≥ (a0.N.length : Int))), H, hK.sub (all_cons rfl (all_cons rfl (all_cons rfl (all_cons rfl (all_cons rfl (all_nil)))))), hS⟩
  · rintro a w ⟨x_3, H, hK, hS⟩
    unfold ref15_Holds.j0 at H
    refine wp_cond_split (hK.ev rfl) (fun (hb_6 : x_3 = true) => ?_) (fun (hb_6 : x_3 = false) => ?_)
    · rw [ifb_t hb_6] at H
      refine wp_seq ?_
      refine wp_region_lit ?_
      refine sl hK (by decide) rfl rfl (r_assign hK rfl) fun a hK => ?_
      refine wpList_nil ?_
      obtain rfl := Option.some.inj H
      refine wp_ret ?_
      repeat (first | refine ret_then ?_ | refine ret_block ?_ | refine ret_scope ?_)
      exact ret_1 Try.results13 hK (rv_tmp hK rfl) ⟨rfl, hS.bel⟩
    · rw [ifb_f hb_6] at H
      refine wp_skip ?_
      refine wp_seq ?_
      refine wp_region_lit ?_
      refine sl hK (by decide) rfl rfl (r_move hK rfl) fun a hK => ?_
      refine sl hK (by decide) rfl rfl (r_ibin hK rfl rfl rfl) fun a hK => ?_
      obtain ⟨y_7, h_8, H⟩ := bind_some H
      refine sl_make (ty := tyBool) (c0 := .bool false) (z := false) elT59 (by decide) rfl Try.zeroValue4 rfl rfl h_8 hS hK (by decide) rfl rfl rfl fun a w v_9 cs_10 hq_11 hS hK => ?_
      refine sl hK (by decide) rfl rfl (r_assign hK rfl) fun a hK => ?_
      refine wpList_nil ?_
      refine wp_seq ?_
      refine wp_seq ?_
      refine wp_region_lit ?_
      refine sl hK (by decide) rfl rfl (r_assign hK rfl) fun a hK => ?_
      refine wpList_nil ?_
      refine wp_block ?_
      refine wp_loop_k (fun k_l1 a w => ∃ (x_10130 : List Bool) (x_10134 : Int) (v_10131 : Value) (cs_10132 : List Value), ref15_Holds.l1 a0 a1 a2 a3 k_l1 x_10130 x_10134 = some r ∧ Reps tyBool (fun _ => none) cs_10132 x_10130 ∧ Kn 196 a [(1, .int .i64 a1), (2, v2_0), (3, v3_0), (4, .pointer (some ⟨b_1, 0, none⟩)), (9, v_10131), (10, .int .i64 x_10134)] ∧ St [] w0 w (fun _ => none) [.cells b_1 [v0_0] 24, .row 4 1 v_10131 x_10130.length cs_10132]) ((a1 - 0).toNat + 2) ?_ ?_
      · have hS := hS.pk1
        exact ⟨y_7, 0, _, _, H, hq_11, hK.sub (all_cons rfl (all_cons rfl (all_cons rfl (all_cons rfl (all_cons rfl (all_cons rfl (all_nil))))))), hS⟩
      · rintro k_l1 a w ⟨x_10130, x_10134, v_10131, cs_10132, H, hq_10133, hK, hS⟩
        cases k_l1 with
        | zero => cases H
        | succ k_l1 =>
        rw [ref15_Holds.l1.eq_2] at H
        refine wp_seq ?_
        refine wp_seq ?_
        refine wp_region_lit ?_
        refine sl hK (by decide) rfl rfl (r_move hK rfl) fun a hK => ?_
        refine sl hK (by decide) rfl rfl (r_move hK rfl) fun a hK => ?_
        refine sl hK (by decide) rfl rfl (r_ibin hK rfl rfl rfl) fun a hK => ?_
        refine wpList_nil ?_
        refine wp_cond_split (hK.ev rfl) (fun (hb_20251 : (decide (x_10134 ≤ a1)) = true) => ?_) (fun (hb_20251 : (decide (x_10134 ≤ a1)) = false) => ?_)
        · rw [ifb_t hb_20251] at H
          refine wp_skip ?_
          refine wp_seq ?_
          refine wp_block ?_
          refine wp_seq ?_
          refine wp_region_lit ?_
          refine sl hK (by decide) rfl rfl (r_fieldAddr Try.underlying24 rfl Try.sizeOf22 hK rfl) fun a hK => ?_
          refine sl hK (by decide) rfl rfl (r_load Try.isAgg22 hK rfl (hS.cell (.head _) rfl)) fun a hK => ?_
          refine sl hK (by decide) rfl rfl (r_move hK rfl) fun a hK => ?_
          obtain ⟨y_20252, h_20253, H⟩ := bind_some H
          obtain ⟨b_20254, o_20255, c_20256, cs_20257, hv_20258, hr_20259, hc_20260, h_202530, h_202531⟩ := h0_0.ix h_20253
          obtain ⟨v_20261, v_20263, v_20265, rfl, hs_20262, hs_20264, hs_20266⟩ := hr_20259
          refine sl hK (by decide) rfl rfl (r_indexAddr_R Try.underlying22 Try.sizeOf51 hv_20258 h_202530 h_202531 hK rfl rfl) fun a hK => ?_
          refine sl hK (by decide) rfl rfl (r_loadA (cs := [.int .i64 y_20252.Kind, .string y_20252.S, .int .i64 y_20252.N, .int .i64 y_20252.From, .int .i64 y_20252.To, .int .i64 y_20252.V.Kind, .int .i64 y_20252.V.N, .string y_20252.V.S, .int .i64 y_20252.V.H.a0, .int .i64 y_20252.V.H.a1, .int .i64 y_20252.V.H.a2, .int .i64 y_20252.V.H.a3, .int .i64 y_20252.V.H.a4, .int .i64 y_20252.V.H.a5, .int .i64 y_20252.V.H.a6, .int .i64 y_20252.V.H.a7, v_20261, v_20263, v_20265]) Try.isAgg51 Try.sizeOf51 rfl hK rfl (fun j v hv => (hS.ra hRA nil_not).cell (hc_20260 j v hv))) fun a hK => ?_
          refine sl_alloc Try.zeroValue51 hS hK (by decide) rfl rfl fun a w b_20267 hS hK => ?_
          refine sl_storeA (vs := [.int .i64 y_20252.Kind, .string y_20252.S, .int .i64 y_20252.N, .int .i64 y_20252.From, .int .i64 y_20252.To, .int .i64 y_20252.V.Kind, .int .i64 y_20252.V.N, .string y_20252.V.S, .int .i64 y_20252.V.H.a0, .int .i64 y_20252.V.H.a1, .int .i64 y_20252.V.H.a2, .int .i64 y_20252.V.H.a3, .int .i64 y_20252.V.H.a4, .int .i64 y_20252.V.H.a5, .int .i64 y_20252.V.H.a6, .int .i64 y_20252.V.H.a7, v_20261, v_20263, v_20265]) (c' := [.int .i64 y_20252.Kind, .string y_20252.S, .int .i64 y_20252.N, .int .i64 y_20252.From, .int .i64 y_20252.To, .int .i64 y_20252.V.Kind, .int .i64 y_20252.V.N, .string y_20252.V.S, .int .i64 y_20252.V.H.a0, .int .i64 y_20252.V.H.a1, .int .i64 y_20252.V.H.a2, .int .i64 y_20252.V.H.a3, .int .i64 y_20252.V.H.a4, .int .i64 y_20252.V.H.a5, .int .i64 y_20252.V.H.a6, .int .i64 y_20252.V.H.a7, v_20261, v_20263, v_20265]) Try.sizeOf51 hS hK rfl rfl rfl rfl (all_cons rfl (all_cons rfl (all_cons rfl (all_cons rfl (all_cons rfl (all_cons rfl (all_cons rfl (all_cons rfl (all_cons rfl (all_cons rfl (all_cons rfl (all_cons rfl (all_cons rfl (all_cons rfl (all_cons rfl (all_cons rfl (all_cons hs_20262.one (all_cons hs_20264.one (all_cons hs_20266.one (all_nil)))))))))))))))))))) (Nat.le_of_ble_eq_true rfl) rfl fun a w hS hK => ?_
          refine wpList_nil ?_
          refine wp_seq ?_
          refine wp_region_lit ?_
          refine sl hK (by decide) rfl rfl (r_assign hK rfl) fun a hK => ?_
          refine wpList_nil ?_
          refine wp_seq ?_
          refine wp_seq ?_
          refine wp_region_lit ?_
          refine sl hK (by decide) rfl rfl (r_fieldAddr Try.underlying51 rfl Try.sizeOf3 hK rfl) fun a hK => ?_
          refine sl hK (by decide) rfl rfl (r_load Try.isAgg3 hK rfl (hS.cell (.head _) rfl)) fun a hK => ?_
          refine sl hK (by decide) rfl rfl (r_ibin hK rfl rfl rfl) fun a hK => ?_
          refine wpList_nil ?_
          refine wp_mid (fun a w => ∃ (x_20269 : Int), ref15_Holds.j2 (ref15_Holds.l1 a0 a1 a2 a3 k_l1) a1 a2 a3 x_10130 x_10134 y_20252 x_20269 = some r ∧ Kn 196 a [(1, .int .i64 a1), (2, v2_0), (3, v3_0), (4, .pointer (some ⟨b_1, 0, none⟩)), (9, v_10131), (10, .int .i64 x_10134), (11, .pointer (some ⟨b_20267, 0, none⟩)), (12, .int .i64 x_20269)] ∧ St [] w0 w (fun _ => none) [.cells b_1 [v0_0] 24, .row 4 1 v_10131 x_10130.length cs_10132, .cells b_20267 [.int .i64 y_20252.Kind, .string y_20252.S, .int .i64 y_20252.N, .int .i64 y_20252.From, .int .i64 y_20252.To, .int .i64 y_20252.V.Kind, .int .i64 y_20252.V.N, .string y_20252.V.S, .int .i64 y_20252.V.H.a0, .int .i64 y_20252.V.H.a1, .int .i64 y_20252.V.H.a2, .int .i64 y_20252.V.H.a3, .int .i64 y_20252.V.H.a4, .int .i64 y_20252.V.H.a5, .int .i64 y_20252.V.H.a6, .int .i64 y_20252.V.H.a7, v_20261, v_20263, v_20265] 51]) ?_ ?_
          · refine wp_cond_split (hK.ev rfl) (fun (hb_20271 : (y_20252.Kind == 13) = true) => ?_) (fun (hb_20271 : (y_20252.Kind == 13) = false) => ?_)
            · rw [ifb_t hb_20271] at H
              refine wp_region_lit ?_
              refine sl hK (by decide) rfl rfl (r_assign hK rfl) fun a hK => ?_
              refine wpList_nil ?_
              have hS := hS.pk2
              have hS := hS.pk2
              exact ⟨1, H, hK.sub (all_cons rfl (all_cons rfl (all_cons rfl (all_cons rfl (all_cons rfl (all_cons rfl (all_cons rfl (all_cons rfl (all_nil))))))))), hS⟩
            · rw [ifb_f hb_20271] at H
              refine wp_skip ?_
              have hS := hS.pk2
              have hS := hS.pk2
              exact ⟨2, H, hK.sub (all_cons rfl (all_cons rfl (all_cons rfl (all_cons rfl (all_cons rfl (all_cons rfl (all_cons rfl (all_cons rfl (all_nil))))))))), hS⟩
          · rintro a w ⟨x_20269, H, hK, hS⟩
            unfold ref15_Holds.j2 at H
            refine wp_seq ?_
            refine wp_region_lit ?_
            refine sl hK (by decide) rfl rfl (r_fieldAddr Try.underlying51 rfl Try.sizeOf47 hK rfl) fun a hK => ?_
            refine sl hK (by decide) rfl rfl (r_load Try.isAgg47 hK rfl (hS.cell (.tail _ (.tail _ (.head _))) rfl)) fun a hK => ?_
            refine sl hK (by decide) rfl rfl (r_len_R Try.underlying47 hs_20262 hK rfl) fun a hK => ?_
            refine sl hK (by decide) rfl rfl (r_move hK rfl) fun a hK => ?_
            refine sl hK (by decide) rfl rfl (r_ibin hK rfl rfl rfl) fun a hK => ?_
            refine sl hK (by decide) rfl rfl (r_assign hK rfl) fun a hK => ?_
            refine wpList_nil ?_
            refine wp_seq ?_
            refine wp_seq ?_
            refine wp_region_lit ?_
            refine sl hK (by decide) rfl rfl (r_assign hK rfl) fun a hK => ?_
            refine wpList_nil ?_
            refine wp_block ?_
            refine wp_loop_k (fun k_l3 a w => ∃ (x_20318 : Bool) (x_20319 : Int), ref15_Holds.l3 (ref15_Holds.l1 a0 a1 a2 a3 k_l1) a1 a2 a3 x_10130 x_10134 y_20252 k_l3 x_20318 x_20319 = some r ∧ Kn 196 a [(1, .int .i64 a1), (2, v2_0), (3, v3_0), (4, .pointer (some ⟨b_1, 0, none⟩)), (9, v_10131), (10, .int .i64 x_10134), (11, .pointer (some ⟨b_20267, 0, none⟩)), (13, .bool x_20318), (14, .int .i64 x_20319)] ∧ St [] w0 w (fun _ => none) [.cells b_1 [v0_0] 24, .row 4 1 v_10131 x_10130.length cs_10132, .cells b_20267 [.int .i64 y_20252.Kind, .string y_20252.S, .int .i64 y_20252.N, .int .i64 y_20252.From, .int .i64 y_20252.To, .int .i64 y_20252.V.Kind, .int .i64 y_20252.V.N, .string y_20252.V.S, .int .i64 y_20252.V.H.a0, .int .i64 y_20252.V.H.a1, .int .i64 y_20252.V.H.a2, .int .i64 y_20252.V.H.a3, .int .i64 y_20252.V.H.a4, .int .i64 y_20252.V.H.a5, .int .i64 y_20252.V.H.a6, .int .i64 y_20252.V.H.a7, v_20261, v_20263, v_20265] 51]) (((y_20252.L.length : Int) - 0).toNat + 1) ?_ ?_
            · have hS := hS.pk2
              have hS := hS.pk2
              have hS := hS.pk2
              exact ⟨((y_20252.L.length : Int) == x_20269), 0, H, hK.sub (all_cons rfl (all_cons rfl (all_cons rfl (all_cons rfl (all_cons rfl (all_cons rfl (all_cons rfl (all_cons rfl (all_cons rfl (all_nil)))))))))), hS⟩
            · rintro k_l3 a w ⟨x_20318, x_20319, H, hK, hS⟩
              cases k_l3 with
              | zero => cases H
              | succ k_l3 =>
              rw [ref15_Holds.l3.eq_2] at H
              refine wp_seq ?_
              refine wp_seq ?_
              refine wp_mid (fun a w => ∃ (x_20368 : Bool), ref15_Holds.j4 (ref15_Holds.l1 a0 a1 a2 a3 k_l1) (ref15_Holds.l3 (ref15_Holds.l1 a0 a1 a2 a3 k_l1) a1 a2 a3 x_10130 x_10134 y_20252 k_l3) a1 a2 a3 x_10130 x_10134 y_20252 x_20318 x_20319 x_20368 = some r ∧ Kn 196 a [(1, .int .i64 a1), (2, v2_0), (3, v3_0), (4, .pointer (some ⟨b_1, 0, none⟩)), (9, v_10131), (10, .int .i64 x_10134), (11, .pointer (some ⟨b_20267, 0, none⟩)), (13, .bool x_20318), (14, .int .i64 x_20319), (54, .bool x_20368)] ∧ St [] w0 w (fun _ => none) [.cells b_1 [v0_0] 24, .row 4 1 v_10131 x_10130.length cs_10132, .cells b_20267 [.int .i64 y_20252.Kind, .string y_20252.S, .int .i64 y_20252.N, .int .i64 y_20252.From, .int .i64 y_20252.To, .int .i64 y_20252.V.Kind, .int .i64 y_20252.V.N, .string y_20252.V.S, .int .i64 y_20252.V.H.a0, .int .i64 y_20252.V.H.a1, .int .i64 y_20252.V.H.a2, .int .i64 y_20252.V.H.a3, .int .i64 y_20252.V.H.a4, .int .i64 y_20252.V.H.a5, .int .i64 y_20252.V.H.a6, .int .i64 y_20252.V.H.a7, v_20261, v_20263, v_20265] 51]) ?_ ?_
              · refine wp_region_lit ?_
                refine sl hK (by decide) rfl rfl (r_move hK rfl) fun a hK => ?_
                refine sl hK (by decide) rfl rfl (r_fieldAddr Try.underlying51 rfl Try.sizeOf47 hK rfl) fun a hK => ?_
                refine sl hK (by decide) rfl rfl (r_load Try.isAgg47 hK rfl (hS.cell (.tail _ (.tail _ (.head _))) rfl)) fun a hK => ?_
                refine sl hK (by decide) rfl rfl (r_len_R Try.underlying47 hs_20262 hK rfl) fun a hK => ?_
                refine sl hK (by decide) rfl rfl (r_ibin hK rfl rfl rfl) fun a hK => ?_
                refine sl hK (by decide) rfl rfl (r_move hK rfl) fun a hK => ?_
                rcases or_b (decide (x_20319 < (y_20252.L.length : Int))) with hb_20370 | hb_20370
                · rw [ifb_t hb_20370] at H
                  refine sl hK (by decide) (wtt hb_20370) rfl (r_move hK rfl) fun a hK => ?_
                  refine sl hK (by decide) rfl rfl (r_pick_t hb_20370 hK rfl rfl) fun a hK => ?_
                  refine wpList_nil ?_
                  have hS := hS.pk2
                  have hS := hS.pk2
                  have hS := hS.pk2
                  exact ⟨x_20318, H, hK.sub (all_cons rfl (all_cons rfl (all_cons rfl (all_cons rfl (all_cons rfl (all_cons rfl (all_cons rfl (all_cons rfl (all_cons rfl (all_cons rfl (all_nil))))))))))), hS⟩
                · rw [ifb_f hb_20370] at H
                  refine sl_skip hK (by decide) (wtf hb_20370) rfl fun a hK => ?_
                  refine sl hK (by decide) rfl rfl (r_pick_f hb_20370 hK rfl rfl) fun a hK => ?_
                  refine wpList_nil ?_
                  have hS := hS.pk2
                  have hS := hS.pk2
                  have hS := hS.pk2
                  exact ⟨false, H, hK.sub (all_cons rfl (all_cons rfl (all_cons rfl (all_cons rfl (all_cons rfl (all_cons rfl (all_cons rfl (all_cons rfl (all_cons rfl (all_cons rfl (all_nil))))))))))), hS⟩
              · rintro a w ⟨x_20368, H, hK, hS⟩
                unfold ref15_Holds.j4 at H
                refine wp_cond_split (hK.ev rfl) (fun (hb_20371 : x_20368 = true) => ?_) (fun (hb_20371 : x_20368 = false) => ?_)
                · rw [ifb_t hb_20371] at H
                  refine wp_skip ?_
                  refine wp_seq ?_
                  refine wp_block ?_
                  refine wp_mid (fun a w => ∃ (x_20391 : Bool), ref15_Holds.j5 (ref15_Holds.l3 (ref15_Holds.l1 a0 a1 a2 a3 k_l1) a1 a2 a3 x_10130 x_10134 y_20252 k_l3) y_20252 x_20319 x_20391 = some r ∧ Kn 196 a [(1, .int .i64 a1), (2, v2_0), (3, v3_0), (4, .pointer (some ⟨b_1, 0, none⟩)), (9, v_10131), (10, .int .i64 x_10134), (11, .pointer (some ⟨b_20267, 0, none⟩)), (13, .bool x_20391), (14, .int .i64 x_20319)] ∧ St [] w0 w (fun _ => none) [.cells b_1 [v0_0] 24, .row 4 1 v_10131 x_10130.length cs_10132, .cells b_20267 [.int .i64 y_20252.Kind, .string y_20252.S, .int .i64 y_20252.N, .int .i64 y_20252.From, .int .i64 y_20252.To, .int .i64 y_20252.V.Kind, .int .i64 y_20252.V.N, .string y_20252.V.S, .int .i64 y_20252.V.H.a0, .int .i64 y_20252.V.H.a1, .int .i64 y_20252.V.H.a2, .int .i64 y_20252.V.H.a3, .int .i64 y_20252.V.H.a4, .int .i64 y_20252.V.H.a5, .int .i64 y_20252.V.H.a6, .int .i64 y_20252.V.H.a7, v_20261, v_20263, v_20265] 51]) ?_ ?_
                  · refine wp_region_lit ?_
                    refine sl hK (by decide) rfl rfl (r_fieldAddr Try.underlying51 rfl Try.sizeOf47 hK rfl) fun a hK => ?_
                    refine sl hK (by decide) rfl rfl (r_load Try.isAgg47 hK rfl (hS.cell (.tail _ (.tail _ (.head _))) rfl)) fun a hK => ?_
                    refine sl hK (by decide) rfl rfl (r_move hK rfl) fun a hK => ?_
                    obtain ⟨y_20393, h_20394, H⟩ := bind_some H
                    obtain ⟨b_20395, o_20396, c_20397, cs_20398, hv_20399, hr_20400, hc_20401, h_203940, h_203941⟩ := hs_20262.ix h_20394
                    subst hr_20400
                    refine sl hK (by decide) rfl rfl (r_indexAddr_R Try.underlying47 Try.sizeOf3 hv_20399 h_203940 h_203941 hK rfl rfl) fun a hK => ?_
                    refine sl hK (by decide) rfl rfl (r_load Try.isAgg3 hK rfl ((hS.ra hRA nil_not).cell (hc_20401 0 _ rfl))) fun a hK => ?_
                    refine sl hK (by decide) rfl rfl (r_ibin hK rfl rfl rfl) fun a hK => ?_
                    refine sl hK (by decide) rfl rfl (r_move hK rfl) fun a hK => ?_
                    rcases or_b (decide (y_20393 ≥ 0)) with hb_20402 | hb_20402
                    · rw [ifb_t hb_20402] at H
                      refine sl hK (by decide) (wtt hb_20402) rfl (r_fieldAddr Try.underlying51 rfl Try.sizeOf47 hK rfl) fun a hK => ?_
                      refine sl hK (by decide) (wtt hb_20402) rfl (r_load Try.isAgg47 hK rfl (hS.cell (.tail _ (.tail _ (.head _))) rfl)) fun a hK => ?_
                      refine sl hK (by decide) (wtt hb_20402) rfl (r_move hK rfl) fun a hK => ?_
                      obtain ⟨y_20403, h_20404, H⟩ := bind_some H
                      obtain ⟨b_20405, o_20406, c_20407, cs_20408, hv_20409, hr_20410, hc_20411, h_204040, h_204041⟩ := hs_20262.ix h_20404
                      subst hr_20410
                      refine sl hK (by decide) (wtt hb_20402) rfl (r_indexAddr_R Try.underlying47 Try.sizeOf3 hv_20409 h_204040 h_204041 hK rfl rfl) fun a hK => ?_
                      refine sl hK (by decide) (wtt hb_20402) rfl (r_load Try.isAgg3 hK rfl ((hS.ra hRA nil_not).cell (hc_20411 0 _ rfl))) fun a hK => ?_
                      refine sl hK (by decide) (wtt hb_20402) rfl (r_move hK rfl) fun a hK => ?_
                      refine sl hK (by decide) (wtt hb_20402) rfl (r_ibin hK rfl rfl rfl) fun a hK => ?_
                      refine sl hK (by decide) rfl rfl (r_pick_t hb_20402 hK rfl rfl) fun a hK => ?_
                      refine sl hK (by decide) rfl rfl (r_assign hK rfl) fun a hK => ?_
                      refine wpList_nil ?_
                      have hS := hS.pk2
                      have hS := hS.pk2
                      have hS := hS.pk2
                      exact ⟨(decide (y_20403 < x_10134)), H, hK.sub (all_cons rfl (all_cons rfl (all_cons rfl (all_cons rfl (all_cons rfl (all_cons rfl (all_cons rfl (all_cons rfl (all_cons rfl (all_nil)))))))))), hS⟩
                    · rw [ifb_f hb_20402] at H
                      refine sl_skip hK (by decide) (wtf hb_20402) rfl fun a hK => ?_
                      refine sl_skip hK (by decide) (wtf hb_20402) rfl fun a hK => ?_
                      refine sl_skip hK (by decide) (wtf hb_20402) rfl fun a hK => ?_
                      refine sl_skip hK (by decide) (wtf hb_20402) rfl fun a hK => ?_
                      refine sl_skip hK (by decide) (wtf hb_20402) rfl fun a hK => ?_
                      refine sl_skip hK (by decide) (wtf hb_20402) rfl fun a hK => ?_
                      refine sl_skip hK (by decide) (wtf hb_20402) rfl fun a hK => ?_
                      refine sl hK (by decide) rfl rfl (r_pick_f hb_20402 hK rfl rfl) fun a hK => ?_
                      refine sl hK (by decide) rfl rfl (r_assign hK rfl) fun a hK => ?_
                      refine wpList_nil ?_
                      have hS := hS.pk2
                      have hS := hS.pk2
                      have hS := hS.pk2
                      exact ⟨false, H, hK.sub (all_cons rfl (all_cons rfl (all_cons rfl (all_cons rfl (all_cons rfl (all_cons rfl (all_cons rfl (all_cons rfl (all_cons rfl (all_nil)))))))))), hS⟩
                  · rintro a w ⟨x_20391, H, hK, hS⟩
                    unfold ref15_Holds.j5 at H
                    refine wp_region_lit ?_
                    refine sl hK (by decide) rfl rfl (r_move hK rfl) fun a hK => ?_
                    refine sl hK (by decide) rfl rfl (r_ibin hK rfl rfl rfl) fun a hK => ?_
                    refine sl hK (by decide) rfl rfl (r_assign hK rfl) fun a hK => ?_
                    refine wpList_nil ?_
                    have hS := hS.pk2
                    have hS := hS.pk2
                    have hS := hS.pk2
                    exact ⟨_, Nat.lt_succ_self _, x_20391, (IntKind.i64.wrap (x_20319 + 1)), H, hK.sub (all_cons rfl (all_cons rfl (all_cons rfl (all_cons rfl (all_cons rfl (all_cons rfl (all_cons rfl (all_cons rfl (all_cons rfl (all_nil)))))))))), hS⟩
                · rw [ifb_f hb_20371] at H
                  refine wp_exit ?_
                  refine wp_seq ?_
                  refine wp_region_lit ?_
                  refine sl hK (by decide) rfl rfl (r_move hK rfl) fun a hK => ?_
                  refine sl hK (by decide) rfl rfl (r_fieldAddr Try.underlying51 rfl Try.sizeOf9 hK rfl) fun a hK => ?_
                  refine sl hK (by decide) rfl rfl (r_load Try.isAgg9 hK rfl (hS.cell (.tail _ (.tail _ (.head _))) rfl)) fun a hK => ?_
                  obtain ⟨y_20412, h_20413, H⟩ := bind_some H
                  refine sl_callV Try.call30 hS hK (by decide) rfl rfl rfl (ref02_Find.calls a2 y_20252.S (lentOf_sub [] _) (h2_0.mono (hS.raLe0 hRA nil_not)) h_20413) fun a w hS hK => ?_
                  refine sl hK (by decide) rfl rfl (r_assign hK rfl) fun a hK => ?_
                  refine wpList_nil ?_
                  refine wp_seq ?_
                  refine wp_mid (fun a w => ∃ (x_20415 : Bool), ref15_Holds.j6 (ref15_Holds.l1 a0 a1 a2 a3 k_l1) a1 a3 x_10130 x_10134 y_20252 x_20318 y_20412 x_20415 = some r ∧ Kn 196 a [(1, .int .i64 a1), (2, v2_0), (3, v3_0), (4, .pointer (some ⟨b_1, 0, none⟩)), (9, v_10131), (10, .int .i64 x_10134), (11, .pointer (some ⟨b_20267, 0, none⟩)), (13, .bool x_20318), (15, .int .i64 y_20412), (16, .bool x_20415)] ∧ St [] w0 w (fun _ => none) [.cells b_1 [v0_0] 24, .row 4 1 v_10131 x_10130.length cs_10132, .cells b_20267 [.int .i64 y_20252.Kind, .string y_20252.S, .int .i64 y_20252.N, .int .i64 y_20252.From, .int .i64 y_20252.To, .int .i64 y_20252.V.Kind, .int .i64 y_20252.V.N, .string y_20252.V.S, .int .i64 y_20252.V.H.a0, .int .i64 y_20252.V.H.a1, .int .i64 y_20252.V.H.a2, .int .i64 y_20252.V.H.a3, .int .i64 y_20252.V.H.a4, .int .i64 y_20252.V.H.a5, .int .i64 y_20252.V.H.a6, .int .i64 y_20252.V.H.a7, v_20261, v_20263, v_20265] 51]) ?_ ?_
                  · refine wp_region_lit ?_
                    refine sl hK (by decide) rfl rfl (r_move hK rfl) fun a hK => ?_
                    refine sl hK (by decide) rfl rfl (r_ibin hK rfl rfl rfl) fun a hK => ?_
                    refine sl hK (by decide) rfl rfl (r_move hK rfl) fun a hK => ?_
                    rcases or_b (decide (y_20412 ≥ 0)) with hb_20417 | hb_20417
                    · rw [ifb_t hb_20417] at H
                      refine sl hK (by decide) (wtt hb_20417) rfl (r_move hK rfl) fun a hK => ?_
                      refine sl hK (by decide) (wtt hb_20417) rfl (r_move hK rfl) fun a hK => ?_
                      refine sl hK (by decide) (wtt hb_20417) rfl (r_len_R Try.underlying33 h3_0 hK rfl) fun a hK => ?_
                      refine sl hK (by decide) (wtt hb_20417) rfl (r_ibin hK rfl rfl rfl) fun a hK => ?_
                      refine sl hK (by decide) rfl rfl (r_pick_t hb_20417 hK rfl rfl) fun a hK => ?_
                      refine sl hK (by decide) rfl rfl (r_assign hK rfl) fun a hK => ?_
                      refine wpList_nil ?_
                      have hS := hS.pk2
                      have hS := hS.pk2
                      have hS := hS.pk2
                      exact ⟨(decide (y_20412 < (a3.length : Int))), H, hK.sub (all_cons rfl (all_cons rfl (all_cons rfl (all_cons rfl (all_cons rfl (all_cons rfl (all_cons rfl (all_cons rfl (all_cons rfl (all_cons rfl (all_nil))))))))))), hS⟩
                    · rw [ifb_f hb_20417] at H
                      refine sl_skip hK (by decide) (wtf hb_20417) rfl fun a hK => ?_
                      refine sl_skip hK (by decide) (wtf hb_20417) rfl fun a hK => ?_
                      refine sl_skip hK (by decide) (wtf hb_20417) rfl fun a hK => ?_
                      refine sl_skip hK (by decide) (wtf hb_20417) rfl fun a hK => ?_
                      refine sl hK (by decide) rfl rfl (r_pick_f hb_20417 hK rfl rfl) fun a hK => ?_
                      refine sl hK (by decide) rfl rfl (r_assign hK rfl) fun a hK => ?_
                      refine wpList_nil ?_
                      have hS := hS.pk2
                      have hS := hS.pk2
                      have hS := hS.pk2
                      exact ⟨false, H, hK.sub (all_cons rfl (all_cons rfl (all_cons rfl (all_cons rfl (all_cons rfl (all_cons rfl (all_cons rfl (all_cons rfl (all_cons rfl (all_cons rfl (all_nil))))))))))), hS⟩
                  · rintro a w ⟨x_20415, H, hK, hS⟩
                    unfold ref15_Holds.j6 at H
                    refine wp_seq ?_
                    refine wp_region_lit ?_
                    refine sl hK (by decide) rfl rfl (r_fieldAddr Try.underlying51 rfl Try.sizeOf3 hK rfl) fun a hK => ?_
                    refine sl hK (by decide) rfl rfl (r_load Try.isAgg3 hK rfl (hS.cell (.tail _ (.tail _ (.head _))) rfl)) fun a hK => ?_
                    refine wpList_nil ?_
                    refine wp_block ?_
                    refine wp_seq ?_
                    refine wp_region_lit ?_
                    refine sl hK (by decide) rfl rfl (r_ibin hK rfl rfl rfl) fun a hK => ?_
                    refine sl hK (by decide) rfl rfl (r_assign hK rfl) fun a hK => ?_
                    refine wpList_nil ?_
                    refine wp_mid (fun a w => ∃ (x_25390 : List Bool) (v_25391 : Value) (cs_25392 : List Value), ref15_Holds.j7 (ref15_Holds.l1 a0 a1 a2 a3 k_l1) a1 x_10134 x_25390 = some r ∧ Reps tyBool (fun _ => none) cs_25392 x_25390 ∧ Kn 196 a [(1, .int .i64 a1), (2, v2_0), (3, v3_0), (4, .pointer (some ⟨b_1, 0, none⟩)), (9, v_25391), (10, .int .i64 x_10134)] ∧ St [] w0 w (fun _ => none) [.cells b_1 [v0_0] 24, .row 4 1 v_25391 x_25390.length cs_25392]) ?_ ?_
                    · refine wp_cond_split (hK.ev rfl) (fun (hb_25395 : (y_20252.Kind == 14) = true) => ?_) (fun (hb_25395 : (y_20252.Kind == 14) = false) => ?_)
                      · rw [ifb_t hb_25395] at H
                        refine wp_mid (fun a w => ∃ (x_25465 : List Bool) (v_25466 : Value) (cs_25467 : List Value), ref15_Holds.j8 (ref15_Holds.l1 a0 a1 a2 a3 k_l1) a1 x_10134 x_25465 = some r ∧ Reps tyBool (fun _ => none) cs_25467 x_25465 ∧ Kn 196 a [(1, .int .i64 a1), (2, v2_0), (3, v3_0), (4, .pointer (some ⟨b_1, 0, none⟩)), (9, v_25466), (10, .int .i64 x_10134)] ∧ St [] w0 w (fun _ => none) [.cells b_1 [v0_0] 24, .row 4 1 v_25466 x_25465.length cs_25467]) ?_ ?_
                        · refine parT_region (C := fun w => St [] w0 w (fun _ => none) [.cells b_1 [v0_0] 24, .row 4 1 v_10131 x_10130.length cs_10132, .cells b_20267 [.int .i64 y_20252.Kind, .string y_20252.S, .int .i64 y_20252.N, .int .i64 y_20252.From, .int .i64 y_20252.To, .int .i64 y_20252.V.Kind, .int .i64 y_20252.V.N, .string y_20252.V.S, .int .i64 y_20252.V.H.a0, .int .i64 y_20252.V.H.a1, .int .i64 y_20252.V.H.a2, .int .i64 y_20252.V.H.a3, .int .i64 y_20252.V.H.a4, .int .i64 y_20252.V.H.a5, .int .i64 y_20252.V.H.a6, .int .i64 y_20252.V.H.a7, v_20261, v_20263, v_20265] 51]) 14 [(0, true), (1, true), (2, true), (3, true), (4, true), (5, true), (6, true), (7, true), (8, true), (9, true), (10, true), (11, true), (12, false), (13, true)] mixed (by kernel_rfl) hS (fun w hS => hS) fun w hS => ?_
                          refine sp (k := 0) rfl hK (by decide) rfl rfl (fun w hS => r_move hK rfl) fun a hK => ?_
                          refine sp (k := 1) rfl hK (by decide) rfl rfl (fun w hS => r_move hK rfl) fun a hK => ?_
                          refine sp (k := 2) rfl hK (by decide) rfl rfl (fun w hS => r_move hK rfl) fun a hK => ?_
                          refine sp (k := 3) rfl hK (by decide) rfl rfl (fun w hS => r_move hK rfl) fun a hK => ?_
                          rcases or_b x_20415 with hb_25504 | hb_25504
                          · rw [ifb_t hb_25504] at H
                            refine sp (k := 4) rfl hK (by decide) (wtt hb_25504) rfl (fun w hS => r_fieldAddr Try.underlying51 rfl Try.sizeOf3 hK rfl) fun a hK => ?_
                            refine sp (k := 5) rfl hK (by decide) (wtt hb_25504) rfl (fun w hS => r_load Try.isAgg3 hK rfl (hS.cell (.tail _ (.tail _ (.head _))) rfl)) fun a hK => ?_
                            refine sp (k := 6) rfl hK (by decide) (wtt hb_25504) rfl (fun w hS => r_move hK rfl) fun a hK => ?_
                            refine sp (k := 7) rfl hK (by decide) (wtt hb_25504) rfl (fun w hS => r_move hK rfl) fun a hK => ?_
                            obtain ⟨y_25505, h_25506, H⟩ := bind_some H
                            obtain ⟨b_25507, o_25508, c_25509, cs_25510, hv_25511, hr_25512, hc_25513, h_255060, h_255061⟩ := h3_0.ix h_25506
                            subst hr_25512
                            refine sp (k := 8) rfl hK (by decide) (wtt hb_25504) rfl (fun w hS => r_indexAddr_R Try.underlying33 Try.sizeOf39 hv_25511 h_255060 h_255061 hK rfl rfl) fun a hK => ?_
                            refine sp (k := 9) rfl hK (by decide) (wtt hb_25504) rfl (fun w hS => r_loadA (cs := [.int .i64 y_25505.Kind, .int .i64 y_25505.N, .string y_25505.S, .int .i64 y_25505.H.a0, .int .i64 y_25505.H.a1, .int .i64 y_25505.H.a2, .int .i64 y_25505.H.a3, .int .i64 y_25505.H.a4, .int .i64 y_25505.H.a5, .int .i64 y_25505.H.a6, .int .i64 y_25505.H.a7]) Try.isAgg39 Try.sizeOf39 rfl hK rfl (fun j v hv => (hS.ra hRA nil_not).cell (hc_25513 j v hv))) fun a hK => ?_
                            refine sp (k := 10) rfl hK (by decide) (wtt hb_25504) rfl (fun w hS => r_fieldAddr Try.underlying51 rfl Try.sizeOf39 hK rfl) fun a hK => ?_
                            refine sp (k := 11) rfl hK (by decide) (wtt hb_25504) rfl (fun w hS => r_loadA (cs := [.int .i64 y_20252.V.Kind, .int .i64 y_20252.V.N, .string y_20252.V.S, .int .i64 y_20252.V.H.a0, .int .i64 y_20252.V.H.a1, .int .i64 y_20252.V.H.a2, .int .i64 y_20252.V.H.a3, .int .i64 y_20252.V.H.a4, .int .i64 y_20252.V.H.a5, .int .i64 y_20252.V.H.a6, .int .i64 y_20252.V.H.a7]) Try.isAgg39 Try.sizeOf39 rfl hK rfl (hS.cells_of (m := 11) (.tail _ (.tail _ (.head _))) rfl)) fun a hK => ?_
                            refine spw (k := 12) rfl rfl hS ?_
                            obtain ⟨y_25514, h_25515, H⟩ := bind_some H
                            refine sl_callV Try.call31 hS hK (by decide) (wtt hb_25504) rfl rfl (ref01_Holds.calls y_20252.N y_25505 y_20252.V h_25515 _) fun a w hS hK => ?_
                            refine parK_nil hS ?_
                            refine sp (k := 13) rfl hK (by decide) rfl rfl (fun w hS => r_pick_t hb_25504 hK rfl rfl) fun a hK => ?_
                            refine thenL_nil ?_
                            obtain ⟨y_25516, h_25517, H⟩ := bind_some H
                            obtain ⟨b_25519, c_25520, cs_25521, hv_25518, hr_25522, hc_25523, h_255170, h_255171⟩ := hS.row_ix (.tail _ (.head _)) hq_10133 rfl rfl h_25517
                            subst hr_25522
                            refine sl hK (by decide) rfl rfl (r_indexAddr_R Try.underlying59 Try.sizeOf4 hv_25518 h_255170 h_255171 hK rfl rfl) fun a hK => ?_
                            have hS := hS.pk1
                            refine sl_store_row Try.sizeOf4 hv_25518 h_25517 rfl (show Ty.rep tyBool _ [.bool y_25514] y_25514 from rfl) hq_10133 rfl hS hK rfl rfl rfl rfl fun a w cs_25524 hq_25525 hS hK => ?_
                            refine wpList_nil (NoP_nil ?_)
                            have hS := hS.pk1
                            exact ⟨(upd x_10130 x_10134 y_25514), _, _, H, hq_25525, hK.sub (all_cons rfl (all_cons rfl (all_cons rfl (all_cons rfl (all_cons rfl (all_cons rfl (all_nil))))))), hS.trunc 2⟩
                          · rw [ifb_f hb_25504] at H
                            refine sp_skip (k := 4) rfl hK (by decide) (wtf hb_25504) rfl fun a hK => ?_
                            refine sp_skip (k := 5) rfl hK (by decide) (wtf hb_25504) rfl fun a hK => ?_
                            refine sp_skip (k := 6) rfl hK (by decide) (wtf hb_25504) rfl fun a hK => ?_
                            refine sp_skip (k := 7) rfl hK (by decide) (wtf hb_25504) rfl fun a hK => ?_
                            refine sp_skip (k := 8) rfl hK (by decide) (wtf hb_25504) rfl fun a hK => ?_
                            refine sp_skip (k := 9) rfl hK (by decide) (wtf hb_25504) rfl fun a hK => ?_
                            refine sp_skip (k := 10) rfl hK (by decide) (wtf hb_25504) rfl fun a hK => ?_
                            refine sp_skip (k := 11) rfl hK (by decide) (wtf hb_25504) rfl fun a hK => ?_
                            refine spw (k := 12) rfl rfl hS ?_
                            refine sl_skip hK (by decide) (wtf hb_25504) rfl fun a hK => ?_
                            refine parK_nil hS ?_
                            refine sp (k := 13) rfl hK (by decide) rfl rfl (fun w hS => r_pick_f hb_25504 hK rfl rfl) fun a hK => ?_
                            refine thenL_nil ?_
                            obtain ⟨y_25527, h_25528, H⟩ := bind_some H
                            obtain ⟨b_25530, c_25531, cs_25532, hv_25529, hr_25533, hc_25534, h_255280, h_255281⟩ := hS.row_ix (.tail _ (.head _)) hq_10133 rfl rfl h_25528
                            subst hr_25533
                            refine sl hK (by decide) rfl rfl (r_indexAddr_R Try.underlying59 Try.sizeOf4 hv_25529 h_255280 h_255281 hK rfl rfl) fun a hK => ?_
                            have hS := hS.pk1
                            refine sl_store_row Try.sizeOf4 hv_25529 h_25528 rfl (show Ty.rep tyBool _ [.bool false] false from rfl) hq_10133 rfl hS hK rfl rfl rfl rfl fun a w cs_25535 hq_25536 hS hK => ?_
                            refine wpList_nil (NoP_nil ?_)
                            have hS := hS.pk1
                            exact ⟨(upd x_10130 x_10134 false), _, _, H, hq_25536, hK.sub (all_cons rfl (all_cons rfl (all_cons rfl (all_cons rfl (all_cons rfl (all_cons rfl (all_nil))))))), hS.trunc 2⟩
                        · rintro a w ⟨x_25465, v_25466, cs_25467, H, hq_25468, hK, hS⟩
                          unfold ref15_Holds.j8 at H
                          have hS := hS.pk1
                          have hS := hS.pk1
                          exact ⟨x_25465, _, _, H, hq_25468, hK.sub (all_cons rfl (all_cons rfl (all_cons rfl (all_cons rfl (all_cons rfl (all_cons rfl (all_nil))))))), hS⟩
                      · rw [ifb_f hb_25395] at H
                        refine wp_seq ?_
                        refine wp_region_lit ?_
                        refine sl hK (by decide) rfl rfl (r_ibin hK rfl rfl rfl) fun a hK => ?_
                        refine sl hK (by decide) rfl rfl (r_assign hK rfl) fun a hK => ?_
                        refine wpList_nil ?_
                        refine wp_mid (fun a w => ∃ (x_27950 : List Bool) (v_27951 : Value) (cs_27952 : List Value), ref15_Holds.j9 (ref15_Holds.l1 a0 a1 a2 a3 k_l1) a1 x_10134 x_27950 = some r ∧ Reps tyBool (fun _ => none) cs_27952 x_27950 ∧ Kn 196 a [(1, .int .i64 a1), (2, v2_0), (3, v3_0), (4, .pointer (some ⟨b_1, 0, none⟩)), (9, v_27951), (10, .int .i64 x_10134)] ∧ St [] w0 w (fun _ => none) [.cells b_1 [v0_0] 24, .row 4 1 v_27951 x_27950.length cs_27952]) ?_ ?_
                        · refine wp_cond_split (hK.ev rfl) (fun (hb_27955 : (y_20252.Kind == 15) = true) => ?_) (fun (hb_27955 : (y_20252.Kind == 15) = false) => ?_)
                          · rw [ifb_t hb_27955] at H
                            refine wp_mid (fun a w => ∃ (x_28067 : List Bool) (v_28068 : Value) (cs_28069 : List Value), ref15_Holds.j10 (ref15_Holds.l1 a0 a1 a2 a3 k_l1) a1 x_10134 x_28067 = some r ∧ Reps tyBool (fun _ => none) cs_28069 x_28067 ∧ Kn 196 a [(1, .int .i64 a1), (2, v2_0), (3, v3_0), (4, .pointer (some ⟨b_1, 0, none⟩)), (9, v_28068), (10, .int .i64 x_10134)] ∧ St [] w0 w (fun _ => none) [.cells b_1 [v0_0] 24, .row 4 1 v_28068 x_28067.length cs_28069]) ?_ ?_
                            · refine parT_region (C := fun w => St [] w0 w (fun _ => none) [.cells b_1 [v0_0] 24, .row 4 1 v_10131 x_10130.length cs_10132, .cells b_20267 [.int .i64 y_20252.Kind, .string y_20252.S, .int .i64 y_20252.N, .int .i64 y_20252.From, .int .i64 y_20252.To, .int .i64 y_20252.V.Kind, .int .i64 y_20252.V.N, .string y_20252.V.S, .int .i64 y_20252.V.H.a0, .int .i64 y_20252.V.H.a1, .int .i64 y_20252.V.H.a2, .int .i64 y_20252.V.H.a3, .int .i64 y_20252.V.H.a4, .int .i64 y_20252.V.H.a5, .int .i64 y_20252.V.H.a6, .int .i64 y_20252.V.H.a7, v_20261, v_20263, v_20265] 51]) 22 [(0, true), (1, true), (2, true), (3, true), (4, true), (5, true), (6, true), (7, true), (8, true), (9, true), (10, true), (11, true), (12, true), (13, true), (14, true), (15, true), (16, true), (17, true), (18, true), (19, true), (20, false), (21, true)] mixed (by kernel_rfl) hS (fun w hS => hS) fun w hS => ?_
                              refine sp (k := 0) rfl hK (by decide) rfl rfl (fun w hS => r_move hK rfl) fun a hK => ?_
                              refine sp (k := 1) rfl hK (by decide) rfl rfl (fun w hS => r_move hK rfl) fun a hK => ?_
                              refine sp (k := 2) rfl hK (by decide) rfl rfl (fun w hS => r_move hK rfl) fun a hK => ?_
                              refine sp (k := 3) rfl hK (by decide) rfl rfl (fun w hS => r_move hK rfl) fun a hK => ?_
                              rcases or_b x_20415 with hb_28127 | hb_28127
                              · rw [ifb_t hb_28127] at H
                                refine sp (k := 4) rfl hK (by decide) (wtt hb_28127) rfl (fun w hS => r_move hK rfl) fun a hK => ?_
                                refine sp (k := 5) rfl hK (by decide) (wtt hb_28127) rfl (fun w hS => r_move hK rfl) fun a hK => ?_
                                obtain ⟨y_28128, h_28129, H⟩ := bind_some H
                                obtain ⟨b_28130, o_28131, c_28132, cs_28133, hv_28134, hr_28135, hc_28136, h_281290, h_281291⟩ := h3_0.ix h_28129
                                subst hr_28135
                                refine sp (k := 6) rfl hK (by decide) (wtt hb_28127) rfl (fun w hS => r_indexAddr_R Try.underlying33 Try.sizeOf39 hv_28134 h_281290 h_281291 hK rfl rfl) fun a hK => ?_
                                refine sp (k := 7) rfl hK (by decide) (wtt hb_28127) rfl (fun w hS => r_fieldAddr Try.underlying39 rfl Try.sizeOf3 hK rfl) fun a hK => ?_
                                refine sp (k := 8) rfl hK (by decide) (wtt hb_28127) rfl (fun w hS => r_load Try.isAgg3 hK rfl ((hS.ra hRA nil_not).cell (hc_28136 0 _ rfl))) fun a hK => ?_
                                refine sp (k := 9) rfl hK (by decide) (wtt hb_28127) rfl (fun w hS => r_ibin hK rfl rfl rfl) fun a hK => ?_
                                refine sp (k := 10) rfl hK (by decide) rfl rfl (fun w hS => r_pick_t hb_28127 hK rfl rfl) fun a hK => ?_
                                refine sp (k := 11) rfl hK (by decide) rfl rfl (fun w hS => r_move hK rfl) fun a hK => ?_
                                rcases or_b (y_28128.Kind == 2) with hb_28137 | hb_28137
                                · rw [ifb_t hb_28137] at H
                                  refine sp (k := 12) rfl hK (by decide) (wtt hb_28137) rfl (fun w hS => r_fieldAddr Try.underlying51 rfl Try.sizeOf39 hK rfl) fun a hK => ?_
                                  refine sp (k := 13) rfl hK (by decide) (wtt hb_28137) rfl (fun w hS => r_fieldAddr Try.underlying39 rfl Try.sizeOf9 hK rfl) fun a hK => ?_
                                  refine sp (k := 14) rfl hK (by decide) (wtt hb_28137) rfl (fun w hS => r_load Try.isAgg9 hK rfl (hS.cell (.tail _ (.tail _ (.head _))) rfl)) fun a hK => ?_
                                  refine sp (k := 15) rfl hK (by decide) (wtt hb_28137) rfl (fun w hS => r_move hK rfl) fun a hK => ?_
                                  refine sp (k := 16) rfl hK (by decide) (wtt hb_28137) rfl (fun w hS => r_move hK rfl) fun a hK => ?_
                                  obtain ⟨y_28138, h_28139, H⟩ := bind_some H
                                  obtain ⟨b_28140, o_28141, c_28142, cs_28143, hv_28144, hr_28145, hc_28146, h_281390, h_281391⟩ := h3_0.ix h_28139
                                  subst hr_28145
                                  refine sp (k := 17) rfl hK (by decide) (wtt hb_28137) rfl (fun w hS => r_indexAddr_R Try.underlying33 Try.sizeOf39 hv_28144 h_281390 h_281391 hK rfl rfl) fun a hK => ?_
                                  refine sp (k := 18) rfl hK (by decide) (wtt hb_28137) rfl (fun w hS => r_fieldAddr Try.underlying39 rfl Try.sizeOf9 hK rfl) fun a hK => ?_
                                  refine sp (k := 19) rfl hK (by decide) (wtt hb_28137) rfl (fun w hS => r_load Try.isAgg9 hK rfl ((hS.ra hRA nil_not).cell (hc_28146 2 _ rfl))) fun a hK => ?_
                                  refine spw (k := 20) rfl rfl hS ?_
                                  obtain ⟨y_28147, h_28148, H⟩ := bind_some H
                                  refine sl_callV Try.call32 hS hK (by decide) (wtt hb_28137) rfl rfl (ref15_part.calls y_20252.V.S y_28138.S h_28148 _) fun a w hS hK => ?_
                                  refine parK_nil hS ?_
                                  refine sp (k := 21) rfl hK (by decide) rfl rfl (fun w hS => r_pick_t hb_28137 hK rfl rfl) fun a hK => ?_
                                  refine thenL_nil ?_
                                  obtain ⟨y_28149, h_28150, H⟩ := bind_some H
                                  obtain ⟨b_28152, c_28153, cs_28154, hv_28151, hr_28155, hc_28156, h_281500, h_281501⟩ := hS.row_ix (.tail _ (.head _)) hq_10133 rfl rfl h_28150
                                  subst hr_28155
                                  refine sl hK (by decide) rfl rfl (r_indexAddr_R Try.underlying59 Try.sizeOf4 hv_28151 h_281500 h_281501 hK rfl rfl) fun a hK => ?_
                                  have hS := hS.pk1
                                  refine sl_store_row Try.sizeOf4 hv_28151 h_28150 rfl (show Ty.rep tyBool _ [.bool y_28147] y_28147 from rfl) hq_10133 rfl hS hK rfl rfl rfl rfl fun a w cs_28157 hq_28158 hS hK => ?_
                                  refine wpList_nil (NoP_nil ?_)
                                  have hS := hS.pk1
                                  exact ⟨(upd x_10130 x_10134 y_28147), _, _, H, hq_28158, hK.sub (all_cons rfl (all_cons rfl (all_cons rfl (all_cons rfl (all_cons rfl (all_cons rfl (all_nil))))))), hS.trunc 2⟩
                                · rw [ifb_f hb_28137] at H
                                  refine sp_skip (k := 12) rfl hK (by decide) (wtf hb_28137) rfl fun a hK => ?_
                                  refine sp_skip (k := 13) rfl hK (by decide) (wtf hb_28137) rfl fun a hK => ?_
                                  refine sp_skip (k := 14) rfl hK (by decide) (wtf hb_28137) rfl fun a hK => ?_
                                  refine sp_skip (k := 15) rfl hK (by decide) (wtf hb_28137) rfl fun a hK => ?_
                                  refine sp_skip (k := 16) rfl hK (by decide) (wtf hb_28137) rfl fun a hK => ?_
                                  refine sp_skip (k := 17) rfl hK (by decide) (wtf hb_28137) rfl fun a hK => ?_
                                  refine sp_skip (k := 18) rfl hK (by decide) (wtf hb_28137) rfl fun a hK => ?_
                                  refine sp_skip (k := 19) rfl hK (by decide) (wtf hb_28137) rfl fun a hK => ?_
                                  refine spw (k := 20) rfl rfl hS ?_
                                  refine sl_skip hK (by decide) (wtf hb_28137) rfl fun a hK => ?_
                                  refine parK_nil hS ?_
                                  refine sp (k := 21) rfl hK (by decide) rfl rfl (fun w hS => r_pick_f hb_28137 hK rfl rfl) fun a hK => ?_
                                  refine thenL_nil ?_
                                  obtain ⟨y_28160, h_28161, H⟩ := bind_some H
                                  obtain ⟨b_28163, c_28164, cs_28165, hv_28162, hr_28166, hc_28167, h_281610, h_281611⟩ := hS.row_ix (.tail _ (.head _)) hq_10133 rfl rfl h_28161
                                  subst hr_28166
                                  refine sl hK (by decide) rfl rfl (r_indexAddr_R Try.underlying59 Try.sizeOf4 hv_28162 h_281610 h_281611 hK rfl rfl) fun a hK => ?_
                                  have hS := hS.pk1
                                  refine sl_store_row Try.sizeOf4 hv_28162 h_28161 rfl (show Ty.rep tyBool _ [.bool false] false from rfl) hq_10133 rfl hS hK rfl rfl rfl rfl fun a w cs_28168 hq_28169 hS hK => ?_
                                  refine wpList_nil (NoP_nil ?_)
                                  have hS := hS.pk1
                                  exact ⟨(upd x_10130 x_10134 false), _, _, H, hq_28169, hK.sub (all_cons rfl (all_cons rfl (all_cons rfl (all_cons rfl (all_cons rfl (all_cons rfl (all_nil))))))), hS.trunc 2⟩
                              · rw [ifb_f hb_28127] at H
                                refine sp_skip (k := 4) rfl hK (by decide) (wtf hb_28127) rfl fun a hK => ?_
                                refine sp_skip (k := 5) rfl hK (by decide) (wtf hb_28127) rfl fun a hK => ?_
                                refine sp_skip (k := 6) rfl hK (by decide) (wtf hb_28127) rfl fun a hK => ?_
                                refine sp_skip (k := 7) rfl hK (by decide) (wtf hb_28127) rfl fun a hK => ?_
                                refine sp_skip (k := 8) rfl hK (by decide) (wtf hb_28127) rfl fun a hK => ?_
                                refine sp_skip (k := 9) rfl hK (by decide) (wtf hb_28127) rfl fun a hK => ?_
                                refine sp (k := 10) rfl hK (by decide) rfl rfl (fun w hS => r_pick_f hb_28127 hK rfl rfl) fun a hK => ?_
                                refine sp (k := 11) rfl hK (by decide) rfl rfl (fun w hS => r_move hK rfl) fun a hK => ?_
                                refine sp_skip (k := 12) rfl hK (by decide) rfl rfl fun a hK => ?_
                                refine sp_skip (k := 13) rfl hK (by decide) rfl rfl fun a hK => ?_
                                refine sp_skip (k := 14) rfl hK (by decide) rfl rfl fun a hK => ?_
                                refine sp_skip (k := 15) rfl hK (by decide) rfl rfl fun a hK => ?_
                                refine sp_skip (k := 16) rfl hK (by decide) rfl rfl fun a hK => ?_
                                refine sp_skip (k := 17) rfl hK (by decide) rfl rfl fun a hK => ?_
                                refine sp_skip (k := 18) rfl hK (by decide) rfl rfl fun a hK => ?_
                                refine sp_skip (k := 19) rfl hK (by decide) rfl rfl fun a hK => ?_
                                refine spw (k := 20) rfl rfl hS ?_
                                refine sl_skip hK (by decide) rfl rfl fun a hK => ?_
                                refine parK_nil hS ?_
                                refine sp (k := 21) rfl hK (by decide) rfl rfl (fun w hS => r_pick hK rfl rfl rfl) fun a hK => ?_
                                refine thenL_nil ?_
                                obtain ⟨y_28171, h_28172, H⟩ := bind_some H
                                obtain ⟨b_28174, c_28175, cs_28176, hv_28173, hr_28177, hc_28178, h_281720, h_281721⟩ := hS.row_ix (.tail _ (.head _)) hq_10133 rfl rfl h_28172
                                subst hr_28177
                                refine sl hK (by decide) rfl rfl (r_indexAddr_R Try.underlying59 Try.sizeOf4 hv_28173 h_281720 h_281721 hK rfl rfl) fun a hK => ?_
                                have hS := hS.pk1
                                refine sl_store_row Try.sizeOf4 hv_28173 h_28172 rfl (show Ty.rep tyBool _ [.bool false] false from rfl) hq_10133 rfl hS hK rfl rfl rfl rfl fun a w cs_28179 hq_28180 hS hK => ?_
                                refine wpList_nil (NoP_nil ?_)
                                have hS := hS.pk1
                                exact ⟨(upd x_10130 x_10134 false), _, _, H, hq_28180, hK.sub (all_cons rfl (all_cons rfl (all_cons rfl (all_cons rfl (all_cons rfl (all_cons rfl (all_nil))))))), hS.trunc 2⟩
                            · rintro a w ⟨x_28067, v_28068, cs_28069, H, hq_28070, hK, hS⟩
                              unfold ref15_Holds.j10 at H
                              have hS := hS.pk1
                              have hS := hS.pk1
                              exact ⟨x_28067, _, _, H, hq_28070, hK.sub (all_cons rfl (all_cons rfl (all_cons rfl (all_cons rfl (all_cons rfl (all_cons rfl (all_nil))))))), hS⟩
                          · rw [ifb_f hb_27955] at H
                            refine wp_seq ?_
                            refine wp_region_lit ?_
                            refine sl hK (by decide) rfl rfl (r_ibin hK rfl rfl rfl) fun a hK => ?_
                            refine sl hK (by decide) rfl rfl (r_assign hK rfl) fun a hK => ?_
                            refine wpList_nil ?_
                            refine wp_mid (fun a w => ∃ (x_29272 : List Bool) (v_29273 : Value) (cs_29274 : List Value), ref15_Holds.j11 (ref15_Holds.l1 a0 a1 a2 a3 k_l1) a1 x_10134 x_29272 = some r ∧ Reps tyBool (fun _ => none) cs_29274 x_29272 ∧ Kn 196 a [(1, .int .i64 a1), (2, v2_0), (3, v3_0), (4, .pointer (some ⟨b_1, 0, none⟩)), (9, v_29273), (10, .int .i64 x_10134)] ∧ St [] w0 w (fun _ => none) [.cells b_1 [v0_0] 24, .row 4 1 v_29273 x_29272.length cs_29274]) ?_ ?_
                            · refine wp_cond_split (hK.ev rfl) (fun (hb_29277 : (y_20252.Kind == 13) = true) => ?_) (fun (hb_29277 : (y_20252.Kind == 13) = false) => ?_)
                              · rw [ifb_t hb_29277] at H
                                refine wp_mid (fun a w => ∃ (x_29322 : List Bool) (v_29323 : Value) (cs_29324 : List Value), ref15_Holds.j12 (ref15_Holds.l1 a0 a1 a2 a3 k_l1) a1 x_10134 x_29322 = some r ∧ Reps tyBool (fun _ => none) cs_29324 x_29322 ∧ Kn 196 a [(1, .int .i64 a1), (2, v2_0), (3, v3_0), (4, .pointer (some ⟨b_1, 0, none⟩)), (9, v_29323), (10, .int .i64 x_10134)] ∧ St [] w0 w (fun _ => none) [.cells b_1 [v0_0] 24, .row 4 1 v_29323 x_29322.length cs_29324]) ?_ ?_
                                · refine wp_region_lit ?_
                                  refine sl hK (by decide) rfl rfl (r_move hK rfl) fun a hK => ?_
                                  refine sl hK (by decide) rfl rfl (r_move hK rfl) fun a hK => ?_
                                  refine sl hK (by decide) rfl rfl (r_move hK rfl) fun a hK => ?_
                                  refine sl hK (by decide) rfl rfl (r_move hK rfl) fun a hK => ?_
                                  rcases or_b x_20318 with hb_29327 | hb_29327
                                  · rw [ifb_t hb_29327] at H
                                    refine sl hK (by decide) (wtt hb_29327) rfl (r_move hK rfl) fun a hK => ?_
                                    refine sl hK (by decide) (wtt hb_29327) rfl (r_fieldAddr Try.underlying51 rfl Try.sizeOf47 hK rfl) fun a hK => ?_
                                    refine sl hK (by decide) (wtt hb_29327) rfl (r_load Try.isAgg47 hK rfl (hS.cell (.tail _ (.tail _ (.head _))) rfl)) fun a hK => ?_
                                    obtain ⟨y_29328, h_29329, H⟩ := bind_some H
                                    obtain ⟨b_29330, o_29331, c_29332, cs_29333, hv_29334, hr_29335, hc_29336, h_293290, h_293291⟩ := hs_20262.ix h_29329
                                    subst hr_29335
                                    refine sl hK (by decide) (wtt hb_29327) rfl (r_indexAddr_R Try.underlying47 Try.sizeOf3 hv_29334 h_293290 h_293291 hK rfl rfl) fun a hK => ?_
                                    refine sl hK (by decide) (wtt hb_29327) rfl (r_load Try.isAgg3 hK rfl ((hS.ra hRA nil_not).cell (hc_29336 0 _ rfl))) fun a hK => ?_
                                    obtain ⟨y_29337, h_29338, H⟩ := bind_some H
                                    obtain ⟨b_29340, c_29341, cs_29342, hv_29339, hr_29343, hc_29344, h_293380, h_293381⟩ := hS.row_ix (.tail _ (.head _)) hq_10133 rfl rfl h_29338
                                    subst hr_29343
                                    refine sl hK (by decide) (wtt hb_29327) rfl (r_indexAddr_R Try.underlying59 Try.sizeOf4 hv_29339 h_293380 h_293381 hK rfl rfl) fun a hK => ?_
                                    refine sl hK (by decide) (wtt hb_29327) rfl (r_load Try.isAgg4 hK rfl (hS.row_cell (.tail _ (.head _)) hv_29339 (hc_29344 0 _ rfl))) fun a hK => ?_
                                    refine sl hK (by decide) (wtt hb_29327) rfl (r_un hK rfl (u_not _)) fun a hK => ?_
                                    refine sl hK (by decide) rfl rfl (r_pick_t hb_29327 hK rfl rfl) fun a hK => ?_
                                    obtain ⟨y_29345, h_29346, H⟩ := bind_some H
                                    obtain ⟨b_29348, c_29349, cs_29350, hv_29347, hr_29351, hc_29352, h_293460, h_293461⟩ := hS.row_ix (.tail _ (.head _)) hq_10133 rfl rfl h_29346
                                    subst hr_29351
                                    refine sl hK (by decide) rfl rfl (r_indexAddr_R Try.underlying59 Try.sizeOf4 hv_29347 h_293460 h_293461 hK rfl rfl) fun a hK => ?_
                                    have hS := hS.pk1
                                    refine sl_store_row Try.sizeOf4 hv_29347 h_29346 rfl (show Ty.rep tyBool _ [.bool (!y_29337)] (!y_29337) from rfl) hq_10133 rfl hS hK rfl rfl rfl rfl fun a w cs_29353 hq_29354 hS hK => ?_
                                    obtain ⟨z_29358, h_29356⟩ := ix_upd x_10134 (!y_29337) h_29338
                                    have hv_29357 : v_10131 = Value.slice (some ⟨b_29340, 0, none⟩) (upd x_10130 x_10134 (!y_29337)).length c_29341 := by rw [upd_length]; exact hv_29339
                                    refine wpList_nil ?_
                                    have hS := hS.pk1
                                    exact ⟨(upd x_10130 x_10134 (!y_29337)), _, _, H, hq_29354, hK.sub (all_cons rfl (all_cons rfl (all_cons rfl (all_cons rfl (all_cons rfl (all_cons rfl (all_nil))))))), hS.trunc 2⟩
                                  · rw [ifb_f hb_29327] at H
                                    refine sl_skip hK (by decide) (wtf hb_29327) rfl fun a hK => ?_
                                    refine sl_skip hK (by decide) (wtf hb_29327) rfl fun a hK => ?_
                                    refine sl_skip hK (by decide) (wtf hb_29327) rfl fun a hK => ?_
                                    refine sl_skip hK (by decide) (wtf hb_29327) rfl fun a hK => ?_
                                    refine sl_skip hK (by decide) (wtf hb_29327) rfl fun a hK => ?_
                                    refine sl_skip hK (by decide) (wtf hb_29327) rfl fun a hK => ?_
                                    refine sl_skip hK (by decide) (wtf hb_29327) rfl fun a hK => ?_
                                    refine sl_skip hK (by decide) (wtf hb_29327) rfl fun a hK => ?_
                                    refine sl hK (by decide) rfl rfl (r_pick_f hb_29327 hK rfl rfl) fun a hK => ?_
                                    obtain ⟨y_29359, h_29360, H⟩ := bind_some H
                                    obtain ⟨b_29362, c_29363, cs_29364, hv_29361, hr_29365, hc_29366, h_293600, h_293601⟩ := hS.row_ix (.tail _ (.head _)) hq_10133 rfl rfl h_29360
                                    subst hr_29365
                                    refine sl hK (by decide) rfl rfl (r_indexAddr_R Try.underlying59 Try.sizeOf4 hv_29361 h_293600 h_293601 hK rfl rfl) fun a hK => ?_
                                    have hS := hS.pk1
                                    refine sl_store_row Try.sizeOf4 hv_29361 h_29360 rfl (show Ty.rep tyBool _ [.bool false] false from rfl) hq_10133 rfl hS hK rfl rfl rfl rfl fun a w cs_29367 hq_29368 hS hK => ?_
                                    refine wpList_nil ?_
                                    have hS := hS.pk1
                                    exact ⟨(upd x_10130 x_10134 false), _, _, H, hq_29368, hK.sub (all_cons rfl (all_cons rfl (all_cons rfl (all_cons rfl (all_cons rfl (all_cons rfl (all_nil))))))), hS.trunc 2⟩
                                · rintro a w ⟨x_29322, v_29323, cs_29324, H, hq_29325, hK, hS⟩
                                  unfold ref15_Holds.j12 at H
                                  have hS := hS.pk1
                                  have hS := hS.pk1
                                  exact ⟨x_29322, _, _, H, hq_29325, hK.sub (all_cons rfl (all_cons rfl (all_cons rfl (all_cons rfl (all_cons rfl (all_cons rfl (all_nil))))))), hS⟩
                              · rw [ifb_f hb_29277] at H
                                refine wp_seq ?_
                                refine wp_region_lit ?_
                                refine sl hK (by decide) rfl rfl (r_ibin hK rfl rfl rfl) fun a hK => ?_
                                refine sl hK (by decide) rfl rfl (r_assign hK rfl) fun a hK => ?_
                                refine wpList_nil ?_
                                refine wp_mid (fun a w => ∃ (x_29866 : List Bool) (v_29867 : Value) (cs_29868 : List Value), ref15_Holds.j13 (ref15_Holds.l1 a0 a1 a2 a3 k_l1) a1 x_10134 x_29866 = some r ∧ Reps tyBool (fun _ => none) cs_29868 x_29866 ∧ Kn 196 a [(1, .int .i64 a1), (2, v2_0), (3, v3_0), (4, .pointer (some ⟨b_1, 0, none⟩)), (9, v_29867), (10, .int .i64 x_10134)] ∧ St [] w0 w (fun _ => none) [.cells b_1 [v0_0] 24, .row 4 1 v_29867 x_29866.length cs_29868]) ?_ ?_
                                · refine wp_cond_split (hK.ev rfl) (fun (hb_29871 : (y_20252.Kind == 11) = true) => ?_) (fun (hb_29871 : (y_20252.Kind == 11) = false) => ?_)
                                  · rw [ifb_t hb_29871] at H
                                    refine wp_mid (fun a w => ∃ (x_29951 : List Bool) (v_29952 : Value) (cs_29953 : List Value), ref15_Holds.j14 (ref15_Holds.l1 a0 a1 a2 a3 k_l1) a1 x_10134 x_29951 = some r ∧ Reps tyBool (fun _ => none) cs_29953 x_29951 ∧ Kn 196 a [(1, .int .i64 a1), (2, v2_0), (3, v3_0), (4, .pointer (some ⟨b_1, 0, none⟩)), (9, v_29952), (10, .int .i64 x_10134)] ∧ St [] w0 w (fun _ => none) [.cells b_1 [v0_0] 24, .row 4 1 v_29952 x_29951.length cs_29953]) ?_ ?_
                                    · refine wp_region_lit ?_
                                      refine sl hK (by decide) rfl rfl (r_move hK rfl) fun a hK => ?_
                                      refine sl hK (by decide) rfl rfl (r_move hK rfl) fun a hK => ?_
                                      refine sl hK (by decide) rfl rfl (r_move hK rfl) fun a hK => ?_
                                      refine sl hK (by decide) rfl rfl (r_move hK rfl) fun a hK => ?_
                                      rcases or_b x_20318 with hb_29956 | hb_29956
                                      · rw [ifb_t hb_29956] at H
                                        refine sl hK (by decide) (wtt hb_29956) rfl (r_move hK rfl) fun a hK => ?_
                                        refine sl hK (by decide) (wtt hb_29956) rfl (r_fieldAddr Try.underlying51 rfl Try.sizeOf47 hK rfl) fun a hK => ?_
                                        refine sl hK (by decide) (wtt hb_29956) rfl (r_load Try.isAgg47 hK rfl (hS.cell (.tail _ (.tail _ (.head _))) rfl)) fun a hK => ?_
                                        obtain ⟨y_29957, h_29958, H⟩ := bind_some H
                                        obtain ⟨b_29959, o_29960, c_29961, cs_29962, hv_29963, hr_29964, hc_29965, h_299580, h_299581⟩ := hs_20262.ix h_29958
                                        subst hr_29964
                                        refine sl hK (by decide) (wtt hb_29956) rfl (r_indexAddr_R Try.underlying47 Try.sizeOf3 hv_29963 h_299580 h_299581 hK rfl rfl) fun a hK => ?_
                                        refine sl hK (by decide) (wtt hb_29956) rfl (r_load Try.isAgg3 hK rfl ((hS.ra hRA nil_not).cell (hc_29965 0 _ rfl))) fun a hK => ?_
                                        obtain ⟨y_29966, h_29967, H⟩ := bind_some H
                                        obtain ⟨b_29969, c_29970, cs_29971, hv_29968, hr_29972, hc_29973, h_299670, h_299671⟩ := hS.row_ix (.tail _ (.head _)) hq_10133 rfl rfl h_29967
                                        subst hr_29972
                                        refine sl hK (by decide) (wtt hb_29956) rfl (r_indexAddr_R Try.underlying59 Try.sizeOf4 hv_29968 h_299670 h_299671 hK rfl rfl) fun a hK => ?_
                                        refine sl hK (by decide) (wtt hb_29956) rfl (r_load Try.isAgg4 hK rfl (hS.row_cell (.tail _ (.head _)) hv_29968 (hc_29973 0 _ rfl))) fun a hK => ?_
                                        refine sl hK (by decide) rfl rfl (r_pick_t hb_29956 hK rfl rfl) fun a hK => ?_
                                        refine sl hK (by decide) rfl rfl (r_move hK rfl) fun a hK => ?_
                                        rcases or_b y_29966 with hb_29974 | hb_29974
                                        · rw [ifb_t hb_29974] at H
                                          refine sl hK (by decide) (wtt hb_29974) rfl (r_move hK rfl) fun a hK => ?_
                                          refine sl hK (by decide) (wtt hb_29974) rfl (r_fieldAddr Try.underlying51 rfl Try.sizeOf47 hK rfl) fun a hK => ?_
                                          refine sl hK (by decide) (wtt hb_29974) rfl (r_load Try.isAgg47 hK rfl (hS.cell (.tail _ (.tail _ (.head _))) rfl)) fun a hK => ?_
                                          obtain ⟨y_29975, h_29976, H⟩ := bind_some H
                                          obtain ⟨b_29977, o_29978, c_29979, cs_29980, hv_29981, hr_29982, hc_29983, h_299760, h_299761⟩ := hs_20262.ix h_29976
                                          subst hr_29982
                                          refine sl hK (by decide) (wtt hb_29974) rfl (r_indexAddr_R Try.underlying47 Try.sizeOf3 hv_29981 h_299760 h_299761 hK rfl rfl) fun a hK => ?_
                                          refine sl hK (by decide) (wtt hb_29974) rfl (r_load Try.isAgg3 hK rfl ((hS.ra hRA nil_not).cell (hc_29983 0 _ rfl))) fun a hK => ?_
                                          obtain ⟨y_29984, h_29985, H⟩ := bind_some H
                                          obtain ⟨b_29987, c_29988, cs_29989, hv_29986, hr_29990, hc_29991, h_299850, h_299851⟩ := hS.row_ix (.tail _ (.head _)) hq_10133 rfl rfl h_29985
                                          subst hr_29990
                                          refine sl hK (by decide) (wtt hb_29974) rfl (r_indexAddr_R Try.underlying59 Try.sizeOf4 hv_29986 h_299850 h_299851 hK rfl rfl) fun a hK => ?_
                                          refine sl hK (by decide) (wtt hb_29974) rfl (r_load Try.isAgg4 hK rfl (hS.row_cell (.tail _ (.head _)) hv_29986 (hc_29991 0 _ rfl))) fun a hK => ?_
                                          refine sl hK (by decide) rfl rfl (r_pick_t hb_29974 hK rfl rfl) fun a hK => ?_
                                          obtain ⟨y_29992, h_29993, H⟩ := bind_some H
                                          obtain ⟨b_29995, c_29996, cs_29997, hv_29994, hr_29998, hc_29999, h_299930, h_299931⟩ := hS.row_ix (.tail _ (.head _)) hq_10133 rfl rfl h_29993
                                          subst hr_29998
                                          refine sl hK (by decide) rfl rfl (r_indexAddr_R Try.underlying59 Try.sizeOf4 hv_29994 h_299930 h_299931 hK rfl rfl) fun a hK => ?_
                                          have hS := hS.pk1
                                          refine sl_store_row Try.sizeOf4 hv_29994 h_29993 rfl (show Ty.rep tyBool _ [.bool y_29984] y_29984 from rfl) hq_10133 rfl hS hK rfl rfl rfl rfl fun a w cs_30000 hq_30001 hS hK => ?_
                                          obtain ⟨z_30005, h_30003⟩ := ix_upd x_10134 y_29984 h_29967
                                          have hv_30004 : v_10131 = Value.slice (some ⟨b_29969, 0, none⟩) (upd x_10130 x_10134 y_29984).length c_29970 := by rw [upd_length]; exact hv_29968
                                          obtain ⟨z_30008, h_30006⟩ := ix_upd x_10134 y_29984 h_29985
                                          have hv_30007 : v_10131 = Value.slice (some ⟨b_29987, 0, none⟩) (upd x_10130 x_10134 y_29984).length c_29988 := by rw [upd_length]; exact hv_29986
                                          refine wpList_nil ?_
                                          have hS := hS.pk1
                                          exact ⟨(upd x_10130 x_10134 y_29984), _, _, H, hq_30001, hK.sub (all_cons rfl (all_cons rfl (all_cons rfl (all_cons rfl (all_cons rfl (all_cons rfl (all_nil))))))), hS.trunc 2⟩
                                        · rw [ifb_f hb_29974] at H
                                          refine sl_skip hK (by decide) (wtf hb_29974) rfl fun a hK => ?_
                                          refine sl_skip hK (by decide) (wtf hb_29974) rfl fun a hK => ?_
                                          refine sl_skip hK (by decide) (wtf hb_29974) rfl fun a hK => ?_
                                          refine sl_skip hK (by decide) (wtf hb_29974) rfl fun a hK => ?_
                                          refine sl_skip hK (by decide) (wtf hb_29974) rfl fun a hK => ?_
                                          refine sl_skip hK (by decide) (wtf hb_29974) rfl fun a hK => ?_
                                          refine sl_skip hK (by decide) (wtf hb_29974) rfl fun a hK => ?_
                                          refine sl hK (by decide) rfl rfl (r_pick_f hb_29974 hK rfl rfl) fun a hK => ?_
                                          obtain ⟨y_30009, h_30010, H⟩ := bind_some H
                                          obtain ⟨b_30012, c_30013, cs_30014, hv_30011, hr_30015, hc_30016, h_300100, h_300101⟩ := hS.row_ix (.tail _ (.head _)) hq_10133 rfl rfl h_30010
                                          subst hr_30015
                                          refine sl hK (by decide) rfl rfl (r_indexAddr_R Try.underlying59 Try.sizeOf4 hv_30011 h_300100 h_300101 hK rfl rfl) fun a hK => ?_
                                          have hS := hS.pk1
                                          refine sl_store_row Try.sizeOf4 hv_30011 h_30010 rfl (show Ty.rep tyBool _ [.bool false] false from rfl) hq_10133 rfl hS hK rfl rfl rfl rfl fun a w cs_30017 hq_30018 hS hK => ?_
                                          obtain ⟨z_30022, h_30020⟩ := ix_upd x_10134 false h_29967
                                          have hv_30021 : v_10131 = Value.slice (some ⟨b_29969, 0, none⟩) (upd x_10130 x_10134 false).length c_29970 := by rw [upd_length]; exact hv_29968
                                          refine wpList_nil ?_
                                          have hS := hS.pk1
                                          exact ⟨(upd x_10130 x_10134 false), _, _, H, hq_30018, hK.sub (all_cons rfl (all_cons rfl (all_cons rfl (all_cons rfl (all_cons rfl (all_cons rfl (all_nil))))))), hS.trunc 2⟩
                                      · rw [ifb_f hb_29956] at H
                                        refine sl_skip hK (by decide) (wtf hb_29956) rfl fun a hK => ?_
                                        refine sl_skip hK (by decide) (wtf hb_29956) rfl fun a hK => ?_
                                        refine sl_skip hK (by decide) (wtf hb_29956) rfl fun a hK => ?_
                                        refine sl_skip hK (by decide) (wtf hb_29956) rfl fun a hK => ?_
                                        refine sl_skip hK (by decide) (wtf hb_29956) rfl fun a hK => ?_
                                        refine sl_skip hK (by decide) (wtf hb_29956) rfl fun a hK => ?_
                                        refine sl_skip hK (by decide) (wtf hb_29956) rfl fun a hK => ?_
                                        refine sl hK (by decide) rfl rfl (r_pick_f hb_29956 hK rfl rfl) fun a hK => ?_
                                        refine sl hK (by decide) rfl rfl (r_move hK rfl) fun a hK => ?_
                                        refine sl_skip hK (by decide) rfl rfl fun a hK => ?_
                                        refine sl_skip hK (by decide) rfl rfl fun a hK => ?_
                                        refine sl_skip hK (by decide) rfl rfl fun a hK => ?_
                                        refine sl_skip hK (by decide) rfl rfl fun a hK => ?_
                                        refine sl_skip hK (by decide) rfl rfl fun a hK => ?_
                                        refine sl_skip hK (by decide) rfl rfl fun a hK => ?_
                                        refine sl_skip hK (by decide) rfl rfl fun a hK => ?_
                                        refine sl hK (by decide) rfl rfl (r_pick hK rfl rfl rfl) fun a hK => ?_
                                        obtain ⟨y_30023, h_30024, H⟩ := bind_some H
                                        obtain ⟨b_30026, c_30027, cs_30028, hv_30025, hr_30029, hc_30030, h_300240, h_300241⟩ := hS.row_ix (.tail _ (.head _)) hq_10133 rfl rfl h_30024
                                        subst hr_30029
                                        refine sl hK (by decide) rfl rfl (r_indexAddr_R Try.underlying59 Try.sizeOf4 hv_30025 h_300240 h_300241 hK rfl rfl) fun a hK => ?_
                                        have hS := hS.pk1
                                        refine sl_store_row Try.sizeOf4 hv_30025 h_30024 rfl (show Ty.rep tyBool _ [.bool false] false from rfl) hq_10133 rfl hS hK rfl rfl rfl rfl fun a w cs_30031 hq_30032 hS hK => ?_
                                        refine wpList_nil ?_
                                        have hS := hS.pk1
                                        exact ⟨(upd x_10130 x_10134 false), _, _, H, hq_30032, hK.sub (all_cons rfl (all_cons rfl (all_cons rfl (all_cons rfl (all_cons rfl (all_cons rfl (all_nil))))))), hS.trunc 2⟩
                                    · rintro a w ⟨x_29951, v_29952, cs_29953, H, hq_29954, hK, hS⟩
                                      unfold ref15_Holds.j14 at H
                                      have hS := hS.pk1
                                      have hS := hS.pk1
                                      exact ⟨x_29951, _, _, H, hq_29954, hK.sub (all_cons rfl (all_cons rfl (all_cons rfl (all_cons rfl (all_cons rfl (all_cons rfl (all_nil))))))), hS⟩
                                  · rw [ifb_f hb_29871] at H
                                    refine wp_seq ?_
                                    refine wp_region_lit ?_
                                    refine sl hK (by decide) rfl rfl (r_ibin hK rfl rfl rfl) fun a hK => ?_
                                    refine sl hK (by decide) rfl rfl (r_assign hK rfl) fun a hK => ?_
                                    refine wpList_nil ?_
                                    refine wp_mid (fun a w => ∃ (x_30198 : List Bool) (v_30199 : Value) (cs_30200 : List Value), ref15_Holds.j15 (ref15_Holds.l1 a0 a1 a2 a3 k_l1) a1 x_10134 x_30198 = some r ∧ Reps tyBool (fun _ => none) cs_30200 x_30198 ∧ Kn 196 a [(1, .int .i64 a1), (2, v2_0), (3, v3_0), (4, .pointer (some ⟨b_1, 0, none⟩)), (9, v_30199), (10, .int .i64 x_10134)] ∧ St [] w0 w (fun _ => none) [.cells b_1 [v0_0] 24, .row 4 1 v_30199 x_30198.length cs_30200]) ?_ ?_
                                    · refine wp_cond_split (hK.ev rfl) (fun (hb_30203 : (y_20252.Kind == 12) = true) => ?_) (fun (hb_30203 : (y_20252.Kind == 12) = false) => ?_)
                                      · rw [ifb_t hb_30203] at H
                                        refine wp_mid (fun a w => ∃ (x_30283 : List Bool) (v_30284 : Value) (cs_30285 : List Value), ref15_Holds.j16 (ref15_Holds.l1 a0 a1 a2 a3 k_l1) a1 x_10134 x_30283 = some r ∧ Reps tyBool (fun _ => none) cs_30285 x_30283 ∧ Kn 196 a [(1, .int .i64 a1), (2, v2_0), (3, v3_0), (4, .pointer (some ⟨b_1, 0, none⟩)), (9, v_30284), (10, .int .i64 x_10134)] ∧ St [] w0 w (fun _ => none) [.cells b_1 [v0_0] 24, .row 4 1 v_30284 x_30283.length cs_30285]) ?_ ?_
                                        · refine wp_region_lit ?_
                                          refine sl hK (by decide) rfl rfl (r_move hK rfl) fun a hK => ?_
                                          refine sl hK (by decide) rfl rfl (r_move hK rfl) fun a hK => ?_
                                          refine sl hK (by decide) rfl rfl (r_move hK rfl) fun a hK => ?_
                                          refine sl hK (by decide) rfl rfl (r_move hK rfl) fun a hK => ?_
                                          rcases or_b x_20318 with hb_30288 | hb_30288
                                          · rw [ifb_t hb_30288] at H
                                            refine sl hK (by decide) (wtt hb_30288) rfl (r_move hK rfl) fun a hK => ?_
                                            refine sl hK (by decide) (wtt hb_30288) rfl (r_fieldAddr Try.underlying51 rfl Try.sizeOf47 hK rfl) fun a hK => ?_
                                            refine sl hK (by decide) (wtt hb_30288) rfl (r_load Try.isAgg47 hK rfl (hS.cell (.tail _ (.tail _ (.head _))) rfl)) fun a hK => ?_
                                            obtain ⟨y_30289, h_30290, H⟩ := bind_some H
                                            obtain ⟨b_30291, o_30292, c_30293, cs_30294, hv_30295, hr_30296, hc_30297, h_302900, h_302901⟩ := hs_20262.ix h_30290
                                            subst hr_30296
                                            refine sl hK (by decide) (wtt hb_30288) rfl (r_indexAddr_R Try.underlying47 Try.sizeOf3 hv_30295 h_302900 h_302901 hK rfl rfl) fun a hK => ?_
                                            refine sl hK (by decide) (wtt hb_30288) rfl (r_load Try.isAgg3 hK rfl ((hS.ra hRA nil_not).cell (hc_30297 0 _ rfl))) fun a hK => ?_
                                            obtain ⟨y_30298, h_30299, H⟩ := bind_some H
                                            obtain ⟨b_30301, c_30302, cs_30303, hv_30300, hr_30304, hc_30305, h_302990, h_302991⟩ := hS.row_ix (.tail _ (.head _)) hq_10133 rfl rfl h_30299
                                            subst hr_30304
                                            refine sl hK (by decide) (wtt hb_30288) rfl (r_indexAddr_R Try.underlying59 Try.sizeOf4 hv_30300 h_302990 h_302991 hK rfl rfl) fun a hK => ?_
                                            refine sl hK (by decide) (wtt hb_30288) rfl (r_load Try.isAgg4 hK rfl (hS.row_cell (.tail _ (.head _)) hv_30300 (hc_30305 0 _ rfl))) fun a hK => ?_
                                            refine sl hK (by decide) (wtt hb_30288) rfl (r_move hK rfl) fun a hK => ?_
                                            rcases or_b y_30298 with hb_30306 | hb_30306
                                            · rw [ifb_t hb_30306] at H
                                              refine sl_skip hK (by decide) (wft hb_30306) rfl fun a hK => ?_
                                              refine sl_skip hK (by decide) (wft hb_30306) rfl fun a hK => ?_
                                              refine sl_skip hK (by decide) (wft hb_30306) rfl fun a hK => ?_
                                              refine sl_skip hK (by decide) (wft hb_30306) rfl fun a hK => ?_
                                              refine sl_skip hK (by decide) (wft hb_30306) rfl fun a hK => ?_
                                              refine sl_skip hK (by decide) (wft hb_30306) rfl fun a hK => ?_
                                              refine sl_skip hK (by decide) (wft hb_30306) rfl fun a hK => ?_
                                              refine sl hK (by decide) (wtt hb_30288) rfl (r_pick_t hb_30306 hK rfl rfl) fun a hK => ?_
                                              refine sl hK (by decide) rfl rfl (r_pick_t hb_30288 hK rfl rfl) fun a hK => ?_
                                              obtain ⟨y_30307, h_30308, H⟩ := bind_some H
                                              obtain ⟨b_30310, c_30311, cs_30312, hv_30309, hr_30313, hc_30314, h_303080, h_303081⟩ := hS.row_ix (.tail _ (.head _)) hq_10133 rfl rfl h_30308
                                              subst hr_30313
                                              refine sl hK (by decide) rfl rfl (r_indexAddr_R Try.underlying59 Try.sizeOf4 hv_30309 h_303080 h_303081 hK rfl rfl) fun a hK => ?_
                                              have hS := hS.pk1
                                              refine sl_store_row Try.sizeOf4 hv_30309 h_30308 rfl (show Ty.rep tyBool _ [.bool true] true from rfl) hq_10133 rfl hS hK rfl rfl rfl rfl fun a w cs_30315 hq_30316 hS hK => ?_
                                              obtain ⟨z_30320, h_30318⟩ := ix_upd x_10134 true h_30299
                                              have hv_30319 : v_10131 = Value.slice (some ⟨b_30301, 0, none⟩) (upd x_10130 x_10134 true).length c_30302 := by rw [upd_length]; exact hv_30300
                                              refine wpList_nil ?_
                                              have hS := hS.pk1
                                              exact ⟨(upd x_10130 x_10134 true), _, _, H, hq_30316, hK.sub (all_cons rfl (all_cons rfl (all_cons rfl (all_cons rfl (all_cons rfl (all_cons rfl (all_nil))))))), hS.trunc 2⟩
                                            · rw [ifb_f hb_30306] at H
                                              refine sl hK (by decide) (wff hb_30306) rfl (r_move hK rfl) fun a hK => ?_
                                              refine sl hK (by decide) (wff hb_30306) rfl (r_fieldAddr Try.underlying51 rfl Try.sizeOf47 hK rfl) fun a hK => ?_
                                              refine sl hK (by decide) (wff hb_30306) rfl (r_load Try.isAgg47 hK rfl (hS.cell (.tail _ (.tail _ (.head _))) rfl)) fun a hK => ?_
                                              obtain ⟨y_30321, h_30322, H⟩ := bind_some H
                                              obtain ⟨b_30323, o_30324, c_30325, cs_30326, hv_30327, hr_30328, hc_30329, h_303220, h_303221⟩ := hs_20262.ix h_30322
                                              subst hr_30328
                                              refine sl hK (by decide) (wff hb_30306) rfl (r_indexAddr_R Try.underlying47 Try.sizeOf3 hv_30327 h_303220 h_303221 hK rfl rfl) fun a hK => ?_
                                              refine sl hK (by decide) (wff hb_30306) rfl (r_load Try.isAgg3 hK rfl ((hS.ra hRA nil_not).cell (hc_30329 0 _ rfl))) fun a hK => ?_
                                              obtain ⟨y_30330, h_30331, H⟩ := bind_some H
                                              obtain ⟨b_30333, c_30334, cs_30335, hv_30332, hr_30336, hc_30337, h_303310, h_303311⟩ := hS.row_ix (.tail _ (.head _)) hq_10133 rfl rfl h_30331
                                              subst hr_30336
                                              refine sl hK (by decide) (wff hb_30306) rfl (r_indexAddr_R Try.underlying59 Try.sizeOf4 hv_30332 h_303310 h_303311 hK rfl rfl) fun a hK => ?_
                                              refine sl hK (by decide) (wff hb_30306) rfl (r_load Try.isAgg4 hK rfl (hS.row_cell (.tail _ (.head _)) hv_30332 (hc_30337 0 _ rfl))) fun a hK => ?_
                                              refine sl hK (by decide) (wtt hb_30288) rfl (r_pick_f hb_30306 hK rfl rfl) fun a hK => ?_
                                              refine sl hK (by decide) rfl rfl (r_pick_t hb_30288 hK rfl rfl) fun a hK => ?_
                                              obtain ⟨y_30338, h_30339, H⟩ := bind_some H
                                              obtain ⟨b_30341, c_30342, cs_30343, hv_30340, hr_30344, hc_30345, h_303390, h_303391⟩ := hS.row_ix (.tail _ (.head _)) hq_10133 rfl rfl h_30339
                                              subst hr_30344
                                              refine sl hK (by decide) rfl rfl (r_indexAddr_R Try.underlying59 Try.sizeOf4 hv_30340 h_303390 h_303391 hK rfl rfl) fun a hK => ?_
                                              have hS := hS.pk1
                                              refine sl_store_row Try.sizeOf4 hv_30340 h_30339 rfl (show Ty.rep tyBool _ [.bool y_30330] y_30330 from rfl) hq_10133 rfl hS hK rfl rfl rfl rfl fun a w cs_30346 hq_30347 hS hK => ?_
                                              obtain ⟨z_30351, h_30349⟩ := ix_upd x_10134 y_30330 h_30299
                                              have hv_30350 : v_10131 = Value.slice (some ⟨b_30301, 0, none⟩) (upd x_10130 x_10134 y_30330).length c_30302 := by rw [upd_length]; exact hv_30300
                                              obtain ⟨z_30354, h_30352⟩ := ix_upd x_10134 y_30330 h_30331
                                              have hv_30353 : v_10131 = Value.slice (some ⟨b_30333, 0, none⟩) (upd x_10130 x_10134 y_30330).length c_30334 := by rw [upd_length]; exact hv_30332
                                              refine wpList_nil ?_
                                              have hS := hS.pk1
                                              exact ⟨(upd x_10130 x_10134 y_30330), _, _, H, hq_30347, hK.sub (all_cons rfl (all_cons rfl (all_cons rfl (all_cons rfl (all_cons rfl (all_cons rfl (all_nil))))))), hS.trunc 2⟩
                                          · rw [ifb_f hb_30288] at H
                                            refine sl_skip hK (by decide) (wtf hb_30288) rfl fun a hK => ?_
                                            refine sl_skip hK (by decide) (wtf hb_30288) rfl fun a hK => ?_
                                            refine sl_skip hK (by decide) (wtf hb_30288) rfl fun a hK => ?_
                                            refine sl_skip hK (by decide) (wtf hb_30288) rfl fun a hK => ?_
                                            refine sl_skip hK (by decide) (wtf hb_30288) rfl fun a hK => ?_
                                            refine sl_skip hK (by decide) (wtf hb_30288) rfl fun a hK => ?_
                                            refine sl_skip hK (by decide) (wtf hb_30288) rfl fun a hK => ?_
                                            refine sl_skip hK (by decide) (wtf hb_30288) rfl fun a hK => ?_
                                            refine sl_skip hK (by decide) rfl rfl fun a hK => ?_
                                            refine sl_skip hK (by decide) rfl rfl fun a hK => ?_
                                            refine sl_skip hK (by decide) rfl rfl fun a hK => ?_
                                            refine sl_skip hK (by decide) rfl rfl fun a hK => ?_
                                            refine sl_skip hK (by decide) rfl rfl fun a hK => ?_
                                            refine sl_skip hK (by decide) rfl rfl fun a hK => ?_
                                            refine sl_skip hK (by decide) rfl rfl fun a hK => ?_
                                            refine sl_skip hK (by decide) (wtf hb_30288) rfl fun a hK => ?_
                                            refine sl hK (by decide) rfl rfl (r_pick_f hb_30288 hK rfl rfl) fun a hK => ?_
                                            obtain ⟨y_30355, h_30356, H⟩ := bind_some H
                                            obtain ⟨b_30358, c_30359, cs_30360, hv_30357, hr_30361, hc_30362, h_303560, h_303561⟩ := hS.row_ix (.tail _ (.head _)) hq_10133 rfl rfl h_30356
                                            subst hr_30361
                                            refine sl hK (by decide) rfl rfl (r_indexAddr_R Try.underlying59 Try.sizeOf4 hv_30357 h_303560 h_303561 hK rfl rfl) fun a hK => ?_
                                            have hS := hS.pk1
                                            refine sl_store_row Try.sizeOf4 hv_30357 h_30356 rfl (show Ty.rep tyBool _ [.bool false] false from rfl) hq_10133 rfl hS hK rfl rfl rfl rfl fun a w cs_30363 hq_30364 hS hK => ?_
                                            refine wpList_nil ?_
                                            have hS := hS.pk1
                                            exact ⟨(upd x_10130 x_10134 false), _, _, H, hq_30364, hK.sub (all_cons rfl (all_cons rfl (all_cons rfl (all_cons rfl (all_cons rfl (all_cons rfl (all_nil))))))), hS.trunc 2⟩
                                        · rintro a w ⟨x_30283, v_30284, cs_30285, H, hq_30286, hK, hS⟩
                                          unfold ref15_Holds.j16 at H
                                          have hS := hS.pk1
                                          have hS := hS.pk1
                                          exact ⟨x_30283, _, _, H, hq_30286, hK.sub (all_cons rfl (all_cons rfl (all_cons rfl (all_cons rfl (all_cons rfl (all_cons rfl (all_nil))))))), hS⟩
                                      · rw [ifb_f hb_30203] at H
                                        refine wp_skip ?_
                                        have hS := hS.pk1
                                        have hS := hS.pk1
                                        exact ⟨x_10130, _, _, H, hq_10133, hK.sub (all_cons rfl (all_cons rfl (all_cons rfl (all_cons rfl (all_cons rfl (all_cons rfl (all_nil))))))), hS.trunc 2⟩
                                    · rintro a w ⟨x_30198, v_30199, cs_30200, H, hq_30201, hK, hS⟩
                                      unfold ref15_Holds.j15 at H
                                      have hS := hS.pk1
                                      have hS := hS.pk1
                                      exact ⟨x_30198, _, _, H, hq_30201, hK.sub (all_cons rfl (all_cons rfl (all_cons rfl (all_cons rfl (all_cons rfl (all_cons rfl (all_nil))))))), hS⟩
                                · rintro a w ⟨x_29866, v_29867, cs_29868, H, hq_29869, hK, hS⟩
                                  unfold ref15_Holds.j13 at H
                                  have hS := hS.pk1
                                  have hS := hS.pk1
                                  exact ⟨x_29866, _, _, H, hq_29869, hK.sub (all_cons rfl (all_cons rfl (all_cons rfl (all_cons rfl (all_cons rfl (all_cons rfl (all_nil))))))), hS⟩
                            · rintro a w ⟨x_29272, v_29273, cs_29274, H, hq_29275, hK, hS⟩
                              unfold ref15_Holds.j11 at H
                              have hS := hS.pk1
                              have hS := hS.pk1
                              exact ⟨x_29272, _, _, H, hq_29275, hK.sub (all_cons rfl (all_cons rfl (all_cons rfl (all_cons rfl (all_cons rfl (all_cons rfl (all_nil))))))), hS⟩
                        · rintro a w ⟨x_27950, v_27951, cs_27952, H, hq_27953, hK, hS⟩
                          unfold ref15_Holds.j9 at H
                          have hS := hS.pk1
                          have hS := hS.pk1
                          exact ⟨x_27950, _, _, H, hq_27953, hK.sub (all_cons rfl (all_cons rfl (all_cons rfl (all_cons rfl (all_cons rfl (all_cons rfl (all_nil))))))), hS⟩
                    · rintro a w ⟨x_25390, v_25391, cs_25392, H, hq_25393, hK, hS⟩
                      unfold ref15_Holds.j7 at H
                      refine wp_region_lit ?_
                      refine sl hK (by decide) rfl rfl (r_move hK rfl) fun a hK => ?_
                      refine sl hK (by decide) rfl rfl (r_ibin hK rfl rfl rfl) fun a hK => ?_
                      refine sl hK (by decide) rfl rfl (r_assign hK rfl) fun a hK => ?_
                      refine wpList_nil ?_
                      have hS := hS.pk1
                      have hS := hS.pk1
                      exact ⟨_, Nat.lt_succ_self _, x_25390, (IntKind.i64.wrap (x_10134 + 1)), _, _, H, hq_25393, hK.sub (all_cons rfl (all_cons rfl (all_cons rfl (all_cons rfl (all_cons rfl (all_cons rfl (all_nil))))))), hS⟩
        · rw [ifb_f hb_20251] at H
          refine wp_exit ?_
          refine wp_seq ?_
          refine wp_region_lit ?_
          refine sl hK (by decide) rfl rfl (r_move hK rfl) fun a hK => ?_
          refine sl hK (by decide) rfl rfl (r_move hK rfl) fun a hK => ?_
          obtain ⟨y_30366, h_30367, H⟩ := bind_some H
          obtain ⟨b_30369, c_30370, cs_30371, hv_30368, hr_30372, hc_30373, h_303670, h_303671⟩ := hS.row_ix (.tail _ (.head _)) hq_10133 rfl rfl h_30367
          subst hr_30372
          refine sl hK (by decide) rfl rfl (r_indexAddr_R Try.underlying59 Try.sizeOf4 hv_30368 h_303670 h_303671 hK rfl rfl) fun a hK => ?_
          refine sl hK (by decide) rfl rfl (r_load Try.isAgg4 hK rfl (hS.row_cell (.tail _ (.head _)) hv_30368 (hc_30373 0 _ rfl))) fun a hK => ?_
          refine sl hK (by decide) rfl rfl (r_assign hK rfl) fun a hK => ?_
          refine wpList_nil ?_
          obtain rfl := Option.some.inj H
          refine wp_ret ?_
          repeat (first | refine ret_then ?_ | refine ret_block ?_ | refine ret_scope ?_)
          exact ret_1 Try.results13 hK (rv_tmp hK rfl) ⟨rfl, hS.bel⟩

/-! ### slices.Clone[[]catchment/api.Col,catchment/api.Col]: function 33 -/
set_option maxHeartbeats 4000000 in
set_option maxRecDepth 100000 in
theorem slices_Clone_api_Col_api_Col.calls (a0 : List api_Col) {w0 : World} {R : Hp} {RA : Hp} {v0_0 : Value} (hRA : RA.sub w0) (hR : R.sub w0) (h0_0 : SlR ty_api_Col RA v0_0 a0) {r : List api_Col} (H : slices_Clone_api_Col_api_Col a0 = some r) : Calls Try.prog 33 #[v0_0] w0 (Rets fun v w' => ∃ (R' : Hp) (u0 : Value) (cu0 : List Value), v = u0 ∧ St [] w0 w' R' [.row 57 2 u0 r.length cu0] ∧ RLe [] w0 R R' ∧ Reps ty_api_Col R' cu0 r) := by
  unfold slices_Clone_api_Col_api_Col at H
  rcases SlR.nilcase h0_0 with ⟨hn, hx⟩ | ⟨ad_, m_, c_, hn⟩
  · subst hx
    have H : some ([] : List api_Col) = some r := by simpa [apd] using H
    refine enter (args := [v0_0]) Try.func33 rfl Try.ntmps33 rfl fun a hK => ?_
    have hS := St.init hR
    have hRL := RLe.refl (M := []) w0 R
    refine wp_seq ?_
    refine wp_region_lit ?_
    refine sl hK (by decide) rfl rfl (r_assign hK rfl) fun a hK => ?_
    refine wpList_nil ?_
    refine wp_seq ?_
    refine wp_seq ?_
    refine wp_region_lit ?_
    refine sl hK (by decide) rfl rfl (r_move hK rfl) fun a hK => ?_
    refine sl hK (by decide) rfl rfl (r_sleqN Try.underlying25 hn hK rfl rfl) fun a hK => ?_
    refine wpList_nil ?_
    refine wp_cond_true (hK.ev rfl) ?_
    refine wp_seq ?_
    refine wp_region_lit ?_
    refine sl hK (by decide) rfl rfl (r_assign hK rfl) fun a hK => ?_
    refine wpList_nil ?_
    have hS := hS.row_nil 57 2
    have hq_11 : Reps ty_api_Col R [] ([] : List api_Col) := Reps.nil _ _
    obtain rfl := Option.some.inj H
    refine wp_ret ?_
    repeat (first | refine ret_then ?_ | refine ret_block ?_ | refine ret_scope ?_)
    exact ret_1 Try.results33 hK (rv_tmp hK rfl) ⟨_, rfl, _, _, _, rfl, hS, hRL, hq_11⟩
  · refine enter (args := [v0_0]) Try.func33 rfl Try.ntmps33 rfl fun a hK => ?_
    have hS := St.init hR
    have hRL := RLe.refl (M := []) w0 R
    refine wp_seq ?_
    refine wp_region_lit ?_
    refine sl hK (by decide) rfl rfl (r_assign hK rfl) fun a hK => ?_
    refine wpList_nil ?_
    refine wp_seq ?_
    refine wp_seq ?_
    refine wp_region_lit ?_
    refine sl hK (by decide) rfl rfl (r_move hK rfl) fun a hK => ?_
    refine sl hK (by decide) rfl rfl (r_sleqS Try.underlying25 hn hK rfl rfl) fun a hK => ?_
    refine wpList_nil ?_
    refine wp_cond_false (hK.ev rfl) ?_
    refine wp_skip ?_
    refine wp_seq ?_
    refine wp_region_lit ?_
    refine sl_buildSliceC (zc := [.string (⟨#[]⟩ : ByteArray), .int .i64 0]) (zs := []) (ps := []) (c := []) Try.underlying25 Try.sizeOf57 Try.zeroValue57 rfl pc_nil rfl rfl (by decide) (by kernel_rfl) rfl hS hK (by decide) rfl fun a w b_1 hS hK => ?_
    refine sl hK (by decide) rfl rfl (r_move hK rfl) fun a hK => ?_
    obtain ⟨y_4, h_5, H⟩ := bind_some H
    have hS := hS.row_lit (size := 2) (m := 0) rfl (by decide)
    have hq_3 : Reps ty_api_Col R [] ([] : List api_Col) := (Reps.nil _ _)
    refine sl_append_A elT25 (by decide) rfl (fun _ _ _ _ h => h) (hS.ra hRA nil_not) hq_3 rfl h0_0 h_5 hS hK (by decide) rfl rfl rfl fun a w v_6 cs_7 hq_8 hS hK => ?_
    refine sl hK (by decide) rfl rfl (r_assign hK rfl) fun a hK => ?_
    refine wpList_nil ?_
    obtain rfl := Option.some.inj H
    refine wp_ret ?_
    repeat (first | refine ret_then ?_ | refine ret_block ?_ | refine ret_scope ?_)
    exact ret_1 Try.results33 hK (rv_tmp hK rfl) ⟨_, rfl, _, _, _, rfl, hS, hRL, hq_8⟩

/-! ### slices.Clone[[]catchment/api.Value,catchment/api.Value]: function 34 -/
set_option maxHeartbeats 4000000 in
set_option maxRecDepth 100000 in
theorem slices_Clone_api_Value_api_Value.calls (a0 : List api_Value) {w0 : World} {R : Hp} {RA : Hp} {v0_0 : Value} (hRA : RA.sub w0) (hR : R.sub w0) (h0_0 : SlR ty_api_Value RA v0_0 a0) {r : List api_Value} (H : slices_Clone_api_Value_api_Value a0 = some r) : Calls Try.prog 34 #[v0_0] w0 (Rets fun v w' => ∃ (R' : Hp) (u0 : Value) (cu0 : List Value), v = u0 ∧ St [] w0 w' R' [.row 39 11 u0 r.length cu0] ∧ RLe [] w0 R R' ∧ Reps ty_api_Value R' cu0 r) := by
  unfold slices_Clone_api_Value_api_Value at H
  rcases SlR.nilcase h0_0 with ⟨hn, hx⟩ | ⟨ad_, m_, c_, hn⟩
  · subst hx
    have H : some ([] : List api_Value) = some r := by simpa [apd] using H
    refine enter (args := [v0_0]) Try.func34 rfl Try.ntmps34 rfl fun a hK => ?_
    have hS := St.init hR
    have hRL := RLe.refl (M := []) w0 R
    refine wp_seq ?_
    refine wp_region_lit ?_
    refine sl hK (by decide) rfl rfl (r_assign hK rfl) fun a hK => ?_
    refine wpList_nil ?_
    refine wp_seq ?_
    refine wp_seq ?_
    refine wp_region_lit ?_
    refine sl hK (by decide) rfl rfl (r_move hK rfl) fun a hK => ?_
    refine sl hK (by decide) rfl rfl (r_sleqN Try.underlying33 hn hK rfl rfl) fun a hK => ?_
    refine wpList_nil ?_
    refine wp_cond_true (hK.ev rfl) ?_
    refine wp_seq ?_
    refine wp_region_lit ?_
    refine sl hK (by decide) rfl rfl (r_assign hK rfl) fun a hK => ?_
    refine wpList_nil ?_
    have hS := hS.row_nil 39 11
    have hq_11 : Reps ty_api_Value R [] ([] : List api_Value) := Reps.nil _ _
    obtain rfl := Option.some.inj H
    refine wp_ret ?_
    repeat (first | refine ret_then ?_ | refine ret_block ?_ | refine ret_scope ?_)
    exact ret_1 Try.results34 hK (rv_tmp hK rfl) ⟨_, rfl, _, _, _, rfl, hS, hRL, hq_11⟩
  · refine enter (args := [v0_0]) Try.func34 rfl Try.ntmps34 rfl fun a hK => ?_
    have hS := St.init hR
    have hRL := RLe.refl (M := []) w0 R
    refine wp_seq ?_
    refine wp_region_lit ?_
    refine sl hK (by decide) rfl rfl (r_assign hK rfl) fun a hK => ?_
    refine wpList_nil ?_
    refine wp_seq ?_
    refine wp_seq ?_
    refine wp_region_lit ?_
    refine sl hK (by decide) rfl rfl (r_move hK rfl) fun a hK => ?_
    refine sl hK (by decide) rfl rfl (r_sleqS Try.underlying33 hn hK rfl rfl) fun a hK => ?_
    refine wpList_nil ?_
    refine wp_cond_false (hK.ev rfl) ?_
    refine wp_skip ?_
    refine wp_seq ?_
    refine wp_region_lit ?_
    refine sl_buildSliceC (zc := [.int .i64 0, .int .i64 0, .string (⟨#[]⟩ : ByteArray), .int .i64 0, .int .i64 0, .int .i64 0, .int .i64 0, .int .i64 0, .int .i64 0, .int .i64 0, .int .i64 0]) (zs := []) (ps := []) (c := []) Try.underlying33 Try.sizeOf39 Try.zeroValue39 rfl pc_nil rfl rfl (by decide) (by kernel_rfl) rfl hS hK (by decide) rfl fun a w b_1 hS hK => ?_
    refine sl hK (by decide) rfl rfl (r_move hK rfl) fun a hK => ?_
    obtain ⟨y_4, h_5, H⟩ := bind_some H
    have hS := hS.row_lit (size := 11) (m := 0) rfl (by decide)
    have hq_3 : Reps ty_api_Value R [] ([] : List api_Value) := (Reps.nil _ _)
    refine sl_append_A elT33 (by decide) rfl (fun _ _ _ _ h => h) (hS.ra hRA nil_not) hq_3 rfl h0_0 h_5 hS hK (by decide) rfl rfl rfl fun a w v_6 cs_7 hq_8 hS hK => ?_
    refine sl hK (by decide) rfl rfl (r_assign hK rfl) fun a hK => ?_
    refine wpList_nil ?_
    obtain rfl := Option.some.inj H
    refine wp_ret ?_
    repeat (first | refine ret_then ?_ | refine ret_block ?_ | refine ret_scope ?_)
    exact ret_1 Try.results34 hK (rv_tmp hK rfl) ⟨_, rfl, _, _, _, rfl, hS, hRL, hq_8⟩

/-! ### catchment/pred.Where: function 14 -/
set_option maxHeartbeats 4000000 in
set_option maxRecDepth 100000 in
theorem pred_Where.calls (a0 : api_Table) (a1 : api_Query) (a2 : Int) {w0 : World} {R : Hp} {RA : Hp} {v0_0 : Value} {v0_1 : Value} {v1_0 : Value} (hRA : RA.sub w0) (hR : R.sub w0) (h0_0 : SlR ty_api_Col RA v0_0 a0.Cols) (h0_1 : SlR (tySl ty_api_Value) RA v0_1 a0.Rows) (h1_0 : SlR ty_api_Node RA v1_0 a1.N) (hG : GF RA) {r : api_Table} (H : pred_Where a0 a1 a2 = some r) : Calls Try.prog 14 #[.agg #[v0_0, v0_1], .agg #[v1_0], .int .i64 a2] w0 (Rets fun v w' => ∃ (R' : Hp) (u0 : Value) (cu0 : List Value) (u1 : Value) (cu1 : List Value), v = .agg #[u0, u1] ∧ St [] w0 w' R' [.row 57 2 u0 r.Cols.length cu0, .row 33 1 u1 r.Rows.length cu1] ∧ RLe [] w0 R R' ∧ Reps ty_api_Col R' cu0 r.Cols ∧ Reps (tySl ty_api_Value) R' cu1 r.Rows ∧ Apart R R' cu1) := by
  unfold pred_Where at H
  refine enter (args := [.agg #[v0_0, v0_1], .agg #[v1_0], .int .i64 a2]) Try.func14 rfl Try.ntmps14 rfl fun a hK => ?_
  have hS := St.init hR
  have hRL := RLe.refl (M := []) w0 R
  refine wp_seq ?_
  refine wp_region_lit ?_
  refine sl_box hS hK (by decide) rfl rfl (c := [v0_0, v0_1]) rfl fun a w b_1 hS hK => ?_
  refine sl_box hS hK (by decide) rfl rfl (c := [v1_0]) rfl fun a w b_2 hS hK => ?_
  refine sl_alloc Try.zeroValue28 hS hK (by decide) rfl rfl fun a w b_3 hS hK => ?_
  refine wpList_nil ?_
  refine wp_seq ?_
  refine wp_region_lit ?_
  refine sl hK (by decide) rfl rfl (r_fieldAddr Try.underlying28 rfl Try.sizeOf25 hK rfl) fun a hK => ?_
  refine sl hK (by decide) rfl rfl (r_load Try.isAgg25 hK rfl (hS.cell (.tail _ (.tail _ (.head _))) rfl)) fun a hK => ?_
  obtain ⟨y_4, h_5, H⟩ := bind_some H
  refine sl_call Try.call33 hK (by decide) rfl rfl rfl (slices_Clone_api_Col_api_Col.calls a0.Cols (lentOf_sub [] _) hS.sub (h0_0.mono (hS.raLe0 hRA nil_not)) h_5) fun a v_ w hv_ hK => ?_
  obtain ⟨R_6, v_9, cs_10, hv_, hr_, hl_7, hq_11⟩ := hv_
  have hv_ := hv_.symm
  subst hv_
  obtain ⟨hS, hl_7⟩ := hS.sp0.back hr_ hl_7
  have hS := hS.un1
  have hRL := hRL.trans hl_7
  have ho_12 := hS.row_one (.head _)
  refine sl hK (by decide) rfl rfl (r_buildC (ps := [(0, v_9)]) (c := [v_9, .slice none 0 0]) Try.underlying28 Try.zeroValue28 places28 hK rfl (pc_cons (cells1 ho_12) pc_nil) rfl rfl) fun a hK => ?_
  refine sl_alloc Try.zeroValue28 hS hK (by decide) rfl rfl fun a w b_13 hS hK => ?_
  refine sl_storeA (vs := [v_9, .slice none 0 0]) (c' := [v_9, .slice none 0 0]) Try.sizeOf28 hS hK rfl rfl rfl rfl (all_cons (hS.row_one (.tail _ (.head _))) (all_cons rfl (all_nil))) (Nat.le_of_ble_eq_true rfl) rfl fun a w hS hK => ?_
  refine wpList_nil ?_
  refine wp_seq ?_
  refine wp_seq ?_
  refine wp_region_lit ?_
  refine sl hK (by decide) rfl rfl (r_fieldAddr Try.underlying28 rfl Try.sizeOf26 hK rfl) fun a hK => ?_
  refine sl hK (by decide) rfl rfl (r_load Try.isAgg26 hK rfl (hS.cell (.tail _ (.tail _ (.tail _ (.tail _ (.head _))))) rfl)) fun a hK => ?_
  refine sl hK (by decide) rfl rfl (r_len_R Try.underlying26 h0_1 hK rfl) fun a hK => ?_
  refine sl hK (by decide) rfl rfl (r_move hK rfl) fun a hK => ?_
  refine wpList_nil ?_
  refine wp_block ?_
  refine wp_loop_k (fun k_l0 a w => ∃ (x_146 : List (List api_Value)) (x_151 : Int) (R_152 : Hp) (v_147 : Value) (cs_148 : List Value), pred_Where.l0 a0 a1 a2 y_4 k_l0 x_146 x_151 = some r ∧ RLe [] w0 R_6 R_152 ∧ Reps (tySl ty_api_Value) R_152 cs_148 x_146 ∧ Apart R R_152 cs_148 ∧ Kn 36 a [(2, .int .i64 a2), (3, .pointer (some ⟨b_1, 0, none⟩)), (4, .pointer (some ⟨b_2, 0, none⟩)), (6, .pointer (some ⟨b_3, 0, none⟩)), (7, .pointer (some ⟨b_13, 0, none⟩)), (15, v0_1), (16, .int .i64 (a0.Rows.length : Int)), (17, .int .i64 x_151)] ∧ St [] w0 w R_152 [.cells b_1 [v0_0, v0_1] 28, .cells b_2 [v1_0] 24, .cells b_3 [.slice none 0 0, .slice none 0 0] 28, .row 57 2 v_9 y_4.length cs_10, .row 33 1 v_147 x_146.length cs_148, .cells b_13 [v_9, v_147] 28]) (((a0.Rows.length : Int) - 0).toNat + 1) ?_ ?_
  · have hS := hS.row_nil 33 1
    have hq_267 : Reps (tySl ty_api_Value) R_6 [] ([] : List (List api_Value)) := Reps.nil _ _
    have hS := hS.pk1
    have hS := hS.pk1
    have hS := hS.pk2
    have hS := hS.pk3
    have hS := hS.pk4
    have hS := hS.pk5
    exact ⟨[], 0, _, _, _, H, (RLe.refl _ _), hq_267, (Apart.nil _ _), hK.sub (all_cons rfl (all_cons rfl (all_cons rfl (all_cons rfl (all_cons rfl (all_cons rfl (all_cons rfl (all_cons rfl (all_nil))))))))), hS⟩
  · rintro k_l0 a w ⟨x_146, x_151, R_152, v_147, cs_148, H, hl_153, hq_149, hap_150, hK, hS⟩
    cases k_l0 with
    | zero => cases H
    | succ k_l0 =>
    rw [pred_Where.l0.eq_2] at H
    have hRL := hRL.trans hl_153
    refine wp_seq ?_
    refine wp_region_lit ?_
    refine sl hK (by decide) rfl rfl (r_ibin hK rfl rfl rfl) fun a hK => ?_
    refine wpList_nil ?_
    refine wp_seq ?_
    refine wp_cond_split (hK.ev rfl) (fun (hb_268 : (decide (x_151 < (a0.Rows.length : Int))) = true) => ?_) (fun (hb_268 : (decide (x_151 < (a0.Rows.length : Int))) = false) => ?_)
    · rw [ifb_t hb_268] at H
      refine wp_skip ?_
      refine wp_seq ?_
      refine wp_block ?_
      refine wp_seq ?_
      refine wp_region_lit ?_
      obtain ⟨y_269, h_270, H⟩ := bind_some H
      obtain ⟨b_271, o_272, c_273, cs_274, hv_275, hr_276, hc_277, h_2700, h_2701⟩ := h0_1.ix h_270
      obtain ⟨v_278, rfl, hs_279⟩ := hr_276
      refine sl hK (by decide) rfl rfl (r_indexAddr_R Try.underlying26 Try.sizeOf33 hv_275 h_2700 h_2701 hK rfl rfl) fun a hK => ?_
      refine sl hK (by decide) rfl rfl (r_load Try.isAgg33 hK rfl ((hS.ra hRA nil_not).cell (hc_277 0 _ rfl))) fun a hK => ?_
      refine sl hK (by decide) rfl rfl (r_assign hK rfl) fun a hK => ?_
      refine wpList_nil ?_
      refine wp_seq ?_
      refine wp_region_lit ?_
      refine sl hK (by decide) rfl rfl (r_loadA (cs := [v1_0]) Try.isAgg24 Try.sizeOf24 rfl hK rfl (hS.cells_of (m := 1) (.tail _ (.head _)) rfl)) fun a hK => ?_
      refine sl hK (by decide) rfl rfl (r_move hK rfl) fun a hK => ?_
      refine sl hK (by decide) rfl rfl (r_fieldAddr Try.underlying28 rfl Try.sizeOf25 hK rfl) fun a hK => ?_
      refine sl hK (by decide) rfl rfl (r_load Try.isAgg25 hK rfl (hS.cell (.head _) rfl)) fun a hK => ?_
      refine sl hK (by decide) rfl rfl (r_move hK rfl) fun a hK => ?_
      obtain ⟨y_280, h_281, H⟩ := bind_some H
      refine sl_callV Try.call12 hS hK (by decide) rfl rfl rfl (pred_Holds.calls a1 a2 a0.Cols y_269 (lentOf_sub [] _) (h1_0.mono (hS.raLe0 hRA nil_not)) (h0_0.mono (hS.raLe0 hRA nil_not)) (hs_279.mono (hS.raLe0 hRA nil_not)) (GF.mono (hS.raLe0 hRA nil_not) hG) h_281) fun a w hS hK => ?_
      refine wpList_nil ?_
      refine wp_mid (fun a w => ∃ (x_328 : List (List api_Value)) (R_333 : Hp) (v_329 : Value) (cs_330 : List Value), pred_Where.j1 (pred_Where.l0 a0 a1 a2 y_4 k_l0) a0 x_151 x_328 = some r ∧ RLe [] w0 R_152 R_333 ∧ Reps (tySl ty_api_Value) R_333 cs_330 x_328 ∧ Apart R R_333 cs_330 ∧ Kn 36 a [(2, .int .i64 a2), (3, .pointer (some ⟨b_1, 0, none⟩)), (4, .pointer (some ⟨b_2, 0, none⟩)), (6, .pointer (some ⟨b_3, 0, none⟩)), (7, .pointer (some ⟨b_13, 0, none⟩)), (15, v0_1), (16, .int .i64 (a0.Rows.length : Int)), (17, .int .i64 x_151)] ∧ St [] w0 w R_333 [.cells b_1 [v0_0, v0_1] 28, .cells b_2 [v1_0] 24, .cells b_3 [.slice none 0 0, .slice none 0 0] 28, .row 57 2 v_9 y_4.length cs_10, .row 33 1 v_329 x_328.length cs_330, .cells b_13 [v_9, v_329] 28]) ?_ ?_
      · refine wp_cond_split (hK.ev rfl) (fun (hb_335 : y_280 = true) => ?_) (fun (hb_335 : y_280 = false) => ?_)
        · rw [ifb_t hb_335] at H
          refine parT_region (C := fun w => St [] w0 w R_152 [.cells b_1 [v0_0, v0_1] 28, .cells b_2 [v1_0] 24, .cells b_3 [.slice none 0 0, .slice none 0 0] 28, .row 57 2 v_9 y_4.length cs_10, .row 33 1 v_147 x_146.length cs_148, .cells b_13 [v_9, v_147] 28]) 5 [(0, true), (1, true), (2, true), (3, false), (4, false)] mixed (by kernel_rfl) hS (fun w hS => hS) fun w hS => ?_
          refine sp (k := 0) rfl hK (by decide) rfl rfl (fun w hS => r_fieldAddr Try.underlying28 rfl Try.sizeOf26 hK rfl) fun a hK => ?_
          refine sp (k := 1) rfl hK (by decide) rfl rfl (fun w hS => r_load Try.isAgg26 hK rfl (hS.cell (.tail _ (.tail _ (.tail _ (.tail _ (.tail _ (.head _)))))) rfl)) fun a hK => ?_
          refine sp (k := 2) rfl hK (by decide) rfl rfl (fun w hS => r_move hK rfl) fun a hK => ?_
          refine spw (k := 3) rfl rfl hS ?_
          obtain ⟨y_358, h_359, H⟩ := bind_some H
          refine sl_call Try.call34 hK (by decide) rfl rfl rfl (slices_Clone_api_Value_api_Value.calls y_269 (lentOf_sub [] _) hS.sub (hs_279.mono (hS.raLe0 hRA nil_not)) h_359) fun a v_ w hv_ hK => ?_
          obtain ⟨R_360, v_363, cs_364, hv_, hr_, hl_361, hq_365⟩ := hv_
          have hv_ := hv_.symm
          subst hv_
          obtain ⟨hS, hl_361⟩ := hS.sp0.back hr_ hl_361
          have hS := hS.un1
          have hRL := hRL.trans hl_361
          refine parK_nil ((hS.pk6.pk6.pk6.pk6.pk6.pk6.trunc 6).lower hl_361.le) ?_
          refine spw (k := 4) rfl rfl ((hS.pk6.pk6.pk6.pk6.pk6.pk6.trunc 6).lower hl_361.le) ?_
          have ho_366 := hS.row_one (.head _)
          refine sl_buildSliceF (zc := [.slice none 0 0]) (ps := [(0, v_363)]) (c := [v_363]) [[v_363]] Try.underlying26 Try.sizeOf33 Try.zeroValue33 rfl (pc_cons (cells1 ho_366) pc_nil) rfl rfl (Nat.le_of_ble_eq_true rfl) rfl (all_cons rfl (all_nil)) rfl hS hK (by decide) rfl fun a w b_367 hS hK => ?_
          refine parK_nil ((hS.pk7.pk7.pk7.pk7.pk7.pk7.trunc 6).lower hl_361.le) ?_
          refine thenL_nil ?_
          have hS := hS.pk6
          have hS := hS.pk2
          obtain ⟨R_368, hS, hl_370, hs_369, hn_371⟩ := hS.fz_rowN hq_365 rfl rfl
          have hRL := hRL.trans hl_370
          obtain ⟨y_372, h_373, H⟩ := bind_some H
          refine sl_append_LA (ty := (tySl ty_api_Value)) (ys := [y_358]) elT26 (by decide) rfl (hq_149.mono (hl_361.le.trans hl_370.le)) rfl (Reps.cons (show Ty.rep (tySl ty_api_Value) _ [v_363] y_358 from ⟨_, rfl, hs_369⟩) (Reps.nil _ _)) rfl h_373 hS hK (by decide) rfl rfl rfl fun a w v_374 cs_375 hcq_378 hq_376 hS hK => ?_
          have hap_379 : Apart R R_368 cs_375 := by rw [hcq_378]; exact (Apart.app (hap_150.mono hl_361.le) (hl_7.le.trans (hl_153.le.trans hl_361.le)) hl_370.le hn_371)
          refine sl hK (by decide) rfl rfl (r_fieldAddr Try.underlying28 rfl Try.sizeOf26 hK rfl) fun a hK => ?_
          have hS := hS.pk5
          refine sl_store1 (c' := [v_9, v_374]) Try.sizeOf26 hS hK rfl rfl rfl (hS.row_one (.tail _ (.head _))) (Nat.le_of_ble_eq_true rfl) rfl fun a w hS hK => ?_
          refine wpList_nil (NoP_nil ?_)
          have hS := hS.pk1
          have hS := hS.pk5
          have hS := hS.pk5
          have hS := hS.pk5
          have hS := hS.pk5
          exact ⟨y_372, _, _, _, H, (hl_361.trans hl_370), hq_376, hap_379, hK.sub (all_cons rfl (all_cons rfl (all_cons rfl (all_cons rfl (all_cons rfl (all_cons rfl (all_cons rfl (all_cons rfl (all_nil))))))))), hS⟩
        · rw [ifb_f hb_335] at H
          refine wp_skip ?_
          have hS := hS.pk5
          have hS := hS.pk5
          have hS := hS.pk5
          have hS := hS.pk5
          have hS := hS.pk5
          have hS := hS.pk5
          exact ⟨x_146, _, _, _, H, (RLe.refl _ _), hq_149, hap_150, hK.sub (all_cons rfl (all_cons rfl (all_cons rfl (all_cons rfl (all_cons rfl (all_cons rfl (all_cons rfl (all_cons rfl (all_nil))))))))), hS⟩
      · rintro a w ⟨x_328, R_333, v_329, cs_330, H, hl_334, hq_331, hap_332, hK, hS⟩
        unfold pred_Where.j1 at H
        have hRL := hRL.trans hl_334
        refine wp_region_lit ?_
        refine sl hK (by decide) rfl rfl (r_ibin hK rfl rfl rfl) fun a hK => ?_
        refine sl hK (by decide) rfl rfl (r_move hK rfl) fun a hK => ?_
        refine wpList_nil ?_
        have hS := hS.pk5
        have hS := hS.pk5
        have hS := hS.pk5
        have hS := hS.pk5
        have hS := hS.pk5
        have hS := hS.pk5
        exact ⟨_, Nat.lt_succ_self _, x_328, (IntKind.i64.wrap (x_151 + 1)), _, _, _, H, (hl_153.trans hl_334), hq_331, hap_332, hK.sub (all_cons rfl (all_cons rfl (all_cons rfl (all_cons rfl (all_cons rfl (all_cons rfl (all_cons rfl (all_cons rfl (all_nil))))))))), hS⟩
    · rw [ifb_f hb_268] at H
      refine wp_exit ?_
      refine wp_seq ?_
      refine wp_region_lit ?_
      refine sl hK (by decide) rfl rfl (r_loadA (cs := [v_9, v_147]) Try.isAgg28 Try.sizeOf28 rfl hK rfl (hS.cells_of (m := 2) (.tail _ (.tail _ (.tail _ (.tail _ (.tail _ (.head _)))))) rfl)) fun a hK => ?_
      have hS := hS.pk2
      refine sl_storeA (vs := [v_9, v_147]) (c' := [v_9, v_147]) Try.sizeOf28 hS hK rfl rfl rfl rfl (all_cons (hS.row_one (.tail _ (.tail _ (.tail _ (.head _))))) (all_cons (hS.row_one (.tail _ (.tail _ (.tail _ (.tail _ (.head _)))))) (all_nil))) (Nat.le_of_ble_eq_true rfl) rfl fun a w hS hK => ?_
      refine wpList_nil ?_
      obtain rfl := Option.some.inj H
      refine wp_ret ?_
      repeat (first | refine ret_then ?_ | refine ret_block ?_ | refine ret_scope ?_)
      exact ret_1 Try.results14 hK (rv_cell (c := [v_9, v_147]) Try.isAgg28 Try.sizeOf28 hS (.head _) rfl hK rfl) ⟨_, rfl, _, _, _, _, _, rfl, (hS.pk4.pk4.trunc 2), hRL, (hq_11.mono hl_153.le), hq_149, hap_150⟩

/-! ### catchment/catchmentref02.SameCols: function 35 -/
set_option maxHeartbeats 4000000 in
set_option maxRecDepth 100000 in
theorem ref02_SameCols.calls (a0 : List api_Col) (a1 : List api_Col) {w0 : World} {RA : Hp} {v0_0 : Value} {v1_0 : Value} (hRA : RA.sub w0) (h0_0 : SlR ty_api_Col RA v0_0 a0) (h1_0 : SlR ty_api_Col RA v1_0 a1) {r : Bool} (H : ref02_SameCols a0 a1 = some r) : CallsV Try.prog 35 #[v0_0, v1_0] w0 (.bool r) := by
  unfold ref02_SameCols at H
  refine enter (args := [v0_0, v1_0]) Try.func35 rfl Try.ntmps35 rfl fun a hK => ?_
  have hS := St.init (R := fun _ => none) (w := w0) (fun _ _ h => by cases h)
  have hRL := RLe.refl (M := []) w0 (fun _ => none)
  refine wp_seq ?_
  refine wp_region_lit ?_
  refine sl hK (by decide) rfl rfl (r_assign hK rfl) fun a hK => ?_
  refine wpList_nil ?_
  refine wp_seq ?_
  refine wp_seq ?_
  refine wp_region_lit ?_
  refine sl hK (by decide) rfl rfl (r_move hK rfl) fun a hK => ?_
  refine sl hK (by decide) rfl rfl (r_len_R Try.underlying25 h0_0 hK rfl) fun a hK => ?_
  refine sl hK (by decide) rfl rfl (r_move hK rfl) fun a hK => ?_
  refine sl hK (by decide) rfl rfl (r_len_R Try.underlying25 h1_0 hK rfl) fun a hK => ?_
  refine sl hK (by decide) rfl rfl (r_ibin hK rfl rfl rfl) fun a hK => ?_
  refine wpList_nil ?_
  refine wp_cond_split (hK.ev rfl) (fun (hb_1 : ((a0.length : Int) != (a1.length : Int)) = true) => ?_) (fun (hb_1 : ((a0.length : Int) != (a1.length : Int)) = false) => ?_)
  · rw [ifb_t hb_1] at H
    refine wp_seq ?_
    refine wp_region_lit ?_
    refine sl hK (by decide) rfl rfl (r_assign hK rfl) fun a hK => ?_
    refine wpList_nil ?_
    obtain rfl := Option.some.inj H
    refine wp_ret ?_
    repeat (first | refine ret_then ?_ | refine ret_block ?_ | refine ret_scope ?_)
    exact ret_1 Try.results35 hK (rv_tmp hK rfl) ⟨rfl, hS.bel⟩
  · rw [ifb_f hb_1] at H
    refine wp_skip ?_
    refine wp_seq ?_
    refine wp_seq ?_
    refine wp_region_lit ?_
    refine sl hK (by decide) rfl rfl (r_assign hK rfl) fun a hK => ?_
    refine wpList_nil ?_
    refine wp_block ?_
    refine wp_loop_k (fun k_l0 a w => ∃ (x_41 : Int), ref02_SameCols.l0 a0 a1 k_l0 x_41 = some r ∧ Kn 26 a [(0, v0_0), (1, v1_0), (5, .int .i64 x_41)] ∧ St [] w0 w (fun _ => none) []) (((a0.length : Int) - 0).toNat + 1) ?_ ?_
    · exact ⟨0, H, hK.sub (all_cons rfl (all_cons rfl (all_cons rfl (all_nil)))), hS⟩
    · rintro k_l0 a w ⟨x_41, H, hK, hS⟩
      cases k_l0 with
      | zero => cases H
      | succ k_l0 =>
      rw [ref02_SameCols.l0.eq_2] at H
      refine wp_seq ?_
      refine wp_seq ?_
      refine wp_region_lit ?_
      refine sl hK (by decide) rfl rfl (r_move hK rfl) fun a hK => ?_
      refine sl hK (by decide) rfl rfl (r_move hK rfl) fun a hK => ?_
      refine sl hK (by decide) rfl rfl (r_len_R Try.underlying25 h0_0 hK rfl) fun a hK => ?_
      refine sl hK (by decide) rfl rfl (r_ibin hK rfl rfl rfl) fun a hK => ?_
      refine wpList_nil ?_
      refine wp_cond_split (hK.ev rfl) (fun (hb_81 : (decide (x_41 < (a0.length : Int))) = true) => ?_) (fun (hb_81 : (decide (x_41 < (a0.length : Int))) = false) => ?_)
      · rw [ifb_t hb_81] at H
        refine wp_skip ?_
        refine wp_seq ?_
        refine wp_block ?_
        refine wp_seq ?_
        refine par_region (C := fun w => St [] w0 w (fun _ => none) []) [(0, true), (1, true), (2, true), (3, true), (4, true), (5, true), (6, true), (7, true), (8, true)] mixed (by kernel_rfl) hS (fun w hS => hS) fun w hS => ?_
        refine sp (k := 0) rfl hK (by decide) rfl rfl (fun w hS => r_move hK rfl) fun a hK => ?_
        refine sp (k := 1) rfl hK (by decide) rfl rfl (fun w hS => r_move hK rfl) fun a hK => ?_
        obtain ⟨y_100, h_101, H⟩ := bind_some H
        obtain ⟨b_102, o_103, c_104, cs_105, hv_106, hr_107, hc_108, h_1010, h_1011⟩ := h0_0.ix h_101
        subst hr_107
        refine sp (k := 2) rfl hK (by decide) rfl rfl (fun w hS => r_indexAddr_R Try.underlying25 Try.sizeOf57 hv_106 h_1010 h_1011 hK rfl rfl) fun a hK => ?_
        refine sp (k := 3) rfl hK (by decide) rfl rfl (fun w hS => r_loadA (cs := [.string y_100.Name, .int .i64 y_100.Kind]) Try.isAgg57 Try.sizeOf57 rfl hK rfl (fun j v hv => (hS.ra hRA nil_not).cell (hc_108 j v hv))) fun a hK => ?_
        refine sp (k := 4) rfl hK (by decide) rfl rfl (fun w hS => r_move hK rfl) fun a hK => ?_
        refine sp (k := 5) rfl hK (by decide) rfl rfl (fun w hS => r_move hK rfl) fun a hK => ?_
        obtain ⟨y_109, h_110, H⟩ := bind_some H
        obtain ⟨b_111, o_112, c_113, cs_114, hv_115, hr_116, hc_117, h_1100, h_1101⟩ := h1_0.ix h_110
        subst hr_116
        refine sp (k := 6) rfl hK (by decide) rfl rfl (fun w hS => r_indexAddr_R Try.underlying25 Try.sizeOf57 hv_115 h_1100 h_1101 hK rfl rfl) fun a hK => ?_
        refine sp (k := 7) rfl hK (by decide) rfl rfl (fun w hS => r_loadA (cs := [.string y_109.Name, .int .i64 y_109.Kind]) Try.isAgg57 Try.sizeOf57 rfl hK rfl (fun j v hv => (hS.ra hRA nil_not).cell (hc_117 j v hv))) fun a hK => ?_
        refine sp (k := 8) rfl hK (by decide) rfl rfl (fun w hS => r_sne (by kernel_rfl) (eqs57 y_100 y_109) hK rfl rfl) fun a hK => ?_
        refine wpPar_nil (NoP_nil ?_)
        refine wp_cond_split (hK.ev rfl) (fun (hb_118 : (!decide (y_100 = y_109)) = true) => ?_) (fun (hb_118 : (!decide (y_100 = y_109)) = false) => ?_)
        · rw [ifb_t hb_118] at H
          refine wp_seq ?_
          refine wp_region_lit ?_
          refine sl hK (by decide) rfl rfl (r_assign hK rfl) fun a hK => ?_
          refine wpList_nil ?_
          obtain rfl := Option.some.inj H
          refine wp_ret ?_
          repeat (first | refine ret_then ?_ | refine ret_block ?_ | refine ret_scope ?_)
          exact ret_1 Try.results35 hK (rv_tmp hK rfl) ⟨rfl, hS.bel⟩
        · rw [ifb_f hb_118] at H
          refine wp_skip ?_
          refine wp_region_lit ?_
          refine sl hK (by decide) rfl rfl (r_move hK rfl) fun a hK => ?_
          refine sl hK (by decide) rfl rfl (r_ibin hK rfl rfl rfl) fun a hK => ?_
          refine sl hK (by decide) rfl rfl (r_assign hK rfl) fun a hK => ?_
          refine wpList_nil ?_
          exact ⟨_, Nat.lt_succ_self _, (IntKind.i64.wrap (x_41 + 1)), H, hK.sub (all_cons rfl (all_cons rfl (all_cons rfl (all_nil)))), hS⟩
      · rw [ifb_f hb_81] at H
        refine wp_exit ?_
        refine wp_seq ?_
        refine wp_region_lit ?_
        refine sl hK (by decide) rfl rfl (r_assign hK rfl) fun a hK => ?_
        refine wpList_nil ?_
        obtain rfl := Option.some.inj H
        refine wp_ret ?_
        repeat (first | refine ret_then ?_ | refine ret_block ?_ | refine ret_scope ?_)
        exact ret_1 Try.results35 hK (rv_tmp hK rfl) ⟨rfl, hS.bel⟩

/-! ### catchment/catchmentref02.Row: function 36 -/
set_option maxHeartbeats 4000000 in
set_option maxRecDepth 100000 in
theorem ref02_Row.calls (a0 : List api_Value) (a1 : List api_Value) {w0 : World} {RA : Hp} {v0_0 : Value} {v1_0 : Value} (hRA : RA.sub w0) (h0_0 : SlR ty_api_Value RA v0_0 a0) (h1_0 : SlR ty_api_Value RA v1_0 a1) {r : Int} (H : ref02_Row a0 a1 = some r) : CallsV Try.prog 36 #[v0_0, v1_0] w0 (.int .i64 r) := by
  unfold ref02_Row at H
  refine enter (args := [v0_0, v1_0]) Try.func36 rfl Try.ntmps36 rfl fun a hK => ?_
  have hS := St.init (R := fun _ => none) (w := w0) (fun _ _ h => by cases h)
  have hRL := RLe.refl (M := []) w0 (fun _ => none)
  refine wp_seq ?_
  refine wp_region_lit ?_
  refine sl hK (by decide) rfl rfl (r_assign hK rfl) fun a hK => ?_
  refine wpList_nil ?_
  refine wp_seq ?_
  refine wp_seq ?_
  refine wp_region_lit ?_
  refine sl hK (by decide) rfl rfl (r_assign hK rfl) fun a hK => ?_
  refine wpList_nil ?_
  refine wp_block ?_
  refine wp_loop_k (fun k_l0 a w => ∃ (x_48 : Int), ref02_Row.l0 a0 a1 k_l0 x_48 = some r ∧ Kn 41 a [(0, v0_0), (1, v1_0), (5, .int .i64 x_48)] ∧ St [] w0 w (fun _ => none) []) (((a0.length : Int) - 0).toNat + 1) ?_ ?_
  · exact ⟨0, H, hK.sub (all_cons rfl (all_cons rfl (all_cons rfl (all_nil)))), hS⟩
  · rintro k_l0 a w ⟨x_48, H, hK, hS⟩
    cases k_l0 with
    | zero => cases H
    | succ k_l0 =>
    rw [ref02_Row.l0.eq_2] at H
    refine wp_seq ?_
    refine wp_seq ?_
    refine wp_mid (fun a w => ∃ (x_98 : Bool), ref02_Row.j1 (ref02_Row.l0 a0 a1 k_l0) a0 a1 x_48 x_98 = some r ∧ Kn 41 a [(0, v0_0), (1, v1_0), (5, .int .i64 x_48), (16, .bool x_98)] ∧ St [] w0 w (fun _ => none) []) ?_ ?_
    · refine wp_region_lit ?_
      refine sl hK (by decide) rfl rfl (r_move hK rfl) fun a hK => ?_
      refine sl hK (by decide) rfl rfl (r_move hK rfl) fun a hK => ?_
      refine sl hK (by decide) rfl rfl (r_len_R Try.underlying33 h0_0 hK rfl) fun a hK => ?_
      refine sl hK (by decide) rfl rfl (r_ibin hK rfl rfl rfl) fun a hK => ?_
      refine sl hK (by decide) rfl rfl (r_move hK rfl) fun a hK => ?_
      rcases or_b (decide (x_48 < (a0.length : Int))) with hb_100 | hb_100
      · rw [ifb_t hb_100] at H
        refine sl hK (by decide) (wtt hb_100) rfl (r_move hK rfl) fun a hK => ?_
        refine sl hK (by decide) (wtt hb_100) rfl (r_move hK rfl) fun a hK => ?_
        refine sl hK (by decide) (wtt hb_100) rfl (r_len_R Try.underlying33 h1_0 hK rfl) fun a hK => ?_
        refine sl hK (by decide) (wtt hb_100) rfl (r_ibin hK rfl rfl rfl) fun a hK => ?_
        refine sl hK (by decide) rfl rfl (r_pick_t hb_100 hK rfl rfl) fun a hK => ?_
        refine wpList_nil ?_
        exact ⟨(decide (x_48 < (a1.length : Int))), H, hK.sub (all_cons rfl (all_cons rfl (all_cons rfl (all_cons rfl (all_nil))))), hS⟩
      · rw [ifb_f hb_100] at H
        refine sl_skip hK (by decide) (wtf hb_100) rfl fun a hK => ?_
        refine sl_skip hK (by decide) (wtf hb_100) rfl fun a hK => ?_
        refine sl_skip hK (by decide) (wtf hb_100) rfl fun a hK => ?_
        refine sl_skip hK (by decide) (wtf hb_100) rfl fun a hK => ?_
        refine sl hK (by decide) rfl rfl (r_pick_f hb_100 hK rfl rfl) fun a hK => ?_
        refine wpList_nil ?_
        exact ⟨false, H, hK.sub (all_cons rfl (all_cons rfl (all_cons rfl (all_cons rfl (all_nil))))), hS⟩
    · rintro a w ⟨x_98, H, hK, hS⟩
      unfold ref02_Row.j1 at H
      refine wp_cond_split (hK.ev rfl) (fun (hb_101 : x_98 = true) => ?_) (fun (hb_101 : x_98 = false) => ?_)
      · rw [ifb_t hb_101] at H
        refine wp_skip ?_
        refine wp_seq ?_
        refine wp_block ?_
        refine wp_seq ?_
        refine parT_region (C := fun w => St [] w0 w (fun _ => none) []) 8 [(0, true), (1, true), (2, true), (3, true), (4, true), (5, true), (6, true), (7, true)] mixed (by kernel_rfl) hS (fun w hS => hS) fun w hS => ?_
        refine sp (k := 0) rfl hK (by decide) rfl rfl (fun w hS => r_move hK rfl) fun a hK => ?_
        refine sp (k := 1) rfl hK (by decide) rfl rfl (fun w hS => r_move hK rfl) fun a hK => ?_
        obtain ⟨y_122, h_123, H⟩ := bind_some H
        obtain ⟨b_124, o_125, c_126, cs_127, hv_128, hr_129, hc_130, h_1230, h_1231⟩ := h0_0.ix h_123
        subst hr_129
        refine sp (k := 2) rfl hK (by decide) rfl rfl (fun w hS => r_indexAddr_R Try.underlying33 Try.sizeOf39 hv_128 h_1230 h_1231 hK rfl rfl) fun a hK => ?_
        refine sp (k := 3) rfl hK (by decide) rfl rfl (fun w hS => r_loadA (cs := [.int .i64 y_122.Kind, .int .i64 y_122.N, .string y_122.S, .int .i64 y_122.H.a0, .int .i64 y_122.H.a1, .int .i64 y_122.H.a2, .int .i64 y_122.H.a3, .int .i64 y_122.H.a4, .int .i64 y_122.H.a5, .int .i64 y_122.H.a6, .int .i64 y_122.H.a7]) Try.isAgg39 Try.sizeOf39 rfl hK rfl (fun j v hv => (hS.ra hRA nil_not).cell (hc_130 j v hv))) fun a hK => ?_
        refine sp (k := 4) rfl hK (by decide) rfl rfl (fun w hS => r_move hK rfl) fun a hK => ?_
        refine sp (k := 5) rfl hK (by decide) rfl rfl (fun w hS => r_move hK rfl) fun a hK => ?_
        obtain ⟨y_131, h_132, H⟩ := bind_some H
        obtain ⟨b_133, o_134, c_135, cs_136, hv_137, hr_138, hc_139, h_1320, h_1321⟩ := h1_0.ix h_132
        subst hr_138
        refine sp (k := 6) rfl hK (by decide) rfl rfl (fun w hS => r_indexAddr_R Try.underlying33 Try.sizeOf39 hv_137 h_1320 h_1321 hK rfl rfl) fun a hK => ?_
        refine sp (k := 7) rfl hK (by decide) rfl rfl (fun w hS => r_loadA (cs := [.int .i64 y_131.Kind, .int .i64 y_131.N, .string y_131.S, .int .i64 y_131.H.a0, .int .i64 y_131.H.a1, .int .i64 y_131.H.a2, .int .i64 y_131.H.a3, .int .i64 y_131.H.a4, .int .i64 y_131.H.a5, .int .i64 y_131.H.a6, .int .i64 y_131.H.a7]) Try.isAgg39 Try.sizeOf39 rfl hK rfl (fun j v hv => (hS.ra hRA nil_not).cell (hc_139 j v hv))) fun a hK => ?_
        refine thenL_nil ?_
        obtain ⟨y_140, h_141, H⟩ := bind_some H
        refine sl_callV Try.call49 hS hK (by decide) rfl rfl rfl (ref01_Compare.calls y_122 y_131 h_141 _) fun a w hS hK => ?_
        refine sl hK (by decide) rfl rfl (r_assign hK rfl) fun a hK => ?_
        refine wpList_nil (NoP_nil ?_)
        refine wp_seq ?_
        refine wp_region_lit ?_
        refine sl hK (by decide) rfl rfl (r_move hK rfl) fun a hK => ?_
        refine sl hK (by decide) rfl rfl (r_ibin hK rfl rfl rfl) fun a hK => ?_
        refine wpList_nil ?_
        refine wp_cond_split (hK.ev rfl) (fun (hb_142 : (y_140 != 0) = true) => ?_) (fun (hb_142 : (y_140 != 0) = false) => ?_)
        · rw [ifb_t hb_142] at H
          refine wp_seq ?_
          refine wp_region_lit ?_
          refine sl hK (by decide) rfl rfl (r_move hK rfl) fun a hK => ?_
          refine sl hK (by decide) rfl rfl (r_assign hK rfl) fun a hK => ?_
          refine wpList_nil ?_
          obtain rfl := Option.some.inj H
          refine wp_ret ?_
          repeat (first | refine ret_then ?_ | refine ret_block ?_ | refine ret_scope ?_)
          exact ret_1 Try.results36 hK (rv_tmp hK rfl) ⟨rfl, hS.bel⟩
        · rw [ifb_f hb_142] at H
          refine wp_skip ?_
          refine wp_region_lit ?_
          refine sl hK (by decide) rfl rfl (r_move hK rfl) fun a hK => ?_
          refine sl hK (by decide) rfl rfl (r_ibin hK rfl rfl rfl) fun a hK => ?_
          refine sl hK (by decide) rfl rfl (r_assign hK rfl) fun a hK => ?_
          refine wpList_nil ?_
          exact ⟨_, Nat.lt_succ_self _, (IntKind.i64.wrap (x_48 + 1)), H, hK.sub (all_cons rfl (all_cons rfl (all_cons rfl (all_nil)))), hS⟩
      · rw [ifb_f hb_101] at H
        refine wp_exit ?_
        refine wp_seq ?_
        refine wp_seq ?_
        refine wp_region_lit ?_
        refine sl hK (by decide) rfl rfl (r_move hK rfl) fun a hK => ?_
        refine sl hK (by decide) rfl rfl (r_len_R Try.underlying33 h0_0 hK rfl) fun a hK => ?_
        refine sl hK (by decide) rfl rfl (r_move hK rfl) fun a hK => ?_
        refine sl hK (by decide) rfl rfl (r_len_R Try.underlying33 h1_0 hK rfl) fun a hK => ?_
        refine sl hK (by decide) rfl rfl (r_ibin hK rfl rfl rfl) fun a hK => ?_
        refine wpList_nil ?_
        refine wp_cond_split (hK.ev rfl) (fun (hb_143 : (decide ((a0.length : Int) < (a1.length : Int))) = true) => ?_) (fun (hb_143 : (decide ((a0.length : Int) < (a1.length : Int))) = false) => ?_)
        · rw [ifb_t hb_143] at H
          refine wp_seq ?_
          refine wp_region_lit ?_
          refine sl hK (by decide) rfl rfl (r_assign hK rfl) fun a hK => ?_
          refine wpList_nil ?_
          obtain rfl := Option.some.inj H
          refine wp_ret ?_
          repeat (first | refine ret_then ?_ | refine ret_block ?_ | refine ret_scope ?_)
          exact ret_1 Try.results36 hK (rv_tmp hK rfl) ⟨rfl, hS.bel⟩
        · rw [ifb_f hb_143] at H
          refine wp_skip ?_
          refine wp_seq ?_
          refine wp_seq ?_
          refine wp_region_lit ?_
          refine sl hK (by decide) rfl rfl (r_move hK rfl) fun a hK => ?_
          refine sl hK (by decide) rfl rfl (r_len_R Try.underlying33 h0_0 hK rfl) fun a hK => ?_
          refine sl hK (by decide) rfl rfl (r_move hK rfl) fun a hK => ?_
          refine sl hK (by decide) rfl rfl (r_len_R Try.underlying33 h1_0 hK rfl) fun a hK => ?_
          refine sl hK (by decide) rfl rfl (r_ibin hK rfl rfl rfl) fun a hK => ?_
          refine wpList_nil ?_
          refine wp_cond_split (hK.ev rfl) (fun (hb_144 : (decide ((a0.length : Int) > (a1.length : Int))) = true) => ?_) (fun (hb_144 : (decide ((a0.length : Int) > (a1.length : Int))) = false) => ?_)
          · rw [ifb_t hb_144] at H
            refine wp_seq ?_
            refine wp_region_lit ?_
            refine sl hK (by decide) rfl rfl (r_assign hK rfl) fun a hK => ?_
            refine wpList_nil ?_
            obtain rfl := Option.some.inj H
            refine wp_ret ?_
            repeat (first | refine ret_then ?_ | refine ret_block ?_ | refine ret_scope ?_)
            exact ret_1 Try.results36 hK (rv_tmp hK rfl) ⟨rfl, hS.bel⟩
          · rw [ifb_f hb_144] at H
            refine wp_skip ?_
            refine wp_seq ?_
            refine wp_region_lit ?_
            refine sl hK (by decide) rfl rfl (r_assign hK rfl) fun a hK => ?_
            refine wpList_nil ?_
            obtain rfl := Option.some.inj H
            refine wp_ret ?_
            repeat (first | refine ret_then ?_ | refine ret_block ?_ | refine ret_scope ?_)
            exact ret_1 Try.results36 hK (rv_tmp hK rfl) ⟨rfl, hS.bel⟩

/-! ### catchment/catchmentref02.Same: function 16 -/
set_option maxHeartbeats 4000000 in
set_option maxRecDepth 100000 in
theorem ref02_Same.calls (a0 : api_Table) (a1 : api_Table) {w0 : World} {RA : Hp} {v0_0 : Value} {v0_1 : Value} {v1_0 : Value} {v1_1 : Value} (hRA : RA.sub w0) (h0_0 : SlR ty_api_Col RA v0_0 a0.Cols) (h0_1 : SlR (tySl ty_api_Value) RA v0_1 a0.Rows) (h1_0 : SlR ty_api_Col RA v1_0 a1.Cols) (h1_1 : SlR (tySl ty_api_Value) RA v1_1 a1.Rows) {r : Bool} (H : ref02_Same a0 a1 = some r) : CallsV Try.prog 16 #[.agg #[v0_0, v0_1], .agg #[v1_0, v1_1]] w0 (.bool r) := by
  unfold ref02_Same at H
  refine enter (args := [.agg #[v0_0, v0_1], .agg #[v1_0, v1_1]]) Try.func16 rfl Try.ntmps16 rfl fun a hK => ?_
  have hS := St.init (R := fun _ => none) (w := w0) (fun _ _ h => by cases h)
  have hRL := RLe.refl (M := []) w0 (fun _ => none)
  refine wp_seq ?_
  refine wp_region_lit ?_
  refine sl_box hS hK (by decide) rfl rfl (c := [v0_0, v0_1]) rfl fun a w b_1 hS hK => ?_
  refine sl_box hS hK (by decide) rfl rfl (c := [v1_0, v1_1]) rfl fun a w b_2 hS hK => ?_
  refine sl hK (by decide) rfl rfl (r_assign hK rfl) fun a hK => ?_
  refine wpList_nil ?_
  refine wp_seq ?_
  refine wp_seq ?_
  refine wp_mid (fun a w => ∃ (x_6 : Bool), ref02_Same.j0 a0 a1 x_6 = some r ∧ Kn 40 a [(2, .pointer (some ⟨b_1, 0, none⟩)), (3, .pointer (some ⟨b_2, 0, none⟩)), (20, .bool x_6)] ∧ St [] w0 w (fun _ => none) [.cells b_1 [v0_0, v0_1] 28, .cells b_2 [v1_0, v1_1] 28]) ?_ ?_
  · refine wp_region_lit ?_
    refine sl hK (by decide) rfl rfl (r_fieldAddr Try.underlying28 rfl Try.sizeOf25 hK rfl) fun a hK => ?_
    refine sl hK (by decide) rfl rfl (r_load Try.isAgg25 hK rfl (hS.cell (.tail _ (.head _)) rfl)) fun a hK => ?_
    refine sl hK (by decide) rfl rfl (r_fieldAddr Try.underlying28 rfl Try.sizeOf25 hK rfl) fun a hK => ?_
    refine sl hK (by decide) rfl rfl (r_load Try.isAgg25 hK rfl (hS.cell (.head _) rfl)) fun a hK => ?_
    obtain ⟨y_8, h_9, H⟩ := bind_some H
    refine sl_callV Try.call35 hS hK (by decide) rfl rfl rfl (ref02_SameCols.calls a0.Cols a1.Cols (lentOf_sub [] _) (h0_0.mono (hS.raLe0 hRA nil_not)) (h1_0.mono (hS.raLe0 hRA nil_not)) h_9) fun a w hS hK => ?_
    refine sl hK (by decide) rfl rfl (r_un hK rfl (u_not _)) fun a hK => ?_
    refine sl hK (by decide) rfl rfl (r_move hK rfl) fun a hK => ?_
    rcases or_b (!y_8) with hb_10 | hb_10
    · rw [ifb_t hb_10] at H
      refine sl_skip hK (by decide) (wft hb_10) rfl fun a hK => ?_
      refine sl_skip hK (by decide) (wft hb_10) rfl fun a hK => ?_
      refine sl_skip hK (by decide) (wft hb_10) rfl fun a hK => ?_
      refine sl_skip hK (by decide) (wft hb_10) rfl fun a hK => ?_
      refine sl_skip hK (by decide) (wft hb_10) rfl fun a hK => ?_
      refine sl_skip hK (by decide) (wft hb_10) rfl fun a hK => ?_
      refine sl_skip hK (by decide) (wft hb_10) rfl fun a hK => ?_
      refine sl hK (by decide) rfl rfl (r_pick_t hb_10 hK rfl rfl) fun a hK => ?_
      refine wpList_nil ?_
      have hS := hS.pk1
      exact ⟨true, H, hK.sub (all_cons rfl (all_cons rfl (all_cons rfl (all_nil)))), hS⟩
    · rw [ifb_f hb_10] at H
      refine sl hK (by decide) (wff hb_10) rfl (r_fieldAddr Try.underlying28 rfl Try.sizeOf26 hK rfl) fun a hK => ?_
      refine sl hK (by decide) (wff hb_10) rfl (r_load Try.isAgg26 hK rfl (hS.cell (.tail _ (.head _)) rfl)) fun a hK => ?_
      refine sl hK (by decide) (wff hb_10) rfl (r_len_R Try.underlying26 h0_1 hK rfl) fun a hK => ?_
      refine sl hK (by decide) (wff hb_10) rfl (r_fieldAddr Try.underlying28 rfl Try.sizeOf26 hK rfl) fun a hK => ?_
      refine sl hK (by decide) (wff hb_10) rfl (r_load Try.isAgg26 hK rfl (hS.cell (.head _) rfl)) fun a hK => ?_
      refine sl hK (by decide) (wff hb_10) rfl (r_len_R Try.underlying26 h1_1 hK rfl) fun a hK => ?_
      refine sl hK (by decide) (wff hb_10) rfl (r_ibin hK rfl rfl rfl) fun a hK => ?_
      refine sl hK (by decide) rfl rfl (r_pick_f hb_10 hK rfl rfl) fun a hK => ?_
      refine wpList_nil ?_
      have hS := hS.pk1
      exact ⟨((a0.Rows.length : Int) != (a1.Rows.length : Int)), H, hK.sub (all_cons rfl (all_cons rfl (all_cons rfl (all_nil)))), hS⟩
  · rintro a w ⟨x_6, H, hK, hS⟩
    unfold ref02_Same.j0 at H
    refine wp_cond_split (hK.ev rfl) (fun (hb_11 : x_6 = true) => ?_) (fun (hb_11 : x_6 = false) => ?_)
    · rw [ifb_t hb_11] at H
      refine wp_seq ?_
      refine wp_region_lit ?_
      refine sl hK (by decide) rfl rfl (r_assign hK rfl) fun a hK => ?_
      refine wpList_nil ?_
      obtain rfl := Option.some.inj H
      refine wp_ret ?_
      repeat (first | refine ret_then ?_ | refine ret_block ?_ | refine ret_scope ?_)
      exact ret_1 Try.results16 hK (rv_tmp hK rfl) ⟨rfl, hS.bel⟩
    · rw [ifb_f hb_11] at H
      refine wp_skip ?_
      refine wp_seq ?_
      refine wp_seq ?_
      refine wp_region_lit ?_
      refine sl hK (by decide) rfl rfl (r_assign hK rfl) fun a hK => ?_
      refine wpList_nil ?_
      refine wp_block ?_
      refine wp_loop_k (fun k_l1 a w => ∃ (x_63 : Int), ref02_Same.l1 a0 a1 k_l1 x_63 = some r ∧ Kn 40 a [(2, .pointer (some ⟨b_1, 0, none⟩)), (3, .pointer (some ⟨b_2, 0, none⟩)), (5, .int .i64 x_63)] ∧ St [] w0 w (fun _ => none) [.cells b_1 [v0_0, v0_1] 28, .cells b_2 [v1_0, v1_1] 28]) (((a0.Rows.length : Int) - 0).toNat + 1) ?_ ?_
      · have hS := hS.pk1
        have hS := hS.pk1
        exact ⟨0, H, hK.sub (all_cons rfl (all_cons rfl (all_cons rfl (all_nil)))), hS⟩
      · rintro k_l1 a w ⟨x_63, H, hK, hS⟩
        cases k_l1 with
        | zero => cases H
        | succ k_l1 =>
        rw [ref02_Same.l1.eq_2] at H
        refine wp_seq ?_
        refine wp_seq ?_
        refine wp_region_lit ?_
        refine sl hK (by decide) rfl rfl (r_move hK rfl) fun a hK => ?_
        refine sl hK (by decide) rfl rfl (r_fieldAddr Try.underlying28 rfl Try.sizeOf26 hK rfl) fun a hK => ?_
        refine sl hK (by decide) rfl rfl (r_load Try.isAgg26 hK rfl (hS.cell (.head _) rfl)) fun a hK => ?_
        refine sl hK (by decide) rfl rfl (r_len_R Try.underlying26 h0_1 hK rfl) fun a hK => ?_
        refine sl hK (by decide) rfl rfl (r_ibin hK rfl rfl rfl) fun a hK => ?_
        refine wpList_nil ?_
        refine wp_cond_split (hK.ev rfl) (fun (hb_115 : (decide (x_63 < (a0.Rows.length : Int))) = true) => ?_) (fun (hb_115 : (decide (x_63 < (a0.Rows.length : Int))) = false) => ?_)
        · rw [ifb_t hb_115] at H
          refine wp_skip ?_
          refine wp_seq ?_
          refine wp_block ?_
          refine wp_seq ?_
          refine parT_region (C := fun w => St [] w0 w (fun _ => none) [.cells b_1 [v0_0, v0_1] 28, .cells b_2 [v1_0, v1_1] 28]) 10 [(0, true), (1, true), (2, true), (3, true), (4, true), (5, true), (6, true), (7, true), (8, true), (9, true)] mixed (by kernel_rfl) hS (fun w hS => hS) fun w hS => ?_
          refine sp (k := 0) rfl hK (by decide) rfl rfl (fun w hS => r_fieldAddr Try.underlying28 rfl Try.sizeOf26 hK rfl) fun a hK => ?_
          refine sp (k := 1) rfl hK (by decide) rfl rfl (fun w hS => r_load Try.isAgg26 hK rfl (hS.cell (.head _) rfl)) fun a hK => ?_
          refine sp (k := 2) rfl hK (by decide) rfl rfl (fun w hS => r_move hK rfl) fun a hK => ?_
          obtain ⟨y_140, h_141, H⟩ := bind_some H
          obtain ⟨b_142, o_143, c_144, cs_145, hv_146, hr_147, hc_148, h_1410, h_1411⟩ := h0_1.ix h_141
          obtain ⟨v_149, rfl, hs_150⟩ := hr_147
          refine sp (k := 3) rfl hK (by decide) rfl rfl (fun w hS => r_indexAddr_R Try.underlying26 Try.sizeOf33 hv_146 h_1410 h_1411 hK rfl rfl) fun a hK => ?_
          refine sp (k := 4) rfl hK (by decide) rfl rfl (fun w hS => r_load Try.isAgg33 hK rfl ((hS.ra hRA nil_not).cell (hc_148 0 _ rfl))) fun a hK => ?_
          refine sp (k := 5) rfl hK (by decide) rfl rfl (fun w hS => r_fieldAddr Try.underlying28 rfl Try.sizeOf26 hK rfl) fun a hK => ?_
          refine sp (k := 6) rfl hK (by decide) rfl rfl (fun w hS => r_load Try.isAgg26 hK rfl (hS.cell (.tail _ (.head _)) rfl)) fun a hK => ?_
          refine sp (k := 7) rfl hK (by decide) rfl rfl (fun w hS => r_move hK rfl) fun a hK => ?_
          obtain ⟨y_151, h_152, H⟩ := bind_some H
          obtain ⟨b_153, o_154, c_155, cs_156, hv_157, hr_158, hc_159, h_1520, h_1521⟩ := h1_1.ix h_152
          obtain ⟨v_160, rfl, hs_161⟩ := hr_158
          refine sp (k := 8) rfl hK (by decide) rfl rfl (fun w hS => r_indexAddr_R Try.underlying26 Try.sizeOf33 hv_157 h_1520 h_1521 hK rfl rfl) fun a hK => ?_
          refine sp (k := 9) rfl hK (by decide) rfl rfl (fun w hS => r_load Try.isAgg33 hK rfl ((hS.ra hRA nil_not).cell (hc_159 0 _ rfl))) fun a hK => ?_
          refine thenL_nil ?_
          obtain ⟨y_162, h_163, H⟩ := bind_some H
          refine sl_callV Try.call36 hS hK (by decide) rfl rfl rfl (ref02_Row.calls y_140 y_151 (lentOf_sub [] _) (hs_150.mono (hS.raLe0 hRA nil_not)) (hs_161.mono (hS.raLe0 hRA nil_not)) h_163) fun a w hS hK => ?_
          refine sl hK (by decide) rfl rfl (r_ibin hK rfl rfl rfl) fun a hK => ?_
          refine wpList_nil (NoP_nil ?_)
          refine wp_cond_split (hK.ev rfl) (fun (hb_164 : (y_162 != 0) = true) => ?_) (fun (hb_164 : (y_162 != 0) = false) => ?_)
          · rw [ifb_t hb_164] at H
            refine wp_seq ?_
            refine wp_region_lit ?_
            refine sl hK (by decide) rfl rfl (r_assign hK rfl) fun a hK => ?_
            refine wpList_nil ?_
            obtain rfl := Option.some.inj H
            refine wp_ret ?_
            repeat (first | refine ret_then ?_ | refine ret_block ?_ | refine ret_scope ?_)
            exact ret_1 Try.results16 hK (rv_tmp hK rfl) ⟨rfl, hS.bel⟩
          · rw [ifb_f hb_164] at H
            refine wp_skip ?_
            refine wp_region_lit ?_
            refine sl hK (by decide) rfl rfl (r_move hK rfl) fun a hK => ?_
            refine sl hK (by decide) rfl rfl (r_ibin hK rfl rfl rfl) fun a hK => ?_
            refine sl hK (by decide) rfl rfl (r_assign hK rfl) fun a hK => ?_
            refine wpList_nil ?_
            have hS := hS.pk1
            have hS := hS.pk1
            exact ⟨_, Nat.lt_succ_self _, (IntKind.i64.wrap (x_63 + 1)), H, hK.sub (all_cons rfl (all_cons rfl (all_cons rfl (all_nil)))), hS⟩
        · rw [ifb_f hb_115] at H
          refine wp_exit ?_
          refine wp_seq ?_
          refine wp_region_lit ?_
          refine sl hK (by decide) rfl rfl (r_assign hK rfl) fun a hK => ?_
          refine wpList_nil ?_
          obtain rfl := Option.some.inj H
          refine wp_ret ?_
          repeat (first | refine ret_then ?_ | refine ret_block ?_ | refine ret_scope ?_)
          exact ret_1 Try.results16 hK (rv_tmp hK rfl) ⟨rfl, hS.bel⟩

/-! ### catchment/catchmentlaw15.alone: function 20 -/
set_option maxHeartbeats 4000000 in
set_option maxRecDepth 100000 in
theorem law15_alone.calls (a0 : ByteArray) {r : Bool} (H : law15_alone a0 = some r) (w0 : World) : CallsV Try.prog 20 #[.string a0] w0 (.bool r) := by
  unfold law15_alone at H
  refine enter (args := [.string a0]) Try.func20 rfl Try.ntmps20 rfl fun a hK => ?_
  have hS := St.init (R := fun _ => none) (w := w0) (fun _ _ h => by cases h)
  have hRL := RLe.refl (M := []) w0 (fun _ => none)
  refine wp_seq ?_
  refine wp_region_lit ?_
  refine sl hK (by decide) rfl rfl (r_assign hK rfl) fun a hK => ?_
  refine wpList_nil ?_
  refine wp_seq ?_
  refine wp_region_lit ?_
  refine sl hK (by decide) rfl rfl (r_move hK rfl) fun a hK => ?_
  obtain ⟨y_1, h_2, H⟩ := bind_some H
  refine sl_call Try.call17 hK (by decide) rfl rfl rfl (ref11_Lex.calls a0 hS.sub h_2) fun a v_ w hv_ hK => ?_
  obtain ⟨R_3, v_6, cs_7, hv_, hr_, hl_4, hq_8⟩ := hv_
  have hv_ := hv_.symm
  subst hv_
  obtain ⟨hS, hl_4⟩ := hS.sp0.back hr_ hl_4
  have hS := hS.un1
  have hRL := hRL.trans hl_4
  refine sl hK (by decide) rfl rfl (r_move hK rfl) fun a hK => ?_
  refine sl hK (by decide) rfl rfl (r_extract hK rfl rfl) fun a hK => ?_
  refine sl hK (by decide) rfl rfl (r_extract hK rfl rfl) fun a hK => ?_
  refine sl hK (by decide) rfl rfl (r_extract hK rfl rfl) fun a hK => ?_
  refine sl hK (by decide) rfl rfl (r_assign hK rfl) fun a hK => ?_
  refine sl hK (by decide) rfl rfl (r_assign hK rfl) fun a hK => ?_
  refine sl hK (by decide) rfl rfl (r_assign hK rfl) fun a hK => ?_
  refine wpList_nil ?_
  refine wp_seq ?_
  refine wp_region_lit ?_
  refine sl hK (by decide) rfl rfl (r_move hK rfl) fun a hK => ?_
  obtain ⟨y_9, h_10, H⟩ := bind_some H
  have hS1 := hS.sp1
  refine sl_call Try.call18 hK (by decide) rfl rfl rfl (ref12_Cond.calls y_1.1 hS1.lend hq_8 h_10) fun a v_ w hv_ hK => ?_
  obtain ⟨R_11, v_14, cs_15, hv_, hr_, hl_12, hq_16⟩ := hv_
  have hv_ := hv_.symm
  subst hv_
  obtain ⟨hS, hl_12⟩ := hS1.back hr_ hl_12
  have hS := hS.un1
  have hRL := hRL.trans hl_12
  refine sl hK (by decide) rfl rfl (r_move hK rfl) fun a hK => ?_
  refine sl hK (by decide) rfl rfl (r_extract hK rfl rfl) fun a hK => ?_
  refine sl hK (by decide) rfl rfl (r_extract hK rfl rfl) fun a hK => ?_
  refine sl hK (by decide) rfl rfl (r_extract hK rfl rfl) fun a hK => ?_
  refine sl_alloc Try.zeroValue24 hS hK (by decide) rfl rfl fun a w b_17 hS hK => ?_
  refine sl_storeA (vs := [v_14]) (c' := [v_14]) Try.sizeOf24 hS hK rfl rfl rfl rfl (all_cons (hS.row_one (.tail _ (.head _))) (all_nil)) (Nat.le_of_ble_eq_true rfl) rfl fun a w hS hK => ?_
  refine sl hK (by decide) rfl rfl (r_assign hK rfl) fun a hK => ?_
  refine sl hK (by decide) rfl rfl (r_assign hK rfl) fun a hK => ?_
  refine wpList_nil ?_
  refine wp_seq ?_
  refine wp_region_lit ?_
  refine sl hK (by decide) rfl rfl (r_move hK rfl) fun a hK => ?_
  refine sl hK (by decide) rfl rfl (r_ibin hK rfl rfl rfl) fun a hK => ?_
  refine sl hK (by decide) rfl rfl (r_move hK rfl) fun a hK => ?_
  rcases or_b (y_1.2.2 == 0) with hb_18 | hb_18
  · rw [ifb_t hb_18] at H
    refine sl hK (by decide) (wtt hb_18) rfl (r_move hK rfl) fun a hK => ?_
    refine sl hK (by decide) (wtt hb_18) rfl (r_ibin hK rfl rfl rfl) fun a hK => ?_
    refine sl hK (by decide) rfl rfl (r_pick_t hb_18 hK rfl rfl) fun a hK => ?_
    refine sl hK (by decide) rfl rfl (r_assign hK rfl) fun a hK => ?_
    refine wpList_nil ?_
    obtain rfl := Option.some.inj H
    refine wp_ret ?_
    repeat (first | refine ret_then ?_ | refine ret_block ?_ | refine ret_scope ?_)
    exact ret_1 Try.results20 hK (rv_tmp hK rfl) ⟨rfl, hS.bel⟩
  · rw [ifb_f hb_18] at H
    refine sl_skip hK (by decide) (wtf hb_18) rfl fun a hK => ?_
    refine sl_skip hK (by decide) (wtf hb_18) rfl fun a hK => ?_
    refine sl hK (by decide) rfl rfl (r_pick_f hb_18 hK rfl rfl) fun a hK => ?_
    refine sl hK (by decide) rfl rfl (r_assign hK rfl) fun a hK => ?_
    refine wpList_nil ?_
    obtain rfl := Option.some.inj H
    refine wp_ret ?_
    repeat (first | refine ret_then ?_ | refine ret_block ?_ | refine ret_scope ?_)
    exact ret_1 Try.results20 hK (rv_tmp hK rfl) ⟨rfl, hS.bel⟩

end Go.Proofs.Ytjklfkiaebipnaa.M
