/- Each Go function of the laws answers as its plain Lean function tells, wherever that tells something. Printed by wip/eng/gen.py. -/
import Derived.Test.YtffleadhhhpnlaaDoorWalk1
namespace Go.Proofs.YtffleadhhhpnlaaDoor.M
open Go Go.Eng Go.Proofs Go.RowKit
set_option linter.unusedVariables false
set_option linter.unusedSimpArgs false

/-! ### catchment/catchmentlaw06.StreamsRoom: function 4 -/
set_option maxHeartbeats 4000000 in
set_option maxRecDepth 100000 in
theorem law06_StreamsRoom.calls (a0 : Int) (a1 : List catchmentlaw06_Stream) {w0 : World} {RA : Hp} {v1_0 : Value} (hRA : RA.sub w0) (h1_0 : SlR ty_catchmentlaw06_Stream RA v1_0 a1) (hG : GF RA) (H : law06_StreamsRoom a0 a1 = some true) : CallsV Tryd.prog 4 #[.int .i64 a0, v1_0] w0 (.bool true) := by
  unfold law06_StreamsRoom at H
  refine enter (args := [.int .i64 a0, v1_0]) Tryd.func4 rfl Tryd.ntmps4 rfl fun a hK => ?_
  have hS := St.init (R := fun _ => none) (w := w0) (fun _ _ h => by cases h)
  have hRL := RLe.refl (M := []) w0 (fun _ => none)
  refine wp_seq ?_
  refine wp_region_lit ?_
  refine sl hK (by decide) rfl rfl (r_assign hK rfl) fun a hK => ?_
  refine wpList_nil ?_
  refine wp_seq ?_
  refine wp_region_lit ?_
  obtain ⟨y_1, h_2, H⟩ := bind_some H
  refine sl_callV Tryd.call6 hS hK (by decide) rfl rfl rfl (law06_shown.calls (lentOf_sub [] _) (GF.mono (hS.raLe0 hRA nil_not) hG) h_2) fun a w hS hK => ?_
  refine sl hK (by decide) rfl rfl (r_assign hK rfl) fun a hK => ?_
  refine wpList_nil ?_
  refine wp_seq ?_
  refine wp_region_lit ?_
  refine sl hK (by decide) rfl rfl (r_move hK rfl) fun a hK => ?_
  refine sl hK (by decide) rfl rfl (r_min2 hK rfl rfl) fun a hK => ?_
  obtain ⟨y_3, h_4, H⟩ := bind_some H
  refine sl_call Tryd.call7 hK (by decide) rfl rfl rfl (streams_New.calls (min a0 100) hS.sub h_4) fun a v_ w hv_ hK => ?_
  obtain ⟨R_5, b_7, v_9, cs_10, mb_12, hv_, hr_, hl_6, hq_11⟩ := hv_
  have hv_ := hv_.symm
  subst hv_
  obtain ⟨hS, hl_6⟩ := hS.sp0.back hr_ hl_6
  have hS := hS.un3
  have hRL := hRL.trans hl_6
  refine sl hK (by decide) rfl rfl (r_assign hK rfl) fun a hK => ?_
  refine wpList_nil ?_
  refine wp_seq ?_
  refine wp_seq ?_
  refine wp_mid (fun a w => ∃ (x_14 : Bool), law06_StreamsRoom.j0 a0 a1 y_3 x_14 = some true ∧ Kn 187 a [(0, .int .i64 a0), (1, v1_0), (6, .pointer (some ⟨b_7, 0, none⟩)), (32, .bool x_14)] ∧ St [] w0 w R_5 [.row 60 2 v_9 y_3.l.length cs_10, .mp mb_12 (kvs Value.string (Value.int .i64) y_3.ids), .cells b_7 [.int .i64 y_3.most, v_9, .map (some mb_12)] 56]) ?_ ?_
  · refine wp_region_lit ?_
    refine sl hK (by decide) rfl rfl (r_move hK rfl) fun a hK => ?_
    refine sl hK (by decide) rfl rfl (r_un hK rfl (u_not _)) fun a hK => ?_
    refine sl hK (by decide) rfl rfl (r_move hK rfl) fun a hK => ?_
    rcases or_b (!y_1) with hb_16 | hb_16
    · rw [ifb_t hb_16] at H
      refine sl_skip hK (by decide) (wft hb_16) rfl fun a hK => ?_
      refine sl_skip hK (by decide) (wft hb_16) rfl fun a hK => ?_
      refine sl hK (by decide) rfl rfl (r_pick_t hb_16 hK rfl rfl) fun a hK => ?_
      refine wpList_nil ?_
      have hS := hS.pk2
      have hS := hS.pk2
      exact ⟨true, H, hK.sub (all_cons rfl (all_cons rfl (all_cons rfl (all_cons rfl (all_nil))))), hS⟩
    · rw [ifb_f hb_16] at H
      refine sl hK (by decide) (wff hb_16) rfl (r_move hK rfl) fun a hK => ?_
      refine sl hK (by decide) (wff hb_16) rfl (r_peq Tryd.underlying24 hK rfl rfl) fun a hK => ?_
      refine sl hK (by decide) rfl rfl (r_pick_f hb_16 hK rfl rfl) fun a hK => ?_
      refine wpList_nil ?_
      have hS := hS.pk2
      have hS := hS.pk2
      exact ⟨false, H, hK.sub (all_cons rfl (all_cons rfl (all_cons rfl (all_cons rfl (all_nil))))), hS⟩
  · rintro a w ⟨x_14, H, hK, hS⟩
    unfold law06_StreamsRoom.j0 at H
    refine wp_cond_split (hK.ev rfl) (fun (hb_17 : x_14 = true) => ?_) (fun (hb_17 : x_14 = false) => ?_)
    · rw [ifb_t hb_17] at H
      refine wp_seq ?_
      refine wp_region_lit ?_
      refine sl hK (by decide) rfl rfl (r_assign hK rfl) fun a hK => ?_
      refine wpList_nil ?_
      exact absurd (Option.some.inj H) (by decide)
    · rw [ifb_f hb_17] at H
      refine wp_skip ?_
      refine wp_seq ?_
      refine wp_region_lit ?_
      refine sl_buildSliceC (zc := [.string (⟨#[]⟩ : ByteArray)]) (zs := []) (ps := []) (c := []) Tryd.underlying37 Tryd.sizeOf9 Tryd.zeroValue9 rfl pc_nil rfl rfl (by decide) (by kernel_rfl) rfl hS hK (by decide) rfl fun a w b_18 hS hK => ?_
      refine sl hK (by decide) rfl rfl (r_assign hK rfl) fun a hK => ?_
      refine wpList_nil ?_
      refine wp_seq ?_
      refine wp_seq ?_
      refine wp_region_lit ?_
      refine sl hK (by decide) rfl rfl (r_assign hK rfl) fun a hK => ?_
      refine wpList_nil ?_
      refine wp_block ?_
      refine wp_loop_k (fun k_l1 a w => ∃ (x_454 : Int) (x_456 : List streams_stream) (x_461 : List (ByteArray × Int)) (x_463 : List ByteArray) (x_467 : Int) (R_468 : Hp) (v_457 : Value) (cs_458 : List Value) (v_464 : Value) (cs_465 : List Value) (b_460 : Nat), law06_StreamsRoom.l1 a0 a1 k_l1 x_454 x_456 x_461 x_463 x_467 = some true ∧ RLe [] w0 R_5 R_468 ∧ Reps ty_streams_stream R_468 cs_458 x_456 ∧ Reps tyStr R_468 cs_465 x_463 ∧ Kn 187 a [(0, .int .i64 a0), (1, v1_0), (6, .pointer (some ⟨b_7, 0, none⟩)), (7, v_464), (8, .int .i64 x_467)] ∧ St [] w0 w R_468 [.row 60 2 v_457 x_456.length cs_458, .mp b_460 (kvs Value.string (Value.int .i64) x_461), .cells b_7 [.int .i64 x_454, v_457, .map (some b_460)] 56, .row 9 1 v_464 x_463.length cs_465]) (((a1.length : Int) - 0).toNat + 1) ?_ ?_
      · have hS := hS.row_lit (size := 1) (m := 0) rfl (by decide)
        have hq_901 : Reps tyStr R_5 [] ([] : List ByteArray) := (Reps.nil _ _)
        have hS := hS.pk3
        have hS := hS.pk3
        have hS := hS.pk3
        exact ⟨y_3.most, y_3.l, y_3.ids, [], 0, _, _, _, _, _, _, H, (RLe.refl _ _), hq_11, hq_901, hK.sub (all_cons rfl (all_cons rfl (all_cons rfl (all_cons rfl (all_cons rfl (all_nil)))))), hS⟩
      · rintro k_l1 a w ⟨x_454, x_456, x_461, x_463, x_467, R_468, v_457, cs_458, v_464, cs_465, b_460, H, hl_469, hq_459, hq_466, hK, hS⟩
        cases k_l1 with
        | zero => cases H
        | succ k_l1 =>
        rw [law06_StreamsRoom.l1.eq_2] at H
        have hRL := hRL.trans hl_469
        refine wp_seq ?_
        refine wp_seq ?_
        refine wp_mid (fun a w => ∃ (x_903 : Bool), law06_StreamsRoom.j2 (law06_StreamsRoom.l1 a0 a1 k_l1) a0 a1 x_454 x_456 x_461 x_463 x_467 x_903 = some true ∧ Kn 187 a [(0, .int .i64 a0), (1, v1_0), (6, .pointer (some ⟨b_7, 0, none⟩)), (7, v_464), (8, .int .i64 x_467), (41, .bool x_903)] ∧ St [] w0 w R_468 [.row 60 2 v_457 x_456.length cs_458, .mp b_460 (kvs Value.string (Value.int .i64) x_461), .cells b_7 [.int .i64 x_454, v_457, .map (some b_460)] 56, .row 9 1 v_464 x_463.length cs_465]) ?_ ?_
        · refine wp_region_lit ?_
          refine sl hK (by decide) rfl rfl (r_move hK rfl) fun a hK => ?_
          refine sl hK (by decide) rfl rfl (r_move hK rfl) fun a hK => ?_
          refine sl hK (by decide) rfl rfl (r_len_R Tryd.underlying22 h1_0 hK rfl) fun a hK => ?_
          refine sl hK (by decide) rfl rfl (r_ibin hK rfl rfl rfl) fun a hK => ?_
          refine sl hK (by decide) rfl rfl (r_move hK rfl) fun a hK => ?_
          rcases or_b (decide (x_467 < (a1.length : Int))) with hb_905 | hb_905
          · rw [ifb_t hb_905] at H
            refine sl hK (by decide) (wtt hb_905) rfl (r_move hK rfl) fun a hK => ?_
            refine sl hK (by decide) (wtt hb_905) rfl (r_ibin hK rfl rfl rfl) fun a hK => ?_
            refine sl hK (by decide) rfl rfl (r_pick_t hb_905 hK rfl rfl) fun a hK => ?_
            refine wpList_nil ?_
            have hS := hS.pk3
            have hS := hS.pk3
            have hS := hS.pk3
            have hS := hS.pk3
            exact ⟨(decide (x_467 < 100)), H, hK.sub (all_cons rfl (all_cons rfl (all_cons rfl (all_cons rfl (all_cons rfl (all_cons rfl (all_nil))))))), hS⟩
          · rw [ifb_f hb_905] at H
            refine sl_skip hK (by decide) (wtf hb_905) rfl fun a hK => ?_
            refine sl_skip hK (by decide) (wtf hb_905) rfl fun a hK => ?_
            refine sl hK (by decide) rfl rfl (r_pick_f hb_905 hK rfl rfl) fun a hK => ?_
            refine wpList_nil ?_
            have hS := hS.pk3
            have hS := hS.pk3
            have hS := hS.pk3
            have hS := hS.pk3
            exact ⟨false, H, hK.sub (all_cons rfl (all_cons rfl (all_cons rfl (all_cons rfl (all_cons rfl (all_cons rfl (all_nil))))))), hS⟩
        · rintro a w ⟨x_903, H, hK, hS⟩
          unfold law06_StreamsRoom.j2 at H
          refine wp_cond_split (hK.ev rfl) (fun (hb_906 : x_903 = true) => ?_) (fun (hb_906 : x_903 = false) => ?_)
          · rw [ifb_t hb_906] at H
            refine wp_skip ?_
            refine wp_seq ?_
            refine wp_block ?_
            refine wp_seq ?_
            refine wp_region_lit ?_
            refine sl hK (by decide) rfl rfl (r_move hK rfl) fun a hK => ?_
            obtain ⟨y_907, h_908, H⟩ := bind_some H
            refine sl_callV Tryd.call11 hS hK (by decide) rfl rfl rfl (streams_Dict_Len.calls (⟨x_454, x_456, x_461⟩ : streams_Dict) (lentOf_sub [] _) (hS.lend_box0 (.tail _ (.tail _ (.head _)))) (hS.lend_row0 (.head _) hq_459 rfl rfl) (hS.lend_map0 (.tail _ (.head _))) h_908) fun a w hS hK => ?_
            refine sl hK (by decide) rfl rfl (r_assign hK rfl) fun a hK => ?_
            refine wpList_nil ?_
            refine wp_seq ?_
            refine parT_region (C := fun w => St [] w0 w R_468 [.row 60 2 v_457 x_456.length cs_458, .mp b_460 (kvs Value.string (Value.int .i64) x_461), .cells b_7 [.int .i64 x_454, v_457, .map (some b_460)] 56, .row 9 1 v_464 x_463.length cs_465]) 16 [(0, true), (1, true), (2, true), (3, true), (4, true), (5, true), (6, true), (7, true), (8, true), (9, true), (10, true), (11, false), (12, true), (13, true), (14, true), (15, true)] mixed (by kernel_rfl) hS (fun w hS => hS) fun w hS => ?_
            refine sp (k := 0) rfl hK (by decide) rfl rfl (fun w hS => r_move hK rfl) fun a hK => ?_
            refine sp (k := 1) rfl hK (by decide) rfl rfl (fun w hS => r_move hK rfl) fun a hK => ?_
            refine sp (k := 2) rfl hK (by decide) rfl rfl (fun w hS => r_move hK rfl) fun a hK => ?_
            obtain ⟨y_933, h_934, H⟩ := bind_some H
            obtain ⟨b_935, o_936, c_937, cs_938, hv_939, hr_940, hc_941, h_9340, h_9341⟩ := h1_0.ix h_934
            obtain ⟨v_942, rfl, hs_943⟩ := hr_940
            refine sp (k := 3) rfl hK (by decide) rfl rfl (fun w hS => r_indexAddr_R Tryd.underlying22 Tryd.sizeOf32 hv_939 h_9340 h_9341 hK rfl rfl) fun a hK => ?_
            refine sp (k := 4) rfl hK (by decide) rfl rfl (fun w hS => r_fieldAddr Tryd.underlying32 rfl Tryd.sizeOf9 hK rfl) fun a hK => ?_
            refine sp (k := 5) rfl hK (by decide) rfl rfl (fun w hS => r_load Tryd.isAgg9 hK rfl ((hS.ra hRA nil_not).cell (hc_941 0 _ rfl))) fun a hK => ?_
            refine sp (k := 6) rfl hK (by decide) rfl rfl (fun w hS => r_move hK rfl) fun a hK => ?_
            refine sp (k := 7) rfl hK (by decide) rfl rfl (fun w hS => r_move hK rfl) fun a hK => ?_
            obtain ⟨y_944, h_945, H⟩ := bind_some H
            obtain ⟨b_946, o_947, c_948, cs_949, hv_950, hr_951, hc_952, h_9450, h_9451⟩ := h1_0.ix h_945
            obtain ⟨v_953, rfl, hs_954⟩ := hr_951
            refine sp (k := 8) rfl hK (by decide) rfl rfl (fun w hS => r_indexAddr_R Tryd.underlying22 Tryd.sizeOf32 hv_950 h_9450 h_9451 hK rfl rfl) fun a hK => ?_
            refine sp (k := 9) rfl hK (by decide) rfl rfl (fun w hS => r_fieldAddr Tryd.underlying32 rfl Tryd.sizeOf30 hK rfl) fun a hK => ?_
            refine sp (k := 10) rfl hK (by decide) rfl rfl (fun w hS => r_load Tryd.isAgg30 hK rfl ((hS.ra hRA nil_not).cell (hc_952 1 _ rfl))) fun a hK => ?_
            refine spw (k := 11) rfl rfl hS ?_
            obtain ⟨y_955, h_956, H⟩ := bind_some H
            refine sl_callV Tryd.call9 hS hK (by decide) rfl rfl rfl (streams_Dict_Find.calls (⟨x_454, x_456, x_461⟩ : streams_Dict) y_933.Name y_944.Keys (lentOf_sub [] _) (hS.lend_box0 (.tail _ (.tail _ (.head _)))) (hS.lend_row0 (.head _) hq_459 rfl rfl) (hS.lend_map0 (.tail _ (.head _))) (hs_954.mono (hS.raLe0 hRA nil_not)) (GF.mono (hS.raLe0 hRA nil_not) hG) h_956) fun a w hS hK => ?_
            refine parK_nil hS ?_
            refine sp (k := 12) rfl hK (by decide) rfl rfl (fun w hS => r_move hK rfl) fun a hK => ?_
            refine sp (k := 13) rfl hK (by decide) rfl rfl (fun w hS => r_extract hK rfl rfl) fun a hK => ?_
            refine sp (k := 14) rfl hK (by decide) rfl rfl (fun w hS => r_extract hK rfl rfl) fun a hK => ?_
            refine sp (k := 15) rfl hK (by decide) rfl rfl (fun w hS => r_assign hK rfl) fun a hK => ?_
            refine thenL_nil ?_
            refine sl hK (by decide) rfl rfl (r_assign hK rfl) fun a hK => ?_
            refine wpList_nil (NoP_nil ?_)
            refine wp_seq ?_
            refine parT_region (C := fun w => St [] w0 w R_468 [.row 9 1 v_464 x_463.length cs_465]) 16 [(0, true), (1, true), (2, true), (3, true), (4, true), (5, true), (6, true), (7, true), (8, true), (9, true), (10, true), (11, false), (12, true), (13, true), (14, true), (15, true)] mixed (by kernel_rfl) hS (fun w hS => (hS.pk3.trunc 1)) fun w hS => ?_
            refine sp (k := 0) rfl hK (by decide) rfl rfl (fun w hS => r_move hK rfl) fun a hK => ?_
            refine sp (k := 1) rfl hK (by decide) rfl rfl (fun w hS => r_move hK rfl) fun a hK => ?_
            refine sp (k := 2) rfl hK (by decide) rfl rfl (fun w hS => r_move hK rfl) fun a hK => ?_
            obtain ⟨y_988, h_989, H⟩ := bind_some H
            obtain ⟨b_990, o_991, c_992, cs_993, hv_994, hr_995, hc_996, h_9890, h_9891⟩ := h1_0.ix h_989
            obtain ⟨v_997, rfl, hs_998⟩ := hr_995
            refine sp (k := 3) rfl hK (by decide) rfl rfl (fun w hS => r_indexAddr_R Tryd.underlying22 Tryd.sizeOf32 hv_994 h_9890 h_9891 hK rfl rfl) fun a hK => ?_
            refine sp (k := 4) rfl hK (by decide) rfl rfl (fun w hS => r_fieldAddr Tryd.underlying32 rfl Tryd.sizeOf9 hK rfl) fun a hK => ?_
            refine sp (k := 5) rfl hK (by decide) rfl rfl (fun w hS => r_load Tryd.isAgg9 hK rfl ((hS.ra hRA nil_not).cell (hc_996 0 _ rfl))) fun a hK => ?_
            refine sp (k := 6) rfl hK (by decide) rfl rfl (fun w hS => r_move hK rfl) fun a hK => ?_
            refine sp (k := 7) rfl hK (by decide) rfl rfl (fun w hS => r_move hK rfl) fun a hK => ?_
            obtain ⟨y_999, h_1000, H⟩ := bind_some H
            obtain ⟨b_1001, o_1002, c_1003, cs_1004, hv_1005, hr_1006, hc_1007, h_10000, h_10001⟩ := h1_0.ix h_1000
            obtain ⟨v_1008, rfl, hs_1009⟩ := hr_1006
            refine sp (k := 8) rfl hK (by decide) rfl rfl (fun w hS => r_indexAddr_R Tryd.underlying22 Tryd.sizeOf32 hv_1005 h_10000 h_10001 hK rfl rfl) fun a hK => ?_
            refine sp (k := 9) rfl hK (by decide) rfl rfl (fun w hS => r_fieldAddr Tryd.underlying32 rfl Tryd.sizeOf30 hK rfl) fun a hK => ?_
            refine sp (k := 10) rfl hK (by decide) rfl rfl (fun w hS => r_load Tryd.isAgg30 hK rfl ((hS.ra hRA nil_not).cell (hc_1007 1 _ rfl))) fun a hK => ?_
            refine spw (k := 11) rfl rfl (hS.pk3.trunc 1) ?_
            obtain ⟨y_1010, h_1011, H⟩ := bind_some H
            have hS := hS.pk1
            have hS := hS.pk1
            have hS := hS.pk2
            have hS1 := hS.sp3
            refine sl_call Tryd.call8 hK (by decide) rfl rfl rfl (streams_Dict_Add.calls (⟨x_454, x_456, x_461⟩ : streams_Dict) y_988.Name y_999.Keys (lentOf_sub _ _) lentOf_not hS1.lend hq_459 (hs_1009.mono (hS1.raLe hRA nil_not)) (GF.mono (hS1.raLe hRA nil_not) hG) h_1011) fun a v_ w hv_ hK => ?_
            obtain ⟨R_1012, v_1015, cs_1016, mb_1018, hv_, hr_, hl_1013, hq_1017⟩ := hv_
            have hv_ := hv_.symm
            subst hv_
            obtain ⟨hS, hl_1013⟩ := hS1.back hr_ hl_1013
            have hS := hS.un3
            have hRL := hRL.trans hl_1013
            refine parK_nil ((hS.pk3.trunc 1).lower hl_1013.le) ?_
            refine sp (k := 12) rfl hK (by decide) rfl rfl (fun w hS => r_move hK rfl) fun a hK => ?_
            refine sp (k := 13) rfl hK (by decide) rfl rfl (fun w hS => r_extract hK rfl rfl) fun a hK => ?_
            refine sp (k := 14) rfl hK (by decide) rfl rfl (fun w hS => r_extract hK rfl rfl) fun a hK => ?_
            refine sp (k := 15) rfl hK (by decide) rfl rfl (fun w hS => r_assign hK rfl) fun a hK => ?_
            refine thenL_nil ?_
            refine sl hK (by decide) rfl rfl (r_assign hK rfl) fun a hK => ?_
            refine wpList_nil (NoP_nil ?_)
            refine wp_seq ?_
            refine wp_seq ?_
            refine wp_mid (fun a w => ∃ (x_1028 : Bool), law06_StreamsRoom.j3 (law06_StreamsRoom.l1 a0 a1 k_l1) a1 x_463 x_467 y_1010 x_1028 = some true ∧ Kn 187 a [(0, .int .i64 a0), (1, v1_0), (6, .pointer (some ⟨b_7, 0, none⟩)), (7, v_464), (8, .int .i64 x_467), (95, .bool x_1028)] ∧ St [] w0 w R_1012 [.row 60 2 v_1015 y_1010.2.2.l.length cs_1016, .mp mb_1018 (kvs Value.string (Value.int .i64) y_1010.2.2.ids), .cells b_7 [.int .i64 y_1010.2.2.most, v_1015, .map (some mb_1018)] 56, .row 9 1 v_464 x_463.length cs_465]) ?_ ?_
            · refine wp_region_lit ?_
              refine sl hK (by decide) rfl rfl (r_move hK rfl) fun a hK => ?_
              obtain ⟨y_1030, h_1031, H⟩ := bind_some H
              refine sl_callV Tryd.call11 hS hK (by decide) rfl rfl rfl (streams_Dict_Len.calls y_1010.2.2 (lentOf_sub [] _) (hS.lend_box0 (.head _)) (hS.lend_row0 (.tail _ (.head _)) hq_1017 rfl rfl) (hS.lend_map0 (.tail _ (.tail _ (.head _)))) h_1031) fun a w hS hK => ?_
              refine sl hK (by decide) rfl rfl (r_move hK rfl) fun a hK => ?_
              refine sl hK (by decide) rfl rfl (r_ibin hK rfl rfl rfl) fun a hK => ?_
              refine sl hK (by decide) rfl rfl (r_ibin hK rfl rfl rfl) fun a hK => ?_
              refine sl hK (by decide) rfl rfl (r_move hK rfl) fun a hK => ?_
              refine sl hK (by decide) rfl rfl (r_ibin hK rfl rfl rfl) fun a hK => ?_
              refine sl hK (by decide) rfl rfl (r_move hK rfl) fun a hK => ?_
              rcases or_b (y_1010.2.1 == 0) with hb_1032 | hb_1032
              · rw [ifb_t hb_1032] at H
                refine sl hK (by decide) (wtt hb_1032) rfl (r_move hK rfl) fun a hK => ?_
                refine sl hK (by decide) (wtt hb_1032) rfl (r_un hK rfl (u_not _)) fun a hK => ?_
                refine sl hK (by decide) rfl rfl (r_pick_t hb_1032 hK rfl rfl) fun a hK => ?_
                refine sl hK (by decide) rfl rfl (r_bne Tryd.underlying4 hK rfl rfl) fun a hK => ?_
                refine sl hK (by decide) rfl rfl (r_move hK rfl) fun a hK => ?_
                rcases or_b (!((y_1030 == (IntKind.i64.wrap (y_907 + 1))) == (!y_955.2))) with hb_1033 | hb_1033
                · rw [ifb_t hb_1033] at H
                  refine sl_skip hK (by decide) (wft hb_1033) rfl fun a hK => ?_
                  refine sl_skip hK (by decide) (wft hb_1033) rfl fun a hK => ?_
                  refine sl_skip hK (by decide) (wft hb_1033) rfl fun a hK => ?_
                  refine sl_skip hK (by decide) (wft hb_1033) rfl fun a hK => ?_
                  refine sl_skip hK (by decide) (wft hb_1033) rfl fun a hK => ?_
                  refine sl_skip hK (by decide) (wft hb_1033) rfl fun a hK => ?_
                  refine sl hK (by decide) rfl rfl (r_pick_t hb_1033 hK rfl rfl) fun a hK => ?_
                  refine wpList_nil ?_
                  have hS := hS.pk3
                  have hS := hS.pk1
                  have hS := hS.pk3
                  have hS := hS.pk3
                  exact ⟨true, H, hK.sub (all_cons rfl (all_cons rfl (all_cons rfl (all_cons rfl (all_cons rfl (all_cons rfl (all_nil))))))), hS⟩
                · rw [ifb_f hb_1033] at H
                  refine sl hK (by decide) (wff hb_1033) rfl (r_move hK rfl) fun a hK => ?_
                  obtain ⟨y_1034, h_1035, H⟩ := bind_some H
                  refine sl_callV Tryd.call11 hS hK (by decide) (wff hb_1033) rfl rfl (streams_Dict_Len.calls y_1010.2.2 (lentOf_sub [] _) (hS.lend_box0 (.head _)) (hS.lend_row0 (.tail _ (.head _)) hq_1017 rfl rfl) (hS.lend_map0 (.tail _ (.tail _ (.head _)))) h_1035) fun a w hS hK => ?_
                  refine sl hK (by decide) (wff hb_1033) rfl (r_move hK rfl) fun a hK => ?_
                  refine sl hK (by decide) (wff hb_1033) rfl (r_min2 hK rfl rfl) fun a hK => ?_
                  refine sl hK (by decide) (wff hb_1033) rfl (r_max2 hK rfl rfl) fun a hK => ?_
                  refine sl hK (by decide) (wff hb_1033) rfl (r_ibin hK rfl rfl rfl) fun a hK => ?_
                  refine sl hK (by decide) rfl rfl (r_pick_f hb_1033 hK rfl rfl) fun a hK => ?_
                  refine wpList_nil ?_
                  have hS := hS.pk3
                  have hS := hS.pk1
                  have hS := hS.pk3
                  have hS := hS.pk3
                  exact ⟨(decide (y_1034 > (max 0 (min a0 100)))), H, hK.sub (all_cons rfl (all_cons rfl (all_cons rfl (all_cons rfl (all_cons rfl (all_cons rfl (all_nil))))))), hS⟩
              · rw [ifb_f hb_1032] at H
                refine sl_skip hK (by decide) (wtf hb_1032) rfl fun a hK => ?_
                refine sl_skip hK (by decide) (wtf hb_1032) rfl fun a hK => ?_
                refine sl hK (by decide) rfl rfl (r_pick_f hb_1032 hK rfl rfl) fun a hK => ?_
                refine sl hK (by decide) rfl rfl (r_bne Tryd.underlying4 hK rfl rfl) fun a hK => ?_
                refine sl hK (by decide) rfl rfl (r_move hK rfl) fun a hK => ?_
                rcases or_b (!((y_1030 == (IntKind.i64.wrap (y_907 + 1))) == false)) with hb_1036 | hb_1036
                · rw [ifb_t hb_1036] at H
                  refine sl_skip hK (by decide) (wft hb_1036) rfl fun a hK => ?_
                  refine sl_skip hK (by decide) (wft hb_1036) rfl fun a hK => ?_
                  refine sl_skip hK (by decide) (wft hb_1036) rfl fun a hK => ?_
                  refine sl_skip hK (by decide) (wft hb_1036) rfl fun a hK => ?_
                  refine sl_skip hK (by decide) (wft hb_1036) rfl fun a hK => ?_
                  refine sl_skip hK (by decide) (wft hb_1036) rfl fun a hK => ?_
                  refine sl hK (by decide) rfl rfl (r_pick_t hb_1036 hK rfl rfl) fun a hK => ?_
                  refine wpList_nil ?_
                  have hS := hS.pk3
                  have hS := hS.pk1
                  have hS := hS.pk3
                  have hS := hS.pk3
                  exact ⟨true, H, hK.sub (all_cons rfl (all_cons rfl (all_cons rfl (all_cons rfl (all_cons rfl (all_cons rfl (all_nil))))))), hS⟩
                · rw [ifb_f hb_1036] at H
                  refine sl hK (by decide) (wff hb_1036) rfl (r_move hK rfl) fun a hK => ?_
                  obtain ⟨y_1037, h_1038, H⟩ := bind_some H
                  refine sl_callV Tryd.call11 hS hK (by decide) (wff hb_1036) rfl rfl (streams_Dict_Len.calls y_1010.2.2 (lentOf_sub [] _) (hS.lend_box0 (.head _)) (hS.lend_row0 (.tail _ (.head _)) hq_1017 rfl rfl) (hS.lend_map0 (.tail _ (.tail _ (.head _)))) h_1038) fun a w hS hK => ?_
                  refine sl hK (by decide) (wff hb_1036) rfl (r_move hK rfl) fun a hK => ?_
                  refine sl hK (by decide) (wff hb_1036) rfl (r_min2 hK rfl rfl) fun a hK => ?_
                  refine sl hK (by decide) (wff hb_1036) rfl (r_max2 hK rfl rfl) fun a hK => ?_
                  refine sl hK (by decide) (wff hb_1036) rfl (r_ibin hK rfl rfl rfl) fun a hK => ?_
                  refine sl hK (by decide) rfl rfl (r_pick_f hb_1036 hK rfl rfl) fun a hK => ?_
                  refine wpList_nil ?_
                  have hS := hS.pk3
                  have hS := hS.pk1
                  have hS := hS.pk3
                  have hS := hS.pk3
                  exact ⟨(decide (y_1037 > (max 0 (min a0 100)))), H, hK.sub (all_cons rfl (all_cons rfl (all_cons rfl (all_cons rfl (all_cons rfl (all_cons rfl (all_nil))))))), hS⟩
            · rintro a w ⟨x_1028, H, hK, hS⟩
              unfold law06_StreamsRoom.j3 at H
              refine wp_cond_split (hK.ev rfl) (fun (hb_1039 : x_1028 = true) => ?_) (fun (hb_1039 : x_1028 = false) => ?_)
              · rw [ifb_t hb_1039] at H
                refine wp_seq ?_
                refine wp_region_lit ?_
                refine sl hK (by decide) rfl rfl (r_assign hK rfl) fun a hK => ?_
                refine wpList_nil ?_
                exact absurd (Option.some.inj H) (by decide)
              · rw [ifb_f hb_1039] at H
                refine wp_skip ?_
                refine wp_seq ?_
                refine wp_region_lit ?_
                refine sl hK (by decide) rfl rfl (r_assign hK rfl) fun a hK => ?_
                refine wpList_nil ?_
                refine wp_seq ?_
                refine wp_seq ?_
                refine wp_region_lit ?_
                refine sl hK (by decide) rfl rfl (r_assign hK rfl) fun a hK => ?_
                refine wpList_nil ?_
                refine wp_block ?_
                refine wp_loop_k (fun k_l4 a w => ∃ (x_1118 : Bool) (x_1119 : Int), law06_StreamsRoom.l4 (law06_StreamsRoom.l1 a0 a1 k_l1) a1 x_463 x_467 y_1010 k_l4 x_1118 x_1119 = some true ∧ Kn 187 a [(0, .int .i64 a0), (1, v1_0), (6, .pointer (some ⟨b_7, 0, none⟩)), (7, v_464), (8, .int .i64 x_467), (14, .bool x_1118), (15, .int .i64 x_1119)] ∧ St [] w0 w R_1012 [.row 60 2 v_1015 y_1010.2.2.l.length cs_1016, .mp mb_1018 (kvs Value.string (Value.int .i64) y_1010.2.2.ids), .cells b_7 [.int .i64 y_1010.2.2.most, v_1015, .map (some mb_1018)] 56, .row 9 1 v_464 x_463.length cs_465]) (((x_463.length : Int) - 0).toNat + 1) ?_ ?_
                · have hS := hS.pk3
                  have hS := hS.pk3
                  have hS := hS.pk3
                  have hS := hS.pk3
                  exact ⟨false, 0, H, hK.sub (all_cons rfl (all_cons rfl (all_cons rfl (all_cons rfl (all_cons rfl (all_cons rfl (all_cons rfl (all_nil)))))))), hS⟩
                · rintro k_l4 a w ⟨x_1118, x_1119, H, hK, hS⟩
                  cases k_l4 with
                  | zero => cases H
                  | succ k_l4 =>
                  rw [law06_StreamsRoom.l4.eq_2] at H
                  refine wp_seq ?_
                  refine wp_seq ?_
                  refine wp_region_lit ?_
                  refine sl hK (by decide) rfl rfl (r_move hK rfl) fun a hK => ?_
                  refine sl hK (by decide) rfl rfl (r_move hK rfl) fun a hK => ?_
                  refine sl hK (by decide) rfl rfl (r_len_O Tryd.underlying37 hS (.tail _ (.tail _ (.tail _ (.head _)))) hK rfl) fun a hK => ?_
                  refine sl hK (by decide) rfl rfl (r_ibin hK rfl rfl rfl) fun a hK => ?_
                  refine wpList_nil ?_
                  refine wp_cond_split (hK.ev rfl) (fun (hb_1204 : (decide (x_1119 < (x_463.length : Int))) = true) => ?_) (fun (hb_1204 : (decide (x_1119 < (x_463.length : Int))) = false) => ?_)
                  · rw [ifb_t hb_1204] at H
                    refine wp_skip ?_
                    refine wp_seq ?_
                    refine wp_block ?_
                    refine wp_mid (fun a w => ∃ (x_1245 : Bool), law06_StreamsRoom.j5 (law06_StreamsRoom.l4 (law06_StreamsRoom.l1 a0 a1 k_l1) a1 x_463 x_467 y_1010 k_l4) x_463 x_1119 x_1245 = some true ∧ Kn 187 a [(0, .int .i64 a0), (1, v1_0), (6, .pointer (some ⟨b_7, 0, none⟩)), (7, v_464), (8, .int .i64 x_467), (14, .bool x_1245), (15, .int .i64 x_1119)] ∧ St [] w0 w R_1012 [.row 60 2 v_1015 y_1010.2.2.l.length cs_1016, .mp mb_1018 (kvs Value.string (Value.int .i64) y_1010.2.2.ids), .cells b_7 [.int .i64 y_1010.2.2.most, v_1015, .map (some mb_1018)] 56, .row 9 1 v_464 x_463.length cs_465]) ?_ ?_
                    · refine par_region (C := fun w => St [] w0 w R_1012 [.row 60 2 v_1015 y_1010.2.2.l.length cs_1016, .mp mb_1018 (kvs Value.string (Value.int .i64) y_1010.2.2.ids), .cells b_7 [.int .i64 y_1010.2.2.most, v_1015, .map (some mb_1018)] 56, .row 9 1 v_464 x_463.length cs_465]) [(0, true), (1, true), (2, true), (3, true), (4, true), (5, true), (6, true), (7, true), (8, true), (9, true), (10, true), (11, true), (12, true), (13, true)] mixed (by kernel_rfl) hS (fun w hS => hS) fun w hS => ?_
                      refine sp (k := 0) rfl hK (by decide) rfl rfl (fun w hS => r_move hK rfl) fun a hK => ?_
                      refine sp (k := 1) rfl hK (by decide) rfl rfl (fun w hS => r_move hK rfl) fun a hK => ?_
                      rcases or_b x_1118 with hb_1267 | hb_1267
                      · rw [ifb_t hb_1267] at H
                        refine sp_skip (k := 2) rfl hK (by decide) (wft hb_1267) rfl fun a hK => ?_
                        refine sp_skip (k := 3) rfl hK (by decide) (wft hb_1267) rfl fun a hK => ?_
                        refine sp_skip (k := 4) rfl hK (by decide) (wft hb_1267) rfl fun a hK => ?_
                        refine sp_skip (k := 5) rfl hK (by decide) (wft hb_1267) rfl fun a hK => ?_
                        refine sp_skip (k := 6) rfl hK (by decide) (wft hb_1267) rfl fun a hK => ?_
                        refine sp_skip (k := 7) rfl hK (by decide) (wft hb_1267) rfl fun a hK => ?_
                        refine sp_skip (k := 8) rfl hK (by decide) (wft hb_1267) rfl fun a hK => ?_
                        refine sp_skip (k := 9) rfl hK (by decide) (wft hb_1267) rfl fun a hK => ?_
                        refine sp_skip (k := 10) rfl hK (by decide) (wft hb_1267) rfl fun a hK => ?_
                        refine sp_skip (k := 11) rfl hK (by decide) (wft hb_1267) rfl fun a hK => ?_
                        refine sp (k := 12) rfl hK (by decide) rfl rfl (fun w hS => r_pick_t hb_1267 hK rfl rfl) fun a hK => ?_
                        refine sp (k := 13) rfl hK (by decide) rfl rfl (fun w hS => r_assign hK rfl) fun a hK => ?_
                        refine wpPar_nil (NoP_nil ?_)
                        have hS := hS.pk3
                        have hS := hS.pk3
                        have hS := hS.pk3
                        have hS := hS.pk3
                        exact ⟨true, H, hK.sub (all_cons rfl (all_cons rfl (all_cons rfl (all_cons rfl (all_cons rfl (all_cons rfl (all_cons rfl (all_nil)))))))), hS⟩
                      · rw [ifb_f hb_1267] at H
                        refine sp (k := 2) rfl hK (by decide) (wff hb_1267) rfl (fun w hS => r_move hK rfl) fun a hK => ?_
                        refine sp (k := 3) rfl hK (by decide) (wff hb_1267) rfl (fun w hS => r_move hK rfl) fun a hK => ?_
                        obtain ⟨y_1268, h_1269, H⟩ := bind_some H
                        obtain ⟨b_1271, c_1272, cs_1273, hv_1270, hr_1274, hc_1275, h_12690, h_12691⟩ := hS.row_ix (.tail _ (.tail _ (.tail _ (.head _)))) (hq_466.mono hl_1013.le) rfl rfl h_1269
                        subst hr_1274
                        refine sp (k := 4) rfl hK (by decide) (wff hb_1267) rfl (fun w hS => r_indexAddr_R Tryd.underlying37 Tryd.sizeOf9 hv_1270 h_12690 h_12691 hK rfl rfl) fun a hK => ?_
                        refine sp (k := 5) rfl hK (by decide) (wff hb_1267) rfl (fun w hS => r_load Tryd.isAgg9 hK rfl (hS.row_cell (.tail _ (.tail _ (.tail _ (.head _)))) hv_1270 (hc_1275 0 _ rfl))) fun a hK => ?_
                        refine sp (k := 6) rfl hK (by decide) (wff hb_1267) rfl (fun w hS => r_move hK rfl) fun a hK => ?_
                        refine sp (k := 7) rfl hK (by decide) (wff hb_1267) rfl (fun w hS => r_move hK rfl) fun a hK => ?_
                        obtain ⟨y_1276, h_1277, H⟩ := bind_some H
                        obtain ⟨b_1278, o_1279, c_1280, cs_1281, hv_1282, hr_1283, hc_1284, h_12770, h_12771⟩ := h1_0.ix h_1277
                        obtain ⟨v_1285, rfl, hs_1286⟩ := hr_1283
                        refine sp (k := 8) rfl hK (by decide) (wff hb_1267) rfl (fun w hS => r_indexAddr_R Tryd.underlying22 Tryd.sizeOf32 hv_1282 h_12770 h_12771 hK rfl rfl) fun a hK => ?_
                        refine sp (k := 9) rfl hK (by decide) (wff hb_1267) rfl (fun w hS => r_fieldAddr Tryd.underlying32 rfl Tryd.sizeOf9 hK rfl) fun a hK => ?_
                        refine sp (k := 10) rfl hK (by decide) (wff hb_1267) rfl (fun w hS => r_load Tryd.isAgg9 hK rfl ((hS.ra hRA nil_not).cell (hc_1284 0 _ rfl))) fun a hK => ?_
                        refine sp (k := 11) rfl hK (by decide) (wff hb_1267) rfl (fun w hS => r_sbin hK rfl rfl rfl) fun a hK => ?_
                        refine sp (k := 12) rfl hK (by decide) rfl rfl (fun w hS => r_pick_f hb_1267 hK rfl rfl) fun a hK => ?_
                        refine sp (k := 13) rfl hK (by decide) rfl rfl (fun w hS => r_assign hK rfl) fun a hK => ?_
                        refine wpPar_nil (NoP_nil ?_)
                        have hS := hS.pk3
                        have hS := hS.pk3
                        have hS := hS.pk3
                        have hS := hS.pk3
                        exact ⟨(y_1268.toList == y_1276.Name.toList), H, hK.sub (all_cons rfl (all_cons rfl (all_cons rfl (all_cons rfl (all_cons rfl (all_cons rfl (all_cons rfl (all_nil)))))))), hS⟩
                    · rintro a w ⟨x_1245, H, hK, hS⟩
                      unfold law06_StreamsRoom.j5 at H
                      refine wp_region_lit ?_
                      refine sl hK (by decide) rfl rfl (r_move hK rfl) fun a hK => ?_
                      refine sl hK (by decide) rfl rfl (r_ibin hK rfl rfl rfl) fun a hK => ?_
                      refine sl hK (by decide) rfl rfl (r_assign hK rfl) fun a hK => ?_
                      refine wpList_nil ?_
                      have hS := hS.pk3
                      have hS := hS.pk3
                      have hS := hS.pk3
                      have hS := hS.pk3
                      exact ⟨_, Nat.lt_succ_self _, x_1245, (IntKind.i64.wrap (x_1119 + 1)), H, hK.sub (all_cons rfl (all_cons rfl (all_cons rfl (all_cons rfl (all_cons rfl (all_cons rfl (all_cons rfl (all_nil)))))))), hS⟩
                  · rw [ifb_f hb_1204] at H
                    refine wp_exit ?_
                    refine wp_seq ?_
                    refine wp_region_lit ?_
                    refine sl hK (by decide) rfl rfl (r_move hK rfl) fun a hK => ?_
                    refine sl hK (by decide) rfl rfl (r_un hK rfl (u_not _)) fun a hK => ?_
                    refine wpList_nil ?_
                    refine wp_mid (fun a w => ∃ (x_1307 : List ByteArray) (v_1308 : Value) (cs_1309 : List Value), law06_StreamsRoom.j6 (law06_StreamsRoom.l1 a0 a1 k_l1) a1 x_467 y_1010 x_1307 = some true ∧ Reps tyStr R_1012 cs_1309 x_1307 ∧ Kn 187 a [(0, .int .i64 a0), (1, v1_0), (6, .pointer (some ⟨b_7, 0, none⟩)), (7, v_1308), (8, .int .i64 x_467)] ∧ St [] w0 w R_1012 [.row 60 2 v_1015 y_1010.2.2.l.length cs_1016, .mp mb_1018 (kvs Value.string (Value.int .i64) y_1010.2.2.ids), .cells b_7 [.int .i64 y_1010.2.2.most, v_1015, .map (some mb_1018)] 56, .row 9 1 v_1308 x_1307.length cs_1309]) ?_ ?_
                    · refine wp_cond_split (hK.ev rfl) (fun (hb_1312 : (!x_1118) = true) => ?_) (fun (hb_1312 : (!x_1118) = false) => ?_)
                      · rw [ifb_t hb_1312] at H
                        refine wp_region_lit ?_
                        refine sl hK (by decide) rfl rfl (r_move hK rfl) fun a hK => ?_
                        refine sl hK (by decide) rfl rfl (r_move hK rfl) fun a hK => ?_
                        refine sl hK (by decide) rfl rfl (r_move hK rfl) fun a hK => ?_
                        obtain ⟨y_1313, h_1314, H⟩ := bind_some H
                        obtain ⟨b_1315, o_1316, c_1317, cs_1318, hv_1319, hr_1320, hc_1321, h_13140, h_13141⟩ := h1_0.ix h_1314
                        obtain ⟨v_1322, rfl, hs_1323⟩ := hr_1320
                        refine sl hK (by decide) rfl rfl (r_indexAddr_R Tryd.underlying22 Tryd.sizeOf32 hv_1319 h_13140 h_13141 hK rfl rfl) fun a hK => ?_
                        refine sl hK (by decide) rfl rfl (r_fieldAddr Tryd.underlying32 rfl Tryd.sizeOf9 hK rfl) fun a hK => ?_
                        refine sl hK (by decide) rfl rfl (r_load Tryd.isAgg9 hK rfl ((hS.ra hRA nil_not).cell (hc_1321 0 _ rfl))) fun a hK => ?_
                        refine sl_buildSliceF (zc := [.string (⟨#[]⟩ : ByteArray)]) (ps := [(0, .string y_1313.Name)]) (c := [.string y_1313.Name]) [[.string y_1313.Name]] Tryd.underlying37 Tryd.sizeOf9 Tryd.zeroValue9 rfl (pc_cons rfl pc_nil) rfl rfl (Nat.le_of_ble_eq_true rfl) rfl (all_cons rfl (all_nil)) rfl hS hK (by decide) rfl fun a w b_1324 hS hK => ?_
                        obtain ⟨y_1325, h_1326, H⟩ := bind_some H
                        have hS := hS.pk4
                        refine sl_append_L (ty := tyStr) (ys := [y_1313.Name]) elT37 (by decide) rfl (hq_466.mono hl_1013.le) rfl (Reps.cons (show Ty.rep tyStr _ [.string y_1313.Name] y_1313.Name from rfl) (Reps.nil _ _)) rfl h_1326 hS hK (by decide) rfl rfl rfl fun a w v_1327 cs_1328 hq_1329 hS hK => ?_
                        refine sl hK (by decide) rfl rfl (r_assign hK rfl) fun a hK => ?_
                        refine wpList_nil ?_
                        have hS := hS.pk3
                        have hS := hS.pk3
                        have hS := hS.pk3
                        exact ⟨y_1325, _, _, H, hq_1329, hK.sub (all_cons rfl (all_cons rfl (all_cons rfl (all_cons rfl (all_cons rfl (all_nil)))))), hS⟩
                      · rw [ifb_f hb_1312] at H
                        refine wp_skip ?_
                        have hS := hS.pk3
                        have hS := hS.pk3
                        have hS := hS.pk3
                        have hS := hS.pk3
                        exact ⟨x_463, _, _, H, (hq_466.mono hl_1013.le), hK.sub (all_cons rfl (all_cons rfl (all_cons rfl (all_cons rfl (all_cons rfl (all_nil)))))), hS⟩
                    · rintro a w ⟨x_1307, v_1308, cs_1309, H, hq_1310, hK, hS⟩
                      unfold law06_StreamsRoom.j6 at H
                      refine wp_region_lit ?_
                      refine sl hK (by decide) rfl rfl (r_move hK rfl) fun a hK => ?_
                      refine sl hK (by decide) rfl rfl (r_ibin hK rfl rfl rfl) fun a hK => ?_
                      refine sl hK (by decide) rfl rfl (r_assign hK rfl) fun a hK => ?_
                      refine wpList_nil ?_
                      have hS := hS.pk3
                      have hS := hS.pk3
                      have hS := hS.pk3
                      have hS := hS.pk3
                      exact ⟨_, Nat.lt_succ_self _, y_1010.2.2.most, y_1010.2.2.l, y_1010.2.2.ids, x_1307, (IntKind.i64.wrap (x_467 + 1)), _, _, _, _, _, _, H, (hl_469.trans hl_1013), hq_1017, hq_1310, hK.sub (all_cons rfl (all_cons rfl (all_cons rfl (all_cons rfl (all_cons rfl (all_nil)))))), hS⟩
          · rw [ifb_f hb_906] at H
            refine wp_exit ?_
            refine wp_seq ?_
            refine wp_region_lit ?_
            refine sl hK (by decide) rfl rfl (r_assign hK rfl) fun a hK => ?_
            refine wpList_nil ?_
            refine wp_seq ?_
            refine wp_seq ?_
            refine wp_region_lit ?_
            refine sl hK (by decide) rfl rfl (r_assign hK rfl) fun a hK => ?_
            refine wpList_nil ?_
            refine wp_block ?_
            refine wp_loop_k (fun k_l7 a w => ∃ (x_1669 : Int) (x_1670 : Int) (R_1671 : Hp), law06_StreamsRoom.l7 x_454 x_456 x_461 x_463 k_l7 x_1669 x_1670 = some true ∧ RLe [] w0 R_468 R_1671 ∧ Kn 187 a [(6, .pointer (some ⟨b_7, 0, none⟩)), (7, v_464), (16, .int .i64 x_1669), (17, .int .i64 x_1670)] ∧ St [] w0 w R_1671 [.row 60 2 v_457 x_456.length cs_458, .mp b_460 (kvs Value.string (Value.int .i64) x_461), .cells b_7 [.int .i64 x_454, v_457, .map (some b_460)] 56, .row 9 1 v_464 x_463.length cs_465]) (((x_463.length : Int) - 0).toNat + 1) ?_ ?_
            · have hS := hS.pk3
              have hS := hS.pk3
              have hS := hS.pk3
              have hS := hS.pk3
              exact ⟨0, 0, _, H, (RLe.refl _ _), hK.sub (all_cons rfl (all_cons rfl (all_cons rfl (all_cons rfl (all_nil))))), hS⟩
            · rintro k_l7 a w ⟨x_1669, x_1670, R_1671, H, hl_1672, hK, hS⟩
              cases k_l7 with
              | zero => cases H
              | succ k_l7 =>
              rw [law06_StreamsRoom.l7.eq_2] at H
              have hRL := hRL.trans hl_1672
              refine wp_seq ?_
              refine wp_seq ?_
              refine wp_region_lit ?_
              refine sl hK (by decide) rfl rfl (r_move hK rfl) fun a hK => ?_
              refine sl hK (by decide) rfl rfl (r_move hK rfl) fun a hK => ?_
              refine sl hK (by decide) rfl rfl (r_len_O Tryd.underlying37 hS (.tail _ (.tail _ (.tail _ (.head _)))) hK rfl) fun a hK => ?_
              refine sl hK (by decide) rfl rfl (r_ibin hK rfl rfl rfl) fun a hK => ?_
              refine wpList_nil ?_
              refine wp_cond_split (hK.ev rfl) (fun (hb_2010 : (decide (x_1670 < (x_463.length : Int))) = true) => ?_) (fun (hb_2010 : (decide (x_1670 < (x_463.length : Int))) = false) => ?_)
              · rw [ifb_t hb_2010] at H
                refine wp_skip ?_
                refine wp_seq ?_
                refine wp_block ?_
                refine wp_seq ?_
                refine wp_region_lit ?_
                refine sl hK (by decide) rfl rfl (r_move hK rfl) fun a hK => ?_
                refine sl hK (by decide) rfl rfl (r_move hK rfl) fun a hK => ?_
                refine sl hK (by decide) rfl rfl (r_move hK rfl) fun a hK => ?_
                obtain ⟨y_2011, h_2012, H⟩ := bind_some H
                obtain ⟨b_2014, c_2015, cs_2016, hv_2013, hr_2017, hc_2018, h_20120, h_20121⟩ := hS.row_ix (.tail _ (.tail _ (.tail _ (.head _)))) (hq_466.mono hl_1672.le) rfl rfl h_2012
                subst hr_2017
                refine sl hK (by decide) rfl rfl (r_indexAddr_R Tryd.underlying37 Tryd.sizeOf9 hv_2013 h_20120 h_20121 hK rfl rfl) fun a hK => ?_
                refine sl hK (by decide) rfl rfl (r_load Tryd.isAgg9 hK rfl (hS.row_cell (.tail _ (.tail _ (.tail _ (.head _)))) hv_2013 (hc_2018 0 _ rfl))) fun a hK => ?_
                obtain ⟨y_2019, h_2020, H⟩ := bind_some H
                refine sl_call Tryd.call12 hK (by decide) rfl rfl rfl (streams_Dict_Of.calls (⟨x_454, x_456, x_461⟩ : streams_Dict) y_2011 (lentOf_sub [] _) hS.sub (hS.lend_box0 (.tail _ (.tail _ (.head _)))) (hS.lend_row0 (.head _) (hq_459.mono hl_1672.le) rfl rfl) (hS.lend_map0 (.tail _ (.head _))) h_2020) fun a v_ w hv_ hK => ?_
                obtain ⟨R_2021, v_2024, cs_2025, hv_, hr_, hl_2022, hq_2026⟩ := hv_
                have hv_ := hv_.symm
                subst hv_
                obtain ⟨hS, hl_2022⟩ := hS.sp0.back hr_ hl_2022
                have hS := hS.un1
                have hRL := hRL.trans hl_2022
                refine sl hK (by decide) rfl rfl (r_assign hK rfl) fun a hK => ?_
                refine wpList_nil ?_
                refine wp_seq ?_
                refine wp_seq ?_
                refine wp_region_lit ?_
                refine sl hK (by decide) rfl rfl (r_assign hK rfl) fun a hK => ?_
                refine wpList_nil ?_
                refine wp_block ?_
                refine wp_loop_k (fun k_l8 a w => ∃ (x_2088 : Int) (R_2089 : Hp), law06_StreamsRoom.l8 (law06_StreamsRoom.l7 x_454 x_456 x_461 x_463 k_l7) x_454 x_456 x_461 x_463 x_1669 x_1670 y_2019 k_l8 x_2088 = some true ∧ RLe [] w0 R_2021 R_2089 ∧ Kn 187 a [(6, .pointer (some ⟨b_7, 0, none⟩)), (7, v_464), (16, .int .i64 x_1669), (17, .int .i64 x_1670), (18, v_2024), (19, .int .i64 x_2088)] ∧ St [] w0 w R_2089 [.row 60 2 v_457 x_456.length cs_458, .mp b_460 (kvs Value.string (Value.int .i64) x_461), .cells b_7 [.int .i64 x_454, v_457, .map (some b_460)] 56, .row 9 1 v_464 x_463.length cs_465, .row 3 1 v_2024 y_2019.length cs_2025]) (((y_2019.length : Int) - 0).toNat + 1) ?_ ?_
                · have hS := hS.pk4
                  have hS := hS.pk4
                  have hS := hS.pk4
                  have hS := hS.pk4
                  exact ⟨0, _, H, (RLe.refl _ _), hK.sub (all_cons rfl (all_cons rfl (all_cons rfl (all_cons rfl (all_cons rfl (all_cons rfl (all_nil))))))), hS⟩
                · rintro k_l8 a w ⟨x_2088, R_2089, H, hl_2090, hK, hS⟩
                  cases k_l8 with
                  | zero => cases H
                  | succ k_l8 =>
                  rw [law06_StreamsRoom.l8.eq_2] at H
                  have hRL := hRL.trans hl_2090
                  refine wp_seq ?_
                  refine wp_seq ?_
                  refine wp_region_lit ?_
                  refine sl hK (by decide) rfl rfl (r_move hK rfl) fun a hK => ?_
                  refine sl hK (by decide) rfl rfl (r_move hK rfl) fun a hK => ?_
                  refine sl hK (by decide) rfl rfl (r_len_O Tryd.underlying26 hS (.tail _ (.tail _ (.tail _ (.tail _ (.head _))))) hK rfl) fun a hK => ?_
                  refine sl hK (by decide) rfl rfl (r_ibin hK rfl rfl rfl) fun a hK => ?_
                  refine wpList_nil ?_
                  refine wp_cond_split (hK.ev rfl) (fun (hb_2219 : (decide (x_2088 < (y_2019.length : Int))) = true) => ?_) (fun (hb_2219 : (decide (x_2088 < (y_2019.length : Int))) = false) => ?_)
                  · rw [ifb_t hb_2219] at H
                    refine wp_skip ?_
                    refine wp_seq ?_
                    refine wp_block ?_
                    refine wp_seq ?_
                    refine wp_region_lit ?_
                    refine sl hK (by decide) rfl rfl (r_move hK rfl) fun a hK => ?_
                    refine sl hK (by decide) rfl rfl (r_move hK rfl) fun a hK => ?_
                    refine sl hK (by decide) rfl rfl (r_move hK rfl) fun a hK => ?_
                    obtain ⟨y_2220, h_2221, H⟩ := bind_some H
                    obtain ⟨b_2223, c_2224, cs_2225, hv_2222, hr_2226, hc_2227, h_22210, h_22211⟩ := hS.row_ix (.tail _ (.tail _ (.tail _ (.tail _ (.head _))))) (hq_2026.mono hl_2090.le) rfl rfl h_2221
                    subst hr_2226
                    refine sl hK (by decide) rfl rfl (r_indexAddr_R Tryd.underlying26 Tryd.sizeOf3 hv_2222 h_22210 h_22211 hK rfl rfl) fun a hK => ?_
                    refine sl hK (by decide) rfl rfl (r_load Tryd.isAgg3 hK rfl (hS.row_cell (.tail _ (.tail _ (.tail _ (.tail _ (.head _))))) hv_2222 (hc_2227 0 _ rfl))) fun a hK => ?_
                    obtain ⟨y_2228, h_2229, H⟩ := bind_some H
                    refine sl_call Tryd.call13 hK (by decide) rfl rfl rfl (streams_Dict_Keys.calls (⟨x_454, x_456, x_461⟩ : streams_Dict) y_2220 (lentOf_sub [] _) hS.sub (hS.lend_box0 (.tail _ (.tail _ (.head _)))) (hS.lend_row0 (.head _) (hq_459.mono (hl_1672.le.trans (hl_2022.le.trans hl_2090.le))) rfl rfl) (hS.lend_map0 (.tail _ (.head _))) h_2229) fun a v_ w hv_ hK => ?_
                    obtain ⟨R_2230, v_2233, cs_2234, hv_, hr_, hl_2231, hq_2235⟩ := hv_
                    have hv_ := hv_.symm
                    subst hv_
                    obtain ⟨hS, hl_2231⟩ := hS.sp0.back hr_ hl_2231
                    have hS := hS.un1
                    have hRL := hRL.trans hl_2231
                    refine sl hK (by decide) rfl rfl (r_move hK rfl) fun a hK => ?_
                    refine sl hK (by decide) rfl rfl (r_extract hK rfl rfl) fun a hK => ?_
                    refine sl hK (by decide) rfl rfl (r_extract hK rfl rfl) fun a hK => ?_
                    refine sl hK (by decide) rfl rfl (r_extract hK rfl rfl) fun a hK => ?_
                    refine sl hK (by decide) rfl rfl (r_assign hK rfl) fun a hK => ?_
                    refine sl hK (by decide) rfl rfl (r_assign hK rfl) fun a hK => ?_
                    refine sl hK (by decide) rfl rfl (r_assign hK rfl) fun a hK => ?_
                    refine wpList_nil ?_
                    refine wp_seq ?_
                    refine wp_mid (fun a w => ∃ (x_2290 : Bool), law06_StreamsRoom.j9 (law06_StreamsRoom.l8 (law06_StreamsRoom.l7 x_454 x_456 x_461 x_463 k_l7) x_454 x_456 x_461 x_463 x_1669 x_1670 y_2019 k_l8) y_2019 x_2088 x_2290 = some true ∧ Kn 187 a [(6, .pointer (some ⟨b_7, 0, none⟩)), (7, v_464), (16, .int .i64 x_1669), (17, .int .i64 x_1670), (18, v_2024), (19, .int .i64 x_2088), (178, .bool x_2290)] ∧ St [] w0 w R_2230 [.row 60 2 v_457 x_456.length cs_458, .mp b_460 (kvs Value.string (Value.int .i64) x_461), .cells b_7 [.int .i64 x_454, v_457, .map (some b_460)] 56, .row 9 1 v_464 x_463.length cs_465, .row 3 1 v_2024 y_2019.length cs_2025]) ?_ ?_
                    · refine par_region (C := fun w => St [] w0 w R_2230 [.row 50 11 v_2233 y_2228.2.1.length cs_2234, .row 60 2 v_457 x_456.length cs_458, .mp b_460 (kvs Value.string (Value.int .i64) x_461), .cells b_7 [.int .i64 x_454, v_457, .map (some b_460)] 56, .row 9 1 v_464 x_463.length cs_465, .row 3 1 v_2024 y_2019.length cs_2025]) [(0, true), (1, true), (2, true), (3, true), (4, true), (5, true), (6, true), (7, true), (8, true), (9, true), (10, true), (11, true), (12, true), (13, true), (14, true), (15, true), (16, true), (17, true), (18, true), (19, true), (20, true), (21, true), (22, true), (23, true), (24, true), (25, true)] mixed (by kernel_rfl) hS (fun w hS => hS) fun w hS => ?_
                      refine sp (k := 0) rfl hK (by decide) rfl rfl (fun w hS => r_move hK rfl) fun a hK => ?_
                      refine sp (k := 1) rfl hK (by decide) rfl rfl (fun w hS => r_un hK rfl (u_not _)) fun a hK => ?_
                      refine sp (k := 2) rfl hK (by decide) rfl rfl (fun w hS => r_move hK rfl) fun a hK => ?_
                      rcases or_b (!y_2228.2.2) with hb_2319 | hb_2319
                      · rw [ifb_t hb_2319] at H
                        refine sp_skip (k := 3) rfl hK (by decide) (wft hb_2319) rfl fun a hK => ?_
                        refine sp_skip (k := 4) rfl hK (by decide) (wft hb_2319) rfl fun a hK => ?_
                        refine sp_skip (k := 5) rfl hK (by decide) (wft hb_2319) rfl fun a hK => ?_
                        refine sp_skip (k := 6) rfl hK (by decide) (wft hb_2319) rfl fun a hK => ?_
                        refine sp_skip (k := 7) rfl hK (by decide) (wft hb_2319) rfl fun a hK => ?_
                        refine sp_skip (k := 8) rfl hK (by decide) (wft hb_2319) rfl fun a hK => ?_
                        refine sp (k := 9) rfl hK (by decide) rfl rfl (fun w hS => r_pick_t hb_2319 hK rfl rfl) fun a hK => ?_
                        refine sp (k := 10) rfl hK (by decide) rfl rfl (fun w hS => r_move hK rfl) fun a hK => ?_
                        refine sp_skip (k := 11) rfl hK (by decide) rfl rfl fun a hK => ?_
                        refine sp_skip (k := 12) rfl hK (by decide) rfl rfl fun a hK => ?_
                        refine sp_skip (k := 13) rfl hK (by decide) rfl rfl fun a hK => ?_
                        refine sp_skip (k := 14) rfl hK (by decide) rfl rfl fun a hK => ?_
                        refine sp_skip (k := 15) rfl hK (by decide) rfl rfl fun a hK => ?_
                        refine sp_skip (k := 16) rfl hK (by decide) rfl rfl fun a hK => ?_
                        refine sp_skip (k := 17) rfl hK (by decide) rfl rfl fun a hK => ?_
                        refine sp_skip (k := 18) rfl hK (by decide) rfl rfl fun a hK => ?_
                        refine sp_skip (k := 19) rfl hK (by decide) rfl rfl fun a hK => ?_
                        refine sp_skip (k := 20) rfl hK (by decide) rfl rfl fun a hK => ?_
                        refine sp_skip (k := 21) rfl hK (by decide) rfl rfl fun a hK => ?_
                        refine sp_skip (k := 22) rfl hK (by decide) rfl rfl fun a hK => ?_
                        refine sp_skip (k := 23) rfl hK (by decide) rfl rfl fun a hK => ?_
                        refine sp_skip (k := 24) rfl hK (by decide) rfl rfl fun a hK => ?_
                        refine sp (k := 25) rfl hK (by decide) rfl rfl (fun w hS => r_pick hK rfl rfl rfl) fun a hK => ?_
                        refine wpPar_nil (NoP_nil ?_)
                        have hS := hS.pk5
                        have hS := hS.pk5
                        have hS := hS.pk5
                        have hS := hS.pk5
                        have hS := hS.pk5
                        exact ⟨true, H, hK.sub (all_cons rfl (all_cons rfl (all_cons rfl (all_cons rfl (all_cons rfl (all_cons rfl (all_cons rfl (all_nil)))))))), hS.trunc 5⟩
                      · rw [ifb_f hb_2319] at H
                        refine sp (k := 3) rfl hK (by decide) (wff hb_2319) rfl (fun w hS => r_move hK rfl) fun a hK => ?_
                        refine sp (k := 4) rfl hK (by decide) (wff hb_2319) rfl (fun w hS => r_move hK rfl) fun a hK => ?_
                        refine sp (k := 5) rfl hK (by decide) (wff hb_2319) rfl (fun w hS => r_move hK rfl) fun a hK => ?_
                        obtain ⟨y_2320, h_2321, H⟩ := bind_some H
                        obtain ⟨b_2323, c_2324, cs_2325, hv_2322, hr_2326, hc_2327, h_23210, h_23211⟩ := hS.row_ix (.tail _ (.tail _ (.tail _ (.tail _ (.head _))))) (hq_466.mono (hl_1672.le.trans (hl_2022.le.trans (hl_2090.le.trans hl_2231.le)))) rfl rfl h_2321
                        subst hr_2326
                        refine sp (k := 6) rfl hK (by decide) (wff hb_2319) rfl (fun w hS => r_indexAddr_R Tryd.underlying37 Tryd.sizeOf9 hv_2322 h_23210 h_23211 hK rfl rfl) fun a hK => ?_
                        refine sp (k := 7) rfl hK (by decide) (wff hb_2319) rfl (fun w hS => r_load Tryd.isAgg9 hK rfl (hS.row_cell (.tail _ (.tail _ (.tail _ (.tail _ (.head _))))) hv_2322 (hc_2327 0 _ rfl))) fun a hK => ?_
                        refine sp (k := 8) rfl hK (by decide) (wff hb_2319) rfl (fun w hS => r_sbin hK rfl rfl rfl) fun a hK => ?_
                        refine sp (k := 9) rfl hK (by decide) rfl rfl (fun w hS => r_pick_f hb_2319 hK rfl rfl) fun a hK => ?_
                        refine sp (k := 10) rfl hK (by decide) rfl rfl (fun w hS => r_move hK rfl) fun a hK => ?_
                        rcases or_b (!(y_2228.1.toList == y_2320.toList)) with hb_2328 | hb_2328
                        · rw [ifb_t hb_2328] at H
                          refine sp_skip (k := 11) rfl hK (by decide) (wft hb_2328) rfl fun a hK => ?_
                          refine sp_skip (k := 12) rfl hK (by decide) (wft hb_2328) rfl fun a hK => ?_
                          refine sp_skip (k := 13) rfl hK (by decide) (wft hb_2328) rfl fun a hK => ?_
                          refine sp_skip (k := 14) rfl hK (by decide) rfl rfl fun a hK => ?_
                          refine sp_skip (k := 15) rfl hK (by decide) rfl rfl fun a hK => ?_
                          refine sp_skip (k := 16) rfl hK (by decide) rfl rfl fun a hK => ?_
                          refine sp_skip (k := 17) rfl hK (by decide) rfl rfl fun a hK => ?_
                          refine sp_skip (k := 18) rfl hK (by decide) rfl rfl fun a hK => ?_
                          refine sp_skip (k := 19) rfl hK (by decide) rfl rfl fun a hK => ?_
                          refine sp_skip (k := 20) rfl hK (by decide) rfl rfl fun a hK => ?_
                          refine sp_skip (k := 21) rfl hK (by decide) rfl rfl fun a hK => ?_
                          refine sp_skip (k := 22) rfl hK (by decide) rfl rfl fun a hK => ?_
                          refine sp_skip (k := 23) rfl hK (by decide) rfl rfl fun a hK => ?_
                          refine sp_skip (k := 24) rfl hK (by decide) (wft hb_2328) rfl fun a hK => ?_
                          refine sp (k := 25) rfl hK (by decide) rfl rfl (fun w hS => r_pick_t hb_2328 hK rfl rfl) fun a hK => ?_
                          refine wpPar_nil (NoP_nil ?_)
                          have hS := hS.pk5
                          have hS := hS.pk5
                          have hS := hS.pk5
                          have hS := hS.pk5
                          have hS := hS.pk5
                          exact ⟨true, H, hK.sub (all_cons rfl (all_cons rfl (all_cons rfl (all_cons rfl (all_cons rfl (all_cons rfl (all_cons rfl (all_nil)))))))), hS.trunc 5⟩
                        · rw [ifb_f hb_2328] at H
                          refine sp (k := 11) rfl hK (by decide) (wff hb_2328) rfl (fun w hS => r_move hK rfl) fun a hK => ?_
                          refine sp (k := 12) rfl hK (by decide) (wff hb_2328) rfl (fun w hS => r_ibin hK rfl rfl rfl) fun a hK => ?_
                          refine sp (k := 13) rfl hK (by decide) (wff hb_2328) rfl (fun w hS => r_move hK rfl) fun a hK => ?_
                          rcases or_b (decide (x_2088 > 0)) with hb_2329 | hb_2329
                          · rw [ifb_t hb_2329] at H
                            refine sp (k := 14) rfl hK (by decide) (wtt hb_2329) rfl (fun w hS => r_move hK rfl) fun a hK => ?_
                            refine sp (k := 15) rfl hK (by decide) (wtt hb_2329) rfl (fun w hS => r_move hK rfl) fun a hK => ?_
                            obtain ⟨y_2330, h_2331, H⟩ := bind_some H
                            obtain ⟨b_2333, c_2334, cs_2335, hv_2332, hr_2336, hc_2337, h_23310, h_23311⟩ := hS.row_ix (.tail _ (.tail _ (.tail _ (.tail _ (.tail _ (.head _)))))) (hq_2026.mono (hl_2090.le.trans hl_2231.le)) rfl rfl h_2331
                            subst hr_2336
                            refine sp (k := 16) rfl hK (by decide) (wtt hb_2329) rfl (fun w hS => r_indexAddr_R Tryd.underlying26 Tryd.sizeOf3 hv_2332 h_23310 h_23311 hK rfl rfl) fun a hK => ?_
                            refine sp (k := 17) rfl hK (by decide) (wtt hb_2329) rfl (fun w hS => r_load Tryd.isAgg3 hK rfl (hS.row_cell (.tail _ (.tail _ (.tail _ (.tail _ (.tail _ (.head _)))))) hv_2332 (hc_2337 0 _ rfl))) fun a hK => ?_
                            refine sp (k := 18) rfl hK (by decide) (wtt hb_2329) rfl (fun w hS => r_move hK rfl) fun a hK => ?_
                            refine sp (k := 19) rfl hK (by decide) (wtt hb_2329) rfl (fun w hS => r_move hK rfl) fun a hK => ?_
                            refine sp (k := 20) rfl hK (by decide) (wtt hb_2329) rfl (fun w hS => r_ibin hK rfl rfl rfl) fun a hK => ?_
                            obtain ⟨y_2338, h_2339, H⟩ := bind_some H
                            obtain ⟨b_2341, c_2342, cs_2343, hv_2340, hr_2344, hc_2345, h_23390, h_23391⟩ := hS.row_ix (.tail _ (.tail _ (.tail _ (.tail _ (.tail _ (.head _)))))) (hq_2026.mono (hl_2090.le.trans hl_2231.le)) rfl rfl h_2339
                            subst hr_2344
                            refine sp (k := 21) rfl hK (by decide) (wtt hb_2329) rfl (fun w hS => r_indexAddr_R Tryd.underlying26 Tryd.sizeOf3 hv_2340 h_23390 h_23391 hK rfl rfl) fun a hK => ?_
                            refine sp (k := 22) rfl hK (by decide) (wtt hb_2329) rfl (fun w hS => r_load Tryd.isAgg3 hK rfl (hS.row_cell (.tail _ (.tail _ (.tail _ (.tail _ (.tail _ (.head _)))))) hv_2340 (hc_2345 0 _ rfl))) fun a hK => ?_
                            refine sp (k := 23) rfl hK (by decide) (wtt hb_2329) rfl (fun w hS => r_ibin hK rfl rfl rfl) fun a hK => ?_
                            refine sp (k := 24) rfl hK (by decide) (wff hb_2328) rfl (fun w hS => r_pick_t hb_2329 hK rfl rfl) fun a hK => ?_
                            refine sp (k := 25) rfl hK (by decide) rfl rfl (fun w hS => r_pick_f hb_2328 hK rfl rfl) fun a hK => ?_
                            refine wpPar_nil (NoP_nil ?_)
                            have hS := hS.pk5
                            have hS := hS.pk5
                            have hS := hS.pk5
                            have hS := hS.pk5
                            have hS := hS.pk5
                            exact ⟨(decide (y_2330 ≤ y_2338)), H, hK.sub (all_cons rfl (all_cons rfl (all_cons rfl (all_cons rfl (all_cons rfl (all_cons rfl (all_cons rfl (all_nil)))))))), hS.trunc 5⟩
                          · rw [ifb_f hb_2329] at H
                            refine sp_skip (k := 14) rfl hK (by decide) (wtf hb_2329) rfl fun a hK => ?_
                            refine sp_skip (k := 15) rfl hK (by decide) (wtf hb_2329) rfl fun a hK => ?_
                            refine sp_skip (k := 16) rfl hK (by decide) (wtf hb_2329) rfl fun a hK => ?_
                            refine sp_skip (k := 17) rfl hK (by decide) (wtf hb_2329) rfl fun a hK => ?_
                            refine sp_skip (k := 18) rfl hK (by decide) (wtf hb_2329) rfl fun a hK => ?_
                            refine sp_skip (k := 19) rfl hK (by decide) (wtf hb_2329) rfl fun a hK => ?_
                            refine sp_skip (k := 20) rfl hK (by decide) (wtf hb_2329) rfl fun a hK => ?_
                            refine sp_skip (k := 21) rfl hK (by decide) (wtf hb_2329) rfl fun a hK => ?_
                            refine sp_skip (k := 22) rfl hK (by decide) (wtf hb_2329) rfl fun a hK => ?_
                            refine sp_skip (k := 23) rfl hK (by decide) (wtf hb_2329) rfl fun a hK => ?_
                            refine sp (k := 24) rfl hK (by decide) (wff hb_2328) rfl (fun w hS => r_pick_f hb_2329 hK rfl rfl) fun a hK => ?_
                            refine sp (k := 25) rfl hK (by decide) rfl rfl (fun w hS => r_pick_f hb_2328 hK rfl rfl) fun a hK => ?_
                            refine wpPar_nil (NoP_nil ?_)
                            have hS := hS.pk5
                            have hS := hS.pk5
                            have hS := hS.pk5
                            have hS := hS.pk5
                            have hS := hS.pk5
                            exact ⟨false, H, hK.sub (all_cons rfl (all_cons rfl (all_cons rfl (all_cons rfl (all_cons rfl (all_cons rfl (all_cons rfl (all_nil)))))))), hS.trunc 5⟩
                    · rintro a w ⟨x_2290, H, hK, hS⟩
                      unfold law06_StreamsRoom.j9 at H
                      refine wp_cond_split (hK.ev rfl) (fun (hb_2346 : x_2290 = true) => ?_) (fun (hb_2346 : x_2290 = false) => ?_)
                      · rw [ifb_t hb_2346] at H
                        refine wp_seq ?_
                        refine wp_region_lit ?_
                        refine sl hK (by decide) rfl rfl (r_assign hK rfl) fun a hK => ?_
                        refine wpList_nil ?_
                        exact absurd (Option.some.inj H) (by decide)
                      · rw [ifb_f hb_2346] at H
                        refine wp_skip ?_
                        refine wp_region_lit ?_
                        refine sl hK (by decide) rfl rfl (r_move hK rfl) fun a hK => ?_
                        refine sl hK (by decide) rfl rfl (r_ibin hK rfl rfl rfl) fun a hK => ?_
                        refine sl hK (by decide) rfl rfl (r_assign hK rfl) fun a hK => ?_
                        refine wpList_nil ?_
                        have hS := hS.pk4
                        have hS := hS.pk4
                        have hS := hS.pk4
                        have hS := hS.pk4
                        have hS := hS.pk4
                        exact ⟨_, Nat.lt_succ_self _, (IntKind.i64.wrap (x_2088 + 1)), _, H, (hl_2090.trans hl_2231), hK.sub (all_cons rfl (all_cons rfl (all_cons rfl (all_cons rfl (all_cons rfl (all_cons rfl (all_nil))))))), hS⟩
                  · rw [ifb_f hb_2219] at H
                    refine wp_exit ?_
                    refine wp_region_lit ?_
                    refine sl hK (by decide) rfl rfl (r_move hK rfl) fun a hK => ?_
                    refine sl hK (by decide) rfl rfl (r_move hK rfl) fun a hK => ?_
                    refine sl hK (by decide) rfl rfl (r_len_O Tryd.underlying26 hS (.tail _ (.tail _ (.tail _ (.tail _ (.head _))))) hK rfl) fun a hK => ?_
                    refine sl hK (by decide) rfl rfl (r_ibin hK rfl rfl rfl) fun a hK => ?_
                    refine sl hK (by decide) rfl rfl (r_assign hK rfl) fun a hK => ?_
                    refine wpList_nil ?_
                    refine wp_region_lit ?_
                    refine sl hK (by decide) rfl rfl (r_move hK rfl) fun a hK => ?_
                    refine sl hK (by decide) rfl rfl (r_ibin hK rfl rfl rfl) fun a hK => ?_
                    refine sl hK (by decide) rfl rfl (r_assign hK rfl) fun a hK => ?_
                    refine wpList_nil ?_
                    have hS := hS.pk3
                    have hS := hS.pk3
                    have hS := hS.pk3
                    have hS := hS.pk3
                    exact ⟨_, Nat.lt_succ_self _, (IntKind.i64.wrap (x_1669 + (y_2019.length : Int))), (IntKind.i64.wrap (x_1670 + 1)), _, H, (hl_1672.trans (hl_2022.trans hl_2090)), hK.sub (all_cons rfl (all_cons rfl (all_cons rfl (all_cons rfl (all_nil))))), hS.trunc 4⟩
              · rw [ifb_f hb_2010] at H
                refine wp_exit ?_
                refine wp_seq ?_
                refine wp_region_lit ?_
                refine sl hK (by decide) rfl rfl (r_move hK rfl) fun a hK => ?_
                refine sl hK (by decide) rfl rfl (r_move hK rfl) fun a hK => ?_
                obtain ⟨y_2347, h_2348, H⟩ := bind_some H
                refine sl_callV Tryd.call11 hS hK (by decide) rfl rfl rfl (streams_Dict_Len.calls (⟨x_454, x_456, x_461⟩ : streams_Dict) (lentOf_sub [] _) (hS.lend_box0 (.tail _ (.tail _ (.head _)))) (hS.lend_row0 (.head _) (hq_459.mono hl_1672.le) rfl rfl) (hS.lend_map0 (.tail _ (.head _))) h_2348) fun a w hS hK => ?_
                refine sl hK (by decide) rfl rfl (r_ibin hK rfl rfl rfl) fun a hK => ?_
                refine sl hK (by decide) rfl rfl (r_assign hK rfl) fun a hK => ?_
                refine wpList_nil ?_
                have hr_ := Option.some.inj H
                refine wp_ret ?_
                repeat (first | refine ret_then ?_ | refine ret_block ?_ | refine ret_scope ?_)
                exact ret_1 Tryd.results4 hK (rv_tmp hK rfl) ⟨congrArg (fun b => Ending.returned (Value.bool b)) hr_, hS.bel⟩

end Go.Proofs.YtffleadhhhpnlaaDoor.M
