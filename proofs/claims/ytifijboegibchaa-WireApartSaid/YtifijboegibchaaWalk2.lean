/- Each Go function of the laws answers as its plain Lean function tells, wherever that tells something. Printed by wip/eng/gen.py. -/
import Derived.Test.YtifijboegibchaaWalk1
namespace Go.Proofs.Ytifijboegibchaa.M
open Go Go.Eng Go.Proofs Go.RowKit
set_option linter.unusedVariables false
set_option linter.unusedSimpArgs false

/-! ### catchment/catchmentlaw04.shown: function 11 -/
set_option maxHeartbeats 4000000 in
set_option maxRecDepth 100000 in
theorem law04_shown.calls {r : Bool} (H : law04_shown  = some r) (w0 : World) : CallsV Try.prog 11 #[] w0 (.bool r) := by
  unfold law04_shown at H
  refine enter (args := []) Try.func11 rfl Try.ntmps11 rfl fun a hK => ?_
  have hS := St.init (R := fun _ => none) (w := w0) (fun _ _ h => by cases h)
  have hRL := RLe.refl (M := []) w0 (fun _ => none)
  refine wp_seq ?_
  refine wp_region_lit ?_
  refine sl hK (by decide) rfl rfl (r_assign hK rfl) fun a hK => ?_
  refine wpList_nil ?_
  refine wp_seq ?_
  refine wp_region_lit ?_
  refine sl hK (by decide) rfl rfl (r_buildC (ps := [(0, .int .i64 1), (1, .int .i64 258)]) (c := [.int .i64 1, .int .i64 258, .string (⟨#[]⟩ : ByteArray), .int .i64 0, .int .i64 0, .int .i64 0, .int .i64 0, .int .i64 0, .int .i64 0, .int .i64 0, .int .i64 0]) Try.underlying25 Try.zeroValue25 places25 hK rfl (pc_cons rfl (pc_cons rfl pc_nil)) rfl rfl) fun a hK => ?_
  obtain ⟨y_1, h_2, H⟩ := bind_some H
  refine sl_call Try.call12 hK (by decide) rfl rfl rfl (wire_Put.calls ([] : List Int) (⟨1, 258, (⟨#[]⟩ : ByteArray), (⟨0, 0, 0, 0, 0, 0, 0, 0⟩ : Arr8)⟩ : api_Value) (lentOf_sub [] _) hS.sub (SlR.nil (tyInt .u8) _) h_2) fun a v_ w hv_ hK => ?_
  obtain ⟨R_3, v_6, cs_7, hv_, hr_, hl_4, hq_8⟩ := hv_
  have hv_ := hv_.symm
  subst hv_
  obtain ⟨hS, hl_4⟩ := hS.sp0.back hr_ hl_4
  have hS := hS.un1
  have hRL := hRL.trans hl_4
  refine sl hK (by decide) rfl rfl (r_move hK rfl) fun a hK => ?_
  refine sl hK (by decide) rfl rfl (r_extract hK rfl rfl) fun a hK => ?_
  refine sl hK (by decide) rfl rfl (r_extract hK rfl rfl) fun a hK => ?_
  refine sl hK (by decide) rfl rfl (r_assign hK rfl) fun a hK => ?_
  refine sl hK (by decide) rfl rfl (r_assign hK rfl) fun a hK => ?_
  refine wpList_nil ?_
  refine wp_seq ?_
  refine wp_region_lit ?_
  refine sl_buildSliceF (zc := [.int .u8 0]) (ps := [(0, .int .u8 2), (1, .int .u8 97), (2, .int .u8 98), (3, .int .u8 99)]) (c := [.int .u8 2, .int .u8 97, .int .u8 98, .int .u8 99]) [[.int .u8 2], [.int .u8 97], [.int .u8 98], [.int .u8 99]] Try.underlying22 Try.sizeOf5 Try.zeroValue5 rfl (pc_cons rfl (pc_cons rfl (pc_cons rfl (pc_cons rfl pc_nil)))) rfl rfl (Nat.le_of_ble_eq_true rfl) rfl (all_cons rfl (all_cons rfl (all_cons rfl (all_cons rfl (all_nil))))) rfl hS hK (by decide) rfl fun a w b_9 hS hK => ?_
  obtain ⟨R_10, hS, hl_12, hs_11⟩ := hS.fz_lit (ty := (tyInt .u8)) (xs := [2, 97, 98, 99]) (Reps.cons (show Ty.rep (tyInt .u8) _ [.int .u8 2] 2 from rfl) (Reps.cons (show Ty.rep (tyInt .u8) _ [.int .u8 97] 97 from rfl) (Reps.cons (show Ty.rep (tyInt .u8) _ [.int .u8 98] 98 from rfl) (Reps.cons (show Ty.rep (tyInt .u8) _ [.int .u8 99] 99 from rfl) (Reps.nil _ _))))) rfl
  have hRL := hRL.trans hl_12
  obtain ⟨y_13, h_14, H⟩ := bind_some H
  refine sl_call Try.call14 hK (by decide) rfl rfl rfl (wire_Take.calls [2, 97, 98, 99] 2 hS.sub hs_11 h_14) fun a v_ w hv_ hK => ?_
  obtain ⟨R_15, v_18, cs_19, hv_, hr_, hl_16, hq_20⟩ := hv_
  have hv_ := hv_.symm
  subst hv_
  obtain ⟨hS, hl_16⟩ := hS.sp0.back hr_ hl_16
  have hS := hS.un1
  have hRL := hRL.trans hl_16
  refine sl hK (by decide) rfl rfl (r_move hK rfl) fun a hK => ?_
  refine sl hK (by decide) rfl rfl (r_extract hK rfl rfl) fun a hK => ?_
  refine sl hK (by decide) rfl rfl (r_extract hK rfl rfl) fun a hK => ?_
  refine sl hK (by decide) rfl rfl (r_extract hK rfl rfl) fun a hK => ?_
  refine sl_alloc Try.zeroValue25 hS hK (by decide) rfl rfl fun a w b_21 hS hK => ?_
  refine sl_storeA (vs := [.int .i64 y_13.1.Kind, .int .i64 y_13.1.N, .string y_13.1.S, .int .i64 y_13.1.H.a0, .int .i64 y_13.1.H.a1, .int .i64 y_13.1.H.a2, .int .i64 y_13.1.H.a3, .int .i64 y_13.1.H.a4, .int .i64 y_13.1.H.a5, .int .i64 y_13.1.H.a6, .int .i64 y_13.1.H.a7]) (c' := [.int .i64 y_13.1.Kind, .int .i64 y_13.1.N, .string y_13.1.S, .int .i64 y_13.1.H.a0, .int .i64 y_13.1.H.a1, .int .i64 y_13.1.H.a2, .int .i64 y_13.1.H.a3, .int .i64 y_13.1.H.a4, .int .i64 y_13.1.H.a5, .int .i64 y_13.1.H.a6, .int .i64 y_13.1.H.a7]) Try.sizeOf25 hS hK rfl rfl rfl rfl (all_cons rfl (all_cons rfl (all_cons rfl (all_cons rfl (all_cons rfl (all_cons rfl (all_cons rfl (all_cons rfl (all_cons rfl (all_cons rfl (all_cons rfl (all_nil)))))))))))) (Nat.le_of_ble_eq_true rfl) rfl fun a w hS hK => ?_
  refine sl hK (by decide) rfl rfl (r_assign hK rfl) fun a hK => ?_
  refine sl hK (by decide) rfl rfl (r_assign hK rfl) fun a hK => ?_
  refine wpList_nil ?_
  refine wp_seq ?_
  refine wp_region_lit ?_
  refine sl_buildSliceF (zc := [.int .u8 0]) (ps := [(0, .int .u8 2), (1, .int .u8 97)]) (c := [.int .u8 2, .int .u8 97]) [[.int .u8 2], [.int .u8 97]] Try.underlying22 Try.sizeOf5 Try.zeroValue5 rfl (pc_cons rfl (pc_cons rfl pc_nil)) rfl rfl (Nat.le_of_ble_eq_true rfl) rfl (all_cons rfl (all_cons rfl (all_nil))) rfl hS hK (by decide) rfl fun a w b_22 hS hK => ?_
  obtain ⟨R_23, hS, hl_25, hs_24⟩ := hS.fz_lit (ty := (tyInt .u8)) (xs := [2, 97]) (Reps.cons (show Ty.rep (tyInt .u8) _ [.int .u8 2] 2 from rfl) (Reps.cons (show Ty.rep (tyInt .u8) _ [.int .u8 97] 97 from rfl) (Reps.nil _ _))) rfl
  have hRL := hRL.trans hl_25
  obtain ⟨y_26, h_27, H⟩ := bind_some H
  refine sl_call Try.call14 hK (by decide) rfl rfl rfl (wire_Take.calls [2, 97] 2 hS.sub hs_24 h_27) fun a v_ w hv_ hK => ?_
  obtain ⟨R_28, v_31, cs_32, hv_, hr_, hl_29, hq_33⟩ := hv_
  have hv_ := hv_.symm
  subst hv_
  obtain ⟨hS, hl_29⟩ := hS.sp0.back hr_ hl_29
  have hS := hS.un1
  have hRL := hRL.trans hl_29
  refine sl hK (by decide) rfl rfl (r_move hK rfl) fun a hK => ?_
  refine sl hK (by decide) rfl rfl (r_extract hK rfl rfl) fun a hK => ?_
  refine sl hK (by decide) rfl rfl (r_extract hK rfl rfl) fun a hK => ?_
  refine sl hK (by decide) rfl rfl (r_extract hK rfl rfl) fun a hK => ?_
  refine sl_alloc Try.zeroValue25 hS hK (by decide) rfl rfl fun a w b_34 hS hK => ?_
  refine sl_storeA (vs := [.int .i64 y_26.1.Kind, .int .i64 y_26.1.N, .string y_26.1.S, .int .i64 y_26.1.H.a0, .int .i64 y_26.1.H.a1, .int .i64 y_26.1.H.a2, .int .i64 y_26.1.H.a3, .int .i64 y_26.1.H.a4, .int .i64 y_26.1.H.a5, .int .i64 y_26.1.H.a6, .int .i64 y_26.1.H.a7]) (c' := [.int .i64 y_26.1.Kind, .int .i64 y_26.1.N, .string y_26.1.S, .int .i64 y_26.1.H.a0, .int .i64 y_26.1.H.a1, .int .i64 y_26.1.H.a2, .int .i64 y_26.1.H.a3, .int .i64 y_26.1.H.a4, .int .i64 y_26.1.H.a5, .int .i64 y_26.1.H.a6, .int .i64 y_26.1.H.a7]) Try.sizeOf25 hS hK rfl rfl rfl rfl (all_cons rfl (all_cons rfl (all_cons rfl (all_cons rfl (all_cons rfl (all_cons rfl (all_cons rfl (all_cons rfl (all_cons rfl (all_cons rfl (all_cons rfl (all_nil)))))))))))) (Nat.le_of_ble_eq_true rfl) rfl fun a w hS hK => ?_
  refine sl hK (by decide) rfl rfl (r_assign hK rfl) fun a hK => ?_
  refine sl hK (by decide) rfl rfl (r_assign hK rfl) fun a hK => ?_
  refine wpList_nil ?_
  refine wp_seq ?_
  refine wp_region_lit ?_
  refine sl_buildSliceF (zc := [.int .u8 0]) (ps := [(0, .int .u8 2)]) (c := [.int .u8 2]) [[.int .u8 2]] Try.underlying22 Try.sizeOf5 Try.zeroValue5 rfl (pc_cons rfl pc_nil) rfl rfl (Nat.le_of_ble_eq_true rfl) rfl (all_cons rfl (all_nil)) rfl hS hK (by decide) rfl fun a w b_35 hS hK => ?_
  obtain ⟨R_36, hS, hl_38, hs_37⟩ := hS.fz_lit (ty := (tyInt .u8)) (xs := [2]) (Reps.cons (show Ty.rep (tyInt .u8) _ [.int .u8 2] 2 from rfl) (Reps.nil _ _)) rfl
  have hRL := hRL.trans hl_38
  obtain ⟨y_39, h_40, H⟩ := bind_some H
  refine sl_call Try.call14 hK (by decide) rfl rfl rfl (wire_Take.calls [2] 3 hS.sub hs_37 h_40) fun a v_ w hv_ hK => ?_
  obtain ⟨R_41, v_44, cs_45, hv_, hr_, hl_42, hq_46⟩ := hv_
  have hv_ := hv_.symm
  subst hv_
  obtain ⟨hS, hl_42⟩ := hS.sp0.back hr_ hl_42
  have hS := hS.un1
  have hRL := hRL.trans hl_42
  refine sl hK (by decide) rfl rfl (r_move hK rfl) fun a hK => ?_
  refine sl hK (by decide) rfl rfl (r_extract hK rfl rfl) fun a hK => ?_
  refine sl hK (by decide) rfl rfl (r_extract hK rfl rfl) fun a hK => ?_
  refine sl hK (by decide) rfl rfl (r_extract hK rfl rfl) fun a hK => ?_
  refine sl_alloc Try.zeroValue25 hS hK (by decide) rfl rfl fun a w b_47 hS hK => ?_
  refine sl_storeA (vs := [.int .i64 y_39.1.Kind, .int .i64 y_39.1.N, .string y_39.1.S, .int .i64 y_39.1.H.a0, .int .i64 y_39.1.H.a1, .int .i64 y_39.1.H.a2, .int .i64 y_39.1.H.a3, .int .i64 y_39.1.H.a4, .int .i64 y_39.1.H.a5, .int .i64 y_39.1.H.a6, .int .i64 y_39.1.H.a7]) (c' := [.int .i64 y_39.1.Kind, .int .i64 y_39.1.N, .string y_39.1.S, .int .i64 y_39.1.H.a0, .int .i64 y_39.1.H.a1, .int .i64 y_39.1.H.a2, .int .i64 y_39.1.H.a3, .int .i64 y_39.1.H.a4, .int .i64 y_39.1.H.a5, .int .i64 y_39.1.H.a6, .int .i64 y_39.1.H.a7]) Try.sizeOf25 hS hK rfl rfl rfl rfl (all_cons rfl (all_cons rfl (all_cons rfl (all_cons rfl (all_cons rfl (all_cons rfl (all_cons rfl (all_cons rfl (all_cons rfl (all_cons rfl (all_cons rfl (all_nil)))))))))))) (Nat.le_of_ble_eq_true rfl) rfl fun a w hS hK => ?_
  refine sl hK (by decide) rfl rfl (r_assign hK rfl) fun a hK => ?_
  refine sl hK (by decide) rfl rfl (r_assign hK rfl) fun a hK => ?_
  refine wpList_nil ?_
  refine wp_seq ?_
  refine wp_region_lit ?_
  refine sl hK (by decide) rfl rfl (r_buildC (ps := [(0, .string (⟨#[107]⟩ : ByteArray)), (1, .int .i64 1)]) (c := [.string (⟨#[107]⟩ : ByteArray), .int .i64 1]) Try.underlying48 Try.zeroValue48 places48 hK rfl (pc_cons rfl (pc_cons rfl pc_nil)) rfl rfl) fun a hK => ?_
  refine sl_buildSliceF (zc := [.string (⟨#[]⟩ : ByteArray), .int .i64 0]) (ps := [(0, .agg #[.string (⟨#[107]⟩ : ByteArray), .int .i64 1])]) (c := [.string (⟨#[107]⟩ : ByteArray), .int .i64 1]) [[.string (⟨#[107]⟩ : ByteArray), .int .i64 1]] Try.underlying34 Try.sizeOf48 Try.zeroValue48 rfl (pc_cons rfl pc_nil) rfl rfl (Nat.le_of_ble_eq_true rfl) rfl (all_cons rfl (all_nil)) rfl hS hK (by decide) rfl fun a w b_48 hS hK => ?_
  refine sl hK (by decide) rfl rfl (r_buildC (ps := [(0, .int .i64 1), (1, .int .i64 (-1))]) (c := [.int .i64 1, .int .i64 (-1), .string (⟨#[]⟩ : ByteArray), .int .i64 0, .int .i64 0, .int .i64 0, .int .i64 0, .int .i64 0, .int .i64 0, .int .i64 0, .int .i64 0]) Try.underlying25 Try.zeroValue25 places25 hK rfl (pc_cons rfl (pc_cons rfl pc_nil)) rfl rfl) fun a hK => ?_
  refine sl_buildSliceF (zc := [.int .i64 0, .int .i64 0, .string (⟨#[]⟩ : ByteArray), .int .i64 0, .int .i64 0, .int .i64 0, .int .i64 0, .int .i64 0, .int .i64 0, .int .i64 0, .int .i64 0]) (ps := [(0, .agg #[.int .i64 1, .int .i64 (-1), .string (⟨#[]⟩ : ByteArray), .int .i64 0, .int .i64 0, .int .i64 0, .int .i64 0, .int .i64 0, .int .i64 0, .int .i64 0, .int .i64 0])]) (c := [.int .i64 1, .int .i64 (-1), .string (⟨#[]⟩ : ByteArray), .int .i64 0, .int .i64 0, .int .i64 0, .int .i64 0, .int .i64 0, .int .i64 0, .int .i64 0, .int .i64 0]) [[.int .i64 1, .int .i64 (-1), .string (⟨#[]⟩ : ByteArray), .int .i64 0, .int .i64 0, .int .i64 0, .int .i64 0, .int .i64 0, .int .i64 0, .int .i64 0, .int .i64 0]] Try.underlying49 Try.sizeOf25 Try.zeroValue25 rfl (pc_cons rfl pc_nil) rfl rfl (Nat.le_of_ble_eq_true rfl) rfl (all_cons rfl (all_nil)) rfl hS hK (by decide) rfl fun a w b_49 hS hK => ?_
  refine sl_buildSliceF (zc := [.slice none 0 0]) (ps := [(0, .slice (some ⟨b_49, 0, none⟩) 1 1)]) (c := [.slice (some ⟨b_49, 0, none⟩) 1 1]) [[.slice (some ⟨b_49, 0, none⟩) 1 1]] Try.underlying35 Try.sizeOf49 Try.zeroValue49 rfl (pc_cons rfl pc_nil) rfl rfl (Nat.le_of_ble_eq_true rfl) rfl (all_cons rfl (all_nil)) rfl hS hK (by decide) rfl fun a w b_50 hS hK => ?_
  refine sl hK (by decide) rfl rfl (r_buildC (ps := [(0, .slice (some ⟨b_48, 0, none⟩) 1 1), (1, .slice (some ⟨b_50, 0, none⟩) 1 1)]) (c := [.slice (some ⟨b_48, 0, none⟩) 1 1, .slice (some ⟨b_50, 0, none⟩) 1 1]) Try.underlying37 Try.zeroValue37 places37 hK rfl (pc_cons rfl (pc_cons rfl pc_nil)) rfl rfl) fun a hK => ?_
  have hS := hS.pk1
  obtain ⟨R_51, hS, hl_53, hs_52⟩ := hS.fz_lit (ty := ty_api_Value) (xs := [(⟨1, (-1), (⟨#[]⟩ : ByteArray), (⟨0, 0, 0, 0, 0, 0, 0, 0⟩ : Arr8)⟩ : api_Value)]) (Reps.cons (show Ty.rep ty_api_Value _ [.int .i64 1, .int .i64 (-1), .string (⟨#[]⟩ : ByteArray), .int .i64 0, .int .i64 0, .int .i64 0, .int .i64 0, .int .i64 0, .int .i64 0, .int .i64 0, .int .i64 0] (⟨1, (-1), (⟨#[]⟩ : ByteArray), (⟨0, 0, 0, 0, 0, 0, 0, 0⟩ : Arr8)⟩ : api_Value) from rfl) (Reps.nil _ _)) rfl
  have hRL := hRL.trans hl_53
  obtain ⟨y_54, h_55, H⟩ := bind_some H
  refine sl_call Try.call17 hK (by decide) rfl rfl rfl (wire_Encode.calls (⟨[(⟨(⟨#[107]⟩ : ByteArray), 1⟩ : api_Col)], [[(⟨1, (-1), (⟨#[]⟩ : ByteArray), (⟨0, 0, 0, 0, 0, 0, 0, 0⟩ : Arr8)⟩ : api_Value)]]⟩ : api_Table) (lentOf_sub [] _) hS.sub (hS.lend_lit0 (ty := ty_api_Col) (xs := [(⟨(⟨#[107]⟩ : ByteArray), 1⟩ : api_Col)]) (.tail _ (.head _)) (Reps.cons (show Ty.rep ty_api_Col _ [.string (⟨#[107]⟩ : ByteArray), .int .i64 1] (⟨(⟨#[107]⟩ : ByteArray), 1⟩ : api_Col) from rfl) (Reps.nil _ _)) rfl) (hS.lend_lit0 (ty := (tySl ty_api_Value)) (xs := [[(⟨1, (-1), (⟨#[]⟩ : ByteArray), (⟨0, 0, 0, 0, 0, 0, 0, 0⟩ : Arr8)⟩ : api_Value)]]) (.head _) (Reps.cons (show Ty.rep (tySl ty_api_Value) _ [(.slice (some ⟨b_49, 0, none⟩) 1 1)] [(⟨1, (-1), (⟨#[]⟩ : ByteArray), (⟨0, 0, 0, 0, 0, 0, 0, 0⟩ : Arr8)⟩ : api_Value)] from ⟨_, rfl, hs_52⟩) (Reps.nil _ _)) rfl) h_55) fun a v_ w hv_ hK => ?_
  obtain ⟨R_56, v_59, cs_60, hv_, hr_, hl_57, hq_61⟩ := hv_
  have hv_ := hv_.symm
  subst hv_
  obtain ⟨hS, hl_57⟩ := hS.sp0.back hr_ hl_57
  have hS := hS.un1
  have hRL := hRL.trans hl_57
  refine sl hK (by decide) rfl rfl (r_move hK rfl) fun a hK => ?_
  refine sl hK (by decide) rfl rfl (r_extract hK rfl rfl) fun a hK => ?_
  refine sl hK (by decide) rfl rfl (r_extract hK rfl rfl) fun a hK => ?_
  refine sl hK (by decide) rfl rfl (r_assign hK rfl) fun a hK => ?_
  refine sl hK (by decide) rfl rfl (r_assign hK rfl) fun a hK => ?_
  refine wpList_nil ?_
  refine wp_seq ?_
  refine wp_region_lit ?_
  obtain ⟨y_62, h_63, H⟩ := bind_some H
  refine sl_call Try.call19 hK (by decide) rfl rfl rfl (wire_Decode.calls ([] : List Int) hS.sub (SlR.nil (tyInt .u8) _) h_63) fun a v_ w hv_ hK => ?_
  obtain ⟨R_64, v_67, cs_68, v_71, cs_72, hv_, hr_, hl_65, hq_69, hq_73⟩ := hv_
  have hv_ := hv_.symm
  subst hv_
  obtain ⟨hS, hl_65⟩ := hS.sp0.back hr_ hl_65
  have hS := hS.un2
  have hRL := hRL.trans hl_65
  refine sl hK (by decide) rfl rfl (r_move hK rfl) fun a hK => ?_
  refine sl hK (by decide) rfl rfl (r_extract hK rfl rfl) fun a hK => ?_
  refine sl hK (by decide) rfl rfl (r_extract hK rfl rfl) fun a hK => ?_
  refine sl_alloc Try.zeroValue37 hS hK (by decide) rfl rfl fun a w b_74 hS hK => ?_
  refine sl_storeA (vs := [v_67, v_71]) (c' := [v_67, v_71]) Try.sizeOf37 hS hK rfl rfl rfl rfl (all_cons (hS.row_one (.tail _ (.head _))) (all_cons (hS.row_one (.tail _ (.tail _ (.head _)))) (all_nil))) (Nat.le_of_ble_eq_true rfl) rfl fun a w hS hK => ?_
  refine sl hK (by decide) rfl rfl (r_assign hK rfl) fun a hK => ?_
  refine wpList_nil ?_
  refine wp_seq ?_
  refine wp_region_lit ?_
  refine sl hK (by decide) rfl rfl (r_move hK rfl) fun a hK => ?_
  refine sl hK (by decide) rfl rfl (r_conv_bo Try.underlying22 Try.underlying9 Try.underlying5 (hq_8.mono (hl_12.le.trans (hl_16.le.trans (hl_25.le.trans (hl_29.le.trans (hl_38.le.trans (hl_42.le.trans (hl_53.le.trans (hl_57.le.trans hl_65.le))))))))) rfl hS (.tail _ (.tail _ (.tail _ (.tail _ (.tail _ (.tail _ (.tail _ (.tail _ (.tail _ (.tail _ (.tail _ (.tail _ (.head _))))))))))))) hK rfl) fun a hK => ?_
  refine sl hK (by decide) rfl rfl (r_sbin hK rfl rfl rfl) fun a hK => ?_
  refine sl hK (by decide) rfl rfl (r_move hK rfl) fun a hK => ?_
  rcases or_b ((bstr y_1.1).toList == (⟨#[0, 0, 0, 0, 0, 0, 1, 2]⟩ : ByteArray).toList) with hb_75 | hb_75
  · rw [ifb_t hb_75] at H
    refine sl hK (by decide) (wtt hb_75) rfl (r_move hK rfl) fun a hK => ?_
    refine sl hK (by decide) (wtt hb_75) rfl (r_ibin hK rfl rfl rfl) fun a hK => ?_
    refine sl hK (by decide) rfl rfl (r_pick_t hb_75 hK rfl rfl) fun a hK => ?_
    refine sl hK (by decide) rfl rfl (r_move hK rfl) fun a hK => ?_
    rcases or_b (y_1.2 == 0) with hb_76 | hb_76
    · rw [ifb_t hb_76] at H
      refine sl hK (by decide) (wtt hb_76) rfl (r_fieldAddr Try.underlying25 rfl Try.sizeOf9 hK rfl) fun a hK => ?_
      refine sl hK (by decide) (wtt hb_76) rfl (r_load Try.isAgg9 hK rfl (hS.cell (.tail _ (.tail _ (.tail _ (.tail _ (.tail _ (.tail _ (.tail _ (.tail _ (.tail _ (.tail _ (.head _))))))))))) rfl)) fun a hK => ?_
      refine sl hK (by decide) (wtt hb_76) rfl (r_sbin hK rfl rfl rfl) fun a hK => ?_
      refine sl hK (by decide) rfl rfl (r_pick_t hb_76 hK rfl rfl) fun a hK => ?_
      refine sl hK (by decide) rfl rfl (r_move hK rfl) fun a hK => ?_
      rcases or_b (y_13.1.S.toList == (⟨#[97, 98]⟩ : ByteArray).toList) with hb_77 | hb_77
      · rw [ifb_t hb_77] at H
        refine sl hK (by decide) (wtt hb_77) rfl (r_move hK rfl) fun a hK => ?_
        refine sl hK (by decide) (wtt hb_77) rfl (r_conv_bo Try.underlying22 Try.underlying9 Try.underlying5 (hq_20.mono (hl_25.le.trans (hl_29.le.trans (hl_38.le.trans (hl_42.le.trans (hl_53.le.trans (hl_57.le.trans hl_65.le))))))) rfl hS (.tail _ (.tail _ (.tail _ (.tail _ (.tail _ (.tail _ (.tail _ (.tail _ (.tail _ (.tail _ (.tail _ (.head _)))))))))))) hK rfl) fun a hK => ?_
        refine sl hK (by decide) (wtt hb_77) rfl (r_sbin hK rfl rfl rfl) fun a hK => ?_
        refine sl hK (by decide) rfl rfl (r_pick_t hb_77 hK rfl rfl) fun a hK => ?_
        refine sl hK (by decide) rfl rfl (r_move hK rfl) fun a hK => ?_
        rcases or_b ((bstr y_13.2.1).toList == (⟨#[99]⟩ : ByteArray).toList) with hb_78 | hb_78
        · rw [ifb_t hb_78] at H
          refine sl hK (by decide) (wtt hb_78) rfl (r_move hK rfl) fun a hK => ?_
          refine sl hK (by decide) (wtt hb_78) rfl (r_ibin hK rfl rfl rfl) fun a hK => ?_
          refine sl hK (by decide) rfl rfl (r_pick_t hb_78 hK rfl rfl) fun a hK => ?_
          refine sl hK (by decide) rfl rfl (r_move hK rfl) fun a hK => ?_
          rcases or_b (y_13.2.2 == 0) with hb_79 | hb_79
          · rw [ifb_t hb_79] at H
            refine sl hK (by decide) (wtt hb_79) rfl (r_move hK rfl) fun a hK => ?_
            refine sl hK (by decide) (wtt hb_79) rfl (r_ibin hK rfl rfl rfl) fun a hK => ?_
            refine sl hK (by decide) rfl rfl (r_pick_t hb_79 hK rfl rfl) fun a hK => ?_
            refine sl hK (by decide) rfl rfl (r_move hK rfl) fun a hK => ?_
            rcases or_b (y_26.2.2 == 40) with hb_80 | hb_80
            · rw [ifb_t hb_80] at H
              refine sl hK (by decide) (wtt hb_80) rfl (r_move hK rfl) fun a hK => ?_
              refine sl hK (by decide) (wtt hb_80) rfl (r_ibin hK rfl rfl rfl) fun a hK => ?_
              refine sl hK (by decide) rfl rfl (r_pick_t hb_80 hK rfl rfl) fun a hK => ?_
              refine sl hK (by decide) rfl rfl (r_move hK rfl) fun a hK => ?_
              rcases or_b (y_39.2.2 == 40) with hb_81 | hb_81
              · rw [ifb_t hb_81] at H
                refine sl hK (by decide) (wtt hb_81) rfl (r_move hK rfl) fun a hK => ?_
                refine sl hK (by decide) (wtt hb_81) rfl (r_len_O Try.underlying22 hS (.tail _ (.tail _ (.tail _ (.head _)))) hK rfl) fun a hK => ?_
                refine sl hK (by decide) (wtt hb_81) rfl (r_ibin hK rfl rfl rfl) fun a hK => ?_
                refine sl hK (by decide) rfl rfl (r_pick_t hb_81 hK rfl rfl) fun a hK => ?_
                refine sl hK (by decide) rfl rfl (r_move hK rfl) fun a hK => ?_
                rcases or_b ((y_54.1.length : Int) == 22) with hb_82 | hb_82
                · rw [ifb_t hb_82] at H
                  refine sl hK (by decide) (wtt hb_82) rfl (r_move hK rfl) fun a hK => ?_
                  have hS := hS.pk3
                  obtain ⟨R_83, hS, hl_85, hs_84⟩ := hS.fz_row (hq_61.mono hl_65.le) rfl rfl
                  have hRL := hRL.trans hl_85
                  obtain ⟨y_86, h_87, H⟩ := bind_some H
                  obtain ⟨v_88, hs_89, hr_90⟩ := r_slice_R (x := .tmp 88) (lo := none) (hi := some (.const (.int .i64 18))) Try.underlying22 Try.sizeOf5 hs_84 h_87 hK rfl rfl ⟨_, rfl⟩
                  refine sl hK (by decide) (wtt hb_82) rfl (hr_90 _ _ _ _ _ _ _ hK) fun a hK => ?_
                  refine sl hK (by decide) (wtt hb_82) rfl (r_conv_bs Try.underlying22 Try.underlying9 Try.underlying5 hs_89 hK rfl hS.sub) fun a hK => ?_
                  refine sl hK (by decide) (wtt hb_82) rfl (r_sbin hK rfl rfl rfl) fun a hK => ?_
                  refine sl hK (by decide) rfl rfl (r_pick_t hb_82 hK rfl rfl) fun a hK => ?_
                  refine sl hK (by decide) rfl rfl (r_move hK rfl) fun a hK => ?_
                  rcases or_b ((bstr y_86).toList == (⟨#[0, 0, 0, 14, 1, 1, 107, 1, 0, 1, 255, 255, 255, 255, 255, 255, 255, 255]⟩ : ByteArray).toList) with hb_91 | hb_91
                  · rw [ifb_t hb_91] at H
                    refine sl hK (by decide) (wtt hb_91) rfl (r_move hK rfl) fun a hK => ?_
                    refine sl hK (by decide) (wtt hb_91) rfl (r_ibin hK rfl rfl rfl) fun a hK => ?_
                    refine sl hK (by decide) rfl rfl (r_pick_t hb_91 hK rfl rfl) fun a hK => ?_
                    refine sl hK (by decide) rfl rfl (r_move hK rfl) fun a hK => ?_
                    rcases or_b (y_54.2 == 0) with hb_92 | hb_92
                    · rw [ifb_t hb_92] at H
                      refine sl hK (by decide) (wtt hb_92) rfl (r_move hK rfl) fun a hK => ?_
                      refine sl hK (by decide) (wtt hb_92) rfl (r_ibin hK rfl rfl rfl) fun a hK => ?_
                      refine sl hK (by decide) rfl rfl (r_pick_t hb_92 hK rfl rfl) fun a hK => ?_
                      refine sl hK (by decide) rfl rfl (r_assign hK rfl) fun a hK => ?_
                      refine wpList_nil ?_
                      obtain rfl := Option.some.inj H
                      refine wp_ret ?_
                      repeat (first | refine ret_then ?_ | refine ret_block ?_ | refine ret_scope ?_)
                      exact ret_1 Try.results11 hK (rv_tmp hK rfl) ⟨rfl, hS.bel⟩
                    · rw [ifb_f hb_92] at H
                      refine sl_skip hK (by decide) (wtf hb_92) rfl fun a hK => ?_
                      refine sl_skip hK (by decide) (wtf hb_92) rfl fun a hK => ?_
                      refine sl hK (by decide) rfl rfl (r_pick_f hb_92 hK rfl rfl) fun a hK => ?_
                      refine sl hK (by decide) rfl rfl (r_assign hK rfl) fun a hK => ?_
                      refine wpList_nil ?_
                      obtain rfl := Option.some.inj H
                      refine wp_ret ?_
                      repeat (first | refine ret_then ?_ | refine ret_block ?_ | refine ret_scope ?_)
                      exact ret_1 Try.results11 hK (rv_tmp hK rfl) ⟨rfl, hS.bel⟩
                  · rw [ifb_f hb_91] at H
                    refine sl_skip hK (by decide) (wtf hb_91) rfl fun a hK => ?_
                    refine sl_skip hK (by decide) (wtf hb_91) rfl fun a hK => ?_
                    refine sl hK (by decide) rfl rfl (r_pick_f hb_91 hK rfl rfl) fun a hK => ?_
                    refine sl hK (by decide) rfl rfl (r_move hK rfl) fun a hK => ?_
                    refine sl_skip hK (by decide) rfl rfl fun a hK => ?_
                    refine sl_skip hK (by decide) rfl rfl fun a hK => ?_
                    refine sl hK (by decide) rfl rfl (r_pick hK rfl rfl rfl) fun a hK => ?_
                    refine sl hK (by decide) rfl rfl (r_assign hK rfl) fun a hK => ?_
                    refine wpList_nil ?_
                    obtain rfl := Option.some.inj H
                    refine wp_ret ?_
                    repeat (first | refine ret_then ?_ | refine ret_block ?_ | refine ret_scope ?_)
                    exact ret_1 Try.results11 hK (rv_tmp hK rfl) ⟨rfl, hS.bel⟩
                · rw [ifb_f hb_82] at H
                  refine sl_skip hK (by decide) (wtf hb_82) rfl fun a hK => ?_
                  refine sl_skip hK (by decide) (wtf hb_82) rfl fun a hK => ?_
                  refine sl_skip hK (by decide) (wtf hb_82) rfl fun a hK => ?_
                  refine sl_skip hK (by decide) (wtf hb_82) rfl fun a hK => ?_
                  refine sl hK (by decide) rfl rfl (r_pick_f hb_82 hK rfl rfl) fun a hK => ?_
                  refine sl hK (by decide) rfl rfl (r_move hK rfl) fun a hK => ?_
                  refine sl_skip hK (by decide) rfl rfl fun a hK => ?_
                  refine sl_skip hK (by decide) rfl rfl fun a hK => ?_
                  refine sl hK (by decide) rfl rfl (r_pick hK rfl rfl rfl) fun a hK => ?_
                  refine sl hK (by decide) rfl rfl (r_move hK rfl) fun a hK => ?_
                  refine sl_skip hK (by decide) rfl rfl fun a hK => ?_
                  refine sl_skip hK (by decide) rfl rfl fun a hK => ?_
                  refine sl hK (by decide) rfl rfl (r_pick hK rfl rfl rfl) fun a hK => ?_
                  refine sl hK (by decide) rfl rfl (r_assign hK rfl) fun a hK => ?_
                  refine wpList_nil ?_
                  obtain rfl := Option.some.inj H
                  refine wp_ret ?_
                  repeat (first | refine ret_then ?_ | refine ret_block ?_ | refine ret_scope ?_)
                  exact ret_1 Try.results11 hK (rv_tmp hK rfl) ⟨rfl, hS.bel⟩
              · rw [ifb_f hb_81] at H
                refine sl_skip hK (by decide) (wtf hb_81) rfl fun a hK => ?_
                refine sl_skip hK (by decide) (wtf hb_81) rfl fun a hK => ?_
                refine sl_skip hK (by decide) (wtf hb_81) rfl fun a hK => ?_
                refine sl hK (by decide) rfl rfl (r_pick_f hb_81 hK rfl rfl) fun a hK => ?_
                refine sl hK (by decide) rfl rfl (r_move hK rfl) fun a hK => ?_
                refine sl_skip hK (by decide) rfl rfl fun a hK => ?_
                refine sl_skip hK (by decide) rfl rfl fun a hK => ?_
                refine sl_skip hK (by decide) rfl rfl fun a hK => ?_
                refine sl_skip hK (by decide) rfl rfl fun a hK => ?_
                refine sl hK (by decide) rfl rfl (r_pick hK rfl rfl rfl) fun a hK => ?_
                refine sl hK (by decide) rfl rfl (r_move hK rfl) fun a hK => ?_
                refine sl_skip hK (by decide) rfl rfl fun a hK => ?_
                refine sl_skip hK (by decide) rfl rfl fun a hK => ?_
                refine sl hK (by decide) rfl rfl (r_pick hK rfl rfl rfl) fun a hK => ?_
                refine sl hK (by decide) rfl rfl (r_move hK rfl) fun a hK => ?_
                refine sl_skip hK (by decide) rfl rfl fun a hK => ?_
                refine sl_skip hK (by decide) rfl rfl fun a hK => ?_
                refine sl hK (by decide) rfl rfl (r_pick hK rfl rfl rfl) fun a hK => ?_
                refine sl hK (by decide) rfl rfl (r_assign hK rfl) fun a hK => ?_
                refine wpList_nil ?_
                obtain rfl := Option.some.inj H
                refine wp_ret ?_
                repeat (first | refine ret_then ?_ | refine ret_block ?_ | refine ret_scope ?_)
                exact ret_1 Try.results11 hK (rv_tmp hK rfl) ⟨rfl, hS.bel⟩
            · rw [ifb_f hb_80] at H
              refine sl_skip hK (by decide) (wtf hb_80) rfl fun a hK => ?_
              refine sl_skip hK (by decide) (wtf hb_80) rfl fun a hK => ?_
              refine sl hK (by decide) rfl rfl (r_pick_f hb_80 hK rfl rfl) fun a hK => ?_
              refine sl hK (by decide) rfl rfl (r_move hK rfl) fun a hK => ?_
              refine sl_skip hK (by decide) rfl rfl fun a hK => ?_
              refine sl_skip hK (by decide) rfl rfl fun a hK => ?_
              refine sl_skip hK (by decide) rfl rfl fun a hK => ?_
              refine sl hK (by decide) rfl rfl (r_pick hK rfl rfl rfl) fun a hK => ?_
              refine sl hK (by decide) rfl rfl (r_move hK rfl) fun a hK => ?_
              refine sl_skip hK (by decide) rfl rfl fun a hK => ?_
              refine sl_skip hK (by decide) rfl rfl fun a hK => ?_
              refine sl_skip hK (by decide) rfl rfl fun a hK => ?_
              refine sl_skip hK (by decide) rfl rfl fun a hK => ?_
              refine sl hK (by decide) rfl rfl (r_pick hK rfl rfl rfl) fun a hK => ?_
              refine sl hK (by decide) rfl rfl (r_move hK rfl) fun a hK => ?_
              refine sl_skip hK (by decide) rfl rfl fun a hK => ?_
              refine sl_skip hK (by decide) rfl rfl fun a hK => ?_
              refine sl hK (by decide) rfl rfl (r_pick hK rfl rfl rfl) fun a hK => ?_
              refine sl hK (by decide) rfl rfl (r_move hK rfl) fun a hK => ?_
              refine sl_skip hK (by decide) rfl rfl fun a hK => ?_
              refine sl_skip hK (by decide) rfl rfl fun a hK => ?_
              refine sl hK (by decide) rfl rfl (r_pick hK rfl rfl rfl) fun a hK => ?_
              refine sl hK (by decide) rfl rfl (r_assign hK rfl) fun a hK => ?_
              refine wpList_nil ?_
              obtain rfl := Option.some.inj H
              refine wp_ret ?_
              repeat (first | refine ret_then ?_ | refine ret_block ?_ | refine ret_scope ?_)
              exact ret_1 Try.results11 hK (rv_tmp hK rfl) ⟨rfl, hS.bel⟩
          · rw [ifb_f hb_79] at H
            refine sl_skip hK (by decide) (wtf hb_79) rfl fun a hK => ?_
            refine sl_skip hK (by decide) (wtf hb_79) rfl fun a hK => ?_
            refine sl hK (by decide) rfl rfl (r_pick_f hb_79 hK rfl rfl) fun a hK => ?_
            refine sl hK (by decide) rfl rfl (r_move hK rfl) fun a hK => ?_
            refine sl_skip hK (by decide) rfl rfl fun a hK => ?_
            refine sl_skip hK (by decide) rfl rfl fun a hK => ?_
            refine sl hK (by decide) rfl rfl (r_pick hK rfl rfl rfl) fun a hK => ?_
            refine sl hK (by decide) rfl rfl (r_move hK rfl) fun a hK => ?_
            refine sl_skip hK (by decide) rfl rfl fun a hK => ?_
            refine sl_skip hK (by decide) rfl rfl fun a hK => ?_
            refine sl_skip hK (by decide) rfl rfl fun a hK => ?_
            refine sl hK (by decide) rfl rfl (r_pick hK rfl rfl rfl) fun a hK => ?_
            refine sl hK (by decide) rfl rfl (r_move hK rfl) fun a hK => ?_
            refine sl_skip hK (by decide) rfl rfl fun a hK => ?_
            refine sl_skip hK (by decide) rfl rfl fun a hK => ?_
            refine sl_skip hK (by decide) rfl rfl fun a hK => ?_
            refine sl_skip hK (by decide) rfl rfl fun a hK => ?_
            refine sl hK (by decide) rfl rfl (r_pick hK rfl rfl rfl) fun a hK => ?_
            refine sl hK (by decide) rfl rfl (r_move hK rfl) fun a hK => ?_
            refine sl_skip hK (by decide) rfl rfl fun a hK => ?_
            refine sl_skip hK (by decide) rfl rfl fun a hK => ?_
            refine sl hK (by decide) rfl rfl (r_pick hK rfl rfl rfl) fun a hK => ?_
            refine sl hK (by decide) rfl rfl (r_move hK rfl) fun a hK => ?_
            refine sl_skip hK (by decide) rfl rfl fun a hK => ?_
            refine sl_skip hK (by decide) rfl rfl fun a hK => ?_
            refine sl hK (by decide) rfl rfl (r_pick hK rfl rfl rfl) fun a hK => ?_
            refine sl hK (by decide) rfl rfl (r_assign hK rfl) fun a hK => ?_
            refine wpList_nil ?_
            obtain rfl := Option.some.inj H
            refine wp_ret ?_
            repeat (first | refine ret_then ?_ | refine ret_block ?_ | refine ret_scope ?_)
            exact ret_1 Try.results11 hK (rv_tmp hK rfl) ⟨rfl, hS.bel⟩
        · rw [ifb_f hb_78] at H
          refine sl_skip hK (by decide) (wtf hb_78) rfl fun a hK => ?_
          refine sl_skip hK (by decide) (wtf hb_78) rfl fun a hK => ?_
          refine sl hK (by decide) rfl rfl (r_pick_f hb_78 hK rfl rfl) fun a hK => ?_
          refine sl hK (by decide) rfl rfl (r_move hK rfl) fun a hK => ?_
          refine sl_skip hK (by decide) rfl rfl fun a hK => ?_
          refine sl_skip hK (by decide) rfl rfl fun a hK => ?_
          refine sl hK (by decide) rfl rfl (r_pick hK rfl rfl rfl) fun a hK => ?_
          refine sl hK (by decide) rfl rfl (r_move hK rfl) fun a hK => ?_
          refine sl_skip hK (by decide) rfl rfl fun a hK => ?_
          refine sl_skip hK (by decide) rfl rfl fun a hK => ?_
          refine sl hK (by decide) rfl rfl (r_pick hK rfl rfl rfl) fun a hK => ?_
          refine sl hK (by decide) rfl rfl (r_move hK rfl) fun a hK => ?_
          refine sl_skip hK (by decide) rfl rfl fun a hK => ?_
          refine sl_skip hK (by decide) rfl rfl fun a hK => ?_
          refine sl_skip hK (by decide) rfl rfl fun a hK => ?_
          refine sl hK (by decide) rfl rfl (r_pick hK rfl rfl rfl) fun a hK => ?_
          refine sl hK (by decide) rfl rfl (r_move hK rfl) fun a hK => ?_
          refine sl_skip hK (by decide) rfl rfl fun a hK => ?_
          refine sl_skip hK (by decide) rfl rfl fun a hK => ?_
          refine sl_skip hK (by decide) rfl rfl fun a hK => ?_
          refine sl_skip hK (by decide) rfl rfl fun a hK => ?_
          refine sl hK (by decide) rfl rfl (r_pick hK rfl rfl rfl) fun a hK => ?_
          refine sl hK (by decide) rfl rfl (r_move hK rfl) fun a hK => ?_
          refine sl_skip hK (by decide) rfl rfl fun a hK => ?_
          refine sl_skip hK (by decide) rfl rfl fun a hK => ?_
          refine sl hK (by decide) rfl rfl (r_pick hK rfl rfl rfl) fun a hK => ?_
          refine sl hK (by decide) rfl rfl (r_move hK rfl) fun a hK => ?_
          refine sl_skip hK (by decide) rfl rfl fun a hK => ?_
          refine sl_skip hK (by decide) rfl rfl fun a hK => ?_
          refine sl hK (by decide) rfl rfl (r_pick hK rfl rfl rfl) fun a hK => ?_
          refine sl hK (by decide) rfl rfl (r_assign hK rfl) fun a hK => ?_
          refine wpList_nil ?_
          obtain rfl := Option.some.inj H
          refine wp_ret ?_
          repeat (first | refine ret_then ?_ | refine ret_block ?_ | refine ret_scope ?_)
          exact ret_1 Try.results11 hK (rv_tmp hK rfl) ⟨rfl, hS.bel⟩
      · rw [ifb_f hb_77] at H
        refine sl_skip hK (by decide) (wtf hb_77) rfl fun a hK => ?_
        refine sl_skip hK (by decide) (wtf hb_77) rfl fun a hK => ?_
        refine sl_skip hK (by decide) (wtf hb_77) rfl fun a hK => ?_
        refine sl hK (by decide) rfl rfl (r_pick_f hb_77 hK rfl rfl) fun a hK => ?_
        refine sl hK (by decide) rfl rfl (r_move hK rfl) fun a hK => ?_
        refine sl_skip hK (by decide) rfl rfl fun a hK => ?_
        refine sl_skip hK (by decide) rfl rfl fun a hK => ?_
        refine sl hK (by decide) rfl rfl (r_pick hK rfl rfl rfl) fun a hK => ?_
        refine sl hK (by decide) rfl rfl (r_move hK rfl) fun a hK => ?_
        refine sl_skip hK (by decide) rfl rfl fun a hK => ?_
        refine sl_skip hK (by decide) rfl rfl fun a hK => ?_
        refine sl hK (by decide) rfl rfl (r_pick hK rfl rfl rfl) fun a hK => ?_
        refine sl hK (by decide) rfl rfl (r_move hK rfl) fun a hK => ?_
        refine sl_skip hK (by decide) rfl rfl fun a hK => ?_
        refine sl_skip hK (by decide) rfl rfl fun a hK => ?_
        refine sl hK (by decide) rfl rfl (r_pick hK rfl rfl rfl) fun a hK => ?_
        refine sl hK (by decide) rfl rfl (r_move hK rfl) fun a hK => ?_
        refine sl_skip hK (by decide) rfl rfl fun a hK => ?_
        refine sl_skip hK (by decide) rfl rfl fun a hK => ?_
        refine sl_skip hK (by decide) rfl rfl fun a hK => ?_
        refine sl hK (by decide) rfl rfl (r_pick hK rfl rfl rfl) fun a hK => ?_
        refine sl hK (by decide) rfl rfl (r_move hK rfl) fun a hK => ?_
        refine sl_skip hK (by decide) rfl rfl fun a hK => ?_
        refine sl_skip hK (by decide) rfl rfl fun a hK => ?_
        refine sl_skip hK (by decide) rfl rfl fun a hK => ?_
        refine sl_skip hK (by decide) rfl rfl fun a hK => ?_
        refine sl hK (by decide) rfl rfl (r_pick hK rfl rfl rfl) fun a hK => ?_
        refine sl hK (by decide) rfl rfl (r_move hK rfl) fun a hK => ?_
        refine sl_skip hK (by decide) rfl rfl fun a hK => ?_
        refine sl_skip hK (by decide) rfl rfl fun a hK => ?_
        refine sl hK (by decide) rfl rfl (r_pick hK rfl rfl rfl) fun a hK => ?_
        refine sl hK (by decide) rfl rfl (r_move hK rfl) fun a hK => ?_
        refine sl_skip hK (by decide) rfl rfl fun a hK => ?_
        refine sl_skip hK (by decide) rfl rfl fun a hK => ?_
        refine sl hK (by decide) rfl rfl (r_pick hK rfl rfl rfl) fun a hK => ?_
        refine sl hK (by decide) rfl rfl (r_assign hK rfl) fun a hK => ?_
        refine wpList_nil ?_
        obtain rfl := Option.some.inj H
        refine wp_ret ?_
        repeat (first | refine ret_then ?_ | refine ret_block ?_ | refine ret_scope ?_)
        exact ret_1 Try.results11 hK (rv_tmp hK rfl) ⟨rfl, hS.bel⟩
    · rw [ifb_f hb_76] at H
      refine sl_skip hK (by decide) (wtf hb_76) rfl fun a hK => ?_
      refine sl_skip hK (by decide) (wtf hb_76) rfl fun a hK => ?_
      refine sl_skip hK (by decide) (wtf hb_76) rfl fun a hK => ?_
      refine sl hK (by decide) rfl rfl (r_pick_f hb_76 hK rfl rfl) fun a hK => ?_
      refine sl hK (by decide) rfl rfl (r_move hK rfl) fun a hK => ?_
      refine sl_skip hK (by decide) rfl rfl fun a hK => ?_
      refine sl_skip hK (by decide) rfl rfl fun a hK => ?_
      refine sl_skip hK (by decide) rfl rfl fun a hK => ?_
      refine sl hK (by decide) rfl rfl (r_pick hK rfl rfl rfl) fun a hK => ?_
      refine sl hK (by decide) rfl rfl (r_move hK rfl) fun a hK => ?_
      refine sl_skip hK (by decide) rfl rfl fun a hK => ?_
      refine sl_skip hK (by decide) rfl rfl fun a hK => ?_
      refine sl hK (by decide) rfl rfl (r_pick hK rfl rfl rfl) fun a hK => ?_
      refine sl hK (by decide) rfl rfl (r_move hK rfl) fun a hK => ?_
      refine sl_skip hK (by decide) rfl rfl fun a hK => ?_
      refine sl_skip hK (by decide) rfl rfl fun a hK => ?_
      refine sl hK (by decide) rfl rfl (r_pick hK rfl rfl rfl) fun a hK => ?_
      refine sl hK (by decide) rfl rfl (r_move hK rfl) fun a hK => ?_
      refine sl_skip hK (by decide) rfl rfl fun a hK => ?_
      refine sl_skip hK (by decide) rfl rfl fun a hK => ?_
      refine sl hK (by decide) rfl rfl (r_pick hK rfl rfl rfl) fun a hK => ?_
      refine sl hK (by decide) rfl rfl (r_move hK rfl) fun a hK => ?_
      refine sl_skip hK (by decide) rfl rfl fun a hK => ?_
      refine sl_skip hK (by decide) rfl rfl fun a hK => ?_
      refine sl_skip hK (by decide) rfl rfl fun a hK => ?_
      refine sl hK (by decide) rfl rfl (r_pick hK rfl rfl rfl) fun a hK => ?_
      refine sl hK (by decide) rfl rfl (r_move hK rfl) fun a hK => ?_
      refine sl_skip hK (by decide) rfl rfl fun a hK => ?_
      refine sl_skip hK (by decide) rfl rfl fun a hK => ?_
      refine sl_skip hK (by decide) rfl rfl fun a hK => ?_
      refine sl_skip hK (by decide) rfl rfl fun a hK => ?_
      refine sl hK (by decide) rfl rfl (r_pick hK rfl rfl rfl) fun a hK => ?_
      refine sl hK (by decide) rfl rfl (r_move hK rfl) fun a hK => ?_
      refine sl_skip hK (by decide) rfl rfl fun a hK => ?_
      refine sl_skip hK (by decide) rfl rfl fun a hK => ?_
      refine sl hK (by decide) rfl rfl (r_pick hK rfl rfl rfl) fun a hK => ?_
      refine sl hK (by decide) rfl rfl (r_move hK rfl) fun a hK => ?_
      refine sl_skip hK (by decide) rfl rfl fun a hK => ?_
      refine sl_skip hK (by decide) rfl rfl fun a hK => ?_
      refine sl hK (by decide) rfl rfl (r_pick hK rfl rfl rfl) fun a hK => ?_
      refine sl hK (by decide) rfl rfl (r_assign hK rfl) fun a hK => ?_
      refine wpList_nil ?_
      obtain rfl := Option.some.inj H
      refine wp_ret ?_
      repeat (first | refine ret_then ?_ | refine ret_block ?_ | refine ret_scope ?_)
      exact ret_1 Try.results11 hK (rv_tmp hK rfl) ⟨rfl, hS.bel⟩
  · rw [ifb_f hb_75] at H
    refine sl_skip hK (by decide) (wtf hb_75) rfl fun a hK => ?_
    refine sl_skip hK (by decide) (wtf hb_75) rfl fun a hK => ?_
    refine sl hK (by decide) rfl rfl (r_pick_f hb_75 hK rfl rfl) fun a hK => ?_
    refine sl hK (by decide) rfl rfl (r_move hK rfl) fun a hK => ?_
    refine sl_skip hK (by decide) rfl rfl fun a hK => ?_
    refine sl_skip hK (by decide) rfl rfl fun a hK => ?_
    refine sl_skip hK (by decide) rfl rfl fun a hK => ?_
    refine sl hK (by decide) rfl rfl (r_pick hK rfl rfl rfl) fun a hK => ?_
    refine sl hK (by decide) rfl rfl (r_move hK rfl) fun a hK => ?_
    refine sl_skip hK (by decide) rfl rfl fun a hK => ?_
    refine sl_skip hK (by decide) rfl rfl fun a hK => ?_
    refine sl_skip hK (by decide) rfl rfl fun a hK => ?_
    refine sl hK (by decide) rfl rfl (r_pick hK rfl rfl rfl) fun a hK => ?_
    refine sl hK (by decide) rfl rfl (r_move hK rfl) fun a hK => ?_
    refine sl_skip hK (by decide) rfl rfl fun a hK => ?_
    refine sl_skip hK (by decide) rfl rfl fun a hK => ?_
    refine sl hK (by decide) rfl rfl (r_pick hK rfl rfl rfl) fun a hK => ?_
    refine sl hK (by decide) rfl rfl (r_move hK rfl) fun a hK => ?_
    refine sl_skip hK (by decide) rfl rfl fun a hK => ?_
    refine sl_skip hK (by decide) rfl rfl fun a hK => ?_
    refine sl hK (by decide) rfl rfl (r_pick hK rfl rfl rfl) fun a hK => ?_
    refine sl hK (by decide) rfl rfl (r_move hK rfl) fun a hK => ?_
    refine sl_skip hK (by decide) rfl rfl fun a hK => ?_
    refine sl_skip hK (by decide) rfl rfl fun a hK => ?_
    refine sl hK (by decide) rfl rfl (r_pick hK rfl rfl rfl) fun a hK => ?_
    refine sl hK (by decide) rfl rfl (r_move hK rfl) fun a hK => ?_
    refine sl_skip hK (by decide) rfl rfl fun a hK => ?_
    refine sl_skip hK (by decide) rfl rfl fun a hK => ?_
    refine sl_skip hK (by decide) rfl rfl fun a hK => ?_
    refine sl hK (by decide) rfl rfl (r_pick hK rfl rfl rfl) fun a hK => ?_
    refine sl hK (by decide) rfl rfl (r_move hK rfl) fun a hK => ?_
    refine sl_skip hK (by decide) rfl rfl fun a hK => ?_
    refine sl_skip hK (by decide) rfl rfl fun a hK => ?_
    refine sl_skip hK (by decide) rfl rfl fun a hK => ?_
    refine sl_skip hK (by decide) rfl rfl fun a hK => ?_
    refine sl hK (by decide) rfl rfl (r_pick hK rfl rfl rfl) fun a hK => ?_
    refine sl hK (by decide) rfl rfl (r_move hK rfl) fun a hK => ?_
    refine sl_skip hK (by decide) rfl rfl fun a hK => ?_
    refine sl_skip hK (by decide) rfl rfl fun a hK => ?_
    refine sl hK (by decide) rfl rfl (r_pick hK rfl rfl rfl) fun a hK => ?_
    refine sl hK (by decide) rfl rfl (r_move hK rfl) fun a hK => ?_
    refine sl_skip hK (by decide) rfl rfl fun a hK => ?_
    refine sl_skip hK (by decide) rfl rfl fun a hK => ?_
    refine sl hK (by decide) rfl rfl (r_pick hK rfl rfl rfl) fun a hK => ?_
    refine sl hK (by decide) rfl rfl (r_assign hK rfl) fun a hK => ?_
    refine wpList_nil ?_
    obtain rfl := Option.some.inj H
    refine wp_ret ?_
    repeat (first | refine ret_then ?_ | refine ret_block ?_ | refine ret_scope ?_)
    exact ret_1 Try.results11 hK (rv_tmp hK rfl) ⟨rfl, hS.bel⟩

/-! ### catchment/catchmentref01.Valid: function 25 -/
set_option maxHeartbeats 4000000 in
set_option maxRecDepth 100000 in
theorem ref01_Valid.calls (a0 : api_Value) {r : Bool} (H : ref01_Valid a0 = some r) (w0 : World) : CallsV Try.prog 25 #[.agg #[.int .i64 a0.Kind, .int .i64 a0.N, .string a0.S, .int .i64 a0.H.a0, .int .i64 a0.H.a1, .int .i64 a0.H.a2, .int .i64 a0.H.a3, .int .i64 a0.H.a4, .int .i64 a0.H.a5, .int .i64 a0.H.a6, .int .i64 a0.H.a7]] w0 (.bool r) := by
  unfold ref01_Valid at H
  refine enter (args := [.agg #[.int .i64 a0.Kind, .int .i64 a0.N, .string a0.S, .int .i64 a0.H.a0, .int .i64 a0.H.a1, .int .i64 a0.H.a2, .int .i64 a0.H.a3, .int .i64 a0.H.a4, .int .i64 a0.H.a5, .int .i64 a0.H.a6, .int .i64 a0.H.a7]]) Try.func25 rfl Try.ntmps25 rfl fun a hK => ?_
  have hS := St.init (R := fun _ => none) (w := w0) (fun _ _ h => by cases h)
  have hRL := RLe.refl (M := []) w0 (fun _ => none)
  refine wp_seq ?_
  refine wp_region_lit ?_
  refine sl_box hS hK (by decide) rfl rfl (c := [.int .i64 a0.Kind, .int .i64 a0.N, .string a0.S, .int .i64 a0.H.a0, .int .i64 a0.H.a1, .int .i64 a0.H.a2, .int .i64 a0.H.a3, .int .i64 a0.H.a4, .int .i64 a0.H.a5, .int .i64 a0.H.a6, .int .i64 a0.H.a7]) rfl fun a w b_1 hS hK => ?_
  refine sl hK (by decide) rfl rfl (r_assign hK rfl) fun a hK => ?_
  refine wpList_nil ?_
  refine wp_seq ?_
  refine wp_region_lit ?_
  refine sl hK (by decide) rfl rfl (r_fieldAddr Try.underlying25 rfl Try.sizeOf23 hK rfl) fun a hK => ?_
  refine sl hK (by decide) rfl rfl (r_loadA (cs := [.int .i64 a0.H.a0, .int .i64 a0.H.a1, .int .i64 a0.H.a2, .int .i64 a0.H.a3, .int .i64 a0.H.a4, .int .i64 a0.H.a5, .int .i64 a0.H.a6, .int .i64 a0.H.a7]) Try.isAgg23 Try.sizeOf23 rfl hK rfl (hS.cells_of (m := 8) (.head _) rfl)) fun a hK => ?_
  refine sl hK (by decide) rfl rfl (r_buildAC (ps := []) (c := [.int .i64 0, .int .i64 0, .int .i64 0, .int .i64 0, .int .i64 0, .int .i64 0, .int .i64 0, .int .i64 0]) Try.underlying23 Try.zeroValue23 Try.sizeOf3 hK rfl pc_nil rfl rfl) fun a hK => ?_
  refine sl hK (by decide) rfl rfl (r_seq (by kernel_rfl) (eqs23 a0.H (⟨0, 0, 0, 0, 0, 0, 0, 0⟩ : Arr8)) hK rfl rfl) fun a hK => ?_
  refine sl hK (by decide) rfl rfl (r_assign hK rfl) fun a hK => ?_
  refine wpList_nil ?_
  refine wp_seq ?_
  refine wp_seq ?_
  refine wp_region_lit ?_
  refine sl hK (by decide) rfl rfl (r_fieldAddr Try.underlying25 rfl Try.sizeOf3 hK rfl) fun a hK => ?_
  refine sl hK (by decide) rfl rfl (r_load Try.isAgg3 hK rfl (hS.cell (.head _) rfl)) fun a hK => ?_
  refine wpList_nil ?_
  refine wp_block ?_
  refine wp_seq ?_
  refine wp_region_lit ?_
  refine sl hK (by decide) rfl rfl (r_ibin hK rfl rfl rfl) fun a hK => ?_
  refine sl hK (by decide) rfl rfl (r_assign hK rfl) fun a hK => ?_
  refine wpList_nil ?_
  refine wp_cond_split (hK.ev rfl) (fun (hb_2 : (a0.Kind == 1) = true) => ?_) (fun (hb_2 : (a0.Kind == 1) = false) => ?_)
  · rw [ifb_t hb_2] at H
    refine wp_seq ?_
    refine wp_region_lit ?_
    refine sl hK (by decide) rfl rfl (r_fieldAddr Try.underlying25 rfl Try.sizeOf9 hK rfl) fun a hK => ?_
    refine sl hK (by decide) rfl rfl (r_load Try.isAgg9 hK rfl (hS.cell (.head _) rfl)) fun a hK => ?_
    refine sl hK (by decide) rfl rfl (r_sbin hK rfl rfl rfl) fun a hK => ?_
    refine sl hK (by decide) rfl rfl (r_move hK rfl) fun a hK => ?_
    rcases or_b (a0.S.toList == (⟨#[]⟩ : ByteArray).toList) with hb_3 | hb_3
    · rw [ifb_t hb_3] at H
      refine sl hK (by decide) (wtt hb_3) rfl (r_move hK rfl) fun a hK => ?_
      refine sl hK (by decide) rfl rfl (r_pick_t hb_3 hK rfl rfl) fun a hK => ?_
      refine sl hK (by decide) rfl rfl (r_assign hK rfl) fun a hK => ?_
      refine wpList_nil ?_
      obtain rfl := Option.some.inj H
      refine wp_ret ?_
      repeat (first | refine ret_then ?_ | refine ret_block ?_ | refine ret_scope ?_)
      exact ret_1 Try.results25 hK (rv_tmp hK rfl) ⟨rfl, hS.bel⟩
    · rw [ifb_f hb_3] at H
      refine sl_skip hK (by decide) (wtf hb_3) rfl fun a hK => ?_
      refine sl hK (by decide) rfl rfl (r_pick_f hb_3 hK rfl rfl) fun a hK => ?_
      refine sl hK (by decide) rfl rfl (r_assign hK rfl) fun a hK => ?_
      refine wpList_nil ?_
      obtain rfl := Option.some.inj H
      refine wp_ret ?_
      repeat (first | refine ret_then ?_ | refine ret_block ?_ | refine ret_scope ?_)
      exact ret_1 Try.results25 hK (rv_tmp hK rfl) ⟨rfl, hS.bel⟩
  · rw [ifb_f hb_2] at H
    refine wp_seq ?_
    refine wp_region_lit ?_
    refine sl hK (by decide) rfl rfl (r_ibin hK rfl rfl rfl) fun a hK => ?_
    refine sl hK (by decide) rfl rfl (r_assign hK rfl) fun a hK => ?_
    refine wpList_nil ?_
    refine wp_cond_split (hK.ev rfl) (fun (hb_4 : (a0.Kind == 2) = true) => ?_) (fun (hb_4 : (a0.Kind == 2) = false) => ?_)
    · rw [ifb_t hb_4] at H
      refine wp_seq ?_
      refine wp_region_lit ?_
      refine sl hK (by decide) rfl rfl (r_fieldAddr Try.underlying25 rfl Try.sizeOf3 hK rfl) fun a hK => ?_
      refine sl hK (by decide) rfl rfl (r_load Try.isAgg3 hK rfl (hS.cell (.head _) rfl)) fun a hK => ?_
      refine sl hK (by decide) rfl rfl (r_ibin hK rfl rfl rfl) fun a hK => ?_
      refine sl hK (by decide) rfl rfl (r_move hK rfl) fun a hK => ?_
      rcases or_b (a0.N == 0) with hb_5 | hb_5
      · rw [ifb_t hb_5] at H
        refine sl hK (by decide) (wtt hb_5) rfl (r_move hK rfl) fun a hK => ?_
        refine sl hK (by decide) rfl rfl (r_pick_t hb_5 hK rfl rfl) fun a hK => ?_
        refine sl hK (by decide) rfl rfl (r_move hK rfl) fun a hK => ?_
        rcases or_b (decide (a0.H = (⟨0, 0, 0, 0, 0, 0, 0, 0⟩ : Arr8))) with hb_6 | hb_6
        · rw [ifb_t hb_6] at H
          refine sl hK (by decide) (wtt hb_6) rfl (r_fieldAddr Try.underlying25 rfl Try.sizeOf9 hK rfl) fun a hK => ?_
          refine sl hK (by decide) (wtt hb_6) rfl (r_load Try.isAgg9 hK rfl (hS.cell (.head _) rfl)) fun a hK => ?_
          refine sl hK (by decide) (wtt hb_6) rfl (r_len_str Try.underlying9 hK rfl) fun a hK => ?_
          refine sl hK (by decide) (wtt hb_6) rfl (r_ibin hK rfl rfl rfl) fun a hK => ?_
          refine sl hK (by decide) rfl rfl (r_pick_t hb_6 hK rfl rfl) fun a hK => ?_
          refine sl hK (by decide) rfl rfl (r_assign hK rfl) fun a hK => ?_
          refine wpList_nil ?_
          obtain rfl := Option.some.inj H
          refine wp_ret ?_
          repeat (first | refine ret_then ?_ | refine ret_block ?_ | refine ret_scope ?_)
          exact ret_1 Try.results25 hK (rv_tmp hK rfl) ⟨rfl, hS.bel⟩
        · rw [ifb_f hb_6] at H
          refine sl_skip hK (by decide) (wtf hb_6) rfl fun a hK => ?_
          refine sl_skip hK (by decide) (wtf hb_6) rfl fun a hK => ?_
          refine sl_skip hK (by decide) (wtf hb_6) rfl fun a hK => ?_
          refine sl_skip hK (by decide) (wtf hb_6) rfl fun a hK => ?_
          refine sl hK (by decide) rfl rfl (r_pick_f hb_6 hK rfl rfl) fun a hK => ?_
          refine sl hK (by decide) rfl rfl (r_assign hK rfl) fun a hK => ?_
          refine wpList_nil ?_
          obtain rfl := Option.some.inj H
          refine wp_ret ?_
          repeat (first | refine ret_then ?_ | refine ret_block ?_ | refine ret_scope ?_)
          exact ret_1 Try.results25 hK (rv_tmp hK rfl) ⟨rfl, hS.bel⟩
      · rw [ifb_f hb_5] at H
        refine sl_skip hK (by decide) (wtf hb_5) rfl fun a hK => ?_
        refine sl hK (by decide) rfl rfl (r_pick_f hb_5 hK rfl rfl) fun a hK => ?_
        refine sl hK (by decide) rfl rfl (r_move hK rfl) fun a hK => ?_
        refine sl_skip hK (by decide) rfl rfl fun a hK => ?_
        refine sl_skip hK (by decide) rfl rfl fun a hK => ?_
        refine sl_skip hK (by decide) rfl rfl fun a hK => ?_
        refine sl_skip hK (by decide) rfl rfl fun a hK => ?_
        refine sl hK (by decide) rfl rfl (r_pick hK rfl rfl rfl) fun a hK => ?_
        refine sl hK (by decide) rfl rfl (r_assign hK rfl) fun a hK => ?_
        refine wpList_nil ?_
        obtain rfl := Option.some.inj H
        refine wp_ret ?_
        repeat (first | refine ret_then ?_ | refine ret_block ?_ | refine ret_scope ?_)
        exact ret_1 Try.results25 hK (rv_tmp hK rfl) ⟨rfl, hS.bel⟩
    · rw [ifb_f hb_4] at H
      refine wp_seq ?_
      refine wp_region_lit ?_
      refine sl hK (by decide) rfl rfl (r_ibin hK rfl rfl rfl) fun a hK => ?_
      refine sl hK (by decide) rfl rfl (r_assign hK rfl) fun a hK => ?_
      refine wpList_nil ?_
      refine wp_cond_split (hK.ev rfl) (fun (hb_7 : (a0.Kind == 3) = true) => ?_) (fun (hb_7 : (a0.Kind == 3) = false) => ?_)
      · rw [ifb_t hb_7] at H
        refine wp_seq ?_
        refine wp_region_lit ?_
        refine sl hK (by decide) rfl rfl (r_fieldAddr Try.underlying25 rfl Try.sizeOf3 hK rfl) fun a hK => ?_
        refine sl hK (by decide) rfl rfl (r_load Try.isAgg3 hK rfl (hS.cell (.head _) rfl)) fun a hK => ?_
        refine sl hK (by decide) rfl rfl (r_ibin hK rfl rfl rfl) fun a hK => ?_
        refine sl hK (by decide) rfl rfl (r_move hK rfl) fun a hK => ?_
        rcases or_b (a0.N == 0) with hb_8 | hb_8
        · rw [ifb_t hb_8] at H
          refine sl_skip hK (by decide) (wft hb_8) rfl fun a hK => ?_
          refine sl_skip hK (by decide) (wft hb_8) rfl fun a hK => ?_
          refine sl_skip hK (by decide) (wft hb_8) rfl fun a hK => ?_
          refine sl hK (by decide) rfl rfl (r_pick_t hb_8 hK rfl rfl) fun a hK => ?_
          refine sl hK (by decide) rfl rfl (r_move hK rfl) fun a hK => ?_
          refine sl hK (by decide) rfl rfl (r_fieldAddr Try.underlying25 rfl Try.sizeOf9 hK rfl) fun a hK => ?_
          refine sl hK (by decide) rfl rfl (r_load Try.isAgg9 hK rfl (hS.cell (.head _) rfl)) fun a hK => ?_
          refine sl hK (by decide) rfl rfl (r_sbin hK rfl rfl rfl) fun a hK => ?_
          refine sl hK (by decide) rfl rfl (r_pick hK rfl rfl rfl) fun a hK => ?_
          refine sl hK (by decide) rfl rfl (r_move hK rfl) fun a hK => ?_
          rcases or_b (a0.S.toList == (⟨#[]⟩ : ByteArray).toList) with hb_9 | hb_9
          · rw [ifb_t hb_9] at H
            refine sl hK (by decide) (wtt hb_9) rfl (r_move hK rfl) fun a hK => ?_
            refine sl hK (by decide) rfl rfl (r_pick_t hb_9 hK rfl rfl) fun a hK => ?_
            refine sl hK (by decide) rfl rfl (r_assign hK rfl) fun a hK => ?_
            refine wpList_nil ?_
            obtain rfl := Option.some.inj H
            refine wp_ret ?_
            repeat (first | refine ret_then ?_ | refine ret_block ?_ | refine ret_scope ?_)
            exact ret_1 Try.results25 hK (rv_tmp hK rfl) ⟨rfl, hS.bel⟩
          · rw [ifb_f hb_9] at H
            refine sl_skip hK (by decide) (wtf hb_9) rfl fun a hK => ?_
            refine sl hK (by decide) rfl rfl (r_pick_f hb_9 hK rfl rfl) fun a hK => ?_
            refine sl hK (by decide) rfl rfl (r_assign hK rfl) fun a hK => ?_
            refine wpList_nil ?_
            obtain rfl := Option.some.inj H
            refine wp_ret ?_
            repeat (first | refine ret_then ?_ | refine ret_block ?_ | refine ret_scope ?_)
            exact ret_1 Try.results25 hK (rv_tmp hK rfl) ⟨rfl, hS.bel⟩
        · rw [ifb_f hb_8] at H
          refine sl hK (by decide) (wff hb_8) rfl (r_fieldAddr Try.underlying25 rfl Try.sizeOf3 hK rfl) fun a hK => ?_
          refine sl hK (by decide) (wff hb_8) rfl (r_load Try.isAgg3 hK rfl (hS.cell (.head _) rfl)) fun a hK => ?_
          refine sl hK (by decide) (wff hb_8) rfl (r_ibin hK rfl rfl rfl) fun a hK => ?_
          refine sl hK (by decide) rfl rfl (r_pick_f hb_8 hK rfl rfl) fun a hK => ?_
          refine sl hK (by decide) rfl rfl (r_move hK rfl) fun a hK => ?_
          rcases or_b (a0.N == 1) with hb_10 | hb_10
          · rw [ifb_t hb_10] at H
            refine sl hK (by decide) (wtt hb_10) rfl (r_fieldAddr Try.underlying25 rfl Try.sizeOf9 hK rfl) fun a hK => ?_
            refine sl hK (by decide) (wtt hb_10) rfl (r_load Try.isAgg9 hK rfl (hS.cell (.head _) rfl)) fun a hK => ?_
            refine sl hK (by decide) (wtt hb_10) rfl (r_sbin hK rfl rfl rfl) fun a hK => ?_
            refine sl hK (by decide) rfl rfl (r_pick_t hb_10 hK rfl rfl) fun a hK => ?_
            refine sl hK (by decide) rfl rfl (r_move hK rfl) fun a hK => ?_
            rcases or_b (a0.S.toList == (⟨#[]⟩ : ByteArray).toList) with hb_11 | hb_11
            · rw [ifb_t hb_11] at H
              refine sl hK (by decide) (wtt hb_11) rfl (r_move hK rfl) fun a hK => ?_
              refine sl hK (by decide) rfl rfl (r_pick_t hb_11 hK rfl rfl) fun a hK => ?_
              refine sl hK (by decide) rfl rfl (r_assign hK rfl) fun a hK => ?_
              refine wpList_nil ?_
              obtain rfl := Option.some.inj H
              refine wp_ret ?_
              repeat (first | refine ret_then ?_ | refine ret_block ?_ | refine ret_scope ?_)
              exact ret_1 Try.results25 hK (rv_tmp hK rfl) ⟨rfl, hS.bel⟩
            · rw [ifb_f hb_11] at H
              refine sl_skip hK (by decide) (wtf hb_11) rfl fun a hK => ?_
              refine sl hK (by decide) rfl rfl (r_pick_f hb_11 hK rfl rfl) fun a hK => ?_
              refine sl hK (by decide) rfl rfl (r_assign hK rfl) fun a hK => ?_
              refine wpList_nil ?_
              obtain rfl := Option.some.inj H
              refine wp_ret ?_
              repeat (first | refine ret_then ?_ | refine ret_block ?_ | refine ret_scope ?_)
              exact ret_1 Try.results25 hK (rv_tmp hK rfl) ⟨rfl, hS.bel⟩
          · rw [ifb_f hb_10] at H
            refine sl_skip hK (by decide) (wtf hb_10) rfl fun a hK => ?_
            refine sl_skip hK (by decide) (wtf hb_10) rfl fun a hK => ?_
            refine sl_skip hK (by decide) (wtf hb_10) rfl fun a hK => ?_
            refine sl hK (by decide) rfl rfl (r_pick_f hb_10 hK rfl rfl) fun a hK => ?_
            refine sl hK (by decide) rfl rfl (r_move hK rfl) fun a hK => ?_
            refine sl_skip hK (by decide) rfl rfl fun a hK => ?_
            refine sl hK (by decide) rfl rfl (r_pick hK rfl rfl rfl) fun a hK => ?_
            refine sl hK (by decide) rfl rfl (r_assign hK rfl) fun a hK => ?_
            refine wpList_nil ?_
            obtain rfl := Option.some.inj H
            refine wp_ret ?_
            repeat (first | refine ret_then ?_ | refine ret_block ?_ | refine ret_scope ?_)
            exact ret_1 Try.results25 hK (rv_tmp hK rfl) ⟨rfl, hS.bel⟩
      · rw [ifb_f hb_7] at H
        refine wp_seq ?_
        refine wp_region_lit ?_
        refine sl hK (by decide) rfl rfl (r_ibin hK rfl rfl rfl) fun a hK => ?_
        refine sl hK (by decide) rfl rfl (r_assign hK rfl) fun a hK => ?_
        refine wpList_nil ?_
        refine wp_cond_split (hK.ev rfl) (fun (hb_12 : (a0.Kind == 4) = true) => ?_) (fun (hb_12 : (a0.Kind == 4) = false) => ?_)
        · rw [ifb_t hb_12] at H
          refine wp_seq ?_
          refine wp_region_lit ?_
          refine sl hK (by decide) rfl rfl (r_fieldAddr Try.underlying25 rfl Try.sizeOf3 hK rfl) fun a hK => ?_
          refine sl hK (by decide) rfl rfl (r_load Try.isAgg3 hK rfl (hS.cell (.head _) rfl)) fun a hK => ?_
          refine sl hK (by decide) rfl rfl (r_ibin hK rfl rfl rfl) fun a hK => ?_
          refine sl hK (by decide) rfl rfl (r_move hK rfl) fun a hK => ?_
          rcases or_b (a0.N == 0) with hb_13 | hb_13
          · rw [ifb_t hb_13] at H
            refine sl hK (by decide) (wtt hb_13) rfl (r_fieldAddr Try.underlying25 rfl Try.sizeOf9 hK rfl) fun a hK => ?_
            refine sl hK (by decide) (wtt hb_13) rfl (r_load Try.isAgg9 hK rfl (hS.cell (.head _) rfl)) fun a hK => ?_
            refine sl hK (by decide) (wtt hb_13) rfl (r_sbin hK rfl rfl rfl) fun a hK => ?_
            refine sl hK (by decide) rfl rfl (r_pick_t hb_13 hK rfl rfl) fun a hK => ?_
            refine sl hK (by decide) rfl rfl (r_assign hK rfl) fun a hK => ?_
            refine wpList_nil ?_
            obtain rfl := Option.some.inj H
            refine wp_ret ?_
            repeat (first | refine ret_then ?_ | refine ret_block ?_ | refine ret_scope ?_)
            exact ret_1 Try.results25 hK (rv_tmp hK rfl) ⟨rfl, hS.bel⟩
          · rw [ifb_f hb_13] at H
            refine sl_skip hK (by decide) (wtf hb_13) rfl fun a hK => ?_
            refine sl_skip hK (by decide) (wtf hb_13) rfl fun a hK => ?_
            refine sl_skip hK (by decide) (wtf hb_13) rfl fun a hK => ?_
            refine sl hK (by decide) rfl rfl (r_pick_f hb_13 hK rfl rfl) fun a hK => ?_
            refine sl hK (by decide) rfl rfl (r_assign hK rfl) fun a hK => ?_
            refine wpList_nil ?_
            obtain rfl := Option.some.inj H
            refine wp_ret ?_
            repeat (first | refine ret_then ?_ | refine ret_block ?_ | refine ret_scope ?_)
            exact ret_1 Try.results25 hK (rv_tmp hK rfl) ⟨rfl, hS.bel⟩
        · rw [ifb_f hb_12] at H
          refine wp_skip ?_
          refine wp_seq ?_
          refine wp_region_lit ?_
          refine sl hK (by decide) rfl rfl (r_assign hK rfl) fun a hK => ?_
          refine wpList_nil ?_
          obtain rfl := Option.some.inj H
          refine wp_ret ?_
          repeat (first | refine ret_then ?_ | refine ret_block ?_ | refine ret_scope ?_)
          exact ret_1 Try.results25 hK (rv_tmp hK rfl) ⟨rfl, hS.bel⟩

/-! ### catchment/catchmentref04.big: function 26 -/
set_option maxHeartbeats 4000000 in
set_option maxRecDepth 100000 in
theorem ref04_big.calls (a0 : List Int) (a1 : Int) (a2 : Int) {w0 : World} {R : Hp} {M : List Own} {v0_0 : Value} {cs0_0 : List Value} (hS0 : St M w0 w0 R [.row 5 1 v0_0 a0.length cs0_0]) (h0_0 : Reps (tyInt .u8) R cs0_0 a0) {r : List Int} (H : ref04_big a0 a1 a2 = some r) : Calls Try.prog 26 #[v0_0, .int .i64 a1, .int .i64 a2] w0 (Rets fun v w' => ∃ (R' : Hp) (u0 : Value) (cu0 : List Value), v = u0 ∧ St M w0 w' R' [.row 5 1 u0 r.length cu0] ∧ RLe M w0 R R' ∧ Reps (tyInt .u8) R' cu0 r) := by
  unfold ref04_big at H
  refine enter (args := [v0_0, .int .i64 a1, .int .i64 a2]) Try.func26 rfl Try.ntmps26 rfl fun a hK => ?_
  have hS := hS0
  have hRL := RLe.refl (M := M) w0 R
  refine wp_seq ?_
  refine wp_region_lit ?_
  refine sl hK (by decide) rfl rfl (r_assign hK rfl) fun a hK => ?_
  refine wpList_nil ?_
  refine wp_seq ?_
  refine wp_seq ?_
  refine wp_region_lit ?_
  refine sl hK (by decide) rfl rfl (r_move hK rfl) fun a hK => ?_
  refine sl hK (by decide) rfl rfl (r_ibin hK rfl rfl rfl) fun a hK => ?_
  refine sl hK (by decide) rfl rfl (r_assign hK rfl) fun a hK => ?_
  refine wpList_nil ?_
  refine wp_block ?_
  refine wp_loop_k (fun k_l0 a w => ∃ (x_12 : List Int) (x_16 : Int) (v_13 : Value) (cs_14 : List Value), ref04_big.l0 a1 a2 k_l0 x_12 x_16 = some r ∧ Reps (tyInt .u8) R cs_14 x_12 ∧ Kn 23 a [(0, v_13), (1, .int .i64 a1), (7, .int .i64 x_16)] ∧ St M w0 w R [.row 5 1 v_13 x_12.length cs_14]) (((IntKind.i64.wrap (a2 - 1)) - 0).toNat + 2) ?_ ?_
  · exact ⟨a0, (IntKind.i64.wrap (a2 - 1)), _, _, H, h0_0, hK.sub (all_cons rfl (all_cons rfl (all_cons rfl (all_nil)))), hS⟩
  · rintro k_l0 a w ⟨x_12, x_16, v_13, cs_14, H, hq_15, hK, hS⟩
    cases k_l0 with
    | zero => cases H
    | succ k_l0 =>
    rw [ref04_big.l0.eq_2] at H
    refine wp_seq ?_
    refine wp_seq ?_
    refine wp_region_lit ?_
    refine sl hK (by decide) rfl rfl (r_move hK rfl) fun a hK => ?_
    refine sl hK (by decide) rfl rfl (r_ibin hK rfl rfl rfl) fun a hK => ?_
    refine wpList_nil ?_
    refine wp_cond_split (hK.ev rfl) (fun (hb_27 : (decide (x_16 ≥ 0)) = true) => ?_) (fun (hb_27 : (decide (x_16 ≥ 0)) = false) => ?_)
    · rw [ifb_t hb_27] at H
      refine wp_skip ?_
      refine wp_seq ?_
      refine wp_block ?_
      refine wp_region_lit ?_
      refine sl hK (by decide) rfl rfl (r_move hK rfl) fun a hK => ?_
      refine sl hK (by decide) rfl rfl (r_move hK rfl) fun a hK => ?_
      refine sl hK (by decide) rfl rfl (r_move hK rfl) fun a hK => ?_
      refine sl hK (by decide) rfl rfl (r_ibin hK rfl rfl rfl) fun a hK => ?_
      rcases or_b (decide (0 ≤ (IntKind.i64.wrap (8 * x_16)))) with hn_28 | hn_28
      · rw [ifb_t hn_28] at H
        refine sl hK (by decide) rfl rfl (r_shr hK rfl rfl (of_decide_eq_true hn_28)) fun a hK => ?_
        refine sl hK (by decide) rfl rfl (r_conv Try.underlying3 Try.underlying5 hK rfl) fun a hK => ?_
        refine sl_buildSliceF (zc := [.int .u8 0]) (ps := [(0, .int .u8 (IntKind.u8.wrap (a1.fdiv (2 ^ (min (IntKind.i64.wrap (8 * x_16)).toNat 64)))))]) (c := [.int .u8 (IntKind.u8.wrap (a1.fdiv (2 ^ (min (IntKind.i64.wrap (8 * x_16)).toNat 64))))]) [[.int .u8 (IntKind.u8.wrap (a1.fdiv (2 ^ (min (IntKind.i64.wrap (8 * x_16)).toNat 64))))]] Try.underlying22 Try.sizeOf5 Try.zeroValue5 rfl (pc_cons rfl pc_nil) rfl rfl (Nat.le_of_ble_eq_true rfl) rfl (all_cons rfl (all_nil)) rfl hS hK (by decide) rfl fun a w b_29 hS hK => ?_
        obtain ⟨y_30, h_31, H⟩ := bind_some H
        have hS := hS.pk1
        refine sl_append_L (ty := (tyInt .u8)) (ys := [IntKind.u8.wrap (a1.fdiv (2 ^ (min (IntKind.i64.wrap (8 * x_16)).toNat 64)))]) elT22 (by decide) rfl hq_15 rfl (Reps.cons (show Ty.rep (tyInt .u8) _ [.int .u8 (IntKind.u8.wrap (a1.fdiv (2 ^ (min (IntKind.i64.wrap (8 * x_16)).toNat 64))))] (IntKind.u8.wrap (a1.fdiv (2 ^ (min (IntKind.i64.wrap (8 * x_16)).toNat 64)))) from rfl) (Reps.nil _ _)) rfl h_31 hS hK (by decide) rfl rfl rfl fun a w v_32 cs_33 hq_34 hS hK => ?_
        refine sl hK (by decide) rfl rfl (r_assign hK rfl) fun a hK => ?_
        refine wpList_nil ?_
        refine wp_region_lit ?_
        refine sl hK (by decide) rfl rfl (r_move hK rfl) fun a hK => ?_
        refine sl hK (by decide) rfl rfl (r_ibin hK rfl rfl rfl) fun a hK => ?_
        refine sl hK (by decide) rfl rfl (r_assign hK rfl) fun a hK => ?_
        refine wpList_nil ?_
        exact ⟨_, Nat.lt_succ_self _, y_30, (IntKind.i64.wrap (x_16 - 1)), _, _, H, hq_34, hK.sub (all_cons rfl (all_cons rfl (all_cons rfl (all_nil)))), hS⟩
      · rw [ifb_f hn_28] at H
        cases H
    · rw [ifb_f hb_27] at H
      refine wp_exit ?_
      refine wp_seq ?_
      refine wp_region_lit ?_
      refine sl hK (by decide) rfl rfl (r_move hK rfl) fun a hK => ?_
      refine sl hK (by decide) rfl rfl (r_assign hK rfl) fun a hK => ?_
      refine wpList_nil ?_
      obtain rfl := Option.some.inj H
      refine wp_ret ?_
      repeat (first | refine ret_then ?_ | refine ret_block ?_ | refine ret_scope ?_)
      exact ret_1 Try.results26 hK (rv_tmp hK rfl) ⟨_, rfl, _, _, _, rfl, hS, hRL, hq_15⟩

/-! ### catchment/catchmentref04.Put: function 13 -/
set_option maxHeartbeats 4000000 in
set_option maxRecDepth 100000 in
theorem ref04_Put.calls (a0 : List Int) (a1 : api_Value) {w0 : World} {R : Hp} {RA : Hp} {v0_0 : Value} (hRA : RA.sub w0) (hR : R.sub w0) (h0_0 : SlR (tyInt .u8) RA v0_0 a0) {r : (List Int) × Int} (H : ref04_Put a0 a1 = some r) : Calls Try.prog 13 #[v0_0, .agg #[.int .i64 a1.Kind, .int .i64 a1.N, .string a1.S, .int .i64 a1.H.a0, .int .i64 a1.H.a1, .int .i64 a1.H.a2, .int .i64 a1.H.a3, .int .i64 a1.H.a4, .int .i64 a1.H.a5, .int .i64 a1.H.a6, .int .i64 a1.H.a7]] w0 (Rets fun v w' => ∃ (R' : Hp) (u0 : Value) (cu0 : List Value), v = .tuple #[u0, .int .i64 r.2] ∧ St [] w0 w' R' [.row 5 1 u0 r.1.length cu0] ∧ RLe [] w0 R R' ∧ Reps (tyInt .u8) R' cu0 r.1) := by
  unfold ref04_Put at H
  refine enter (args := [v0_0, .agg #[.int .i64 a1.Kind, .int .i64 a1.N, .string a1.S, .int .i64 a1.H.a0, .int .i64 a1.H.a1, .int .i64 a1.H.a2, .int .i64 a1.H.a3, .int .i64 a1.H.a4, .int .i64 a1.H.a5, .int .i64 a1.H.a6, .int .i64 a1.H.a7]]) Try.func13 rfl Try.ntmps13 rfl fun a hK => ?_
  have hS := St.init hR
  have hRL := RLe.refl (M := []) w0 R
  refine wp_seq ?_
  refine wp_region_lit ?_
  refine sl_box hS hK (by decide) rfl rfl (c := [.int .i64 a1.Kind, .int .i64 a1.N, .string a1.S, .int .i64 a1.H.a0, .int .i64 a1.H.a1, .int .i64 a1.H.a2, .int .i64 a1.H.a3, .int .i64 a1.H.a4, .int .i64 a1.H.a5, .int .i64 a1.H.a6, .int .i64 a1.H.a7]) rfl fun a w b_1 hS hK => ?_
  refine sl hK (by decide) rfl rfl (r_assign hK rfl) fun a hK => ?_
  refine sl hK (by decide) rfl rfl (r_assign hK rfl) fun a hK => ?_
  refine wpList_nil ?_
  refine wp_seq ?_
  refine wp_seq ?_
  refine wp_region_lit ?_
  refine sl hK (by decide) rfl rfl (r_loadA (cs := [.int .i64 a1.Kind, .int .i64 a1.N, .string a1.S, .int .i64 a1.H.a0, .int .i64 a1.H.a1, .int .i64 a1.H.a2, .int .i64 a1.H.a3, .int .i64 a1.H.a4, .int .i64 a1.H.a5, .int .i64 a1.H.a6, .int .i64 a1.H.a7]) Try.isAgg25 Try.sizeOf25 rfl hK rfl (hS.cells_of (m := 11) (.head _) rfl)) fun a hK => ?_
  obtain ⟨y_2, h_3, H⟩ := bind_some H
  refine sl_callV Try.call25 hS hK (by decide) rfl rfl rfl (ref01_Valid.calls a1 h_3 _) fun a w hS hK => ?_
  refine sl hK (by decide) rfl rfl (r_un hK rfl (u_not _)) fun a hK => ?_
  refine wpList_nil ?_
  refine wp_cond_split (hK.ev rfl) (fun (hb_4 : (!y_2) = true) => ?_) (fun (hb_4 : (!y_2) = false) => ?_)
  · rw [ifb_t hb_4] at H
    refine wp_seq ?_
    refine wp_region_lit ?_
    refine sl hK (by decide) rfl rfl (r_assign hK rfl) fun a hK => ?_
    refine sl hK (by decide) rfl rfl (r_assign hK rfl) fun a hK => ?_
    refine wpList_nil ?_
    have hS := hS.row_nil 5 1
    have hq_6 : Reps (tyInt .u8) R [] ([] : List Int) := Reps.nil _ _
    obtain rfl := Option.some.inj H
    refine wp_ret ?_
    repeat (first | refine ret_then ?_ | refine ret_block ?_ | refine ret_scope ?_)
    exact ret_2 Try.results13 hK (rv_tmp hK rfl) (rv_tmp hK rfl) ⟨_, rfl, _, _, _, rfl, (hS.trunc 1), hRL, hq_6⟩
  · rw [ifb_f hb_4] at H
    refine wp_skip ?_
    refine wp_seq ?_
    refine wp_region_lit ?_
    refine sl_buildSliceC (zc := [.int .u8 0]) (zs := []) (ps := []) (c := []) Try.underlying22 Try.sizeOf5 Try.zeroValue5 rfl pc_nil rfl rfl (by decide) (by kernel_rfl) rfl hS hK (by decide) rfl fun a w b_7 hS hK => ?_
    refine sl hK (by decide) rfl rfl (r_move hK rfl) fun a hK => ?_
    obtain ⟨y_10, h_11, H⟩ := bind_some H
    have hS := hS.row_lit (size := 1) (m := 0) rfl (by decide)
    have hq_9 : Reps (tyInt .u8) R [] ([] : List Int) := (Reps.nil _ _)
    refine sl_append_A elT22 (by decide) rfl (fun _ _ _ _ h => h) (hS.ra hRA nil_not) hq_9 rfl h0_0 h_11 hS hK (by decide) rfl rfl rfl fun a w v_12 cs_13 hq_14 hS hK => ?_
    refine sl hK (by decide) rfl rfl (r_assign hK rfl) fun a hK => ?_
    refine wpList_nil ?_
    refine wp_seq ?_
    refine wp_seq ?_
    refine wp_region_lit ?_
    refine sl hK (by decide) rfl rfl (r_fieldAddr Try.underlying25 rfl Try.sizeOf3 hK rfl) fun a hK => ?_
    refine sl hK (by decide) rfl rfl (r_load Try.isAgg3 hK rfl (hS.cell (.tail _ (.head _)) rfl)) fun a hK => ?_
    refine wpList_nil ?_
    refine wp_block ?_
    refine wp_seq ?_
    refine wp_region_lit ?_
    refine sl hK (by decide) rfl rfl (r_ibin hK rfl rfl rfl) fun a hK => ?_
    refine sl hK (by decide) rfl rfl (r_assign hK rfl) fun a hK => ?_
    refine wpList_nil ?_
    refine wp_cond_split (hK.ev rfl) (fun (hb_16 : (a1.Kind == 1) = true) => ?_) (fun (hb_16 : (a1.Kind == 1) = false) => ?_)
    · rw [ifb_t hb_16] at H
      refine wp_seq ?_
      refine wp_region_lit ?_
      refine sl hK (by decide) rfl rfl (r_move hK rfl) fun a hK => ?_
      refine sl hK (by decide) rfl rfl (r_fieldAddr Try.underlying25 rfl Try.sizeOf3 hK rfl) fun a hK => ?_
      refine sl hK (by decide) rfl rfl (r_load Try.isAgg3 hK rfl (hS.cell (.tail _ (.head _)) rfl)) fun a hK => ?_
      obtain ⟨y_17, h_18, H⟩ := bind_some H
      have hS1 := hS.sp1
      refine sl_call Try.call26 hK (by decide) rfl rfl rfl (ref04_big.calls y_10 a1.N 8 hS1.lend hq_14 h_18) fun a v_ w hv_ hK => ?_
      obtain ⟨R_19, v_22, cs_23, hv_, hr_, hl_20, hq_24⟩ := hv_
      have hv_ := hv_.symm
      subst hv_
      obtain ⟨hS, hl_20⟩ := hS1.back hr_ hl_20
      have hS := hS.un1
      have hRL := hRL.trans hl_20
      refine sl hK (by decide) rfl rfl (r_assign hK rfl) fun a hK => ?_
      refine sl hK (by decide) rfl rfl (r_assign hK rfl) fun a hK => ?_
      refine wpList_nil ?_
      obtain rfl := Option.some.inj H
      refine wp_ret ?_
      repeat (first | refine ret_then ?_ | refine ret_block ?_ | refine ret_scope ?_)
      exact ret_2 Try.results13 hK (rv_tmp hK rfl) (rv_tmp hK rfl) ⟨_, rfl, _, _, _, rfl, (hS.trunc 1), hRL, hq_24⟩
    · rw [ifb_f hb_16] at H
      refine wp_seq ?_
      refine wp_region_lit ?_
      refine sl hK (by decide) rfl rfl (r_ibin hK rfl rfl rfl) fun a hK => ?_
      refine sl hK (by decide) rfl rfl (r_assign hK rfl) fun a hK => ?_
      refine wpList_nil ?_
      refine wp_cond_split (hK.ev rfl) (fun (hb_25 : (a1.Kind == 2) = true) => ?_) (fun (hb_25 : (a1.Kind == 2) = false) => ?_)
      · rw [ifb_t hb_25] at H
        refine wp_seq ?_
        refine wp_mid (fun a w => ∃ (x_121 : List Int) (R_125 : Hp) (v_122 : Value) (cs_123 : List Value), ref04_Put.j0 x_121 = some r ∧ RLe [] w0 R R_125 ∧ Reps (tyInt .u8) R_125 cs_123 x_121 ∧ Kn 54 a [(4, v_122), (5, .int .i64 0)] ∧ St [] w0 w R_125 [.row 5 1 v_122 x_121.length cs_123]) ?_ ?_
        · refine treeT_region (C := fun w => St [] w0 w R [.cells b_1 [.int .i64 a1.Kind, .int .i64 a1.N, .string a1.S, .int .i64 a1.H.a0, .int .i64 a1.H.a1, .int .i64 a1.H.a2, .int .i64 a1.H.a3, .int .i64 a1.H.a4, .int .i64 a1.H.a5, .int .i64 a1.H.a6, .int .i64 a1.H.a7] 25]) 10 (.br [(0, true), (1, true), (2, true), (3, true), (4, true), (7, true), (8, true)] 5 (.br [] 6 (.list [(9, false)]) 9 (.list [(6, false)])) 9 (.list [(5, false), (6, false)])) mixed (by kernel_rfl) hS (fun w hS => (hS.pk1.trunc 1)) fun w hS => ?_
          refine tree_fork ?_
          refine sp (k := 0) rfl hK (by decide) rfl rfl (fun w hS => r_move hK rfl) fun a hK => ?_
          refine sp (k := 1) rfl hK (by decide) rfl rfl (fun w hS => r_fieldAddr Try.underlying25 rfl Try.sizeOf9 hK rfl) fun a hK => ?_
          refine sp (k := 2) rfl hK (by decide) rfl rfl (fun w hS => r_load Try.isAgg9 hK rfl (hS.cell (.head _) rfl)) fun a hK => ?_
          refine sp (k := 3) rfl hK (by decide) rfl rfl (fun w hS => r_len_str Try.underlying9 hK rfl) fun a hK => ?_
          refine sp (k := 4) rfl hK (by decide) rfl rfl (fun w hS => r_conv Try.underlying3 Try.underlying5 hK rfl) fun a hK => ?_
          refine sp (k := 7) rfl hK (by decide) rfl rfl (fun w hS => r_fieldAddr Try.underlying25 rfl Try.sizeOf9 hK rfl) fun a hK => ?_
          refine sp (k := 8) rfl hK (by decide) rfl rfl (fun w hS => r_load Try.isAgg9 hK rfl (hS.cell (.head _) rfl)) fun a hK => ?_
          refine wpPar_nil (tree_br ?_ ?_)
          · refine spwB (k := 5) rfl rfl (hS.pk1.trunc 1) ?_
            refine sl_buildSliceF (zc := [.int .u8 0]) (ps := [(0, .int .u8 (IntKind.u8.wrap (a1.S.size : Int)))]) (c := [.int .u8 (IntKind.u8.wrap (a1.S.size : Int))]) [[.int .u8 (IntKind.u8.wrap (a1.S.size : Int))]] Try.underlying22 Try.sizeOf5 Try.zeroValue5 rfl (pc_cons rfl pc_nil) rfl rfl (Nat.le_of_ble_eq_true rfl) rfl (all_cons rfl (all_nil)) rfl hS hK (by decide) rfl fun a w b_174 hS hK => ?_
            refine parKK_nil (hS.pk2.trunc 1) ?_
            refine tree_fork ?_
            refine wpPar_nil (tree_br ?_ ?_)
            · refine spwB (k := 6) rfl rfl (hS.pk2.trunc 1) ?_
              obtain ⟨y_175, h_176, H⟩ := bind_some H
              have hS := hS.pk1
              refine sl_append_L (ty := (tyInt .u8)) (ys := [IntKind.u8.wrap (a1.S.size : Int)]) elT22 (by decide) rfl hq_14 rfl (Reps.cons (show Ty.rep (tyInt .u8) _ [.int .u8 (IntKind.u8.wrap (a1.S.size : Int))] (IntKind.u8.wrap (a1.S.size : Int)) from rfl) (Reps.nil _ _)) rfl h_176 hS hK (by decide) rfl rfl rfl fun a w v_177 cs_178 hq_179 hS hK => ?_
              refine parKK_nil (hS.pk1.trunc 1) ?_
              refine tree_list ?_
              refine spw (k := 9) rfl rfl (hS.pk1.trunc 1) ?_
              refine sl_conv_sb Try.underlying9 Try.underlying22 Try.underlying5 hS hK (by decide) rfl rfl fun a w v_183 R_181 hS v_183l hs_182 hK => ?_
              have hRL := hRL.trans v_183l
              refine parK_nil ((hS.pk1.trunc 1).lower v_183l.le) ?_
              refine thenL_nil ?_
              obtain ⟨y_184, h_185, H⟩ := bind_some H
              refine sl_append_R elT22 (by decide) rfl (hq_179.mono v_183l.le) rfl hs_182 h_185 hS hK (by decide) rfl rfl rfl fun a w v_186 cs_187 hq_188 hS hK => ?_
              refine sl hK (by decide) rfl rfl (r_assign hK rfl) fun a hK => ?_
              refine sl hK (by decide) rfl rfl (r_assign hK rfl) fun a hK => ?_
              refine wpList_nil (NoP_nil ?_)
              exact ⟨y_184, _, _, _, H, v_183l, hq_188, hK.sub (all_cons rfl (all_cons rfl (all_nil))), hS.trunc 1⟩
            · refine spwB (k := 9) rfl rfl (hS.pk2.trunc 1) ?_
              refine sl_conv_sb Try.underlying9 Try.underlying22 Try.underlying5 hS hK (by decide) rfl rfl fun a w v_192 R_190 hS v_192l hs_191 hK => ?_
              have hRL := hRL.trans v_192l
              refine parKK_nil ((hS.pk2.trunc 1).lower v_192l.le) ?_
              refine tree_list ?_
              refine spw (k := 6) rfl rfl ((hS.pk2.trunc 1).lower v_192l.le) ?_
              obtain ⟨y_193, h_194, H⟩ := bind_some H
              have hS := hS.pk1
              refine sl_append_L (ty := (tyInt .u8)) (ys := [IntKind.u8.wrap (a1.S.size : Int)]) elT22 (by decide) rfl (hq_14.mono v_192l.le) rfl (Reps.cons (show Ty.rep (tyInt .u8) _ [.int .u8 (IntKind.u8.wrap (a1.S.size : Int))] (IntKind.u8.wrap (a1.S.size : Int)) from rfl) (Reps.nil _ _)) rfl h_194 hS hK (by decide) rfl rfl rfl fun a w v_195 cs_196 hq_197 hS hK => ?_
              refine parK_nil ((hS.pk1.trunc 1).lower v_192l.le) ?_
              refine thenL_nil ?_
              obtain ⟨y_199, h_200, H⟩ := bind_some H
              refine sl_append_R elT22 (by decide) rfl hq_197 rfl hs_191 h_200 hS hK (by decide) rfl rfl rfl fun a w v_201 cs_202 hq_203 hS hK => ?_
              refine sl hK (by decide) rfl rfl (r_assign hK rfl) fun a hK => ?_
              refine sl hK (by decide) rfl rfl (r_assign hK rfl) fun a hK => ?_
              refine wpList_nil (NoP_nil ?_)
              exact ⟨y_199, _, _, _, H, v_192l, hq_203, hK.sub (all_cons rfl (all_cons rfl (all_nil))), hS.trunc 1⟩
          · refine spwB (k := 9) rfl rfl (hS.pk1.trunc 1) ?_
            refine sl_conv_sb Try.underlying9 Try.underlying22 Try.underlying5 hS hK (by decide) rfl rfl fun a w v_207 R_205 hS v_207l hs_206 hK => ?_
            have hRL := hRL.trans v_207l
            refine parKK_nil ((hS.pk1.trunc 1).lower v_207l.le) ?_
            refine tree_list ?_
            refine spw (k := 5) rfl rfl ((hS.pk1.trunc 1).lower v_207l.le) ?_
            refine sl_buildSliceF (zc := [.int .u8 0]) (ps := [(0, .int .u8 (IntKind.u8.wrap (a1.S.size : Int)))]) (c := [.int .u8 (IntKind.u8.wrap (a1.S.size : Int))]) [[.int .u8 (IntKind.u8.wrap (a1.S.size : Int))]] Try.underlying22 Try.sizeOf5 Try.zeroValue5 rfl (pc_cons rfl pc_nil) rfl rfl (Nat.le_of_ble_eq_true rfl) rfl (all_cons rfl (all_nil)) rfl hS hK (by decide) rfl fun a w b_208 hS hK => ?_
            refine parK_nil ((hS.pk2.trunc 1).lower v_207l.le) ?_
            refine spw (k := 6) rfl rfl ((hS.pk2.trunc 1).lower v_207l.le) ?_
            obtain ⟨y_209, h_210, H⟩ := bind_some H
            have hS := hS.pk1
            refine sl_append_L (ty := (tyInt .u8)) (ys := [IntKind.u8.wrap (a1.S.size : Int)]) elT22 (by decide) rfl (hq_14.mono v_207l.le) rfl (Reps.cons (show Ty.rep (tyInt .u8) _ [.int .u8 (IntKind.u8.wrap (a1.S.size : Int))] (IntKind.u8.wrap (a1.S.size : Int)) from rfl) (Reps.nil _ _)) rfl h_210 hS hK (by decide) rfl rfl rfl fun a w v_211 cs_212 hq_213 hS hK => ?_
            refine parK_nil ((hS.pk1.trunc 1).lower v_207l.le) ?_
            refine thenL_nil ?_
            obtain ⟨y_215, h_216, H⟩ := bind_some H
            refine sl_append_R elT22 (by decide) rfl hq_213 rfl hs_206 h_216 hS hK (by decide) rfl rfl rfl fun a w v_217 cs_218 hq_219 hS hK => ?_
            refine sl hK (by decide) rfl rfl (r_assign hK rfl) fun a hK => ?_
            refine sl hK (by decide) rfl rfl (r_assign hK rfl) fun a hK => ?_
            refine wpList_nil (NoP_nil ?_)
            exact ⟨y_215, _, _, _, H, v_207l, hq_219, hK.sub (all_cons rfl (all_cons rfl (all_nil))), hS.trunc 1⟩
        · rintro a w ⟨x_121, R_125, v_122, cs_123, H, hl_126, hq_124, hK, hS⟩
          unfold ref04_Put.j0 at H
          have hRL := hRL.trans hl_126
          obtain rfl := Option.some.inj H
          refine wp_ret ?_
          repeat (first | refine ret_then ?_ | refine ret_block ?_ | refine ret_scope ?_)
          exact ret_2 Try.results13 hK (rv_tmp hK rfl) (rv_tmp hK rfl) ⟨_, rfl, _, _, _, rfl, hS, hRL, hq_124⟩
      · rw [ifb_f hb_25] at H
        refine wp_seq ?_
        refine wp_region_lit ?_
        refine sl hK (by decide) rfl rfl (r_ibin hK rfl rfl rfl) fun a hK => ?_
        refine sl hK (by decide) rfl rfl (r_assign hK rfl) fun a hK => ?_
        refine wpList_nil ?_
        refine wp_cond_split (hK.ev rfl) (fun (hb_221 : (a1.Kind == 3) = true) => ?_) (fun (hb_221 : (a1.Kind == 3) = false) => ?_)
        · rw [ifb_t hb_221] at H
          refine wp_seq ?_
          refine wp_region_lit ?_
          refine sl hK (by decide) rfl rfl (r_move hK rfl) fun a hK => ?_
          refine sl hK (by decide) rfl rfl (r_fieldAddr Try.underlying25 rfl Try.sizeOf3 hK rfl) fun a hK => ?_
          refine sl hK (by decide) rfl rfl (r_load Try.isAgg3 hK rfl (hS.cell (.tail _ (.head _)) rfl)) fun a hK => ?_
          refine sl hK (by decide) rfl rfl (r_conv Try.underlying3 Try.underlying5 hK rfl) fun a hK => ?_
          refine sl_buildSliceF (zc := [.int .u8 0]) (ps := [(0, .int .u8 (IntKind.u8.wrap a1.N))]) (c := [.int .u8 (IntKind.u8.wrap a1.N)]) [[.int .u8 (IntKind.u8.wrap a1.N)]] Try.underlying22 Try.sizeOf5 Try.zeroValue5 rfl (pc_cons rfl pc_nil) rfl rfl (Nat.le_of_ble_eq_true rfl) rfl (all_cons rfl (all_nil)) rfl hS hK (by decide) rfl fun a w b_222 hS hK => ?_
          obtain ⟨y_223, h_224, H⟩ := bind_some H
          have hS := hS.pk1
          refine sl_append_L (ty := (tyInt .u8)) (ys := [IntKind.u8.wrap a1.N]) elT22 (by decide) rfl hq_14 rfl (Reps.cons (show Ty.rep (tyInt .u8) _ [.int .u8 (IntKind.u8.wrap a1.N)] (IntKind.u8.wrap a1.N) from rfl) (Reps.nil _ _)) rfl h_224 hS hK (by decide) rfl rfl rfl fun a w v_225 cs_226 hq_227 hS hK => ?_
          refine sl hK (by decide) rfl rfl (r_assign hK rfl) fun a hK => ?_
          refine sl hK (by decide) rfl rfl (r_assign hK rfl) fun a hK => ?_
          refine wpList_nil ?_
          obtain rfl := Option.some.inj H
          refine wp_ret ?_
          repeat (first | refine ret_then ?_ | refine ret_block ?_ | refine ret_scope ?_)
          exact ret_2 Try.results13 hK (rv_tmp hK rfl) (rv_tmp hK rfl) ⟨_, rfl, _, _, _, rfl, (hS.trunc 1), hRL, hq_227⟩
        · rw [ifb_f hb_221] at H
          refine wp_skip ?_
          refine wp_seq ?_
          refine wp_seq ?_
          refine wp_region_lit ?_
          refine sl hK (by decide) rfl rfl (r_assign hK rfl) fun a hK => ?_
          refine wpList_nil ?_
          refine wp_block ?_
          refine wp_loop_k (fun k_l1 a w => ∃ (x_239 : List Int) (x_243 : Int) (R_244 : Hp) (v_240 : Value) (cs_241 : List Value), ref04_Put.l1 a1 k_l1 x_239 x_243 = some r ∧ RLe [] w0 R R_244 ∧ Reps (tyInt .u8) R_244 cs_241 x_239 ∧ Kn 54 a [(3, .pointer (some ⟨b_1, 0, none⟩)), (6, v_240), (7, .int .i64 x_243)] ∧ St [] w0 w R_244 [.cells b_1 [.int .i64 a1.Kind, .int .i64 a1.N, .string a1.S, .int .i64 a1.H.a0, .int .i64 a1.H.a1, .int .i64 a1.H.a2, .int .i64 a1.H.a3, .int .i64 a1.H.a4, .int .i64 a1.H.a5, .int .i64 a1.H.a6, .int .i64 a1.H.a7] 25, .row 5 1 v_240 x_239.length cs_241]) (((8 : Int) - 0).toNat + 1) ?_ ?_
          · have hS := hS.pk1
            exact ⟨y_10, 0, _, _, _, H, (RLe.refl _ _), hq_14, hK.sub (all_cons rfl (all_cons rfl (all_cons rfl (all_nil)))), hS⟩
          · rintro k_l1 a w ⟨x_239, x_243, R_244, v_240, cs_241, H, hl_245, hq_242, hK, hS⟩
            cases k_l1 with
            | zero => cases H
            | succ k_l1 =>
            rw [ref04_Put.l1.eq_2] at H
            have hRL := hRL.trans hl_245
            refine wp_seq ?_
            refine wp_seq ?_
            refine wp_region_lit ?_
            refine sl hK (by decide) rfl rfl (r_move hK rfl) fun a hK => ?_
            refine sl hK (by decide) rfl rfl (r_ibin hK rfl rfl rfl) fun a hK => ?_
            refine wpList_nil ?_
            refine wp_cond_split (hK.ev rfl) (fun (hb_257 : (decide (x_243 < 8)) = true) => ?_) (fun (hb_257 : (decide (x_243 < 8)) = false) => ?_)
            · rw [ifb_t hb_257] at H
              refine wp_skip ?_
              refine wp_seq ?_
              refine wp_block ?_
              refine wp_region_lit ?_
              refine sl hK (by decide) rfl rfl (r_move hK rfl) fun a hK => ?_
              refine sl hK (by decide) rfl rfl (r_move hK rfl) fun a hK => ?_
              refine sl hK (by decide) rfl rfl (r_fieldAddr Try.underlying25 rfl Try.sizeOf23 hK rfl) fun a hK => ?_
              obtain ⟨y_258, h_259, H⟩ := bind_some H
              refine sl hK (by decide) rfl rfl (r_indexAddr_arr Try.underlying23 Try.sizeOf3 hK rfl rfl (Arr8.ix_lt h_259).1 (Arr8.ix_lt h_259).2) fun a hK => ?_
              refine sl hK (by decide) rfl rfl (r_load Try.isAgg3 hK rfl (hS.cell (.head _) (Arr8.ix_cells h_259 [.int .i64 a1.Kind, .int .i64 a1.N, .string a1.S] [] rfl))) fun a hK => ?_
              obtain ⟨y_260, h_261, H⟩ := bind_some H
              have hS := hS.pk1
              have hS1 := hS.sp1
              refine sl_call Try.call26 hK (by decide) rfl rfl rfl (ref04_big.calls x_239 y_258 8 hS1.lend hq_242 h_261) fun a v_ w hv_ hK => ?_
              obtain ⟨R_262, v_265, cs_266, hv_, hr_, hl_263, hq_267⟩ := hv_
              have hv_ := hv_.symm
              subst hv_
              obtain ⟨hS, hl_263⟩ := hS1.back hr_ hl_263
              have hS := hS.un1
              have hRL := hRL.trans hl_263
              refine sl hK (by decide) rfl rfl (r_assign hK rfl) fun a hK => ?_
              refine wpList_nil ?_
              refine wp_region_lit ?_
              refine sl hK (by decide) rfl rfl (r_move hK rfl) fun a hK => ?_
              refine sl hK (by decide) rfl rfl (r_ibin hK rfl rfl rfl) fun a hK => ?_
              refine sl hK (by decide) rfl rfl (r_assign hK rfl) fun a hK => ?_
              refine wpList_nil ?_
              have hS := hS.pk1
              exact ⟨_, Nat.lt_succ_self _, y_260, (IntKind.i64.wrap (x_243 + 1)), _, _, _, H, (hl_245.trans hl_263), hq_267, hK.sub (all_cons rfl (all_cons rfl (all_cons rfl (all_nil)))), hS⟩
            · rw [ifb_f hb_257] at H
              refine wp_exit ?_
              refine wp_seq ?_
              refine wp_region_lit ?_
              refine sl hK (by decide) rfl rfl (r_move hK rfl) fun a hK => ?_
              refine sl hK (by decide) rfl rfl (r_assign hK rfl) fun a hK => ?_
              refine sl hK (by decide) rfl rfl (r_assign hK rfl) fun a hK => ?_
              refine wpList_nil ?_
              obtain rfl := Option.some.inj H
              refine wp_ret ?_
              repeat (first | refine ret_then ?_ | refine ret_block ?_ | refine ret_scope ?_)
              exact ret_2 Try.results13 hK (rv_tmp hK rfl) (rv_tmp hK rfl) ⟨_, rfl, _, _, _, rfl, (hS.pk1.trunc 1), hRL, hq_242⟩

/-! ### catchment/catchmentref04.small: function 29 -/
set_option maxHeartbeats 4000000 in
set_option maxRecDepth 100000 in
theorem ref04_small.calls (a0 : List Int) {w0 : World} {RA : Hp} {v0_0 : Value} (hRA : RA.sub w0) (h0_0 : SlR (tyInt .u8) RA v0_0 a0) {r : Int} (H : ref04_small a0 = some r) : CallsV Try.prog 29 #[v0_0] w0 (.int .i64 r) := by
  unfold ref04_small at H
  refine enter (args := [v0_0]) Try.func29 rfl Try.ntmps29 rfl fun a hK => ?_
  have hS := St.init (R := fun _ => none) (w := w0) (fun _ _ h => by cases h)
  have hRL := RLe.refl (M := []) w0 (fun _ => none)
  refine wp_seq ?_
  refine wp_region_lit ?_
  refine sl hK (by decide) rfl rfl (r_assign hK rfl) fun a hK => ?_
  refine wpList_nil ?_
  refine wp_seq ?_
  refine wp_region_lit ?_
  refine sl hK (by decide) rfl rfl (r_assign hK rfl) fun a hK => ?_
  refine wpList_nil ?_
  refine wp_seq ?_
  refine wp_seq ?_
  refine wp_region_lit ?_
  refine sl hK (by decide) rfl rfl (r_assign hK rfl) fun a hK => ?_
  refine wpList_nil ?_
  refine wp_block ?_
  refine wp_loop_k (fun k_l0 a w => ∃ (x_12 : Int) (x_13 : Int), ref04_small.l0 a0 k_l0 x_12 x_13 = some r ∧ Kn 20 a [(0, v0_0), (3, .int .i64 x_12), (4, .int .i64 x_13)] ∧ St [] w0 w (fun _ => none) []) (((a0.length : Int) - 0).toNat + 1) ?_ ?_
  · exact ⟨0, 0, H, hK.sub (all_cons rfl (all_cons rfl (all_cons rfl (all_nil)))), hS⟩
  · rintro k_l0 a w ⟨x_12, x_13, H, hK, hS⟩
    cases k_l0 with
    | zero => cases H
    | succ k_l0 =>
    rw [ref04_small.l0.eq_2] at H
    refine wp_seq ?_
    refine wp_seq ?_
    refine wp_region_lit ?_
    refine sl hK (by decide) rfl rfl (r_move hK rfl) fun a hK => ?_
    refine sl hK (by decide) rfl rfl (r_move hK rfl) fun a hK => ?_
    refine sl hK (by decide) rfl rfl (r_len_R Try.underlying22 h0_0 hK rfl) fun a hK => ?_
    refine sl hK (by decide) rfl rfl (r_ibin hK rfl rfl rfl) fun a hK => ?_
    refine wpList_nil ?_
    refine wp_cond_split (hK.ev rfl) (fun (hb_25 : (decide (x_13 < (a0.length : Int))) = true) => ?_) (fun (hb_25 : (decide (x_13 < (a0.length : Int))) = false) => ?_)
    · rw [ifb_t hb_25] at H
      refine wp_skip ?_
      refine wp_seq ?_
      refine wp_block ?_
      refine wp_region_lit ?_
      refine sl hK (by decide) rfl rfl (r_move hK rfl) fun a hK => ?_
      refine sl hK (by decide) rfl rfl (r_shl hK rfl rfl (by decide)) fun a hK => ?_
      refine sl hK (by decide) rfl rfl (r_move hK rfl) fun a hK => ?_
      refine sl hK (by decide) rfl rfl (r_move hK rfl) fun a hK => ?_
      obtain ⟨y_26, h_27, H⟩ := bind_some H
      obtain ⟨b_28, o_29, c_30, cs_31, hv_32, hr_33, hc_34, h_270, h_271⟩ := h0_0.ix h_27
      subst hr_33
      refine sl hK (by decide) rfl rfl (r_indexAddr_R Try.underlying22 Try.sizeOf5 hv_32 h_270 h_271 hK rfl rfl) fun a hK => ?_
      refine sl hK (by decide) rfl rfl (r_load Try.isAgg5 hK rfl ((hS.ra hRA nil_not).cell (hc_34 0 _ rfl))) fun a hK => ?_
      refine sl hK (by decide) rfl rfl (r_conv Try.underlying5 Try.underlying3 hK rfl) fun a hK => ?_
      refine sl hK (by decide) rfl rfl (r_ibin hK rfl rfl rfl) fun a hK => ?_
      refine sl hK (by decide) rfl rfl (r_assign hK rfl) fun a hK => ?_
      refine wpList_nil ?_
      refine wp_region_lit ?_
      refine sl hK (by decide) rfl rfl (r_move hK rfl) fun a hK => ?_
      refine sl hK (by decide) rfl rfl (r_ibin hK rfl rfl rfl) fun a hK => ?_
      refine sl hK (by decide) rfl rfl (r_assign hK rfl) fun a hK => ?_
      refine wpList_nil ?_
      exact ⟨_, Nat.lt_succ_self _, (IntKind.i64.wrap (BitVec.ofInt 64 (IntKind.i64.wrap (x_12 * 2 ^ (min (8 : Int).toNat 64))) ||| BitVec.ofInt 64 (IntKind.i64.wrap y_26)).toNat), (IntKind.i64.wrap (x_13 + 1)), H, hK.sub (all_cons rfl (all_cons rfl (all_cons rfl (all_nil)))), hS⟩
    · rw [ifb_f hb_25] at H
      refine wp_exit ?_
      refine wp_seq ?_
      refine wp_region_lit ?_
      refine sl hK (by decide) rfl rfl (r_move hK rfl) fun a hK => ?_
      refine sl hK (by decide) rfl rfl (r_assign hK rfl) fun a hK => ?_
      refine wpList_nil ?_
      obtain rfl := Option.some.inj H
      refine wp_ret ?_
      repeat (first | refine ret_then ?_ | refine ret_block ?_ | refine ret_scope ?_)
      exact ret_1 Try.results29 hK (rv_tmp hK rfl) ⟨rfl, hS.bel⟩

/-! ### catchment/catchmentref04.Take: function 15 -/
set_option maxHeartbeats 4000000 in
set_option maxRecDepth 100000 in
theorem ref04_Take.calls (a0 : List Int) (a1 : Int) {w0 : World} {R : Hp} {RA : Hp} {v0_0 : Value} (hRA : RA.sub w0) (hR : R.sub w0) (h0_0 : SlR (tyInt .u8) RA v0_0 a0) {r : api_Value × (List Int) × Int} (H : ref04_Take a0 a1 = some r) : Calls Try.prog 15 #[v0_0, .int .i64 a1] w0 (Rets fun v w' => ∃ (R' : Hp) (u0 : Value) (cu0 : List Value), v = .tuple #[.agg #[.int .i64 r.1.Kind, .int .i64 r.1.N, .string r.1.S, .int .i64 r.1.H.a0, .int .i64 r.1.H.a1, .int .i64 r.1.H.a2, .int .i64 r.1.H.a3, .int .i64 r.1.H.a4, .int .i64 r.1.H.a5, .int .i64 r.1.H.a6, .int .i64 r.1.H.a7], u0, .int .i64 r.2.2] ∧ St [] w0 w' R' [.row 5 1 u0 r.2.1.length cu0] ∧ RLe [] w0 R R' ∧ Reps (tyInt .u8) R' cu0 r.2.1) := by
  unfold ref04_Take at H
  refine enter (args := [v0_0, .int .i64 a1]) Try.func15 rfl Try.ntmps15 rfl fun a hK => ?_
  have hS := St.init hR
  have hRL := RLe.refl (M := []) w0 R
  refine wp_seq ?_
  refine wp_region_lit ?_
  refine sl_alloc Try.zeroValue25 hS hK (by decide) rfl rfl fun a w b_1 hS hK => ?_
  refine sl hK (by decide) rfl rfl (r_assign hK rfl) fun a hK => ?_
  refine sl hK (by decide) rfl rfl (r_assign hK rfl) fun a hK => ?_
  refine wpList_nil ?_
  refine wp_seq ?_
  refine wp_seq ?_
  refine wp_mid (fun a w => ∃ (x_3 : Bool), ref04_Take.j0 a0 a1 x_3 = some r ∧ Kn 86 a [(0, v0_0), (1, .int .i64 a1), (4, .pointer (some ⟨b_1, 0, none⟩)), (15, .bool x_3)] ∧ St [] w0 w R [.cells b_1 [.int .i64 0, .int .i64 0, .string (⟨#[]⟩ : ByteArray), .int .i64 0, .int .i64 0, .int .i64 0, .int .i64 0, .int .i64 0, .int .i64 0, .int .i64 0, .int .i64 0] 25]) ?_ ?_
  · refine wp_region_lit ?_
    refine sl hK (by decide) rfl rfl (r_move hK rfl) fun a hK => ?_
    refine sl hK (by decide) rfl rfl (r_ibin hK rfl rfl rfl) fun a hK => ?_
    refine sl hK (by decide) rfl rfl (r_move hK rfl) fun a hK => ?_
    rcases or_b (decide (a1 < 1)) with hb_5 | hb_5
    · rw [ifb_t hb_5] at H
      refine sl_skip hK (by decide) (wft hb_5) rfl fun a hK => ?_
      refine sl_skip hK (by decide) (wft hb_5) rfl fun a hK => ?_
      refine sl hK (by decide) rfl rfl (r_pick_t hb_5 hK rfl rfl) fun a hK => ?_
      refine wpList_nil ?_
      exact ⟨true, H, hK.sub (all_cons rfl (all_cons rfl (all_cons rfl (all_cons rfl (all_nil))))), hS⟩
    · rw [ifb_f hb_5] at H
      refine sl hK (by decide) (wff hb_5) rfl (r_move hK rfl) fun a hK => ?_
      refine sl hK (by decide) (wff hb_5) rfl (r_ibin hK rfl rfl rfl) fun a hK => ?_
      refine sl hK (by decide) rfl rfl (r_pick_f hb_5 hK rfl rfl) fun a hK => ?_
      refine wpList_nil ?_
      exact ⟨(decide (a1 > 4)), H, hK.sub (all_cons rfl (all_cons rfl (all_cons rfl (all_cons rfl (all_nil))))), hS⟩
  · rintro a w ⟨x_3, H, hK, hS⟩
    unfold ref04_Take.j0 at H
    refine wp_cond_split (hK.ev rfl) (fun (hb_6 : x_3 = true) => ?_) (fun (hb_6 : x_3 = false) => ?_)
    · rw [ifb_t hb_6] at H
      refine wp_seq ?_
      refine wp_region_lit ?_
      refine sl hK (by decide) rfl rfl (r_buildC (ps := []) (c := [.int .i64 0, .int .i64 0, .string (⟨#[]⟩ : ByteArray), .int .i64 0, .int .i64 0, .int .i64 0, .int .i64 0, .int .i64 0, .int .i64 0, .int .i64 0, .int .i64 0]) Try.underlying25 Try.zeroValue25 places25 hK rfl pc_nil rfl rfl) fun a hK => ?_
      refine sl_storeA (vs := [.int .i64 0, .int .i64 0, .string (⟨#[]⟩ : ByteArray), .int .i64 0, .int .i64 0, .int .i64 0, .int .i64 0, .int .i64 0, .int .i64 0, .int .i64 0, .int .i64 0]) (c' := [.int .i64 0, .int .i64 0, .string (⟨#[]⟩ : ByteArray), .int .i64 0, .int .i64 0, .int .i64 0, .int .i64 0, .int .i64 0, .int .i64 0, .int .i64 0, .int .i64 0]) Try.sizeOf25 hS hK rfl rfl rfl rfl (all_cons rfl (all_cons rfl (all_cons rfl (all_cons rfl (all_cons rfl (all_cons rfl (all_cons rfl (all_cons rfl (all_cons rfl (all_cons rfl (all_cons rfl (all_nil)))))))))))) (Nat.le_of_ble_eq_true rfl) rfl fun a w hS hK => ?_
      refine sl hK (by decide) rfl rfl (r_assign hK rfl) fun a hK => ?_
      refine sl hK (by decide) rfl rfl (r_assign hK rfl) fun a hK => ?_
      refine wpList_nil ?_
      have hS := hS.row_nil 5 1
      have hq_8 : Reps (tyInt .u8) R [] ([] : List Int) := Reps.nil _ _
      obtain rfl := Option.some.inj H
      refine wp_ret ?_
      repeat (first | refine ret_then ?_ | refine ret_block ?_ | refine ret_scope ?_)
      exact ret_3 Try.results15 hK (rv_cell (c := [.int .i64 0, .int .i64 0, .string (⟨#[]⟩ : ByteArray), .int .i64 0, .int .i64 0, .int .i64 0, .int .i64 0, .int .i64 0, .int .i64 0, .int .i64 0, .int .i64 0]) Try.isAgg25 Try.sizeOf25 hS (.tail _ (.head _)) rfl hK rfl) (rv_tmp hK rfl) (rv_tmp hK rfl) ⟨_, rfl, _, _, _, rfl, (hS.trunc 1), hRL, hq_8⟩
    · rw [ifb_f hb_6] at H
      refine wp_skip ?_
      refine wp_seq ?_
      refine wp_region_lit ?_
      refine sl hK (by decide) rfl rfl (r_assign hK rfl) fun a hK => ?_
      refine wpList_nil ?_
      refine wp_seq ?_
      refine wp_seq ?_
      refine wp_region_lit ?_
      refine sl hK (by decide) rfl rfl (r_move hK rfl) fun a hK => ?_
      refine sl hK (by decide) rfl rfl (r_ibin hK rfl rfl rfl) fun a hK => ?_
      refine wpList_nil ?_
      refine wp_mid (fun a w => ∃ (x_10 : Int), ref04_Take.j1 a0 a1 x_10 = some r ∧ Kn 86 a [(0, v0_0), (1, .int .i64 a1), (4, .pointer (some ⟨b_1, 0, none⟩)), (7, .int .i64 x_10)] ∧ St [] w0 w R [.cells b_1 [.int .i64 0, .int .i64 0, .string (⟨#[]⟩ : ByteArray), .int .i64 0, .int .i64 0, .int .i64 0, .int .i64 0, .int .i64 0, .int .i64 0, .int .i64 0, .int .i64 0] 25]) ?_ ?_
      · refine wp_cond_split (hK.ev rfl) (fun (hb_12 : (a1 == 3) = true) => ?_) (fun (hb_12 : (a1 == 3) = false) => ?_)
        · rw [ifb_t hb_12] at H
          refine wp_region_lit ?_
          refine sl hK (by decide) rfl rfl (r_assign hK rfl) fun a hK => ?_
          refine wpList_nil ?_
          exact ⟨1, H, hK.sub (all_cons rfl (all_cons rfl (all_cons rfl (all_cons rfl (all_nil))))), hS⟩
        · rw [ifb_f hb_12] at H
          refine wp_skip ?_
          exact ⟨8, H, hK.sub (all_cons rfl (all_cons rfl (all_cons rfl (all_cons rfl (all_nil))))), hS⟩
      · rintro a w ⟨x_10, H, hK, hS⟩
        unfold ref04_Take.j1 at H
        refine wp_seq ?_
        refine wp_seq ?_
        refine wp_region_lit ?_
        refine sl hK (by decide) rfl rfl (r_move hK rfl) fun a hK => ?_
        refine sl hK (by decide) rfl rfl (r_ibin hK rfl rfl rfl) fun a hK => ?_
        refine wpList_nil ?_
        refine wp_mid (fun a w => ∃ (x_14 : Int), ref04_Take.j2 a0 a1 x_14 = some r ∧ Kn 86 a [(0, v0_0), (1, .int .i64 a1), (4, .pointer (some ⟨b_1, 0, none⟩)), (7, .int .i64 x_14)] ∧ St [] w0 w R [.cells b_1 [.int .i64 0, .int .i64 0, .string (⟨#[]⟩ : ByteArray), .int .i64 0, .int .i64 0, .int .i64 0, .int .i64 0, .int .i64 0, .int .i64 0, .int .i64 0, .int .i64 0] 25]) ?_ ?_
        · refine wp_cond_split (hK.ev rfl) (fun (hb_16 : (a1 == 4) = true) => ?_) (fun (hb_16 : (a1 == 4) = false) => ?_)
          · rw [ifb_t hb_16] at H
            refine wp_region_lit ?_
            refine sl hK (by decide) rfl rfl (r_assign hK rfl) fun a hK => ?_
            refine wpList_nil ?_
            exact ⟨64, H, hK.sub (all_cons rfl (all_cons rfl (all_cons rfl (all_cons rfl (all_nil))))), hS⟩
          · rw [ifb_f hb_16] at H
            refine wp_skip ?_
            exact ⟨x_10, H, hK.sub (all_cons rfl (all_cons rfl (all_cons rfl (all_cons rfl (all_nil))))), hS⟩
        · rintro a w ⟨x_14, H, hK, hS⟩
          unfold ref04_Take.j2 at H
          refine wp_seq ?_
          refine wp_seq ?_
          refine wp_region_lit ?_
          refine sl hK (by decide) rfl rfl (r_move hK rfl) fun a hK => ?_
          refine sl hK (by decide) rfl rfl (r_ibin hK rfl rfl rfl) fun a hK => ?_
          refine wpList_nil ?_
          refine wp_mid (fun a w => ∃ (x_40 : Int), ref04_Take.j3 a0 a1 x_40 = some r ∧ Kn 86 a [(0, v0_0), (1, .int .i64 a1), (4, .pointer (some ⟨b_1, 0, none⟩)), (7, .int .i64 x_40)] ∧ St [] w0 w R [.cells b_1 [.int .i64 0, .int .i64 0, .string (⟨#[]⟩ : ByteArray), .int .i64 0, .int .i64 0, .int .i64 0, .int .i64 0, .int .i64 0, .int .i64 0, .int .i64 0, .int .i64 0] 25]) ?_ ?_
          · refine wp_cond_split (hK.ev rfl) (fun (hb_42 : (a1 == 2) = true) => ?_) (fun (hb_42 : (a1 == 2) = false) => ?_)
            · rw [ifb_t hb_42] at H
              refine wp_seq ?_
              refine wp_region_lit ?_
              refine sl hK (by decide) rfl rfl (r_assign hK rfl) fun a hK => ?_
              refine wpList_nil ?_
              refine wp_seq ?_
              refine wp_region_lit ?_
              refine sl hK (by decide) rfl rfl (r_move hK rfl) fun a hK => ?_
              refine sl hK (by decide) rfl rfl (r_len_R Try.underlying22 h0_0 hK rfl) fun a hK => ?_
              refine sl hK (by decide) rfl rfl (r_ibin hK rfl rfl rfl) fun a hK => ?_
              refine wpList_nil ?_
              refine wp_mid (fun a w => ∃ (x_53 : Int), ref04_Take.j4 a0 a1 x_53 = some r ∧ Kn 86 a [(0, v0_0), (1, .int .i64 a1), (4, .pointer (some ⟨b_1, 0, none⟩)), (7, .int .i64 x_53)] ∧ St [] w0 w R [.cells b_1 [.int .i64 0, .int .i64 0, .string (⟨#[]⟩ : ByteArray), .int .i64 0, .int .i64 0, .int .i64 0, .int .i64 0, .int .i64 0, .int .i64 0, .int .i64 0, .int .i64 0] 25]) ?_ ?_
              · refine wp_cond_split (hK.ev rfl) (fun (hb_55 : (decide ((a0.length : Int) > 0)) = true) => ?_) (fun (hb_55 : (decide ((a0.length : Int) > 0)) = false) => ?_)
                · rw [ifb_t hb_55] at H
                  refine wp_region_lit ?_
                  refine sl hK (by decide) rfl rfl (r_move hK rfl) fun a hK => ?_
                  obtain ⟨y_56, h_57, H⟩ := bind_some H
                  obtain ⟨b_58, o_59, c_60, cs_61, hv_62, hr_63, hc_64, h_570, h_571⟩ := h0_0.ix h_57
                  subst hr_63
                  refine sl hK (by decide) rfl rfl (r_indexAddr_R Try.underlying22 Try.sizeOf5 hv_62 h_570 h_571 hK rfl rfl) fun a hK => ?_
                  refine sl hK (by decide) rfl rfl (r_load Try.isAgg5 hK rfl ((hS.ra hRA nil_not).cell (hc_64 0 _ rfl))) fun a hK => ?_
                  refine sl hK (by decide) rfl rfl (r_conv Try.underlying5 Try.underlying3 hK rfl) fun a hK => ?_
                  refine sl hK (by decide) rfl rfl (r_ibin hK rfl rfl rfl) fun a hK => ?_
                  refine sl hK (by decide) rfl rfl (r_assign hK rfl) fun a hK => ?_
                  refine wpList_nil ?_
                  exact ⟨(IntKind.i64.wrap (1 + (IntKind.i64.wrap y_56))), H, hK.sub (all_cons rfl (all_cons rfl (all_cons rfl (all_cons rfl (all_nil))))), hS⟩
                · rw [ifb_f hb_55] at H
                  refine wp_skip ?_
                  exact ⟨1, H, hK.sub (all_cons rfl (all_cons rfl (all_cons rfl (all_cons rfl (all_nil))))), hS⟩
              · rintro a w ⟨x_53, H, hK, hS⟩
                unfold ref04_Take.j4 at H
                exact ⟨x_53, H, hK.sub (all_cons rfl (all_cons rfl (all_cons rfl (all_cons rfl (all_nil))))), hS⟩
            · rw [ifb_f hb_42] at H
              refine wp_skip ?_
              exact ⟨x_14, H, hK.sub (all_cons rfl (all_cons rfl (all_cons rfl (all_cons rfl (all_nil))))), hS⟩
          · rintro a w ⟨x_40, H, hK, hS⟩
            unfold ref04_Take.j3 at H
            refine wp_seq ?_
            refine wp_seq ?_
            refine wp_region_lit ?_
            refine sl hK (by decide) rfl rfl (r_move hK rfl) fun a hK => ?_
            refine sl hK (by decide) rfl rfl (r_len_R Try.underlying22 h0_0 hK rfl) fun a hK => ?_
            refine sl hK (by decide) rfl rfl (r_move hK rfl) fun a hK => ?_
            refine sl hK (by decide) rfl rfl (r_ibin hK rfl rfl rfl) fun a hK => ?_
            refine wpList_nil ?_
            refine wp_cond_split (hK.ev rfl) (fun (hb_65 : (decide ((a0.length : Int) < x_40)) = true) => ?_) (fun (hb_65 : (decide ((a0.length : Int) < x_40)) = false) => ?_)
            · rw [ifb_t hb_65] at H
              refine wp_seq ?_
              refine wp_region_lit ?_
              refine sl hK (by decide) rfl rfl (r_buildC (ps := []) (c := [.int .i64 0, .int .i64 0, .string (⟨#[]⟩ : ByteArray), .int .i64 0, .int .i64 0, .int .i64 0, .int .i64 0, .int .i64 0, .int .i64 0, .int .i64 0, .int .i64 0]) Try.underlying25 Try.zeroValue25 places25 hK rfl pc_nil rfl rfl) fun a hK => ?_
              refine sl_storeA (vs := [.int .i64 0, .int .i64 0, .string (⟨#[]⟩ : ByteArray), .int .i64 0, .int .i64 0, .int .i64 0, .int .i64 0, .int .i64 0, .int .i64 0, .int .i64 0, .int .i64 0]) (c' := [.int .i64 0, .int .i64 0, .string (⟨#[]⟩ : ByteArray), .int .i64 0, .int .i64 0, .int .i64 0, .int .i64 0, .int .i64 0, .int .i64 0, .int .i64 0, .int .i64 0]) Try.sizeOf25 hS hK rfl rfl rfl rfl (all_cons rfl (all_cons rfl (all_cons rfl (all_cons rfl (all_cons rfl (all_cons rfl (all_cons rfl (all_cons rfl (all_cons rfl (all_cons rfl (all_cons rfl (all_nil)))))))))))) (Nat.le_of_ble_eq_true rfl) rfl fun a w hS hK => ?_
              refine sl hK (by decide) rfl rfl (r_assign hK rfl) fun a hK => ?_
              refine sl hK (by decide) rfl rfl (r_assign hK rfl) fun a hK => ?_
              refine wpList_nil ?_
              have hS := hS.row_nil 5 1
              have hq_67 : Reps (tyInt .u8) R [] ([] : List Int) := Reps.nil _ _
              obtain rfl := Option.some.inj H
              refine wp_ret ?_
              repeat (first | refine ret_then ?_ | refine ret_block ?_ | refine ret_scope ?_)
              exact ret_3 Try.results15 hK (rv_cell (c := [.int .i64 0, .int .i64 0, .string (⟨#[]⟩ : ByteArray), .int .i64 0, .int .i64 0, .int .i64 0, .int .i64 0, .int .i64 0, .int .i64 0, .int .i64 0, .int .i64 0]) Try.isAgg25 Try.sizeOf25 hS (.tail _ (.head _)) rfl hK rfl) (rv_tmp hK rfl) (rv_tmp hK rfl) ⟨_, rfl, _, _, _, rfl, (hS.trunc 1), hRL, hq_67⟩
            · rw [ifb_f hb_65] at H
              refine wp_skip ?_
              refine wp_seq ?_
              refine wp_region_lit ?_
              refine sl hK (by decide) rfl rfl (r_move hK rfl) fun a hK => ?_
              refine sl hK (by decide) rfl rfl (r_buildC (ps := [(0, .int .i64 a1)]) (c := [.int .i64 a1, .int .i64 0, .string (⟨#[]⟩ : ByteArray), .int .i64 0, .int .i64 0, .int .i64 0, .int .i64 0, .int .i64 0, .int .i64 0, .int .i64 0, .int .i64 0]) Try.underlying25 Try.zeroValue25 places25 hK rfl (pc_cons rfl pc_nil) rfl rfl) fun a hK => ?_
              refine sl_alloc Try.zeroValue25 hS hK (by decide) rfl rfl fun a w b_68 hS hK => ?_
              refine sl_storeA (vs := [.int .i64 a1, .int .i64 0, .string (⟨#[]⟩ : ByteArray), .int .i64 0, .int .i64 0, .int .i64 0, .int .i64 0, .int .i64 0, .int .i64 0, .int .i64 0, .int .i64 0]) (c' := [.int .i64 a1, .int .i64 0, .string (⟨#[]⟩ : ByteArray), .int .i64 0, .int .i64 0, .int .i64 0, .int .i64 0, .int .i64 0, .int .i64 0, .int .i64 0, .int .i64 0]) Try.sizeOf25 hS hK rfl rfl rfl rfl (all_cons rfl (all_cons rfl (all_cons rfl (all_cons rfl (all_cons rfl (all_cons rfl (all_cons rfl (all_cons rfl (all_cons rfl (all_cons rfl (all_cons rfl (all_nil)))))))))))) (Nat.le_of_ble_eq_true rfl) rfl fun a w hS hK => ?_
              refine wpList_nil ?_
              refine wp_seq ?_
              refine wp_seq ?_
              refine wp_region_lit ?_
              refine sl hK (by decide) rfl rfl (r_move hK rfl) fun a hK => ?_
              refine wpList_nil ?_
              refine wp_block ?_
              refine wp_seq ?_
              refine wp_region_lit ?_
              refine sl hK (by decide) rfl rfl (r_ibin hK rfl rfl rfl) fun a hK => ?_
              refine sl hK (by decide) rfl rfl (r_assign hK rfl) fun a hK => ?_
              refine wpList_nil ?_
              refine wp_mid (fun a w => ∃ (x_435 : Int) (x_436 : ByteArray) (x_437 : Arr8), ref04_Take.j5 a0 a1 x_40 x_435 x_436 x_437 = some r ∧ Kn 86 a [(0, v0_0), (4, .pointer (some ⟨b_1, 0, none⟩)), (7, .int .i64 x_40), (8, .pointer (some ⟨b_68, 0, none⟩))] ∧ St [] w0 w R [.cells b_1 [.int .i64 0, .int .i64 0, .string (⟨#[]⟩ : ByteArray), .int .i64 0, .int .i64 0, .int .i64 0, .int .i64 0, .int .i64 0, .int .i64 0, .int .i64 0, .int .i64 0] 25, .cells b_68 [.int .i64 a1, .int .i64 x_435, .string x_436, .int .i64 x_437.a0, .int .i64 x_437.a1, .int .i64 x_437.a2, .int .i64 x_437.a3, .int .i64 x_437.a4, .int .i64 x_437.a5, .int .i64 x_437.a6, .int .i64 x_437.a7] 25]) ?_ ?_
              · refine wp_cond_split (hK.ev rfl) (fun (hb_439 : (a1 == 1) = true) => ?_) (fun (hb_439 : (a1 == 1) = false) => ?_)
                · rw [ifb_t hb_439] at H
                  refine wp_region_lit ?_
                  refine sl hK (by decide) rfl rfl (r_move hK rfl) fun a hK => ?_
                  obtain ⟨y_440, h_441, H⟩ := bind_some H
                  obtain ⟨v_442, hs_443, hr_444⟩ := r_slice_R (x := .tmp 41) (lo := none) (hi := some (.const (.int .i64 8))) Try.underlying22 Try.sizeOf5 h0_0 h_441 hK rfl rfl ⟨_, rfl⟩
                  refine sl hK (by decide) rfl rfl (hr_444 _ _ _ _ _ _ _ hK) fun a hK => ?_
                  obtain ⟨y_445, h_446, H⟩ := bind_some H
                  refine sl_callV Try.call29 hS hK (by decide) rfl rfl rfl (ref04_small.calls y_440 (lentOf_sub [] _) (hs_443.mono (hS.raLe0 hRA nil_not)) h_446) fun a w hS hK => ?_
                  refine sl hK (by decide) rfl rfl (r_fieldAddr Try.underlying25 rfl Try.sizeOf3 hK rfl) fun a hK => ?_
                  refine sl_store1 (c' := [.int .i64 a1, .int .i64 y_445, .string (⟨#[]⟩ : ByteArray), .int .i64 0, .int .i64 0, .int .i64 0, .int .i64 0, .int .i64 0, .int .i64 0, .int .i64 0, .int .i64 0]) Try.sizeOf3 hS hK rfl rfl rfl rfl (Nat.le_of_ble_eq_true rfl) rfl fun a w hS hK => ?_
                  refine wpList_nil ?_
                  have hS := hS.pk1
                  exact ⟨y_445, (⟨#[]⟩ : ByteArray), (⟨0, 0, 0, 0, 0, 0, 0, 0⟩ : Arr8), H, hK.sub (all_cons rfl (all_cons rfl (all_cons rfl (all_cons rfl (all_nil))))), hS⟩
                · rw [ifb_f hb_439] at H
                  refine wp_seq ?_
                  refine wp_region_lit ?_
                  refine sl hK (by decide) rfl rfl (r_ibin hK rfl rfl rfl) fun a hK => ?_
                  refine sl hK (by decide) rfl rfl (r_assign hK rfl) fun a hK => ?_
                  refine wpList_nil ?_
                  refine wp_mid (fun a w => ∃ (x_624 : Int) (x_625 : ByteArray) (x_626 : Arr8), ref04_Take.j6 a0 a1 x_40 x_624 x_625 x_626 = some r ∧ Kn 86 a [(0, v0_0), (4, .pointer (some ⟨b_1, 0, none⟩)), (7, .int .i64 x_40), (8, .pointer (some ⟨b_68, 0, none⟩))] ∧ St [] w0 w R [.cells b_1 [.int .i64 0, .int .i64 0, .string (⟨#[]⟩ : ByteArray), .int .i64 0, .int .i64 0, .int .i64 0, .int .i64 0, .int .i64 0, .int .i64 0, .int .i64 0, .int .i64 0] 25, .cells b_68 [.int .i64 a1, .int .i64 x_624, .string x_625, .int .i64 x_626.a0, .int .i64 x_626.a1, .int .i64 x_626.a2, .int .i64 x_626.a3, .int .i64 x_626.a4, .int .i64 x_626.a5, .int .i64 x_626.a6, .int .i64 x_626.a7] 25]) ?_ ?_
                  · refine wp_cond_split (hK.ev rfl) (fun (hb_628 : (a1 == 2) = true) => ?_) (fun (hb_628 : (a1 == 2) = false) => ?_)
                    · rw [ifb_t hb_628] at H
                      refine wp_region_lit ?_
                      refine sl hK (by decide) rfl rfl (r_move hK rfl) fun a hK => ?_
                      refine sl hK (by decide) rfl rfl (r_move hK rfl) fun a hK => ?_
                      obtain ⟨y_629, h_630, H⟩ := bind_some H
                      obtain ⟨v_631, hs_632, hr_633⟩ := r_slice_R (x := .tmp 47) (lo := some (.const (.int .i64 1))) (hi := some (.tmp 48)) Try.underlying22 Try.sizeOf5 h0_0 h_630 hK rfl ⟨_, rfl⟩ ⟨_, rfl⟩
                      refine sl hK (by decide) rfl rfl (hr_633 _ _ _ _ _ _ _ hK) fun a hK => ?_
                      refine sl hK (by decide) rfl rfl (r_conv_bs Try.underlying22 Try.underlying9 Try.underlying5 hs_632 hK rfl (hS.ra hRA nil_not)) fun a hK => ?_
                      refine sl hK (by decide) rfl rfl (r_fieldAddr Try.underlying25 rfl Try.sizeOf9 hK rfl) fun a hK => ?_
                      refine sl_store1 (c' := [.int .i64 a1, .int .i64 0, .string (bstr y_629), .int .i64 0, .int .i64 0, .int .i64 0, .int .i64 0, .int .i64 0, .int .i64 0, .int .i64 0, .int .i64 0]) Try.sizeOf9 hS hK rfl rfl rfl rfl (Nat.le_of_ble_eq_true rfl) rfl fun a w hS hK => ?_
                      refine wpList_nil ?_
                      have hS := hS.pk1
                      exact ⟨0, (bstr y_629), (⟨0, 0, 0, 0, 0, 0, 0, 0⟩ : Arr8), H, hK.sub (all_cons rfl (all_cons rfl (all_cons rfl (all_cons rfl (all_nil))))), hS⟩
                    · rw [ifb_f hb_628] at H
                      refine wp_seq ?_
                      refine wp_region_lit ?_
                      refine sl hK (by decide) rfl rfl (r_ibin hK rfl rfl rfl) fun a hK => ?_
                      refine sl hK (by decide) rfl rfl (r_assign hK rfl) fun a hK => ?_
                      refine wpList_nil ?_
                      refine wp_mid (fun a w => ∃ (x_718 : Int) (x_719 : Arr8), ref04_Take.j7 a0 a1 x_40 x_718 x_719 = some r ∧ Kn 86 a [(0, v0_0), (4, .pointer (some ⟨b_1, 0, none⟩)), (7, .int .i64 x_40), (8, .pointer (some ⟨b_68, 0, none⟩))] ∧ St [] w0 w R [.cells b_1 [.int .i64 0, .int .i64 0, .string (⟨#[]⟩ : ByteArray), .int .i64 0, .int .i64 0, .int .i64 0, .int .i64 0, .int .i64 0, .int .i64 0, .int .i64 0, .int .i64 0] 25, .cells b_68 [.int .i64 a1, .int .i64 x_718, .string (⟨#[]⟩ : ByteArray), .int .i64 x_719.a0, .int .i64 x_719.a1, .int .i64 x_719.a2, .int .i64 x_719.a3, .int .i64 x_719.a4, .int .i64 x_719.a5, .int .i64 x_719.a6, .int .i64 x_719.a7] 25]) ?_ ?_
                      · refine wp_cond_split (hK.ev rfl) (fun (hb_721 : (a1 == 3) = true) => ?_) (fun (hb_721 : (a1 == 3) = false) => ?_)
                        · rw [ifb_t hb_721] at H
                          refine wp_region_lit ?_
                          refine sl hK (by decide) rfl rfl (r_move hK rfl) fun a hK => ?_
                          obtain ⟨y_722, h_723, H⟩ := bind_some H
                          obtain ⟨b_724, o_725, c_726, cs_727, hv_728, hr_729, hc_730, h_7230, h_7231⟩ := h0_0.ix h_723
                          subst hr_729
                          refine sl hK (by decide) rfl rfl (r_indexAddr_R Try.underlying22 Try.sizeOf5 hv_728 h_7230 h_7231 hK rfl rfl) fun a hK => ?_
                          refine sl hK (by decide) rfl rfl (r_load Try.isAgg5 hK rfl ((hS.ra hRA nil_not).cell (hc_730 0 _ rfl))) fun a hK => ?_
                          refine sl hK (by decide) rfl rfl (r_conv Try.underlying5 Try.underlying3 hK rfl) fun a hK => ?_
                          refine sl hK (by decide) rfl rfl (r_fieldAddr Try.underlying25 rfl Try.sizeOf3 hK rfl) fun a hK => ?_
                          refine sl_store1 (c' := [.int .i64 a1, .int .i64 (IntKind.i64.wrap y_722), .string (⟨#[]⟩ : ByteArray), .int .i64 0, .int .i64 0, .int .i64 0, .int .i64 0, .int .i64 0, .int .i64 0, .int .i64 0, .int .i64 0]) Try.sizeOf3 hS hK rfl rfl rfl rfl (Nat.le_of_ble_eq_true rfl) rfl fun a w hS hK => ?_
                          refine wpList_nil ?_
                          have hS := hS.pk1
                          exact ⟨(IntKind.i64.wrap y_722), (⟨0, 0, 0, 0, 0, 0, 0, 0⟩ : Arr8), H, hK.sub (all_cons rfl (all_cons rfl (all_cons rfl (all_cons rfl (all_nil))))), hS⟩
                        · rw [ifb_f hb_721] at H
                          refine wp_seq ?_
                          refine wp_region_lit ?_
                          refine sl hK (by decide) rfl rfl (r_ibin hK rfl rfl rfl) fun a hK => ?_
                          refine sl hK (by decide) rfl rfl (r_assign hK rfl) fun a hK => ?_
                          refine wpList_nil ?_
                          refine wp_mid (fun a w => ∃ (x_767 : Arr8), ref04_Take.j8 a0 a1 x_40 x_767 = some r ∧ Kn 86 a [(0, v0_0), (4, .pointer (some ⟨b_1, 0, none⟩)), (7, .int .i64 x_40), (8, .pointer (some ⟨b_68, 0, none⟩))] ∧ St [] w0 w R [.cells b_1 [.int .i64 0, .int .i64 0, .string (⟨#[]⟩ : ByteArray), .int .i64 0, .int .i64 0, .int .i64 0, .int .i64 0, .int .i64 0, .int .i64 0, .int .i64 0, .int .i64 0] 25, .cells b_68 [.int .i64 a1, .int .i64 0, .string (⟨#[]⟩ : ByteArray), .int .i64 x_767.a0, .int .i64 x_767.a1, .int .i64 x_767.a2, .int .i64 x_767.a3, .int .i64 x_767.a4, .int .i64 x_767.a5, .int .i64 x_767.a6, .int .i64 x_767.a7] 25]) ?_ ?_
                          · refine wp_cond_split (hK.ev rfl) (fun (hb_769 : (a1 == 4) = true) => ?_) (fun (hb_769 : (a1 == 4) = false) => ?_)
                            · rw [ifb_t hb_769] at H
                              refine wp_seq ?_
                              refine wp_region_lit ?_
                              refine sl hK (by decide) rfl rfl (r_assign hK rfl) fun a hK => ?_
                              refine wpList_nil ?_
                              refine wp_block ?_
                              refine wp_loop_k (fun k_l9 a w => ∃ (x_778 : Arr8) (x_779 : Int), ref04_Take.l9 a0 a1 x_40 k_l9 x_778 x_779 = some r ∧ Kn 86 a [(0, v0_0), (4, .pointer (some ⟨b_1, 0, none⟩)), (7, .int .i64 x_40), (8, .pointer (some ⟨b_68, 0, none⟩)), (9, .int .i64 x_779)] ∧ St [] w0 w R [.cells b_1 [.int .i64 0, .int .i64 0, .string (⟨#[]⟩ : ByteArray), .int .i64 0, .int .i64 0, .int .i64 0, .int .i64 0, .int .i64 0, .int .i64 0, .int .i64 0, .int .i64 0] 25, .cells b_68 [.int .i64 a1, .int .i64 0, .string (⟨#[]⟩ : ByteArray), .int .i64 x_778.a0, .int .i64 x_778.a1, .int .i64 x_778.a2, .int .i64 x_778.a3, .int .i64 x_778.a4, .int .i64 x_778.a5, .int .i64 x_778.a6, .int .i64 x_778.a7] 25]) (((8 : Int) - 0).toNat + 1) ?_ ?_
                              · have hS := hS.pk1
                                exact ⟨(⟨0, 0, 0, 0, 0, 0, 0, 0⟩ : Arr8), 0, H, hK.sub (all_cons rfl (all_cons rfl (all_cons rfl (all_cons rfl (all_cons rfl (all_nil)))))), hS⟩
                              · rintro k_l9 a w ⟨x_778, x_779, H, hK, hS⟩
                                cases k_l9 with
                                | zero => cases H
                                | succ k_l9 =>
                                rw [ref04_Take.l9.eq_2] at H
                                refine wp_seq ?_
                                refine wp_seq ?_
                                refine wp_region_lit ?_
                                refine sl hK (by decide) rfl rfl (r_move hK rfl) fun a hK => ?_
                                refine sl hK (by decide) rfl rfl (r_ibin hK rfl rfl rfl) fun a hK => ?_
                                refine wpList_nil ?_
                                refine wp_cond_split (hK.ev rfl) (fun (hb_793 : (decide (x_779 < 8)) = true) => ?_) (fun (hb_793 : (decide (x_779 < 8)) = false) => ?_)
                                · rw [ifb_t hb_793] at H
                                  refine wp_skip ?_
                                  refine wp_seq ?_
                                  refine wp_block ?_
                                  refine wp_region_lit ?_
                                  refine sl hK (by decide) rfl rfl (r_move hK rfl) fun a hK => ?_
                                  refine sl hK (by decide) rfl rfl (r_move hK rfl) fun a hK => ?_
                                  refine sl hK (by decide) rfl rfl (r_move hK rfl) fun a hK => ?_
                                  refine sl hK (by decide) rfl rfl (r_ibin hK rfl rfl rfl) fun a hK => ?_
                                  refine sl hK (by decide) rfl rfl (r_move hK rfl) fun a hK => ?_
                                  refine sl hK (by decide) rfl rfl (r_ibin hK rfl rfl rfl) fun a hK => ?_
                                  refine sl hK (by decide) rfl rfl (r_ibin hK rfl rfl rfl) fun a hK => ?_
                                  obtain ⟨y_794, h_795, H⟩ := bind_some H
                                  obtain ⟨v_796, hs_797, hr_798⟩ := r_slice_R (x := .tmp 66) (lo := some (.tmp 68)) (hi := some (.tmp 71)) Try.underlying22 Try.sizeOf5 h0_0 h_795 hK rfl ⟨_, rfl⟩ ⟨_, rfl⟩
                                  refine sl hK (by decide) rfl rfl (hr_798 _ _ _ _ _ _ _ hK) fun a hK => ?_
                                  obtain ⟨y_799, h_800, H⟩ := bind_some H
                                  refine sl_callV Try.call29 hS hK (by decide) rfl rfl rfl (ref04_small.calls y_794 (lentOf_sub [] _) (hs_797.mono (hS.raLe0 hRA nil_not)) h_800) fun a w hS hK => ?_
                                  refine sl hK (by decide) rfl rfl (r_fieldAddr Try.underlying25 rfl Try.sizeOf23 hK rfl) fun a hK => ?_
                                  obtain ⟨y_801, h_802, H⟩ := bind_some H
                                  refine sl hK (by decide) rfl rfl (r_indexAddr_arr Try.underlying23 Try.sizeOf3 hK rfl rfl (Arr8.ix_lt h_802).1 (Arr8.ix_lt h_802).2) fun a hK => ?_
                                  obtain ⟨y_803, h_804, H⟩ := bind_some H
                                  have hS := hS.pk1
                                  refine sl_store1 (c' := [.int .i64 a1, .int .i64 0, .string (⟨#[]⟩ : ByteArray), .int .i64 y_803.a0, .int .i64 y_803.a1, .int .i64 y_803.a2, .int .i64 y_803.a3, .int .i64 y_803.a4, .int .i64 y_803.a5, .int .i64 y_803.a6, .int .i64 y_803.a7]) Try.sizeOf3 hS hK rfl rfl rfl rfl (Arr8.put_lt h_804 (Nat.le_of_ble_eq_true rfl)) (Arr8.put_cells h_804 [.int .i64 a1, .int .i64 0, .string (⟨#[]⟩ : ByteArray)] [] rfl) fun a w hS hK => ?_
                                  refine wpList_nil ?_
                                  refine wp_region_lit ?_
                                  refine sl hK (by decide) rfl rfl (r_move hK rfl) fun a hK => ?_
                                  refine sl hK (by decide) rfl rfl (r_ibin hK rfl rfl rfl) fun a hK => ?_
                                  refine sl hK (by decide) rfl rfl (r_assign hK rfl) fun a hK => ?_
                                  refine wpList_nil ?_
                                  have hS := hS.pk1
                                  exact ⟨_, Nat.lt_succ_self _, y_803, (IntKind.i64.wrap (x_779 + 1)), H, hK.sub (all_cons rfl (all_cons rfl (all_cons rfl (all_cons rfl (all_cons rfl (all_nil)))))), hS⟩
                                · rw [ifb_f hb_793] at H
                                  refine wp_exit ?_
                                  have hS := hS.pk1
                                  have hS := hS.pk1
                                  exact ⟨x_778, H, hK.sub (all_cons rfl (all_cons rfl (all_cons rfl (all_cons rfl (all_nil))))), hS⟩
                            · rw [ifb_f hb_769] at H
                              refine wp_skip ?_
                              have hS := hS.pk1
                              exact ⟨(⟨0, 0, 0, 0, 0, 0, 0, 0⟩ : Arr8), H, hK.sub (all_cons rfl (all_cons rfl (all_cons rfl (all_cons rfl (all_nil))))), hS⟩
                          · rintro a w ⟨x_767, H, hK, hS⟩
                            unfold ref04_Take.j8 at H
                            have hS := hS.pk1
                            have hS := hS.pk1
                            exact ⟨0, x_767, H, hK.sub (all_cons rfl (all_cons rfl (all_cons rfl (all_cons rfl (all_nil))))), hS⟩
                      · rintro a w ⟨x_718, x_719, H, hK, hS⟩
                        unfold ref04_Take.j7 at H
                        have hS := hS.pk1
                        have hS := hS.pk1
                        exact ⟨x_718, (⟨#[]⟩ : ByteArray), x_719, H, hK.sub (all_cons rfl (all_cons rfl (all_cons rfl (all_cons rfl (all_nil))))), hS⟩
                  · rintro a w ⟨x_624, x_625, x_626, H, hK, hS⟩
                    unfold ref04_Take.j6 at H
                    have hS := hS.pk1
                    have hS := hS.pk1
                    exact ⟨x_624, x_625, x_626, H, hK.sub (all_cons rfl (all_cons rfl (all_cons rfl (all_cons rfl (all_nil))))), hS⟩
              · rintro a w ⟨x_435, x_436, x_437, H, hK, hS⟩
                unfold ref04_Take.j5 at H
                refine wp_seq ?_
                refine wp_seq ?_
                refine wp_region_lit ?_
                refine sl hK (by decide) rfl rfl (r_loadA (cs := [.int .i64 a1, .int .i64 x_435, .string x_436, .int .i64 x_437.a0, .int .i64 x_437.a1, .int .i64 x_437.a2, .int .i64 x_437.a3, .int .i64 x_437.a4, .int .i64 x_437.a5, .int .i64 x_437.a6, .int .i64 x_437.a7]) Try.isAgg25 Try.sizeOf25 rfl hK rfl (hS.cells_of (m := 11) (.tail _ (.head _)) rfl)) fun a hK => ?_
                obtain ⟨y_805, h_806, H⟩ := bind_some H
                refine sl_callV Try.call25 hS hK (by decide) rfl rfl rfl (ref01_Valid.calls (⟨a1, x_435, x_436, x_437⟩ : api_Value) h_806 _) fun a w hS hK => ?_
                refine sl hK (by decide) rfl rfl (r_un hK rfl (u_not _)) fun a hK => ?_
                refine wpList_nil ?_
                refine wp_cond_split (hK.ev rfl) (fun (hb_807 : (!y_805) = true) => ?_) (fun (hb_807 : (!y_805) = false) => ?_)
                · rw [ifb_t hb_807] at H
                  refine wp_seq ?_
                  refine wp_region_lit ?_
                  refine sl hK (by decide) rfl rfl (r_buildC (ps := []) (c := [.int .i64 0, .int .i64 0, .string (⟨#[]⟩ : ByteArray), .int .i64 0, .int .i64 0, .int .i64 0, .int .i64 0, .int .i64 0, .int .i64 0, .int .i64 0, .int .i64 0]) Try.underlying25 Try.zeroValue25 places25 hK rfl pc_nil rfl rfl) fun a hK => ?_
                  refine sl_storeA (vs := [.int .i64 0, .int .i64 0, .string (⟨#[]⟩ : ByteArray), .int .i64 0, .int .i64 0, .int .i64 0, .int .i64 0, .int .i64 0, .int .i64 0, .int .i64 0, .int .i64 0]) (c' := [.int .i64 0, .int .i64 0, .string (⟨#[]⟩ : ByteArray), .int .i64 0, .int .i64 0, .int .i64 0, .int .i64 0, .int .i64 0, .int .i64 0, .int .i64 0, .int .i64 0]) Try.sizeOf25 hS hK rfl rfl rfl rfl (all_cons rfl (all_cons rfl (all_cons rfl (all_cons rfl (all_cons rfl (all_cons rfl (all_cons rfl (all_cons rfl (all_cons rfl (all_cons rfl (all_cons rfl (all_nil)))))))))))) (Nat.le_of_ble_eq_true rfl) rfl fun a w hS hK => ?_
                  refine sl hK (by decide) rfl rfl (r_assign hK rfl) fun a hK => ?_
                  refine sl hK (by decide) rfl rfl (r_assign hK rfl) fun a hK => ?_
                  refine wpList_nil ?_
                  have hS := hS.row_nil 5 1
                  have hq_809 : Reps (tyInt .u8) R [] ([] : List Int) := Reps.nil _ _
                  obtain rfl := Option.some.inj H
                  refine wp_ret ?_
                  repeat (first | refine ret_then ?_ | refine ret_block ?_ | refine ret_scope ?_)
                  exact ret_3 Try.results15 hK (rv_cell (c := [.int .i64 0, .int .i64 0, .string (⟨#[]⟩ : ByteArray), .int .i64 0, .int .i64 0, .int .i64 0, .int .i64 0, .int .i64 0, .int .i64 0, .int .i64 0, .int .i64 0]) Try.isAgg25 Try.sizeOf25 hS (.tail _ (.head _)) rfl hK rfl) (rv_tmp hK rfl) (rv_tmp hK rfl) ⟨_, rfl, _, _, _, rfl, (hS.trunc 1), hRL, hq_809⟩
                · rw [ifb_f hb_807] at H
                  refine wp_skip ?_
                  refine wp_seq ?_
                  refine parT_region (C := fun w => St [] w0 w R [.cells b_1 [.int .i64 0, .int .i64 0, .string (⟨#[]⟩ : ByteArray), .int .i64 0, .int .i64 0, .int .i64 0, .int .i64 0, .int .i64 0, .int .i64 0, .int .i64 0, .int .i64 0] 25, .cells b_68 [.int .i64 a1, .int .i64 x_435, .string x_436, .int .i64 x_437.a0, .int .i64 x_437.a1, .int .i64 x_437.a2, .int .i64 x_437.a3, .int .i64 x_437.a4, .int .i64 x_437.a5, .int .i64 x_437.a6, .int .i64 x_437.a7] 25]) 6 [(0, true), (2, true), (3, true), (4, true), (1, false), (5, false)] mixed (by kernel_rfl) hS (fun w hS => hS) fun w hS => ?_
                  refine sp (k := 0) rfl hK (by decide) rfl rfl (fun w hS => r_loadA (cs := [.int .i64 a1, .int .i64 x_435, .string x_436, .int .i64 x_437.a0, .int .i64 x_437.a1, .int .i64 x_437.a2, .int .i64 x_437.a3, .int .i64 x_437.a4, .int .i64 x_437.a5, .int .i64 x_437.a6, .int .i64 x_437.a7]) Try.isAgg25 Try.sizeOf25 rfl hK rfl (hS.cells_of (m := 11) (.tail _ (.head _)) rfl)) fun a hK => ?_
                  refine sp (k := 2) rfl hK (by decide) rfl rfl (fun w hS => r_move hK rfl) fun a hK => ?_
                  refine sp (k := 3) rfl hK (by decide) rfl rfl (fun w hS => r_move hK rfl) fun a hK => ?_
                  obtain ⟨y_824, h_825, H⟩ := bind_some H
                  obtain ⟨v_826, hs_827, hr_828⟩ := r_slice_R (x := .tmp 82) (lo := some (.tmp 83)) (hi := none) Try.underlying22 Try.sizeOf5 h0_0 h_825 hK rfl ⟨_, rfl⟩ rfl
                  refine sp (k := 4) rfl hK (by decide) rfl rfl (fun w hS => hr_828 _ _ _ _ _ _ _ hK) fun a hK => ?_
                  refine spw (k := 1) rfl rfl hS ?_
                  refine sl_buildSliceC (zc := [.int .u8 0]) (zs := []) (ps := []) (c := []) Try.underlying22 Try.sizeOf5 Try.zeroValue5 rfl pc_nil rfl rfl (by decide) (by kernel_rfl) rfl hS hK (by decide) rfl fun a w b_829 hS hK => ?_
                  refine parK_nil (hS.pk2.pk2.trunc 2) ?_
                  refine spw (k := 5) rfl rfl (hS.pk2.pk2.trunc 2) ?_
                  obtain ⟨y_832, h_833, H⟩ := bind_some H
                  have hS := hS.row_lit (size := 1) (m := 0) rfl (by decide)
                  have hq_831 : Reps (tyInt .u8) R [] ([] : List Int) := (Reps.nil _ _)
                  refine sl_append_A elT22 (by decide) rfl (fun _ _ _ _ h => h) (hS.ra hRA nil_not) hq_831 rfl hs_827 h_833 hS hK (by decide) rfl rfl rfl fun a w v_834 cs_835 hq_836 hS hK => ?_
                  refine parK_nil (hS.pk2.pk2.trunc 2) ?_
                  refine thenL_nil ?_
                  have hS := hS.pk1
                  refine sl_storeA (vs := [.int .i64 a1, .int .i64 x_435, .string x_436, .int .i64 x_437.a0, .int .i64 x_437.a1, .int .i64 x_437.a2, .int .i64 x_437.a3, .int .i64 x_437.a4, .int .i64 x_437.a5, .int .i64 x_437.a6, .int .i64 x_437.a7]) (c' := [.int .i64 a1, .int .i64 x_435, .string x_436, .int .i64 x_437.a0, .int .i64 x_437.a1, .int .i64 x_437.a2, .int .i64 x_437.a3, .int .i64 x_437.a4, .int .i64 x_437.a5, .int .i64 x_437.a6, .int .i64 x_437.a7]) Try.sizeOf25 hS hK rfl rfl rfl rfl (all_cons rfl (all_cons rfl (all_cons rfl (all_cons rfl (all_cons rfl (all_cons rfl (all_cons rfl (all_cons rfl (all_cons rfl (all_cons rfl (all_cons rfl (all_nil)))))))))))) (Nat.le_of_ble_eq_true rfl) rfl fun a w hS hK => ?_
                  refine sl hK (by decide) rfl rfl (r_assign hK rfl) fun a hK => ?_
                  refine sl hK (by decide) rfl rfl (r_assign hK rfl) fun a hK => ?_
                  refine wpList_nil (NoP_nil ?_)
                  obtain rfl := Option.some.inj H
                  refine wp_ret ?_
                  repeat (first | refine ret_then ?_ | refine ret_block ?_ | refine ret_scope ?_)
                  exact ret_3 Try.results15 hK (rv_cell (c := [.int .i64 a1, .int .i64 x_435, .string x_436, .int .i64 x_437.a0, .int .i64 x_437.a1, .int .i64 x_437.a2, .int .i64 x_437.a3, .int .i64 x_437.a4, .int .i64 x_437.a5, .int .i64 x_437.a6, .int .i64 x_437.a7]) Try.isAgg25 Try.sizeOf25 hS (.head _) rfl hK rfl) (rv_tmp hK rfl) (rv_tmp hK rfl) ⟨_, rfl, _, _, _, rfl, (hS.pk1.trunc 1), hRL, hq_836⟩

/-! ### catchment/catchmentlaw04.cut: function 16 -/
set_option maxHeartbeats 4000000 in
set_option maxRecDepth 100000 in
theorem law04_cut.calls (a0 : api_Table) {w0 : World} {R : Hp} {v0_0 : Value} {v0_1 : Value} (hR : R.sub w0) (h0_0 : SlR ty_api_Col R v0_0 a0.Cols) (h0_1 : SlR (tySl ty_api_Value) R v0_1 a0.Rows) {r : api_Table} (H : law04_cut a0 = some r) : Calls Try.prog 16 #[.agg #[v0_0, v0_1]] w0 (Rets fun v w' => ∃ (R' : Hp) (u0 : Value) (u1 : Value), v = .agg #[u0, u1] ∧ St [] w0 w' R' [] ∧ RLe [] w0 R R' ∧ SlR ty_api_Col R' u0 r.Cols ∧ SlR (tySl ty_api_Value) R' u1 r.Rows) := by
  unfold law04_cut at H
  refine enter (args := [.agg #[v0_0, v0_1]]) Try.func16 rfl Try.ntmps16 rfl fun a hK => ?_
  have hS := St.init hR
  have hRL := RLe.refl (M := []) w0 R
  refine wp_seq ?_
  refine wp_region_lit ?_
  refine sl_box hS hK (by decide) rfl rfl (c := [v0_0, v0_1]) rfl fun a w b_1 hS hK => ?_
  refine sl_alloc Try.zeroValue37 hS hK (by decide) rfl rfl fun a w b_2 hS hK => ?_
  refine wpList_nil ?_
  refine wp_seq ?_
  refine wp_seq ?_
  refine wp_region_lit ?_
  refine sl hK (by decide) rfl rfl (r_fieldAddr Try.underlying37 rfl Try.sizeOf35 hK rfl) fun a hK => ?_
  refine sl hK (by decide) rfl rfl (r_load Try.isAgg35 hK rfl (hS.cell (.tail _ (.head _)) rfl)) fun a hK => ?_
  refine sl hK (by decide) rfl rfl (r_len_R Try.underlying35 h0_1 hK rfl) fun a hK => ?_
  refine sl hK (by decide) rfl rfl (r_ibin hK rfl rfl rfl) fun a hK => ?_
  refine wpList_nil ?_
  refine wp_cond_split (hK.ev rfl) (fun (hb_3 : (decide ((a0.Rows.length : Int) > 200)) = true) => ?_) (fun (hb_3 : (decide ((a0.Rows.length : Int) > 200)) = false) => ?_)
  · rw [ifb_t hb_3] at H
    refine wp_region_lit ?_
    refine sl hK (by decide) rfl rfl (r_fieldAddr Try.underlying37 rfl Try.sizeOf35 hK rfl) fun a hK => ?_
    refine sl hK (by decide) rfl rfl (r_load Try.isAgg35 hK rfl (hS.cell (.tail _ (.head _)) rfl)) fun a hK => ?_
    obtain ⟨y_4, h_5, H⟩ := bind_some H
    obtain ⟨v_6, hs_7, hr_8⟩ := r_slice_R (x := .tmp 8) (lo := none) (hi := some (.const (.int .i64 200))) Try.underlying35 Try.sizeOf49 h0_1 h_5 hK rfl rfl ⟨_, rfl⟩
    refine sl hK (by decide) rfl rfl (hr_8 _ _ _ _ _ _ _ hK) fun a hK => ?_
    refine sl hK (by decide) rfl rfl (r_fieldAddr Try.underlying37 rfl Try.sizeOf35 hK rfl) fun a hK => ?_
    have hS := hS.pk1
    refine sl_store1 (c' := [v0_0, v_6]) Try.sizeOf35 hS hK rfl rfl rfl hs_7.one (Nat.le_of_ble_eq_true rfl) rfl fun a w hS hK => ?_
    refine wpList_nil ?_
    refine wp_seq ?_
    refine wp_region_lit ?_
    refine sl hK (by decide) rfl rfl (r_loadA (cs := [v0_0, v_6]) Try.isAgg37 Try.sizeOf37 rfl hK rfl (hS.cells_of (m := 2) (.head _) rfl)) fun a hK => ?_
    have hS := hS.pk1
    refine sl_storeA (vs := [v0_0, v_6]) (c' := [v0_0, v_6]) Try.sizeOf37 hS hK rfl rfl rfl rfl (all_cons h0_0.one (all_cons hs_7.one (all_nil))) (Nat.le_of_ble_eq_true rfl) rfl fun a w hS hK => ?_
    refine wpList_nil ?_
    obtain rfl := Option.some.inj H
    refine wp_ret ?_
    repeat (first | refine ret_then ?_ | refine ret_block ?_ | refine ret_scope ?_)
    exact ret_1 Try.results16 hK (rv_cell (c := [v0_0, v_6]) Try.isAgg37 Try.sizeOf37 hS (.head _) rfl hK rfl) ⟨_, rfl, _, _, _, rfl, (hS.trunc 0), hRL, h0_0, hs_7⟩
  · rw [ifb_f hb_3] at H
    refine wp_skip ?_
    refine wp_seq ?_
    refine wp_region_lit ?_
    refine sl hK (by decide) rfl rfl (r_loadA (cs := [v0_0, v0_1]) Try.isAgg37 Try.sizeOf37 rfl hK rfl (hS.cells_of (m := 2) (.tail _ (.head _)) rfl)) fun a hK => ?_
    refine sl_storeA (vs := [v0_0, v0_1]) (c' := [v0_0, v0_1]) Try.sizeOf37 hS hK rfl rfl rfl rfl (all_cons h0_0.one (all_cons h0_1.one (all_nil))) (Nat.le_of_ble_eq_true rfl) rfl fun a w hS hK => ?_
    refine wpList_nil ?_
    obtain rfl := Option.some.inj H
    refine wp_ret ?_
    repeat (first | refine ret_then ?_ | refine ret_block ?_ | refine ret_scope ?_)
    exact ret_1 Try.results16 hK (rv_cell (c := [v0_0, v0_1]) Try.isAgg37 Try.sizeOf37 hS (.head _) rfl hK rfl) ⟨_, rfl, _, _, _, rfl, (hS.trunc 0), hRL, h0_0, h0_1⟩

/-! ### catchment/catchmentref02.Name: function 46 -/
set_option maxHeartbeats 4000000 in
set_option maxRecDepth 100000 in
theorem ref02_Name.calls (a0 : ByteArray) {r : Bool} (H : ref02_Name a0 = some r) (w0 : World) : CallsV Try.prog 46 #[.string a0] w0 (.bool r) := by
  unfold ref02_Name at H
  refine enter (args := [.string a0]) Try.func46 rfl Try.ntmps46 rfl fun a hK => ?_
  have hS := St.init (R := fun _ => none) (w := w0) (fun _ _ h => by cases h)
  have hRL := RLe.refl (M := []) w0 (fun _ => none)
  refine wp_seq ?_
  refine wp_region_lit ?_
  refine sl hK (by decide) rfl rfl (r_assign hK rfl) fun a hK => ?_
  refine wpList_nil ?_
  refine wp_seq ?_
  refine wp_seq ?_
  refine wp_mid (fun a w => ∃ (x_8 : Bool), ref02_Name.j0 a0 x_8 = some r ∧ Kn 55 a [(0, .string a0), (22, .bool x_8)] ∧ St [] w0 w (fun _ => none) []) ?_ ?_
  · refine wp_region_lit ?_
    refine sl hK (by decide) rfl rfl (r_move hK rfl) fun a hK => ?_
    refine sl hK (by decide) rfl rfl (r_len_str Try.underlying9 hK rfl) fun a hK => ?_
    refine sl hK (by decide) rfl rfl (r_ibin hK rfl rfl rfl) fun a hK => ?_
    refine sl hK (by decide) rfl rfl (r_move hK rfl) fun a hK => ?_
    rcases or_b (decide ((a0.size : Int) < 1)) with hb_10 | hb_10
    · rw [ifb_t hb_10] at H
      refine sl_skip hK (by decide) (wft hb_10) rfl fun a hK => ?_
      refine sl_skip hK (by decide) (wft hb_10) rfl fun a hK => ?_
      refine sl_skip hK (by decide) (wft hb_10) rfl fun a hK => ?_
      refine sl hK (by decide) rfl rfl (r_pick_t hb_10 hK rfl rfl) fun a hK => ?_
      refine sl hK (by decide) rfl rfl (r_move hK rfl) fun a hK => ?_
      refine sl_skip hK (by decide) rfl rfl fun a hK => ?_
      refine sl_skip hK (by decide) rfl rfl fun a hK => ?_
      refine sl_skip hK (by decide) rfl rfl fun a hK => ?_
      refine sl hK (by decide) rfl rfl (r_pick hK rfl rfl rfl) fun a hK => ?_
      refine sl hK (by decide) rfl rfl (r_move hK rfl) fun a hK => ?_
      refine sl_skip hK (by decide) rfl rfl fun a hK => ?_
      refine sl_skip hK (by decide) rfl rfl fun a hK => ?_
      refine sl_skip hK (by decide) rfl rfl fun a hK => ?_
      refine sl hK (by decide) rfl rfl (r_pick hK rfl rfl rfl) fun a hK => ?_
      refine wpList_nil ?_
      exact ⟨true, H, hK.sub (all_cons rfl (all_cons rfl (all_nil))), hS⟩
    · rw [ifb_f hb_10] at H
      refine sl hK (by decide) (wff hb_10) rfl (r_move hK rfl) fun a hK => ?_
      refine sl hK (by decide) (wff hb_10) rfl (r_len_str Try.underlying9 hK rfl) fun a hK => ?_
      refine sl hK (by decide) (wff hb_10) rfl (r_ibin hK rfl rfl rfl) fun a hK => ?_
      refine sl hK (by decide) rfl rfl (r_pick_f hb_10 hK rfl rfl) fun a hK => ?_
      refine sl hK (by decide) rfl rfl (r_move hK rfl) fun a hK => ?_
      rcases or_b (decide ((a0.size : Int) > 24)) with hb_11 | hb_11
      · rw [ifb_t hb_11] at H
        refine sl_skip hK (by decide) (wft hb_11) rfl fun a hK => ?_
        refine sl_skip hK (by decide) (wft hb_11) rfl fun a hK => ?_
        refine sl_skip hK (by decide) (wft hb_11) rfl fun a hK => ?_
        refine sl hK (by decide) rfl rfl (r_pick_t hb_11 hK rfl rfl) fun a hK => ?_
        refine sl hK (by decide) rfl rfl (r_move hK rfl) fun a hK => ?_
        refine sl_skip hK (by decide) rfl rfl fun a hK => ?_
        refine sl_skip hK (by decide) rfl rfl fun a hK => ?_
        refine sl_skip hK (by decide) rfl rfl fun a hK => ?_
        refine sl hK (by decide) rfl rfl (r_pick hK rfl rfl rfl) fun a hK => ?_
        refine wpList_nil ?_
        exact ⟨true, H, hK.sub (all_cons rfl (all_cons rfl (all_nil))), hS⟩
      · rw [ifb_f hb_11] at H
        refine sl hK (by decide) (wff hb_11) rfl (r_move hK rfl) fun a hK => ?_
        obtain ⟨y_12, h_13, H⟩ := bind_some H
        refine sl hK (by decide) (wff hb_11) rfl (r_index_str' Try.underlying9 h_13 hK rfl rfl) fun a hK => ?_
        refine sl hK (by decide) (wff hb_11) rfl (r_ibin hK rfl rfl rfl) fun a hK => ?_
        refine sl hK (by decide) rfl rfl (r_pick_f hb_11 hK rfl rfl) fun a hK => ?_
        refine sl hK (by decide) rfl rfl (r_move hK rfl) fun a hK => ?_
        rcases or_b (decide (y_12 < 97)) with hb_14 | hb_14
        · rw [ifb_t hb_14] at H
          refine sl_skip hK (by decide) (wft hb_14) rfl fun a hK => ?_
          refine sl_skip hK (by decide) (wft hb_14) rfl fun a hK => ?_
          refine sl_skip hK (by decide) (wft hb_14) rfl fun a hK => ?_
          refine sl hK (by decide) rfl rfl (r_pick_t hb_14 hK rfl rfl) fun a hK => ?_
          refine wpList_nil ?_
          exact ⟨true, H, hK.sub (all_cons rfl (all_cons rfl (all_nil))), hS⟩
        · rw [ifb_f hb_14] at H
          refine sl hK (by decide) (wff hb_14) rfl (r_move hK rfl) fun a hK => ?_
          obtain ⟨y_15, h_16, H⟩ := bind_some H
          refine sl hK (by decide) (wff hb_14) rfl (r_index_str' Try.underlying9 h_16 hK rfl rfl) fun a hK => ?_
          refine sl hK (by decide) (wff hb_14) rfl (r_ibin hK rfl rfl rfl) fun a hK => ?_
          refine sl hK (by decide) rfl rfl (r_pick_f hb_14 hK rfl rfl) fun a hK => ?_
          refine wpList_nil ?_
          exact ⟨(decide (y_15 > 122)), H, hK.sub (all_cons rfl (all_cons rfl (all_nil))), hS⟩
  · rintro a w ⟨x_8, H, hK, hS⟩
    unfold ref02_Name.j0 at H
    refine wp_cond_split (hK.ev rfl) (fun (hb_17 : x_8 = true) => ?_) (fun (hb_17 : x_8 = false) => ?_)
    · rw [ifb_t hb_17] at H
      refine wp_seq ?_
      refine wp_region_lit ?_
      refine sl hK (by decide) rfl rfl (r_assign hK rfl) fun a hK => ?_
      refine wpList_nil ?_
      obtain rfl := Option.some.inj H
      refine wp_ret ?_
      repeat (first | refine ret_then ?_ | refine ret_block ?_ | refine ret_scope ?_)
      exact ret_1 Try.results46 hK (rv_tmp hK rfl) ⟨rfl, hS.bel⟩
    · rw [ifb_f hb_17] at H
      refine wp_skip ?_
      refine wp_seq ?_
      refine wp_seq ?_
      refine wp_region_lit ?_
      refine sl hK (by decide) rfl rfl (r_assign hK rfl) fun a hK => ?_
      refine wpList_nil ?_
      refine wp_block ?_
      refine wp_loop_k (fun k_l1 a w => ∃ (x_45 : Int), ref02_Name.l1 a0 k_l1 x_45 = some r ∧ Kn 55 a [(0, .string a0), (3, .int .i64 x_45)] ∧ St [] w0 w (fun _ => none) []) (((a0.size : Int) - 0).toNat + 1) ?_ ?_
      · exact ⟨0, H, hK.sub (all_cons rfl (all_cons rfl (all_nil))), hS⟩
      · rintro k_l1 a w ⟨x_45, H, hK, hS⟩
        cases k_l1 with
        | zero => cases H
        | succ k_l1 =>
        rw [ref02_Name.l1.eq_2] at H
        refine wp_seq ?_
        refine wp_seq ?_
        refine wp_region_lit ?_
        refine sl hK (by decide) rfl rfl (r_move hK rfl) fun a hK => ?_
        refine sl hK (by decide) rfl rfl (r_move hK rfl) fun a hK => ?_
        refine sl hK (by decide) rfl rfl (r_len_str Try.underlying9 hK rfl) fun a hK => ?_
        refine sl hK (by decide) rfl rfl (r_ibin hK rfl rfl rfl) fun a hK => ?_
        refine wpList_nil ?_
        refine wp_cond_split (hK.ev rfl) (fun (hb_73 : (decide (x_45 < (a0.size : Int))) = true) => ?_) (fun (hb_73 : (decide (x_45 < (a0.size : Int))) = false) => ?_)
        · rw [ifb_t hb_73] at H
          refine wp_skip ?_
          refine wp_seq ?_
          refine wp_block ?_
          refine wp_seq ?_
          refine wp_region_lit ?_
          refine sl hK (by decide) rfl rfl (r_move hK rfl) fun a hK => ?_
          refine sl hK (by decide) rfl rfl (r_move hK rfl) fun a hK => ?_
          obtain ⟨y_74, h_75, H⟩ := bind_some H
          refine sl hK (by decide) rfl rfl (r_index_str' Try.underlying9 h_75 hK rfl rfl) fun a hK => ?_
          refine sl hK (by decide) rfl rfl (r_assign hK rfl) fun a hK => ?_
          refine wpList_nil ?_
          refine wp_seq ?_
          refine wp_mid (fun a w => ∃ (x_86 : Bool), ref02_Name.j2 (ref02_Name.l1 a0 k_l1) a0 x_45 x_86 = some r ∧ Kn 55 a [(0, .string a0), (3, .int .i64 x_45), (54, .bool x_86)] ∧ St [] w0 w (fun _ => none) []) ?_ ?_
          · refine wp_region_lit ?_
            refine sl hK (by decide) rfl rfl (r_move hK rfl) fun a hK => ?_
            refine sl hK (by decide) rfl rfl (r_ibin hK rfl rfl rfl) fun a hK => ?_
            refine sl hK (by decide) rfl rfl (r_move hK rfl) fun a hK => ?_
            rcases or_b (decide (y_74 ≥ 97)) with hb_88 | hb_88
            · rw [ifb_t hb_88] at H
              refine sl hK (by decide) (wtt hb_88) rfl (r_move hK rfl) fun a hK => ?_
              refine sl hK (by decide) (wtt hb_88) rfl (r_ibin hK rfl rfl rfl) fun a hK => ?_
              refine sl hK (by decide) rfl rfl (r_pick_t hb_88 hK rfl rfl) fun a hK => ?_
              refine sl hK (by decide) rfl rfl (r_move hK rfl) fun a hK => ?_
              rcases or_b (decide (y_74 ≤ 122)) with hb_89 | hb_89
              · rw [ifb_t hb_89] at H
                refine sl_skip hK (by decide) (wft hb_89) rfl fun a hK => ?_
                refine sl_skip hK (by decide) (wft hb_89) rfl fun a hK => ?_
                refine sl_skip hK (by decide) (wft hb_89) rfl fun a hK => ?_
                refine sl_skip hK (by decide) rfl rfl fun a hK => ?_
                refine sl_skip hK (by decide) rfl rfl fun a hK => ?_
                refine sl_skip hK (by decide) (wft hb_89) rfl fun a hK => ?_
                refine sl hK (by decide) rfl rfl (r_pick_t hb_89 hK rfl rfl) fun a hK => ?_
                refine sl hK (by decide) rfl rfl (r_move hK rfl) fun a hK => ?_
                refine sl_skip hK (by decide) rfl rfl fun a hK => ?_
                refine sl_skip hK (by decide) rfl rfl fun a hK => ?_
                refine sl hK (by decide) rfl rfl (r_pick hK rfl rfl rfl) fun a hK => ?_
                refine sl hK (by decide) rfl rfl (r_move hK rfl) fun a hK => ?_
                refine sl_skip hK (by decide) rfl rfl fun a hK => ?_
                refine sl_skip hK (by decide) rfl rfl fun a hK => ?_
                refine sl hK (by decide) rfl rfl (r_pick hK rfl rfl rfl) fun a hK => ?_
                refine sl hK (by decide) rfl rfl (r_un hK rfl (u_not _)) fun a hK => ?_
                refine wpList_nil ?_
                exact ⟨false, H, hK.sub (all_cons rfl (all_cons rfl (all_cons rfl (all_nil)))), hS⟩
              · rw [ifb_f hb_89] at H
                refine sl hK (by decide) (wff hb_89) rfl (r_move hK rfl) fun a hK => ?_
                refine sl hK (by decide) (wff hb_89) rfl (r_ibin hK rfl rfl rfl) fun a hK => ?_
                refine sl hK (by decide) (wff hb_89) rfl (r_move hK rfl) fun a hK => ?_
                rcases or_b (decide (y_74 ≥ 48)) with hb_90 | hb_90
                · rw [ifb_t hb_90] at H
                  refine sl hK (by decide) (wtt hb_90) rfl (r_move hK rfl) fun a hK => ?_
                  refine sl hK (by decide) (wtt hb_90) rfl (r_ibin hK rfl rfl rfl) fun a hK => ?_
                  refine sl hK (by decide) (wff hb_89) rfl (r_pick_t hb_90 hK rfl rfl) fun a hK => ?_
                  refine sl hK (by decide) rfl rfl (r_pick_f hb_89 hK rfl rfl) fun a hK => ?_
                  refine sl hK (by decide) rfl rfl (r_move hK rfl) fun a hK => ?_
                  rcases or_b (decide (y_74 ≤ 57)) with hb_91 | hb_91
                  · rw [ifb_t hb_91] at H
                    refine sl_skip hK (by decide) (wft hb_91) rfl fun a hK => ?_
                    refine sl_skip hK (by decide) (wft hb_91) rfl fun a hK => ?_
                    refine sl hK (by decide) rfl rfl (r_pick_t hb_91 hK rfl rfl) fun a hK => ?_
                    refine sl hK (by decide) rfl rfl (r_move hK rfl) fun a hK => ?_
                    refine sl_skip hK (by decide) rfl rfl fun a hK => ?_
                    refine sl_skip hK (by decide) rfl rfl fun a hK => ?_
                    refine sl hK (by decide) rfl rfl (r_pick hK rfl rfl rfl) fun a hK => ?_
                    refine sl hK (by decide) rfl rfl (r_un hK rfl (u_not _)) fun a hK => ?_
                    refine wpList_nil ?_
                    exact ⟨false, H, hK.sub (all_cons rfl (all_cons rfl (all_cons rfl (all_nil)))), hS⟩
                  · rw [ifb_f hb_91] at H
                    refine sl hK (by decide) (wff hb_91) rfl (r_move hK rfl) fun a hK => ?_
                    refine sl hK (by decide) (wff hb_91) rfl (r_ibin hK rfl rfl rfl) fun a hK => ?_
                    refine sl hK (by decide) rfl rfl (r_pick_f hb_91 hK rfl rfl) fun a hK => ?_
                    refine sl hK (by decide) rfl rfl (r_move hK rfl) fun a hK => ?_
                    rcases or_b (y_74 == 95) with hb_92 | hb_92
                    · rw [ifb_t hb_92] at H
                      refine sl_skip hK (by decide) (wft hb_92) rfl fun a hK => ?_
                      refine sl_skip hK (by decide) (wft hb_92) rfl fun a hK => ?_
                      refine sl hK (by decide) rfl rfl (r_pick_t hb_92 hK rfl rfl) fun a hK => ?_
                      refine sl hK (by decide) rfl rfl (r_un hK rfl (u_not _)) fun a hK => ?_
                      refine wpList_nil ?_
                      exact ⟨false, H, hK.sub (all_cons rfl (all_cons rfl (all_cons rfl (all_nil)))), hS⟩
                    · rw [ifb_f hb_92] at H
                      refine sl hK (by decide) (wff hb_92) rfl (r_move hK rfl) fun a hK => ?_
                      refine sl hK (by decide) (wff hb_92) rfl (r_ibin hK rfl rfl rfl) fun a hK => ?_
                      refine sl hK (by decide) rfl rfl (r_pick_f hb_92 hK rfl rfl) fun a hK => ?_
                      refine sl hK (by decide) rfl rfl (r_un hK rfl (u_not _)) fun a hK => ?_
                      refine wpList_nil ?_
                      exact ⟨(!(y_74 == 35)), H, hK.sub (all_cons rfl (all_cons rfl (all_cons rfl (all_nil)))), hS⟩
                · rw [ifb_f hb_90] at H
                  refine sl_skip hK (by decide) (wtf hb_90) rfl fun a hK => ?_
                  refine sl_skip hK (by decide) (wtf hb_90) rfl fun a hK => ?_
                  refine sl hK (by decide) (wff hb_89) rfl (r_pick_f hb_90 hK rfl rfl) fun a hK => ?_
                  refine sl hK (by decide) rfl rfl (r_pick_f hb_89 hK rfl rfl) fun a hK => ?_
                  refine sl hK (by decide) rfl rfl (r_move hK rfl) fun a hK => ?_
                  refine sl hK (by decide) rfl rfl (r_move hK rfl) fun a hK => ?_
                  refine sl hK (by decide) rfl rfl (r_ibin hK rfl rfl rfl) fun a hK => ?_
                  refine sl hK (by decide) rfl rfl (r_pick hK rfl rfl rfl) fun a hK => ?_
                  refine sl hK (by decide) rfl rfl (r_move hK rfl) fun a hK => ?_
                  rcases or_b (y_74 == 95) with hb_93 | hb_93
                  · rw [ifb_t hb_93] at H
                    refine sl_skip hK (by decide) (wft hb_93) rfl fun a hK => ?_
                    refine sl_skip hK (by decide) (wft hb_93) rfl fun a hK => ?_
                    refine sl hK (by decide) rfl rfl (r_pick_t hb_93 hK rfl rfl) fun a hK => ?_
                    refine sl hK (by decide) rfl rfl (r_un hK rfl (u_not _)) fun a hK => ?_
                    refine wpList_nil ?_
                    exact ⟨false, H, hK.sub (all_cons rfl (all_cons rfl (all_cons rfl (all_nil)))), hS⟩
                  · rw [ifb_f hb_93] at H
                    refine sl hK (by decide) (wff hb_93) rfl (r_move hK rfl) fun a hK => ?_
                    refine sl hK (by decide) (wff hb_93) rfl (r_ibin hK rfl rfl rfl) fun a hK => ?_
                    refine sl hK (by decide) rfl rfl (r_pick_f hb_93 hK rfl rfl) fun a hK => ?_
                    refine sl hK (by decide) rfl rfl (r_un hK rfl (u_not _)) fun a hK => ?_
                    refine wpList_nil ?_
                    exact ⟨(!(y_74 == 35)), H, hK.sub (all_cons rfl (all_cons rfl (all_cons rfl (all_nil)))), hS⟩
            · rw [ifb_f hb_88] at H
              refine sl_skip hK (by decide) (wtf hb_88) rfl fun a hK => ?_
              refine sl_skip hK (by decide) (wtf hb_88) rfl fun a hK => ?_
              refine sl hK (by decide) rfl rfl (r_pick_f hb_88 hK rfl rfl) fun a hK => ?_
              refine sl hK (by decide) rfl rfl (r_move hK rfl) fun a hK => ?_
              refine sl hK (by decide) rfl rfl (r_move hK rfl) fun a hK => ?_
              refine sl hK (by decide) rfl rfl (r_ibin hK rfl rfl rfl) fun a hK => ?_
              refine sl hK (by decide) rfl rfl (r_move hK rfl) fun a hK => ?_
              rcases or_b (decide (y_74 ≥ 48)) with hb_94 | hb_94
              · rw [ifb_t hb_94] at H
                refine sl hK (by decide) (wtt hb_94) rfl (r_move hK rfl) fun a hK => ?_
                refine sl hK (by decide) (wtt hb_94) rfl (r_ibin hK rfl rfl rfl) fun a hK => ?_
                refine sl hK (by decide) rfl rfl (r_pick_t hb_94 hK rfl rfl) fun a hK => ?_
                refine sl hK (by decide) rfl rfl (r_pick hK rfl rfl rfl) fun a hK => ?_
                refine sl hK (by decide) rfl rfl (r_move hK rfl) fun a hK => ?_
                rcases or_b (decide (y_74 ≤ 57)) with hb_95 | hb_95
                · rw [ifb_t hb_95] at H
                  refine sl_skip hK (by decide) (wft hb_95) rfl fun a hK => ?_
                  refine sl_skip hK (by decide) (wft hb_95) rfl fun a hK => ?_
                  refine sl hK (by decide) rfl rfl (r_pick_t hb_95 hK rfl rfl) fun a hK => ?_
                  refine sl hK (by decide) rfl rfl (r_move hK rfl) fun a hK => ?_
                  refine sl_skip hK (by decide) rfl rfl fun a hK => ?_
                  refine sl_skip hK (by decide) rfl rfl fun a hK => ?_
                  refine sl hK (by decide) rfl rfl (r_pick hK rfl rfl rfl) fun a hK => ?_
                  refine sl hK (by decide) rfl rfl (r_un hK rfl (u_not _)) fun a hK => ?_
                  refine wpList_nil ?_
                  exact ⟨false, H, hK.sub (all_cons rfl (all_cons rfl (all_cons rfl (all_nil)))), hS⟩
                · rw [ifb_f hb_95] at H
                  refine sl hK (by decide) (wff hb_95) rfl (r_move hK rfl) fun a hK => ?_
                  refine sl hK (by decide) (wff hb_95) rfl (r_ibin hK rfl rfl rfl) fun a hK => ?_
                  refine sl hK (by decide) rfl rfl (r_pick_f hb_95 hK rfl rfl) fun a hK => ?_
                  refine sl hK (by decide) rfl rfl (r_move hK rfl) fun a hK => ?_
                  rcases or_b (y_74 == 95) with hb_96 | hb_96
                  · rw [ifb_t hb_96] at H
                    refine sl_skip hK (by decide) (wft hb_96) rfl fun a hK => ?_
                    refine sl_skip hK (by decide) (wft hb_96) rfl fun a hK => ?_
                    refine sl hK (by decide) rfl rfl (r_pick_t hb_96 hK rfl rfl) fun a hK => ?_
                    refine sl hK (by decide) rfl rfl (r_un hK rfl (u_not _)) fun a hK => ?_
                    refine wpList_nil ?_
                    exact ⟨false, H, hK.sub (all_cons rfl (all_cons rfl (all_cons rfl (all_nil)))), hS⟩
                  · rw [ifb_f hb_96] at H
                    refine sl hK (by decide) (wff hb_96) rfl (r_move hK rfl) fun a hK => ?_
                    refine sl hK (by decide) (wff hb_96) rfl (r_ibin hK rfl rfl rfl) fun a hK => ?_
                    refine sl hK (by decide) rfl rfl (r_pick_f hb_96 hK rfl rfl) fun a hK => ?_
                    refine sl hK (by decide) rfl rfl (r_un hK rfl (u_not _)) fun a hK => ?_
                    refine wpList_nil ?_
                    exact ⟨(!(y_74 == 35)), H, hK.sub (all_cons rfl (all_cons rfl (all_cons rfl (all_nil)))), hS⟩
              · rw [ifb_f hb_94] at H
                refine sl_skip hK (by decide) (wtf hb_94) rfl fun a hK => ?_
                refine sl_skip hK (by decide) (wtf hb_94) rfl fun a hK => ?_
                refine sl hK (by decide) rfl rfl (r_pick_f hb_94 hK rfl rfl) fun a hK => ?_
                refine sl hK (by decide) rfl rfl (r_pick hK rfl rfl rfl) fun a hK => ?_
                refine sl hK (by decide) rfl rfl (r_move hK rfl) fun a hK => ?_
                refine sl hK (by decide) rfl rfl (r_move hK rfl) fun a hK => ?_
                refine sl hK (by decide) rfl rfl (r_ibin hK rfl rfl rfl) fun a hK => ?_
                refine sl hK (by decide) rfl rfl (r_pick hK rfl rfl rfl) fun a hK => ?_
                refine sl hK (by decide) rfl rfl (r_move hK rfl) fun a hK => ?_
                rcases or_b (y_74 == 95) with hb_97 | hb_97
                · rw [ifb_t hb_97] at H
                  refine sl_skip hK (by decide) (wft hb_97) rfl fun a hK => ?_
                  refine sl_skip hK (by decide) (wft hb_97) rfl fun a hK => ?_
                  refine sl hK (by decide) rfl rfl (r_pick_t hb_97 hK rfl rfl) fun a hK => ?_
                  refine sl hK (by decide) rfl rfl (r_un hK rfl (u_not _)) fun a hK => ?_
                  refine wpList_nil ?_
                  exact ⟨false, H, hK.sub (all_cons rfl (all_cons rfl (all_cons rfl (all_nil)))), hS⟩
                · rw [ifb_f hb_97] at H
                  refine sl hK (by decide) (wff hb_97) rfl (r_move hK rfl) fun a hK => ?_
                  refine sl hK (by decide) (wff hb_97) rfl (r_ibin hK rfl rfl rfl) fun a hK => ?_
                  refine sl hK (by decide) rfl rfl (r_pick_f hb_97 hK rfl rfl) fun a hK => ?_
                  refine sl hK (by decide) rfl rfl (r_un hK rfl (u_not _)) fun a hK => ?_
                  refine wpList_nil ?_
                  exact ⟨(!(y_74 == 35)), H, hK.sub (all_cons rfl (all_cons rfl (all_cons rfl (all_nil)))), hS⟩
          · rintro a w ⟨x_86, H, hK, hS⟩
            unfold ref02_Name.j2 at H
            refine wp_cond_split (hK.ev rfl) (fun (hb_98 : x_86 = true) => ?_) (fun (hb_98 : x_86 = false) => ?_)
            · rw [ifb_t hb_98] at H
              refine wp_seq ?_
              refine wp_region_lit ?_
              refine sl hK (by decide) rfl rfl (r_assign hK rfl) fun a hK => ?_
              refine wpList_nil ?_
              obtain rfl := Option.some.inj H
              refine wp_ret ?_
              repeat (first | refine ret_then ?_ | refine ret_block ?_ | refine ret_scope ?_)
              exact ret_1 Try.results46 hK (rv_tmp hK rfl) ⟨rfl, hS.bel⟩
            · rw [ifb_f hb_98] at H
              refine wp_skip ?_
              refine wp_region_lit ?_
              refine sl hK (by decide) rfl rfl (r_move hK rfl) fun a hK => ?_
              refine sl hK (by decide) rfl rfl (r_ibin hK rfl rfl rfl) fun a hK => ?_
              refine sl hK (by decide) rfl rfl (r_assign hK rfl) fun a hK => ?_
              refine wpList_nil ?_
              exact ⟨_, Nat.lt_succ_self _, (IntKind.i64.wrap (x_45 + 1)), H, hK.sub (all_cons rfl (all_cons rfl (all_nil))), hS⟩
        · rw [ifb_f hb_73] at H
          refine wp_exit ?_
          refine wp_seq ?_
          refine wp_region_lit ?_
          refine sl hK (by decide) rfl rfl (r_assign hK rfl) fun a hK => ?_
          refine wpList_nil ?_
          obtain rfl := Option.some.inj H
          refine wp_ret ?_
          repeat (first | refine ret_then ?_ | refine ret_block ?_ | refine ret_scope ?_)
          exact ret_1 Try.results46 hK (rv_tmp hK rfl) ⟨rfl, hS.bel⟩

/-! ### catchment/catchmentref02.Find: function 47 -/
set_option maxHeartbeats 4000000 in
set_option maxRecDepth 100000 in
theorem ref02_Find.calls (a0 : List api_Col) (a1 : ByteArray) {w0 : World} {RA : Hp} {v0_0 : Value} (hRA : RA.sub w0) (h0_0 : SlR ty_api_Col RA v0_0 a0) {r : Int} (H : ref02_Find a0 a1 = some r) : CallsV Try.prog 47 #[v0_0, .string a1] w0 (.int .i64 r) := by
  unfold ref02_Find at H
  refine enter (args := [v0_0, .string a1]) Try.func47 rfl Try.ntmps47 rfl fun a hK => ?_
  have hS := St.init (R := fun _ => none) (w := w0) (fun _ _ h => by cases h)
  have hRL := RLe.refl (M := []) w0 (fun _ => none)
  refine wp_seq ?_
  refine wp_region_lit ?_
  refine sl hK (by decide) rfl rfl (r_assign hK rfl) fun a hK => ?_
  refine wpList_nil ?_
  refine wp_seq ?_
  refine wp_seq ?_
  refine wp_region_lit ?_
  refine sl hK (by decide) rfl rfl (r_assign hK rfl) fun a hK => ?_
  refine wpList_nil ?_
  refine wp_block ?_
  refine wp_loop_k (fun k_l0 a w => ∃ (x_13 : Int), ref02_Find.l0 a0 a1 k_l0 x_13 = some r ∧ Kn 20 a [(0, v0_0), (1, .string a1), (5, .int .i64 x_13)] ∧ St [] w0 w (fun _ => none) []) (((a0.length : Int) - 0).toNat + 1) ?_ ?_
  · exact ⟨0, H, hK.sub (all_cons rfl (all_cons rfl (all_cons rfl (all_nil)))), hS⟩
  · rintro k_l0 a w ⟨x_13, H, hK, hS⟩
    cases k_l0 with
    | zero => cases H
    | succ k_l0 =>
    rw [ref02_Find.l0.eq_2] at H
    refine wp_seq ?_
    refine wp_seq ?_
    refine wp_region_lit ?_
    refine sl hK (by decide) rfl rfl (r_move hK rfl) fun a hK => ?_
    refine sl hK (by decide) rfl rfl (r_move hK rfl) fun a hK => ?_
    refine sl hK (by decide) rfl rfl (r_len_R Try.underlying34 h0_0 hK rfl) fun a hK => ?_
    refine sl hK (by decide) rfl rfl (r_ibin hK rfl rfl rfl) fun a hK => ?_
    refine wpList_nil ?_
    refine wp_cond_split (hK.ev rfl) (fun (hb_26 : (decide (x_13 < (a0.length : Int))) = true) => ?_) (fun (hb_26 : (decide (x_13 < (a0.length : Int))) = false) => ?_)
    · rw [ifb_t hb_26] at H
      refine wp_skip ?_
      refine wp_seq ?_
      refine wp_block ?_
      refine wp_seq ?_
      refine wp_region_lit ?_
      refine sl hK (by decide) rfl rfl (r_move hK rfl) fun a hK => ?_
      refine sl hK (by decide) rfl rfl (r_move hK rfl) fun a hK => ?_
      obtain ⟨y_27, h_28, H⟩ := bind_some H
      obtain ⟨b_29, o_30, c_31, cs_32, hv_33, hr_34, hc_35, h_280, h_281⟩ := h0_0.ix h_28
      subst hr_34
      refine sl hK (by decide) rfl rfl (r_indexAddr_R Try.underlying34 Try.sizeOf48 hv_33 h_280 h_281 hK rfl rfl) fun a hK => ?_
      refine sl hK (by decide) rfl rfl (r_fieldAddr Try.underlying48 rfl Try.sizeOf9 hK rfl) fun a hK => ?_
      refine sl hK (by decide) rfl rfl (r_load Try.isAgg9 hK rfl ((hS.ra hRA nil_not).cell (hc_35 0 _ rfl))) fun a hK => ?_
      refine sl hK (by decide) rfl rfl (r_move hK rfl) fun a hK => ?_
      refine sl hK (by decide) rfl rfl (r_sbin hK rfl rfl rfl) fun a hK => ?_
      refine wpList_nil ?_
      refine wp_cond_split (hK.ev rfl) (fun (hb_36 : (y_27.Name.toList == a1.toList) = true) => ?_) (fun (hb_36 : (y_27.Name.toList == a1.toList) = false) => ?_)
      · rw [ifb_t hb_36] at H
        refine wp_seq ?_
        refine wp_region_lit ?_
        refine sl hK (by decide) rfl rfl (r_move hK rfl) fun a hK => ?_
        refine sl hK (by decide) rfl rfl (r_assign hK rfl) fun a hK => ?_
        refine wpList_nil ?_
        obtain rfl := Option.some.inj H
        refine wp_ret ?_
        repeat (first | refine ret_then ?_ | refine ret_block ?_ | refine ret_scope ?_)
        exact ret_1 Try.results47 hK (rv_tmp hK rfl) ⟨rfl, hS.bel⟩
      · rw [ifb_f hb_36] at H
        refine wp_skip ?_
        refine wp_region_lit ?_
        refine sl hK (by decide) rfl rfl (r_move hK rfl) fun a hK => ?_
        refine sl hK (by decide) rfl rfl (r_ibin hK rfl rfl rfl) fun a hK => ?_
        refine sl hK (by decide) rfl rfl (r_assign hK rfl) fun a hK => ?_
        refine wpList_nil ?_
        exact ⟨_, Nat.lt_succ_self _, (IntKind.i64.wrap (x_13 + 1)), H, hK.sub (all_cons rfl (all_cons rfl (all_cons rfl (all_nil)))), hS⟩
    · rw [ifb_f hb_26] at H
      refine wp_exit ?_
      refine wp_seq ?_
      refine wp_region_lit ?_
      refine sl hK (by decide) rfl rfl (r_assign hK rfl) fun a hK => ?_
      refine wpList_nil ?_
      obtain rfl := Option.some.inj H
      refine wp_ret ?_
      repeat (first | refine ret_then ?_ | refine ret_block ?_ | refine ret_scope ?_)
      exact ret_1 Try.results47 hK (rv_tmp hK rfl) ⟨rfl, hS.bel⟩

/-! ### catchment/catchmentref02.Cols: function 40 -/
set_option maxHeartbeats 4000000 in
set_option maxRecDepth 100000 in
theorem ref02_Cols.calls (a0 : List api_Col) {w0 : World} {RA : Hp} {v0_0 : Value} (hRA : RA.sub w0) (h0_0 : SlR ty_api_Col RA v0_0 a0) {r : Bool} (H : ref02_Cols a0 = some r) : CallsV Try.prog 40 #[v0_0] w0 (.bool r) := by
  unfold ref02_Cols at H
  refine enter (args := [v0_0]) Try.func40 rfl Try.ntmps40 rfl fun a hK => ?_
  have hS := St.init (R := fun _ => none) (w := w0) (fun _ _ h => by cases h)
  have hRL := RLe.refl (M := []) w0 (fun _ => none)
  refine wp_seq ?_
  refine wp_region_lit ?_
  refine sl hK (by decide) rfl rfl (r_assign hK rfl) fun a hK => ?_
  refine wpList_nil ?_
  refine wp_seq ?_
  refine wp_seq ?_
  refine wp_mid (fun a w => ∃ (x_2 : Bool), ref02_Cols.j0 a0 x_2 = some r ∧ Kn 52 a [(0, v0_0), (11, .bool x_2)] ∧ St [] w0 w (fun _ => none) []) ?_ ?_
  · refine wp_region_lit ?_
    refine sl hK (by decide) rfl rfl (r_move hK rfl) fun a hK => ?_
    refine sl hK (by decide) rfl rfl (r_len_R Try.underlying34 h0_0 hK rfl) fun a hK => ?_
    refine sl hK (by decide) rfl rfl (r_ibin hK rfl rfl rfl) fun a hK => ?_
    refine sl hK (by decide) rfl rfl (r_move hK rfl) fun a hK => ?_
    rcases or_b (decide ((a0.length : Int) < 1)) with hb_4 | hb_4
    · rw [ifb_t hb_4] at H
      refine sl_skip hK (by decide) (wft hb_4) rfl fun a hK => ?_
      refine sl_skip hK (by decide) (wft hb_4) rfl fun a hK => ?_
      refine sl_skip hK (by decide) (wft hb_4) rfl fun a hK => ?_
      refine sl hK (by decide) rfl rfl (r_pick_t hb_4 hK rfl rfl) fun a hK => ?_
      refine wpList_nil ?_
      exact ⟨true, H, hK.sub (all_cons rfl (all_cons rfl (all_nil))), hS⟩
    · rw [ifb_f hb_4] at H
      refine sl hK (by decide) (wff hb_4) rfl (r_move hK rfl) fun a hK => ?_
      refine sl hK (by decide) (wff hb_4) rfl (r_len_R Try.underlying34 h0_0 hK rfl) fun a hK => ?_
      refine sl hK (by decide) (wff hb_4) rfl (r_ibin hK rfl rfl rfl) fun a hK => ?_
      refine sl hK (by decide) rfl rfl (r_pick_f hb_4 hK rfl rfl) fun a hK => ?_
      refine wpList_nil ?_
      exact ⟨(decide ((a0.length : Int) > 16)), H, hK.sub (all_cons rfl (all_cons rfl (all_nil))), hS⟩
  · rintro a w ⟨x_2, H, hK, hS⟩
    unfold ref02_Cols.j0 at H
    refine wp_cond_split (hK.ev rfl) (fun (hb_5 : x_2 = true) => ?_) (fun (hb_5 : x_2 = false) => ?_)
    · rw [ifb_t hb_5] at H
      refine wp_seq ?_
      refine wp_region_lit ?_
      refine sl hK (by decide) rfl rfl (r_assign hK rfl) fun a hK => ?_
      refine wpList_nil ?_
      obtain rfl := Option.some.inj H
      refine wp_ret ?_
      repeat (first | refine ret_then ?_ | refine ret_block ?_ | refine ret_scope ?_)
      exact ret_1 Try.results40 hK (rv_tmp hK rfl) ⟨rfl, hS.bel⟩
    · rw [ifb_f hb_5] at H
      refine wp_skip ?_
      refine wp_seq ?_
      refine wp_seq ?_
      refine wp_region_lit ?_
      refine sl hK (by decide) rfl rfl (r_assign hK rfl) fun a hK => ?_
      refine wpList_nil ?_
      refine wp_block ?_
      refine wp_loop_k (fun k_l1 a w => ∃ (x_97 : Int), ref02_Cols.l1 a0 k_l1 x_97 = some r ∧ Kn 52 a [(0, v0_0), (3, .int .i64 x_97)] ∧ St [] w0 w (fun _ => none) []) (((a0.length : Int) - 0).toNat + 1) ?_ ?_
      · exact ⟨0, H, hK.sub (all_cons rfl (all_cons rfl (all_nil))), hS⟩
      · rintro k_l1 a w ⟨x_97, H, hK, hS⟩
        cases k_l1 with
        | zero => cases H
        | succ k_l1 =>
        rw [ref02_Cols.l1.eq_2] at H
        refine wp_seq ?_
        refine wp_seq ?_
        refine wp_region_lit ?_
        refine sl hK (by decide) rfl rfl (r_move hK rfl) fun a hK => ?_
        refine sl hK (by decide) rfl rfl (r_move hK rfl) fun a hK => ?_
        refine sl hK (by decide) rfl rfl (r_len_R Try.underlying34 h0_0 hK rfl) fun a hK => ?_
        refine sl hK (by decide) rfl rfl (r_ibin hK rfl rfl rfl) fun a hK => ?_
        refine wpList_nil ?_
        refine wp_cond_split (hK.ev rfl) (fun (hb_189 : (decide (x_97 < (a0.length : Int))) = true) => ?_) (fun (hb_189 : (decide (x_97 < (a0.length : Int))) = false) => ?_)
        · rw [ifb_t hb_189] at H
          refine wp_skip ?_
          refine wp_seq ?_
          refine wp_block ?_
          refine wp_seq ?_
          refine wp_mid (fun a w => ∃ (x_233 : Bool), ref02_Cols.j2 (ref02_Cols.l1 a0 k_l1) a0 x_97 x_233 = some r ∧ Kn 52 a [(0, v0_0), (3, .int .i64 x_97), (51, .bool x_233)] ∧ St [] w0 w (fun _ => none) []) ?_ ?_
          · refine wp_region_lit ?_
            refine sl hK (by decide) rfl rfl (r_move hK rfl) fun a hK => ?_
            refine sl hK (by decide) rfl rfl (r_move hK rfl) fun a hK => ?_
            obtain ⟨y_235, h_236, H⟩ := bind_some H
            obtain ⟨b_237, o_238, c_239, cs_240, hv_241, hr_242, hc_243, h_2360, h_2361⟩ := h0_0.ix h_236
            subst hr_242
            refine sl hK (by decide) rfl rfl (r_indexAddr_R Try.underlying34 Try.sizeOf48 hv_241 h_2360 h_2361 hK rfl rfl) fun a hK => ?_
            refine sl hK (by decide) rfl rfl (r_fieldAddr Try.underlying48 rfl Try.sizeOf9 hK rfl) fun a hK => ?_
            refine sl hK (by decide) rfl rfl (r_load Try.isAgg9 hK rfl ((hS.ra hRA nil_not).cell (hc_243 0 _ rfl))) fun a hK => ?_
            obtain ⟨y_244, h_245, H⟩ := bind_some H
            refine sl_callV Try.call46 hS hK (by decide) rfl rfl rfl (ref02_Name.calls y_235.Name h_245 _) fun a w hS hK => ?_
            refine sl hK (by decide) rfl rfl (r_un hK rfl (u_not _)) fun a hK => ?_
            refine sl hK (by decide) rfl rfl (r_move hK rfl) fun a hK => ?_
            rcases or_b (!y_244) with hb_246 | hb_246
            · rw [ifb_t hb_246] at H
              refine sl_skip hK (by decide) (wft hb_246) rfl fun a hK => ?_
              refine sl_skip hK (by decide) (wft hb_246) rfl fun a hK => ?_
              refine sl_skip hK (by decide) (wft hb_246) rfl fun a hK => ?_
              refine sl_skip hK (by decide) (wft hb_246) rfl fun a hK => ?_
              refine sl_skip hK (by decide) (wft hb_246) rfl fun a hK => ?_
              refine sl_skip hK (by decide) (wft hb_246) rfl fun a hK => ?_
              refine sl_skip hK (by decide) (wft hb_246) rfl fun a hK => ?_
              refine sl_skip hK (by decide) (wft hb_246) rfl fun a hK => ?_
              refine sl_skip hK (by decide) (wft hb_246) rfl fun a hK => ?_
              refine sl hK (by decide) rfl rfl (r_pick_t hb_246 hK rfl rfl) fun a hK => ?_
              refine sl hK (by decide) rfl rfl (r_move hK rfl) fun a hK => ?_
              refine sl_skip hK (by decide) rfl rfl fun a hK => ?_
              refine sl_skip hK (by decide) rfl rfl fun a hK => ?_
              refine sl_skip hK (by decide) rfl rfl fun a hK => ?_
              refine sl_skip hK (by decide) rfl rfl fun a hK => ?_
              refine sl_skip hK (by decide) rfl rfl fun a hK => ?_
              refine sl_skip hK (by decide) rfl rfl fun a hK => ?_
              refine sl hK (by decide) rfl rfl (r_pick hK rfl rfl rfl) fun a hK => ?_
              refine sl hK (by decide) rfl rfl (r_move hK rfl) fun a hK => ?_
              refine sl_skip hK (by decide) rfl rfl fun a hK => ?_
              refine sl_skip hK (by decide) rfl rfl fun a hK => ?_
              refine sl_skip hK (by decide) rfl rfl fun a hK => ?_
              refine sl_skip hK (by decide) rfl rfl fun a hK => ?_
              refine sl_skip hK (by decide) rfl rfl fun a hK => ?_
              refine sl_skip hK (by decide) rfl rfl fun a hK => ?_
              refine sl hK (by decide) rfl rfl (r_pick hK rfl rfl rfl) fun a hK => ?_
              refine wpList_nil ?_
              exact ⟨true, H, hK.sub (all_cons rfl (all_cons rfl (all_cons rfl (all_nil)))), hS⟩
            · rw [ifb_f hb_246] at H
              refine sl hK (by decide) (wff hb_246) rfl (r_move hK rfl) fun a hK => ?_
              refine sl hK (by decide) (wff hb_246) rfl (r_move hK rfl) fun a hK => ?_
              refine sl hK (by decide) (wff hb_246) rfl (r_move hK rfl) fun a hK => ?_
              obtain ⟨y_247, h_248, H⟩ := bind_some H
              obtain ⟨b_249, o_250, c_251, cs_252, hv_253, hr_254, hc_255, h_2480, h_2481⟩ := h0_0.ix h_248
              subst hr_254
              refine sl hK (by decide) (wff hb_246) rfl (r_indexAddr_R Try.underlying34 Try.sizeOf48 hv_253 h_2480 h_2481 hK rfl rfl) fun a hK => ?_
              refine sl hK (by decide) (wff hb_246) rfl (r_fieldAddr Try.underlying48 rfl Try.sizeOf9 hK rfl) fun a hK => ?_
              refine sl hK (by decide) (wff hb_246) rfl (r_load Try.isAgg9 hK rfl ((hS.ra hRA nil_not).cell (hc_255 0 _ rfl))) fun a hK => ?_
              obtain ⟨y_256, h_257, H⟩ := bind_some H
              refine sl_callV Try.call47 hS hK (by decide) (wff hb_246) rfl rfl (ref02_Find.calls a0 y_247.Name (lentOf_sub [] _) (h0_0.mono (hS.raLe0 hRA nil_not)) h_257) fun a w hS hK => ?_
              refine sl hK (by decide) (wff hb_246) rfl (r_move hK rfl) fun a hK => ?_
              refine sl hK (by decide) (wff hb_246) rfl (r_ibin hK rfl rfl rfl) fun a hK => ?_
              refine sl hK (by decide) rfl rfl (r_pick_f hb_246 hK rfl rfl) fun a hK => ?_
              refine sl hK (by decide) rfl rfl (r_move hK rfl) fun a hK => ?_
              rcases or_b (y_256 != x_97) with hb_258 | hb_258
              · rw [ifb_t hb_258] at H
                refine sl_skip hK (by decide) (wft hb_258) rfl fun a hK => ?_
                refine sl_skip hK (by decide) (wft hb_258) rfl fun a hK => ?_
                refine sl_skip hK (by decide) (wft hb_258) rfl fun a hK => ?_
                refine sl_skip hK (by decide) (wft hb_258) rfl fun a hK => ?_
                refine sl_skip hK (by decide) (wft hb_258) rfl fun a hK => ?_
                refine sl_skip hK (by decide) (wft hb_258) rfl fun a hK => ?_
                refine sl hK (by decide) rfl rfl (r_pick_t hb_258 hK rfl rfl) fun a hK => ?_
                refine sl hK (by decide) rfl rfl (r_move hK rfl) fun a hK => ?_
                refine sl_skip hK (by decide) rfl rfl fun a hK => ?_
                refine sl_skip hK (by decide) rfl rfl fun a hK => ?_
                refine sl_skip hK (by decide) rfl rfl fun a hK => ?_
                refine sl_skip hK (by decide) rfl rfl fun a hK => ?_
                refine sl_skip hK (by decide) rfl rfl fun a hK => ?_
                refine sl_skip hK (by decide) rfl rfl fun a hK => ?_
                refine sl hK (by decide) rfl rfl (r_pick hK rfl rfl rfl) fun a hK => ?_
                refine wpList_nil ?_
                exact ⟨true, H, hK.sub (all_cons rfl (all_cons rfl (all_cons rfl (all_nil)))), hS⟩
              · rw [ifb_f hb_258] at H
                refine sl hK (by decide) (wff hb_258) rfl (r_move hK rfl) fun a hK => ?_
                refine sl hK (by decide) (wff hb_258) rfl (r_move hK rfl) fun a hK => ?_
                obtain ⟨y_259, h_260, H⟩ := bind_some H
                obtain ⟨b_261, o_262, c_263, cs_264, hv_265, hr_266, hc_267, h_2600, h_2601⟩ := h0_0.ix h_260
                subst hr_266
                refine sl hK (by decide) (wff hb_258) rfl (r_indexAddr_R Try.underlying34 Try.sizeOf48 hv_265 h_2600 h_2601 hK rfl rfl) fun a hK => ?_
                refine sl hK (by decide) (wff hb_258) rfl (r_fieldAddr Try.underlying48 rfl Try.sizeOf3 hK rfl) fun a hK => ?_
                refine sl hK (by decide) (wff hb_258) rfl (r_load Try.isAgg3 hK rfl ((hS.ra hRA nil_not).cell (hc_267 1 _ rfl))) fun a hK => ?_
                refine sl hK (by decide) (wff hb_258) rfl (r_ibin hK rfl rfl rfl) fun a hK => ?_
                refine sl hK (by decide) rfl rfl (r_pick_f hb_258 hK rfl rfl) fun a hK => ?_
                refine sl hK (by decide) rfl rfl (r_move hK rfl) fun a hK => ?_
                rcases or_b (decide (y_259.Kind < 1)) with hb_268 | hb_268
                · rw [ifb_t hb_268] at H
                  refine sl_skip hK (by decide) (wft hb_268) rfl fun a hK => ?_
                  refine sl_skip hK (by decide) (wft hb_268) rfl fun a hK => ?_
                  refine sl_skip hK (by decide) (wft hb_268) rfl fun a hK => ?_
                  refine sl_skip hK (by decide) (wft hb_268) rfl fun a hK => ?_
                  refine sl_skip hK (by decide) (wft hb_268) rfl fun a hK => ?_
                  refine sl_skip hK (by decide) (wft hb_268) rfl fun a hK => ?_
                  refine sl hK (by decide) rfl rfl (r_pick_t hb_268 hK rfl rfl) fun a hK => ?_
                  refine wpList_nil ?_
                  exact ⟨true, H, hK.sub (all_cons rfl (all_cons rfl (all_cons rfl (all_nil)))), hS⟩
                · rw [ifb_f hb_268] at H
                  refine sl hK (by decide) (wff hb_268) rfl (r_move hK rfl) fun a hK => ?_
                  refine sl hK (by decide) (wff hb_268) rfl (r_move hK rfl) fun a hK => ?_
                  obtain ⟨y_269, h_270, H⟩ := bind_some H
                  obtain ⟨b_271, o_272, c_273, cs_274, hv_275, hr_276, hc_277, h_2700, h_2701⟩ := h0_0.ix h_270
                  subst hr_276
                  refine sl hK (by decide) (wff hb_268) rfl (r_indexAddr_R Try.underlying34 Try.sizeOf48 hv_275 h_2700 h_2701 hK rfl rfl) fun a hK => ?_
                  refine sl hK (by decide) (wff hb_268) rfl (r_fieldAddr Try.underlying48 rfl Try.sizeOf3 hK rfl) fun a hK => ?_
                  refine sl hK (by decide) (wff hb_268) rfl (r_load Try.isAgg3 hK rfl ((hS.ra hRA nil_not).cell (hc_277 1 _ rfl))) fun a hK => ?_
                  refine sl hK (by decide) (wff hb_268) rfl (r_ibin hK rfl rfl rfl) fun a hK => ?_
                  refine sl hK (by decide) rfl rfl (r_pick_f hb_268 hK rfl rfl) fun a hK => ?_
                  refine wpList_nil ?_
                  exact ⟨(decide (y_269.Kind > 4)), H, hK.sub (all_cons rfl (all_cons rfl (all_cons rfl (all_nil)))), hS⟩
          · rintro a w ⟨x_233, H, hK, hS⟩
            unfold ref02_Cols.j2 at H
            refine wp_cond_split (hK.ev rfl) (fun (hb_278 : x_233 = true) => ?_) (fun (hb_278 : x_233 = false) => ?_)
            · rw [ifb_t hb_278] at H
              refine wp_seq ?_
              refine wp_region_lit ?_
              refine sl hK (by decide) rfl rfl (r_assign hK rfl) fun a hK => ?_
              refine wpList_nil ?_
              obtain rfl := Option.some.inj H
              refine wp_ret ?_
              repeat (first | refine ret_then ?_ | refine ret_block ?_ | refine ret_scope ?_)
              exact ret_1 Try.results40 hK (rv_tmp hK rfl) ⟨rfl, hS.bel⟩
            · rw [ifb_f hb_278] at H
              refine wp_skip ?_
              refine wp_region_lit ?_
              refine sl hK (by decide) rfl rfl (r_move hK rfl) fun a hK => ?_
              refine sl hK (by decide) rfl rfl (r_ibin hK rfl rfl rfl) fun a hK => ?_
              refine sl hK (by decide) rfl rfl (r_assign hK rfl) fun a hK => ?_
              refine wpList_nil ?_
              exact ⟨_, Nat.lt_succ_self _, (IntKind.i64.wrap (x_97 + 1)), H, hK.sub (all_cons rfl (all_cons rfl (all_nil))), hS⟩
        · rw [ifb_f hb_189] at H
          refine wp_exit ?_
          refine wp_seq ?_
          refine wp_region_lit ?_
          refine sl hK (by decide) rfl rfl (r_assign hK rfl) fun a hK => ?_
          refine wpList_nil ?_
          obtain rfl := Option.some.inj H
          refine wp_ret ?_
          repeat (first | refine ret_then ?_ | refine ret_block ?_ | refine ret_scope ?_)
          exact ret_1 Try.results40 hK (rv_tmp hK rfl) ⟨rfl, hS.bel⟩

/-! ### catchment/catchmentref02.Check: function 33 -/
set_option maxHeartbeats 4000000 in
set_option maxRecDepth 100000 in
theorem ref02_Check.calls (a0 : api_Table) {w0 : World} {RA : Hp} {v0_0 : Value} {v0_1 : Value} (hRA : RA.sub w0) (h0_0 : SlR ty_api_Col RA v0_0 a0.Cols) (h0_1 : SlR (tySl ty_api_Value) RA v0_1 a0.Rows) {r : Int} (H : ref02_Check a0 = some r) : CallsV Try.prog 33 #[.agg #[v0_0, v0_1]] w0 (.int .i64 r) := by
  unfold ref02_Check at H
  refine enter (args := [.agg #[v0_0, v0_1]]) Try.func33 rfl Try.ntmps33 rfl fun a hK => ?_
  have hS := St.init (R := fun _ => none) (w := w0) (fun _ _ h => by cases h)
  have hRL := RLe.refl (M := []) w0 (fun _ => none)
  refine wp_seq ?_
  refine wp_region_lit ?_
  refine sl_box hS hK (by decide) rfl rfl (c := [v0_0, v0_1]) rfl fun a w b_1 hS hK => ?_
  refine sl hK (by decide) rfl rfl (r_assign hK rfl) fun a hK => ?_
  refine wpList_nil ?_
  refine wp_seq ?_
  refine wp_seq ?_
  refine wp_region_lit ?_
  refine sl hK (by decide) rfl rfl (r_fieldAddr Try.underlying37 rfl Try.sizeOf34 hK rfl) fun a hK => ?_
  refine sl hK (by decide) rfl rfl (r_load Try.isAgg34 hK rfl (hS.cell (.head _) rfl)) fun a hK => ?_
  obtain ⟨y_2, h_3, H⟩ := bind_some H
  refine sl_callV Try.call40 hS hK (by decide) rfl rfl rfl (ref02_Cols.calls a0.Cols (lentOf_sub [] _) (h0_0.mono (hS.raLe0 hRA nil_not)) h_3) fun a w hS hK => ?_
  refine sl hK (by decide) rfl rfl (r_un hK rfl (u_not _)) fun a hK => ?_
  refine wpList_nil ?_
  refine wp_cond_split (hK.ev rfl) (fun (hb_4 : (!y_2) = true) => ?_) (fun (hb_4 : (!y_2) = false) => ?_)
  · rw [ifb_t hb_4] at H
    refine wp_seq ?_
    refine wp_region_lit ?_
    refine sl hK (by decide) rfl rfl (r_assign hK rfl) fun a hK => ?_
    refine wpList_nil ?_
    obtain rfl := Option.some.inj H
    refine wp_ret ?_
    repeat (first | refine ret_then ?_ | refine ret_block ?_ | refine ret_scope ?_)
    exact ret_1 Try.results33 hK (rv_tmp hK rfl) ⟨rfl, hS.bel⟩
  · rw [ifb_f hb_4] at H
    refine wp_skip ?_
    refine wp_seq ?_
    refine wp_seq ?_
    refine wp_region_lit ?_
    refine sl hK (by decide) rfl rfl (r_assign hK rfl) fun a hK => ?_
    refine wpList_nil ?_
    refine wp_block ?_
    refine wp_loop_k (fun k_l0 a w => ∃ (x_669 : Int), ref02_Check.l0 a0 k_l0 x_669 = some r ∧ Kn 61 a [(1, .pointer (some ⟨b_1, 0, none⟩)), (3, .int .i64 x_669)] ∧ St [] w0 w (fun _ => none) [.cells b_1 [v0_0, v0_1] 37]) (((a0.Rows.length : Int) - 0).toNat + 1) ?_ ?_
    · exact ⟨0, H, hK.sub (all_cons rfl (all_cons rfl (all_nil))), hS⟩
    · rintro k_l0 a w ⟨x_669, H, hK, hS⟩
      cases k_l0 with
      | zero => cases H
      | succ k_l0 =>
      rw [ref02_Check.l0.eq_2] at H
      refine wp_seq ?_
      refine wp_seq ?_
      refine wp_region_lit ?_
      refine sl hK (by decide) rfl rfl (r_move hK rfl) fun a hK => ?_
      refine sl hK (by decide) rfl rfl (r_fieldAddr Try.underlying37 rfl Try.sizeOf35 hK rfl) fun a hK => ?_
      refine sl hK (by decide) rfl rfl (r_load Try.isAgg35 hK rfl (hS.cell (.head _) rfl)) fun a hK => ?_
      refine sl hK (by decide) rfl rfl (r_len_R Try.underlying35 h0_1 hK rfl) fun a hK => ?_
      refine sl hK (by decide) rfl rfl (r_ibin hK rfl rfl rfl) fun a hK => ?_
      refine wpList_nil ?_
      refine wp_cond_split (hK.ev rfl) (fun (hb_1334 : (decide (x_669 < (a0.Rows.length : Int))) = true) => ?_) (fun (hb_1334 : (decide (x_669 < (a0.Rows.length : Int))) = false) => ?_)
      · rw [ifb_t hb_1334] at H
        refine wp_skip ?_
        refine wp_seq ?_
        refine wp_block ?_
        refine wp_seq ?_
        refine wp_seq ?_
        refine par_region (C := fun w => St [] w0 w (fun _ => none) [.cells b_1 [v0_0, v0_1] 37]) [(0, true), (1, true), (2, true), (3, true), (4, true), (5, true), (6, true), (7, true), (8, true), (9, true)] mixed (by kernel_rfl) hS (fun w hS => hS) fun w hS => ?_
        refine sp (k := 0) rfl hK (by decide) rfl rfl (fun w hS => r_fieldAddr Try.underlying37 rfl Try.sizeOf35 hK rfl) fun a hK => ?_
        refine sp (k := 1) rfl hK (by decide) rfl rfl (fun w hS => r_load Try.isAgg35 hK rfl (hS.cell (.head _) rfl)) fun a hK => ?_
        refine sp (k := 2) rfl hK (by decide) rfl rfl (fun w hS => r_move hK rfl) fun a hK => ?_
        obtain ⟨y_1346, h_1347, H⟩ := bind_some H
        obtain ⟨b_1348, o_1349, c_1350, cs_1351, hv_1352, hr_1353, hc_1354, h_13470, h_13471⟩ := h0_1.ix h_1347
        obtain ⟨v_1355, rfl, hs_1356⟩ := hr_1353
        refine sp (k := 3) rfl hK (by decide) rfl rfl (fun w hS => r_indexAddr_R Try.underlying35 Try.sizeOf49 hv_1352 h_13470 h_13471 hK rfl rfl) fun a hK => ?_
        refine sp (k := 4) rfl hK (by decide) rfl rfl (fun w hS => r_load Try.isAgg49 hK rfl ((hS.ra hRA nil_not).cell (hc_1354 0 _ rfl))) fun a hK => ?_
        refine sp (k := 5) rfl hK (by decide) rfl rfl (fun w hS => r_len_R Try.underlying49 hs_1356 hK rfl) fun a hK => ?_
        refine sp (k := 6) rfl hK (by decide) rfl rfl (fun w hS => r_fieldAddr Try.underlying37 rfl Try.sizeOf34 hK rfl) fun a hK => ?_
        refine sp (k := 7) rfl hK (by decide) rfl rfl (fun w hS => r_load Try.isAgg34 hK rfl (hS.cell (.head _) rfl)) fun a hK => ?_
        refine sp (k := 8) rfl hK (by decide) rfl rfl (fun w hS => r_len_R Try.underlying34 h0_0 hK rfl) fun a hK => ?_
        refine sp (k := 9) rfl hK (by decide) rfl rfl (fun w hS => r_ibin hK rfl rfl rfl) fun a hK => ?_
        refine wpPar_nil (NoP_nil ?_)
        refine wp_cond_split (hK.ev rfl) (fun (hb_1357 : ((y_1346.length : Int) != (a0.Cols.length : Int)) = true) => ?_) (fun (hb_1357 : ((y_1346.length : Int) != (a0.Cols.length : Int)) = false) => ?_)
        · rw [ifb_t hb_1357] at H
          refine wp_seq ?_
          refine wp_region_lit ?_
          refine sl hK (by decide) rfl rfl (r_assign hK rfl) fun a hK => ?_
          refine wpList_nil ?_
          obtain rfl := Option.some.inj H
          refine wp_ret ?_
          repeat (first | refine ret_then ?_ | refine ret_block ?_ | refine ret_scope ?_)
          exact ret_1 Try.results33 hK (rv_tmp hK rfl) ⟨rfl, hS.bel⟩
        · rw [ifb_f hb_1357] at H
          refine wp_skip ?_
          refine wp_seq ?_
          refine wp_region_lit ?_
          refine sl hK (by decide) rfl rfl (r_assign hK rfl) fun a hK => ?_
          refine wpList_nil ?_
          refine wp_block ?_
          refine wp_loop_k (fun k_l1 a w => ∃ (x_1571 : Int), ref02_Check.l1 (ref02_Check.l0 a0 k_l0) a0 x_669 k_l1 x_1571 = some r ∧ Kn 61 a [(1, .pointer (some ⟨b_1, 0, none⟩)), (3, .int .i64 x_669), (4, .int .i64 x_1571)] ∧ St [] w0 w (fun _ => none) [.cells b_1 [v0_0, v0_1] 37]) (((a0.Cols.length : Int) - 0).toNat + 1) ?_ ?_
          · exact ⟨0, H, hK.sub (all_cons rfl (all_cons rfl (all_cons rfl (all_nil)))), hS⟩
          · rintro k_l1 a w ⟨x_1571, H, hK, hS⟩
            cases k_l1 with
            | zero => cases H
            | succ k_l1 =>
            rw [ref02_Check.l1.eq_2] at H
            refine wp_seq ?_
            refine wp_seq ?_
            refine wp_region_lit ?_
            refine sl hK (by decide) rfl rfl (r_move hK rfl) fun a hK => ?_
            refine sl hK (by decide) rfl rfl (r_fieldAddr Try.underlying37 rfl Try.sizeOf34 hK rfl) fun a hK => ?_
            refine sl hK (by decide) rfl rfl (r_load Try.isAgg34 hK rfl (hS.cell (.head _) rfl)) fun a hK => ?_
            refine sl hK (by decide) rfl rfl (r_len_R Try.underlying34 h0_0 hK rfl) fun a hK => ?_
            refine sl hK (by decide) rfl rfl (r_ibin hK rfl rfl rfl) fun a hK => ?_
            refine wpList_nil ?_
            refine wp_cond_split (hK.ev rfl) (fun (hb_1785 : (decide (x_1571 < (a0.Cols.length : Int))) = true) => ?_) (fun (hb_1785 : (decide (x_1571 < (a0.Cols.length : Int))) = false) => ?_)
            · rw [ifb_t hb_1785] at H
              refine wp_skip ?_
              refine wp_seq ?_
              refine wp_block ?_
              refine wp_seq ?_
              refine wp_mid (fun a w => ∃ (x_1890 : Bool), ref02_Check.j2 (ref02_Check.l1 (ref02_Check.l0 a0 k_l0) a0 x_669 k_l1) a0 x_1571 x_1890 = some r ∧ Kn 61 a [(1, .pointer (some ⟨b_1, 0, none⟩)), (3, .int .i64 x_669), (4, .int .i64 x_1571), (60, .bool x_1890)] ∧ St [] w0 w (fun _ => none) [.cells b_1 [v0_0, v0_1] 37]) ?_ ?_
              · refine parT_region (C := fun w => St [] w0 w (fun _ => none) [.cells b_1 [v0_0, v0_1] 37]) 23 [(0, true), (1, true), (2, true), (3, true), (4, true), (5, true), (6, true), (7, true), (8, true), (9, true), (10, true), (11, true), (12, true), (13, true), (14, true), (15, true), (16, true), (17, true), (18, true), (19, true), (20, true), (21, true), (22, true)] mixed (by kernel_rfl) hS (fun w hS => hS) fun w hS => ?_
                refine sp (k := 0) rfl hK (by decide) rfl rfl (fun w hS => r_fieldAddr Try.underlying37 rfl Try.sizeOf35 hK rfl) fun a hK => ?_
                refine sp (k := 1) rfl hK (by decide) rfl rfl (fun w hS => r_load Try.isAgg35 hK rfl (hS.cell (.head _) rfl)) fun a hK => ?_
                refine sp (k := 2) rfl hK (by decide) rfl rfl (fun w hS => r_move hK rfl) fun a hK => ?_
                obtain ⟨y_1944, h_1945, H⟩ := bind_some H
                obtain ⟨b_1946, o_1947, c_1948, cs_1949, hv_1950, hr_1951, hc_1952, h_19450, h_19451⟩ := h0_1.ix h_1945
                obtain ⟨v_1953, rfl, hs_1954⟩ := hr_1951
                refine sp (k := 3) rfl hK (by decide) rfl rfl (fun w hS => r_indexAddr_R Try.underlying35 Try.sizeOf49 hv_1950 h_19450 h_19451 hK rfl rfl) fun a hK => ?_
                refine sp (k := 4) rfl hK (by decide) rfl rfl (fun w hS => r_load Try.isAgg49 hK rfl ((hS.ra hRA nil_not).cell (hc_1952 0 _ rfl))) fun a hK => ?_
                refine sp (k := 5) rfl hK (by decide) rfl rfl (fun w hS => r_move hK rfl) fun a hK => ?_
                obtain ⟨y_1955, h_1956, H⟩ := bind_some H
                obtain ⟨b_1957, o_1958, c_1959, cs_1960, hv_1961, hr_1962, hc_1963, h_19560, h_19561⟩ := hs_1954.ix h_1956
                subst hr_1962
                refine sp (k := 6) rfl hK (by decide) rfl rfl (fun w hS => r_indexAddr_R Try.underlying49 Try.sizeOf25 hv_1961 h_19560 h_19561 hK rfl rfl) fun a hK => ?_
                refine sp (k := 7) rfl hK (by decide) rfl rfl (fun w hS => r_fieldAddr Try.underlying25 rfl Try.sizeOf3 hK rfl) fun a hK => ?_
                refine sp (k := 8) rfl hK (by decide) rfl rfl (fun w hS => r_load Try.isAgg3 hK rfl ((hS.ra hRA nil_not).cell (hc_1963 0 _ rfl))) fun a hK => ?_
                refine sp (k := 9) rfl hK (by decide) rfl rfl (fun w hS => r_fieldAddr Try.underlying37 rfl Try.sizeOf34 hK rfl) fun a hK => ?_
                refine sp (k := 10) rfl hK (by decide) rfl rfl (fun w hS => r_load Try.isAgg34 hK rfl (hS.cell (.head _) rfl)) fun a hK => ?_
                refine sp (k := 11) rfl hK (by decide) rfl rfl (fun w hS => r_move hK rfl) fun a hK => ?_
                obtain ⟨y_1964, h_1965, H⟩ := bind_some H
                obtain ⟨b_1966, o_1967, c_1968, cs_1969, hv_1970, hr_1971, hc_1972, h_19650, h_19651⟩ := h0_0.ix h_1965
                subst hr_1971
                refine sp (k := 12) rfl hK (by decide) rfl rfl (fun w hS => r_indexAddr_R Try.underlying34 Try.sizeOf48 hv_1970 h_19650 h_19651 hK rfl rfl) fun a hK => ?_
                refine sp (k := 13) rfl hK (by decide) rfl rfl (fun w hS => r_fieldAddr Try.underlying48 rfl Try.sizeOf3 hK rfl) fun a hK => ?_
                refine sp (k := 14) rfl hK (by decide) rfl rfl (fun w hS => r_load Try.isAgg3 hK rfl ((hS.ra hRA nil_not).cell (hc_1972 1 _ rfl))) fun a hK => ?_
                refine sp (k := 15) rfl hK (by decide) rfl rfl (fun w hS => r_ibin hK rfl rfl rfl) fun a hK => ?_
                refine sp (k := 16) rfl hK (by decide) rfl rfl (fun w hS => r_move hK rfl) fun a hK => ?_
                rcases or_b (y_1955.Kind != y_1964.Kind) with hb_1973 | hb_1973
                · rw [ifb_t hb_1973] at H
                  refine sp_skip (k := 17) rfl hK (by decide) (wft hb_1973) rfl fun a hK => ?_
                  refine sp_skip (k := 18) rfl hK (by decide) (wft hb_1973) rfl fun a hK => ?_
                  refine sp_skip (k := 19) rfl hK (by decide) (wft hb_1973) rfl fun a hK => ?_
                  refine sp_skip (k := 20) rfl hK (by decide) (wft hb_1973) rfl fun a hK => ?_
                  refine sp_skip (k := 21) rfl hK (by decide) (wft hb_1973) rfl fun a hK => ?_
                  refine sp_skip (k := 22) rfl hK (by decide) (wft hb_1973) rfl fun a hK => ?_
                  refine thenL_nil ?_
                  refine sl_skip hK (by decide) (wft hb_1973) rfl fun a hK => ?_
                  refine sl_skip hK (by decide) (wft hb_1973) rfl fun a hK => ?_
                  refine sl_skip hK (by decide) (wft hb_1973) rfl fun a hK => ?_
                  refine sl_skip hK (by decide) (wft hb_1973) rfl fun a hK => ?_
                  refine sl hK (by decide) rfl rfl (r_pick_t hb_1973 hK rfl rfl) fun a hK => ?_
                  refine wpList_nil (NoP_nil ?_)
                  exact ⟨true, H, hK.sub (all_cons rfl (all_cons rfl (all_cons rfl (all_cons rfl (all_nil))))), hS⟩
                · rw [ifb_f hb_1973] at H
                  refine sp (k := 17) rfl hK (by decide) (wff hb_1973) rfl (fun w hS => r_fieldAddr Try.underlying37 rfl Try.sizeOf35 hK rfl) fun a hK => ?_
                  refine sp (k := 18) rfl hK (by decide) (wff hb_1973) rfl (fun w hS => r_load Try.isAgg35 hK rfl (hS.cell (.head _) rfl)) fun a hK => ?_
                  refine sp (k := 19) rfl hK (by decide) (wff hb_1973) rfl (fun w hS => r_move hK rfl) fun a hK => ?_
                  obtain ⟨y_1974, h_1975, H⟩ := bind_some H
                  obtain ⟨b_1976, o_1977, c_1978, cs_1979, hv_1980, hr_1981, hc_1982, h_19750, h_19751⟩ := h0_1.ix h_1975
                  obtain ⟨v_1983, rfl, hs_1984⟩ := hr_1981
                  refine sp (k := 20) rfl hK (by decide) (wff hb_1973) rfl (fun w hS => r_indexAddr_R Try.underlying35 Try.sizeOf49 hv_1980 h_19750 h_19751 hK rfl rfl) fun a hK => ?_
                  refine sp (k := 21) rfl hK (by decide) (wff hb_1973) rfl (fun w hS => r_load Try.isAgg49 hK rfl ((hS.ra hRA nil_not).cell (hc_1982 0 _ rfl))) fun a hK => ?_
                  refine sp (k := 22) rfl hK (by decide) (wff hb_1973) rfl (fun w hS => r_move hK rfl) fun a hK => ?_
                  refine thenL_nil ?_
                  obtain ⟨y_1985, h_1986, H⟩ := bind_some H
                  obtain ⟨b_1987, o_1988, c_1989, cs_1990, hv_1991, hr_1992, hc_1993, h_19860, h_19861⟩ := hs_1984.ix h_1986
                  subst hr_1992
                  refine sl hK (by decide) (wff hb_1973) rfl (r_indexAddr_R Try.underlying49 Try.sizeOf25 hv_1991 h_19860 h_19861 hK rfl rfl) fun a hK => ?_
                  refine sl hK (by decide) (wff hb_1973) rfl (r_loadA (cs := [.int .i64 y_1985.Kind, .int .i64 y_1985.N, .string y_1985.S, .int .i64 y_1985.H.a0, .int .i64 y_1985.H.a1, .int .i64 y_1985.H.a2, .int .i64 y_1985.H.a3, .int .i64 y_1985.H.a4, .int .i64 y_1985.H.a5, .int .i64 y_1985.H.a6, .int .i64 y_1985.H.a7]) Try.isAgg25 Try.sizeOf25 rfl hK rfl (fun j v hv => (hS.ra hRA nil_not).cell (hc_1993 j v hv))) fun a hK => ?_
                  obtain ⟨y_1994, h_1995, H⟩ := bind_some H
                  refine sl_callV Try.call25 hS hK (by decide) (wff hb_1973) rfl rfl (ref01_Valid.calls y_1985 h_1995 _) fun a w hS hK => ?_
                  refine sl hK (by decide) (wff hb_1973) rfl (r_un hK rfl (u_not _)) fun a hK => ?_
                  refine sl hK (by decide) rfl rfl (r_pick_f hb_1973 hK rfl rfl) fun a hK => ?_
                  refine wpList_nil (NoP_nil ?_)
                  exact ⟨(!y_1994), H, hK.sub (all_cons rfl (all_cons rfl (all_cons rfl (all_cons rfl (all_nil))))), hS⟩
              · rintro a w ⟨x_1890, H, hK, hS⟩
                unfold ref02_Check.j2 at H
                refine wp_cond_split (hK.ev rfl) (fun (hb_1996 : x_1890 = true) => ?_) (fun (hb_1996 : x_1890 = false) => ?_)
                · rw [ifb_t hb_1996] at H
                  refine wp_seq ?_
                  refine wp_region_lit ?_
                  refine sl hK (by decide) rfl rfl (r_assign hK rfl) fun a hK => ?_
                  refine wpList_nil ?_
                  obtain rfl := Option.some.inj H
                  refine wp_ret ?_
                  repeat (first | refine ret_then ?_ | refine ret_block ?_ | refine ret_scope ?_)
                  exact ret_1 Try.results33 hK (rv_tmp hK rfl) ⟨rfl, hS.bel⟩
                · rw [ifb_f hb_1996] at H
                  refine wp_skip ?_
                  refine wp_region_lit ?_
                  refine sl hK (by decide) rfl rfl (r_move hK rfl) fun a hK => ?_
                  refine sl hK (by decide) rfl rfl (r_ibin hK rfl rfl rfl) fun a hK => ?_
                  refine sl hK (by decide) rfl rfl (r_assign hK rfl) fun a hK => ?_
                  refine wpList_nil ?_
                  exact ⟨_, Nat.lt_succ_self _, (IntKind.i64.wrap (x_1571 + 1)), H, hK.sub (all_cons rfl (all_cons rfl (all_cons rfl (all_nil)))), hS⟩
            · rw [ifb_f hb_1785] at H
              refine wp_exit ?_
              refine wp_region_lit ?_
              refine sl hK (by decide) rfl rfl (r_move hK rfl) fun a hK => ?_
              refine sl hK (by decide) rfl rfl (r_ibin hK rfl rfl rfl) fun a hK => ?_
              refine sl hK (by decide) rfl rfl (r_assign hK rfl) fun a hK => ?_
              refine wpList_nil ?_
              exact ⟨_, Nat.lt_succ_self _, (IntKind.i64.wrap (x_669 + 1)), H, hK.sub (all_cons rfl (all_cons rfl (all_nil))), hS⟩
      · rw [ifb_f hb_1334] at H
        refine wp_exit ?_
        refine wp_seq ?_
        refine wp_region_lit ?_
        refine sl hK (by decide) rfl rfl (r_assign hK rfl) fun a hK => ?_
        refine wpList_nil ?_
        obtain rfl := Option.some.inj H
        refine wp_ret ?_
        repeat (first | refine ret_then ?_ | refine ret_block ?_ | refine ret_scope ?_)
        exact ret_1 Try.results33 hK (rv_tmp hK rfl) ⟨rfl, hS.bel⟩

/-! ### catchment/catchmentref04.body: function 34 -/
set_option maxHeartbeats 4000000 in
set_option maxRecDepth 100000 in
theorem ref04_body.calls (a0 : api_Table) {w0 : World} {R : Hp} {RA : Hp} {v0_0 : Value} {v0_1 : Value} (hRA : RA.sub w0) (hR : R.sub w0) (h0_0 : SlR ty_api_Col RA v0_0 a0.Cols) (h0_1 : SlR (tySl ty_api_Value) RA v0_1 a0.Rows) {r : List Int} (H : ref04_body a0 = some r) : Calls Try.prog 34 #[.agg #[v0_0, v0_1]] w0 (Rets fun v w' => ∃ (R' : Hp) (u0 : Value) (cu0 : List Value), v = u0 ∧ St [] w0 w' R' [.row 5 1 u0 r.length cu0] ∧ RLe [] w0 R R' ∧ Reps (tyInt .u8) R' cu0 r) := by
  unfold ref04_body at H
  refine enter (args := [.agg #[v0_0, v0_1]]) Try.func34 rfl Try.ntmps34 rfl fun a hK => ?_
  have hS := St.init hR
  have hRL := RLe.refl (M := []) w0 R
  refine wp_seq ?_
  refine wp_region_lit ?_
  refine sl_box hS hK (by decide) rfl rfl (c := [v0_0, v0_1]) rfl fun a w b_1 hS hK => ?_
  refine sl hK (by decide) rfl rfl (r_assign hK rfl) fun a hK => ?_
  refine wpList_nil ?_
  refine wp_seq ?_
  refine wp_region_lit ?_
  refine sl hK (by decide) rfl rfl (r_fieldAddr Try.underlying37 rfl Try.sizeOf34 hK rfl) fun a hK => ?_
  refine sl hK (by decide) rfl rfl (r_load Try.isAgg34 hK rfl (hS.cell (.head _) rfl)) fun a hK => ?_
  refine sl hK (by decide) rfl rfl (r_len_R Try.underlying34 h0_0 hK rfl) fun a hK => ?_
  refine sl hK (by decide) rfl rfl (r_conv Try.underlying3 Try.underlying5 hK rfl) fun a hK => ?_
  refine sl_buildSliceF (zc := [.int .u8 0]) (ps := [(0, .int .u8 (IntKind.u8.wrap (a0.Cols.length : Int)))]) (c := [.int .u8 (IntKind.u8.wrap (a0.Cols.length : Int))]) [[.int .u8 (IntKind.u8.wrap (a0.Cols.length : Int))]] Try.underlying22 Try.sizeOf5 Try.zeroValue5 rfl (pc_cons rfl pc_nil) rfl rfl (Nat.le_of_ble_eq_true rfl) rfl (all_cons rfl (all_nil)) rfl hS hK (by decide) rfl fun a w b_2 hS hK => ?_
  refine sl hK (by decide) rfl rfl (r_assign hK rfl) fun a hK => ?_
  refine wpList_nil ?_
  refine wp_seq ?_
  refine wp_seq ?_
  refine wp_region_lit ?_
  refine sl hK (by decide) rfl rfl (r_assign hK rfl) fun a hK => ?_
  refine wpList_nil ?_
  refine wp_block ?_
  refine wp_loop_k (fun k_l0 a w => ∃ (x_294 : List Int) (x_298 : Int) (R_299 : Hp) (v_295 : Value) (cs_296 : List Value), ref04_body.l0 a0 k_l0 x_294 x_298 = some r ∧ RLe [] w0 R R_299 ∧ Reps (tyInt .u8) R_299 cs_296 x_294 ∧ Kn 88 a [(1, .pointer (some ⟨b_1, 0, none⟩)), (3, v_295), (4, .int .i64 x_298)] ∧ St [] w0 w R_299 [.cells b_1 [v0_0, v0_1] 37, .row 5 1 v_295 x_294.length cs_296]) (((a0.Cols.length : Int) - 0).toNat + 1) ?_ ?_
  · have hS := hS.row_lit (size := 1) (m := 1) rfl (by decide)
    have hq_586 : Reps (tyInt .u8) R [.int .u8 (IntKind.u8.wrap (a0.Cols.length : Int))] [IntKind.u8.wrap (a0.Cols.length : Int)] := (Reps.cons (show Ty.rep (tyInt .u8) _ [.int .u8 (IntKind.u8.wrap (a0.Cols.length : Int))] (IntKind.u8.wrap (a0.Cols.length : Int)) from rfl) (Reps.nil _ _))
    have hS := hS.pk1
    exact ⟨[IntKind.u8.wrap (a0.Cols.length : Int)], 0, _, _, _, H, (RLe.refl _ _), hq_586, hK.sub (all_cons rfl (all_cons rfl (all_cons rfl (all_nil)))), hS⟩
  · rintro k_l0 a w ⟨x_294, x_298, R_299, v_295, cs_296, H, hl_300, hq_297, hK, hS⟩
    cases k_l0 with
    | zero => cases H
    | succ k_l0 =>
    rw [ref04_body.l0.eq_2] at H
    have hRL := hRL.trans hl_300
    refine wp_seq ?_
    refine wp_seq ?_
    refine wp_region_lit ?_
    refine sl hK (by decide) rfl rfl (r_move hK rfl) fun a hK => ?_
    refine sl hK (by decide) rfl rfl (r_fieldAddr Try.underlying37 rfl Try.sizeOf34 hK rfl) fun a hK => ?_
    refine sl hK (by decide) rfl rfl (r_load Try.isAgg34 hK rfl (hS.cell (.head _) rfl)) fun a hK => ?_
    refine sl hK (by decide) rfl rfl (r_len_R Try.underlying34 h0_0 hK rfl) fun a hK => ?_
    refine sl hK (by decide) rfl rfl (r_ibin hK rfl rfl rfl) fun a hK => ?_
    refine wpList_nil ?_
    refine wp_cond_split (hK.ev rfl) (fun (hb_587 : (decide (x_298 < (a0.Cols.length : Int))) = true) => ?_) (fun (hb_587 : (decide (x_298 < (a0.Cols.length : Int))) = false) => ?_)
    · rw [ifb_t hb_587] at H
      refine wp_skip ?_
      refine wp_seq ?_
      refine wp_block ?_
      refine wp_seq ?_
      refine wp_mid (fun a w => ∃ (x_719 : List Int) (R_723 : Hp) (v_720 : Value) (cs_721 : List Value), ref04_body.j1 (ref04_body.l0 a0 k_l0) a0 x_298 x_719 = some r ∧ RLe [] w0 R_299 R_723 ∧ Reps (tyInt .u8) R_723 cs_721 x_719 ∧ Kn 88 a [(1, .pointer (some ⟨b_1, 0, none⟩)), (3, v_720), (4, .int .i64 x_298)] ∧ St [] w0 w R_723 [.cells b_1 [v0_0, v0_1] 37, .row 5 1 v_720 x_719.length cs_721]) ?_ ?_
      · refine treeT_region (C := fun w => St [] w0 w R_299 [.cells b_1 [v0_0, v0_1] 37]) 18 (.br [(0, true), (1, true), (2, true), (3, true), (4, true), (5, true), (6, true), (7, true), (8, true), (11, true), (12, true), (13, true), (14, true), (15, true), (16, true)] 9 (.br [] 10 (.list [(17, false)]) 17 (.list [(10, false)])) 17 (.list [(9, false), (10, false)])) mixed (by kernel_rfl) hS (fun w hS => (hS.trunc 1)) fun w hS => ?_
        refine tree_fork ?_
        refine sp (k := 0) rfl hK (by decide) rfl rfl (fun w hS => r_move hK rfl) fun a hK => ?_
        refine sp (k := 1) rfl hK (by decide) rfl rfl (fun w hS => r_fieldAddr Try.underlying37 rfl Try.sizeOf34 hK rfl) fun a hK => ?_
        refine sp (k := 2) rfl hK (by decide) rfl rfl (fun w hS => r_load Try.isAgg34 hK rfl (hS.cell (.head _) rfl)) fun a hK => ?_
        refine sp (k := 3) rfl hK (by decide) rfl rfl (fun w hS => r_move hK rfl) fun a hK => ?_
        obtain ⟨y_790, h_791, H⟩ := bind_some H
        obtain ⟨b_792, o_793, c_794, cs_795, hv_796, hr_797, hc_798, h_7910, h_7911⟩ := h0_0.ix h_791
        subst hr_797
        refine sp (k := 4) rfl hK (by decide) rfl rfl (fun w hS => r_indexAddr_R Try.underlying34 Try.sizeOf48 hv_796 h_7910 h_7911 hK rfl rfl) fun a hK => ?_
        refine sp (k := 5) rfl hK (by decide) rfl rfl (fun w hS => r_fieldAddr Try.underlying48 rfl Try.sizeOf9 hK rfl) fun a hK => ?_
        refine sp (k := 6) rfl hK (by decide) rfl rfl (fun w hS => r_load Try.isAgg9 hK rfl ((hS.ra hRA nil_not).cell (hc_798 0 _ rfl))) fun a hK => ?_
        refine sp (k := 7) rfl hK (by decide) rfl rfl (fun w hS => r_len_str Try.underlying9 hK rfl) fun a hK => ?_
        refine sp (k := 8) rfl hK (by decide) rfl rfl (fun w hS => r_conv Try.underlying3 Try.underlying5 hK rfl) fun a hK => ?_
        refine sp (k := 11) rfl hK (by decide) rfl rfl (fun w hS => r_fieldAddr Try.underlying37 rfl Try.sizeOf34 hK rfl) fun a hK => ?_
        refine sp (k := 12) rfl hK (by decide) rfl rfl (fun w hS => r_load Try.isAgg34 hK rfl (hS.cell (.head _) rfl)) fun a hK => ?_
        refine sp (k := 13) rfl hK (by decide) rfl rfl (fun w hS => r_move hK rfl) fun a hK => ?_
        obtain ⟨y_799, h_800, H⟩ := bind_some H
        obtain ⟨b_801, o_802, c_803, cs_804, hv_805, hr_806, hc_807, h_8000, h_8001⟩ := h0_0.ix h_800
        subst hr_806
        refine sp (k := 14) rfl hK (by decide) rfl rfl (fun w hS => r_indexAddr_R Try.underlying34 Try.sizeOf48 hv_805 h_8000 h_8001 hK rfl rfl) fun a hK => ?_
        refine sp (k := 15) rfl hK (by decide) rfl rfl (fun w hS => r_fieldAddr Try.underlying48 rfl Try.sizeOf9 hK rfl) fun a hK => ?_
        refine sp (k := 16) rfl hK (by decide) rfl rfl (fun w hS => r_load Try.isAgg9 hK rfl ((hS.ra hRA nil_not).cell (hc_807 0 _ rfl))) fun a hK => ?_
        refine wpPar_nil (tree_br ?_ ?_)
        · refine spwB (k := 9) rfl rfl (hS.trunc 1) ?_
          refine sl_buildSliceF (zc := [.int .u8 0]) (ps := [(0, .int .u8 (IntKind.u8.wrap (y_790.Name.size : Int)))]) (c := [.int .u8 (IntKind.u8.wrap (y_790.Name.size : Int))]) [[.int .u8 (IntKind.u8.wrap (y_790.Name.size : Int))]] Try.underlying22 Try.sizeOf5 Try.zeroValue5 rfl (pc_cons rfl pc_nil) rfl rfl (Nat.le_of_ble_eq_true rfl) rfl (all_cons rfl (all_nil)) rfl hS hK (by decide) rfl fun a w b_808 hS hK => ?_
          refine parKK_nil (hS.pk1.trunc 1) ?_
          refine tree_fork ?_
          refine wpPar_nil (tree_br ?_ ?_)
          · refine spwB (k := 10) rfl rfl (hS.pk1.trunc 1) ?_
            obtain ⟨y_809, h_810, H⟩ := bind_some H
            have hS := hS.pk2
            refine sl_append_L (ty := (tyInt .u8)) (ys := [IntKind.u8.wrap (y_790.Name.size : Int)]) elT22 (by decide) rfl hq_297 rfl (Reps.cons (show Ty.rep (tyInt .u8) _ [.int .u8 (IntKind.u8.wrap (y_790.Name.size : Int))] (IntKind.u8.wrap (y_790.Name.size : Int)) from rfl) (Reps.nil _ _)) rfl h_810 hS hK (by decide) rfl rfl rfl fun a w v_811 cs_812 hq_813 hS hK => ?_
            refine parKK_nil (hS.pk1.trunc 1) ?_
            refine tree_list ?_
            refine spw (k := 17) rfl rfl (hS.pk1.trunc 1) ?_
            refine sl_conv_sb Try.underlying9 Try.underlying22 Try.underlying5 hS hK (by decide) rfl rfl fun a w v_817 R_815 hS v_817l hs_816 hK => ?_
            have hRL := hRL.trans v_817l
            refine parK_nil ((hS.pk1.trunc 1).lower v_817l.le) ?_
            refine thenL_nil ?_
            obtain ⟨y_818, h_819, H⟩ := bind_some H
            refine sl_append_R elT22 (by decide) rfl (hq_813.mono v_817l.le) rfl hs_816 h_819 hS hK (by decide) rfl rfl rfl fun a w v_820 cs_821 hq_822 hS hK => ?_
            refine sl hK (by decide) rfl rfl (r_assign hK rfl) fun a hK => ?_
            refine wpList_nil (NoP_nil ?_)
            have hS := hS.pk1
            exact ⟨y_818, _, _, _, H, v_817l, hq_822, hK.sub (all_cons rfl (all_cons rfl (all_cons rfl (all_nil)))), hS⟩
          · refine spwB (k := 17) rfl rfl (hS.pk1.trunc 1) ?_
            refine sl_conv_sb Try.underlying9 Try.underlying22 Try.underlying5 hS hK (by decide) rfl rfl fun a w v_826 R_824 hS v_826l hs_825 hK => ?_
            have hRL := hRL.trans v_826l
            refine parKK_nil ((hS.pk1.trunc 1).lower v_826l.le) ?_
            refine tree_list ?_
            refine spw (k := 10) rfl rfl ((hS.pk1.trunc 1).lower v_826l.le) ?_
            obtain ⟨y_827, h_828, H⟩ := bind_some H
            have hS := hS.pk2
            refine sl_append_L (ty := (tyInt .u8)) (ys := [IntKind.u8.wrap (y_790.Name.size : Int)]) elT22 (by decide) rfl (hq_297.mono v_826l.le) rfl (Reps.cons (show Ty.rep (tyInt .u8) _ [.int .u8 (IntKind.u8.wrap (y_790.Name.size : Int))] (IntKind.u8.wrap (y_790.Name.size : Int)) from rfl) (Reps.nil _ _)) rfl h_828 hS hK (by decide) rfl rfl rfl fun a w v_829 cs_830 hq_831 hS hK => ?_
            refine parK_nil ((hS.pk1.trunc 1).lower v_826l.le) ?_
            refine thenL_nil ?_
            obtain ⟨y_833, h_834, H⟩ := bind_some H
            refine sl_append_R elT22 (by decide) rfl hq_831 rfl hs_825 h_834 hS hK (by decide) rfl rfl rfl fun a w v_835 cs_836 hq_837 hS hK => ?_
            refine sl hK (by decide) rfl rfl (r_assign hK rfl) fun a hK => ?_
            refine wpList_nil (NoP_nil ?_)
            have hS := hS.pk1
            exact ⟨y_833, _, _, _, H, v_826l, hq_837, hK.sub (all_cons rfl (all_cons rfl (all_cons rfl (all_nil)))), hS⟩
        · refine spwB (k := 17) rfl rfl (hS.trunc 1) ?_
          refine sl_conv_sb Try.underlying9 Try.underlying22 Try.underlying5 hS hK (by decide) rfl rfl fun a w v_841 R_839 hS v_841l hs_840 hK => ?_
          have hRL := hRL.trans v_841l
          refine parKK_nil ((hS.trunc 1).lower v_841l.le) ?_
          refine tree_list ?_
          refine spw (k := 9) rfl rfl ((hS.trunc 1).lower v_841l.le) ?_
          refine sl_buildSliceF (zc := [.int .u8 0]) (ps := [(0, .int .u8 (IntKind.u8.wrap (y_790.Name.size : Int)))]) (c := [.int .u8 (IntKind.u8.wrap (y_790.Name.size : Int))]) [[.int .u8 (IntKind.u8.wrap (y_790.Name.size : Int))]] Try.underlying22 Try.sizeOf5 Try.zeroValue5 rfl (pc_cons rfl pc_nil) rfl rfl (Nat.le_of_ble_eq_true rfl) rfl (all_cons rfl (all_nil)) rfl hS hK (by decide) rfl fun a w b_842 hS hK => ?_
          refine parK_nil ((hS.pk1.trunc 1).lower v_841l.le) ?_
          refine spw (k := 10) rfl rfl ((hS.pk1.trunc 1).lower v_841l.le) ?_
          obtain ⟨y_843, h_844, H⟩ := bind_some H
          have hS := hS.pk2
          refine sl_append_L (ty := (tyInt .u8)) (ys := [IntKind.u8.wrap (y_790.Name.size : Int)]) elT22 (by decide) rfl (hq_297.mono v_841l.le) rfl (Reps.cons (show Ty.rep (tyInt .u8) _ [.int .u8 (IntKind.u8.wrap (y_790.Name.size : Int))] (IntKind.u8.wrap (y_790.Name.size : Int)) from rfl) (Reps.nil _ _)) rfl h_844 hS hK (by decide) rfl rfl rfl fun a w v_845 cs_846 hq_847 hS hK => ?_
          refine parK_nil ((hS.pk1.trunc 1).lower v_841l.le) ?_
          refine thenL_nil ?_
          obtain ⟨y_849, h_850, H⟩ := bind_some H
          refine sl_append_R elT22 (by decide) rfl hq_847 rfl hs_840 h_850 hS hK (by decide) rfl rfl rfl fun a w v_851 cs_852 hq_853 hS hK => ?_
          refine sl hK (by decide) rfl rfl (r_assign hK rfl) fun a hK => ?_
          refine wpList_nil (NoP_nil ?_)
          have hS := hS.pk1
          exact ⟨y_849, _, _, _, H, v_841l, hq_853, hK.sub (all_cons rfl (all_cons rfl (all_cons rfl (all_nil)))), hS⟩
      · rintro a w ⟨x_719, R_723, v_720, cs_721, H, hl_724, hq_722, hK, hS⟩
        unfold ref04_body.j1 at H
        have hRL := hRL.trans hl_724
        refine wp_region_lit ?_
        refine sl hK (by decide) rfl rfl (r_move hK rfl) fun a hK => ?_
        refine sl hK (by decide) rfl rfl (r_fieldAddr Try.underlying37 rfl Try.sizeOf34 hK rfl) fun a hK => ?_
        refine sl hK (by decide) rfl rfl (r_load Try.isAgg34 hK rfl (hS.cell (.head _) rfl)) fun a hK => ?_
        refine sl hK (by decide) rfl rfl (r_move hK rfl) fun a hK => ?_
        obtain ⟨y_855, h_856, H⟩ := bind_some H
        obtain ⟨b_857, o_858, c_859, cs_860, hv_861, hr_862, hc_863, h_8560, h_8561⟩ := h0_0.ix h_856
        subst hr_862
        refine sl hK (by decide) rfl rfl (r_indexAddr_R Try.underlying34 Try.sizeOf48 hv_861 h_8560 h_8561 hK rfl rfl) fun a hK => ?_
        refine sl hK (by decide) rfl rfl (r_fieldAddr Try.underlying48 rfl Try.sizeOf3 hK rfl) fun a hK => ?_
        refine sl hK (by decide) rfl rfl (r_load Try.isAgg3 hK rfl ((hS.ra hRA nil_not).cell (hc_863 1 _ rfl))) fun a hK => ?_
        refine sl hK (by decide) rfl rfl (r_conv Try.underlying3 Try.underlying5 hK rfl) fun a hK => ?_
        refine sl_buildSliceF (zc := [.int .u8 0]) (ps := [(0, .int .u8 (IntKind.u8.wrap y_855.Kind))]) (c := [.int .u8 (IntKind.u8.wrap y_855.Kind)]) [[.int .u8 (IntKind.u8.wrap y_855.Kind)]] Try.underlying22 Try.sizeOf5 Try.zeroValue5 rfl (pc_cons rfl pc_nil) rfl rfl (Nat.le_of_ble_eq_true rfl) rfl (all_cons rfl (all_nil)) rfl hS hK (by decide) rfl fun a w b_864 hS hK => ?_
        obtain ⟨y_865, h_866, H⟩ := bind_some H
        have hS := hS.pk2
        refine sl_append_L (ty := (tyInt .u8)) (ys := [IntKind.u8.wrap y_855.Kind]) elT22 (by decide) rfl hq_722 rfl (Reps.cons (show Ty.rep (tyInt .u8) _ [.int .u8 (IntKind.u8.wrap y_855.Kind)] (IntKind.u8.wrap y_855.Kind) from rfl) (Reps.nil _ _)) rfl h_866 hS hK (by decide) rfl rfl rfl fun a w v_867 cs_868 hq_869 hS hK => ?_
        refine sl hK (by decide) rfl rfl (r_assign hK rfl) fun a hK => ?_
        refine wpList_nil ?_
        refine wp_region_lit ?_
        refine sl hK (by decide) rfl rfl (r_move hK rfl) fun a hK => ?_
        refine sl hK (by decide) rfl rfl (r_ibin hK rfl rfl rfl) fun a hK => ?_
        refine sl hK (by decide) rfl rfl (r_assign hK rfl) fun a hK => ?_
        refine wpList_nil ?_
        have hS := hS.pk1
        exact ⟨_, Nat.lt_succ_self _, y_865, (IntKind.i64.wrap (x_298 + 1)), _, _, _, H, (hl_300.trans hl_724), hq_869, hK.sub (all_cons rfl (all_cons rfl (all_cons rfl (all_nil)))), hS⟩
    · rw [ifb_f hb_587] at H
      refine wp_exit ?_
      refine wp_seq ?_
      refine wp_region_lit ?_
      refine sl hK (by decide) rfl rfl (r_move hK rfl) fun a hK => ?_
      refine sl hK (by decide) rfl rfl (r_fieldAddr Try.underlying37 rfl Try.sizeOf35 hK rfl) fun a hK => ?_
      refine sl hK (by decide) rfl rfl (r_load Try.isAgg35 hK rfl (hS.cell (.head _) rfl)) fun a hK => ?_
      refine sl hK (by decide) rfl rfl (r_len_R Try.underlying35 h0_1 hK rfl) fun a hK => ?_
      obtain ⟨y_871, h_872, H⟩ := bind_some H
      have hS := hS.pk1
      have hS1 := hS.sp1
      refine sl_call Try.call26 hK (by decide) rfl rfl rfl (ref04_big.calls x_294 (a0.Rows.length : Int) 2 hS1.lend hq_297 h_872) fun a v_ w hv_ hK => ?_
      obtain ⟨R_873, v_876, cs_877, hv_, hr_, hl_874, hq_878⟩ := hv_
      have hv_ := hv_.symm
      subst hv_
      obtain ⟨hS, hl_874⟩ := hS1.back hr_ hl_874
      have hS := hS.un1
      have hRL := hRL.trans hl_874
      refine sl hK (by decide) rfl rfl (r_assign hK rfl) fun a hK => ?_
      refine wpList_nil ?_
      refine wp_seq ?_
      refine wp_seq ?_
      refine wp_region_lit ?_
      refine sl hK (by decide) rfl rfl (r_assign hK rfl) fun a hK => ?_
      refine wpList_nil ?_
      refine wp_block ?_
      refine wp_loop_k (fun k_l2 a w => ∃ (x_1049 : List Int) (x_1053 : Int) (R_1054 : Hp) (v_1050 : Value) (cs_1051 : List Value), ref04_body.l2 a0 k_l2 x_1049 x_1053 = some r ∧ RLe [] w0 R_873 R_1054 ∧ Reps (tyInt .u8) R_1054 cs_1051 x_1049 ∧ Kn 88 a [(1, .pointer (some ⟨b_1, 0, none⟩)), (3, v_1050), (5, .int .i64 x_1053)] ∧ St [] w0 w R_1054 [.cells b_1 [v0_0, v0_1] 37, .row 5 1 v_1050 x_1049.length cs_1051]) (((a0.Rows.length : Int) - 0).toNat + 1) ?_ ?_
      · have hS := hS.pk1
        exact ⟨y_871, 0, _, _, _, H, (RLe.refl _ _), hq_878, hK.sub (all_cons rfl (all_cons rfl (all_cons rfl (all_nil)))), hS⟩
      · rintro k_l2 a w ⟨x_1049, x_1053, R_1054, v_1050, cs_1051, H, hl_1055, hq_1052, hK, hS⟩
        cases k_l2 with
        | zero => cases H
        | succ k_l2 =>
        rw [ref04_body.l2.eq_2] at H
        have hRL := hRL.trans hl_1055
        refine wp_seq ?_
        refine wp_seq ?_
        refine wp_region_lit ?_
        refine sl hK (by decide) rfl rfl (r_move hK rfl) fun a hK => ?_
        refine sl hK (by decide) rfl rfl (r_fieldAddr Try.underlying37 rfl Try.sizeOf35 hK rfl) fun a hK => ?_
        refine sl hK (by decide) rfl rfl (r_load Try.isAgg35 hK rfl (hS.cell (.head _) rfl)) fun a hK => ?_
        refine sl hK (by decide) rfl rfl (r_len_R Try.underlying35 h0_1 hK rfl) fun a hK => ?_
        refine sl hK (by decide) rfl rfl (r_ibin hK rfl rfl rfl) fun a hK => ?_
        refine wpList_nil ?_
        refine wp_cond_split (hK.ev rfl) (fun (hb_1224 : (decide (x_1053 < (a0.Rows.length : Int))) = true) => ?_) (fun (hb_1224 : (decide (x_1053 < (a0.Rows.length : Int))) = false) => ?_)
        · rw [ifb_t hb_1224] at H
          refine wp_skip ?_
          refine wp_seq ?_
          refine wp_block ?_
          refine wp_seq ?_
          refine wp_region_lit ?_
          refine sl hK (by decide) rfl rfl (r_assign hK rfl) fun a hK => ?_
          refine wpList_nil ?_
          refine wp_block ?_
          refine wp_loop_k (fun k_l3 a w => ∃ (x_1276 : List Int) (x_1280 : Int) (R_1281 : Hp) (v_1277 : Value) (cs_1278 : List Value), ref04_body.l3 (ref04_body.l2 a0 k_l2) a0 x_1053 k_l3 x_1276 x_1280 = some r ∧ RLe [] w0 R_1054 R_1281 ∧ Reps (tyInt .u8) R_1281 cs_1278 x_1276 ∧ Kn 88 a [(1, .pointer (some ⟨b_1, 0, none⟩)), (3, v_1277), (5, .int .i64 x_1053), (6, .int .i64 x_1280)] ∧ St [] w0 w R_1281 [.cells b_1 [v0_0, v0_1] 37, .row 5 1 v_1277 x_1276.length cs_1278]) (((((ix a0.Rows x_1053).getD []).length : Int) - 0).toNat + 1) ?_ ?_
          · have hS := hS.pk1
            have hS := hS.pk1
            exact ⟨x_1049, 0, _, _, _, H, (RLe.refl _ _), hq_1052, hK.sub (all_cons rfl (all_cons rfl (all_cons rfl (all_cons rfl (all_nil))))), hS⟩
          · rintro k_l3 a w ⟨x_1276, x_1280, R_1281, v_1277, cs_1278, H, hl_1282, hq_1279, hK, hS⟩
            cases k_l3 with
            | zero => cases H
            | succ k_l3 =>
            rw [ref04_body.l3.eq_2] at H
            have hRL := hRL.trans hl_1282
            refine wp_seq ?_
            refine wp_seq ?_
            refine wp_region_lit ?_
            refine sl hK (by decide) rfl rfl (r_move hK rfl) fun a hK => ?_
            refine sl hK (by decide) rfl rfl (r_fieldAddr Try.underlying37 rfl Try.sizeOf35 hK rfl) fun a hK => ?_
            refine sl hK (by decide) rfl rfl (r_load Try.isAgg35 hK rfl (hS.cell (.head _) rfl)) fun a hK => ?_
            refine sl hK (by decide) rfl rfl (r_move hK rfl) fun a hK => ?_
            obtain ⟨y_1343, h_1344, H⟩ := bind_some H
            obtain ⟨b_1345, o_1346, c_1347, cs_1348, hv_1349, hr_1350, hc_1351, h_13440, h_13441⟩ := h0_1.ix h_1344
            obtain ⟨v_1352, rfl, hs_1353⟩ := hr_1350
            refine sl hK (by decide) rfl rfl (r_indexAddr_R Try.underlying35 Try.sizeOf49 hv_1349 h_13440 h_13441 hK rfl rfl) fun a hK => ?_
            refine sl hK (by decide) rfl rfl (r_load Try.isAgg49 hK rfl ((hS.ra hRA nil_not).cell (hc_1351 0 _ rfl))) fun a hK => ?_
            refine sl hK (by decide) rfl rfl (r_len_R Try.underlying49 hs_1353 hK rfl) fun a hK => ?_
            refine sl hK (by decide) rfl rfl (r_ibin hK rfl rfl rfl) fun a hK => ?_
            refine wpList_nil ?_
            refine wp_cond_split (hK.ev rfl) (fun (hb_1354 : (decide (x_1280 < (y_1343.length : Int))) = true) => ?_) (fun (hb_1354 : (decide (x_1280 < (y_1343.length : Int))) = false) => ?_)
            · rw [ifb_t hb_1354] at H
              refine wp_skip ?_
              refine wp_seq ?_
              refine wp_block ?_
              refine wp_seq ?_
              refine wp_region_lit ?_
              refine sl hK (by decide) rfl rfl (r_fieldAddr Try.underlying37 rfl Try.sizeOf35 hK rfl) fun a hK => ?_
              refine sl hK (by decide) rfl rfl (r_load Try.isAgg35 hK rfl (hS.cell (.head _) rfl)) fun a hK => ?_
              refine sl hK (by decide) rfl rfl (r_move hK rfl) fun a hK => ?_
              obtain ⟨y_1355, h_1356, H⟩ := bind_some H
              obtain ⟨b_1357, o_1358, c_1359, cs_1360, hv_1361, hr_1362, hc_1363, h_13560, h_13561⟩ := h0_1.ix h_1356
              obtain ⟨v_1364, rfl, hs_1365⟩ := hr_1362
              refine sl hK (by decide) rfl rfl (r_indexAddr_R Try.underlying35 Try.sizeOf49 hv_1361 h_13560 h_13561 hK rfl rfl) fun a hK => ?_
              refine sl hK (by decide) rfl rfl (r_load Try.isAgg49 hK rfl ((hS.ra hRA nil_not).cell (hc_1363 0 _ rfl))) fun a hK => ?_
              refine sl hK (by decide) rfl rfl (r_move hK rfl) fun a hK => ?_
              obtain ⟨y_1366, h_1367, H⟩ := bind_some H
              obtain ⟨b_1368, o_1369, c_1370, cs_1371, hv_1372, hr_1373, hc_1374, h_13670, h_13671⟩ := hs_1365.ix h_1367
              subst hr_1373
              refine sl hK (by decide) rfl rfl (r_indexAddr_R Try.underlying49 Try.sizeOf25 hv_1372 h_13670 h_13671 hK rfl rfl) fun a hK => ?_
              refine sl hK (by decide) rfl rfl (r_loadA (cs := [.int .i64 y_1366.Kind, .int .i64 y_1366.N, .string y_1366.S, .int .i64 y_1366.H.a0, .int .i64 y_1366.H.a1, .int .i64 y_1366.H.a2, .int .i64 y_1366.H.a3, .int .i64 y_1366.H.a4, .int .i64 y_1366.H.a5, .int .i64 y_1366.H.a6, .int .i64 y_1366.H.a7]) Try.isAgg25 Try.sizeOf25 rfl hK rfl (fun j v hv => (hS.ra hRA nil_not).cell (hc_1374 j v hv))) fun a hK => ?_
              obtain ⟨y_1375, h_1376, H⟩ := bind_some H
              refine sl_call Try.call13 hK (by decide) rfl rfl rfl (ref04_Put.calls ([] : List Int) y_1366 (lentOf_sub [] _) hS.sub (SlR.nil (tyInt .u8) _) h_1376) fun a v_ w hv_ hK => ?_
              obtain ⟨R_1377, v_1380, cs_1381, hv_, hr_, hl_1378, hq_1382⟩ := hv_
              have hv_ := hv_.symm
              subst hv_
              obtain ⟨hS, hl_1378⟩ := hS.sp0.back hr_ hl_1378
              have hS := hS.un1
              have hRL := hRL.trans hl_1378
              refine sl hK (by decide) rfl rfl (r_move hK rfl) fun a hK => ?_
              refine sl hK (by decide) rfl rfl (r_extract hK rfl rfl) fun a hK => ?_
              refine sl hK (by decide) rfl rfl (r_extract hK rfl rfl) fun a hK => ?_
              refine sl hK (by decide) rfl rfl (r_assign hK rfl) fun a hK => ?_
              refine sl hK (by decide) rfl rfl (r_assign hK rfl) fun a hK => ?_
              refine wpList_nil ?_
              refine wp_region_lit ?_
              refine sl hK (by decide) rfl rfl (r_move hK rfl) fun a hK => ?_
              refine sl hK (by decide) rfl rfl (r_move hK rfl) fun a hK => ?_
              have hS := hS.pk2
              have hS := hS.pk1
              obtain ⟨R_1383, hS, hl_1385, hs_1384⟩ := hS.fz_row hq_1382 rfl rfl
              have hRL := hRL.trans hl_1385
              obtain ⟨y_1386, h_1387, H⟩ := bind_some H
              refine sl_append_R elT22 (by decide) rfl (hq_1279.mono (hl_1378.le.trans hl_1385.le)) rfl hs_1384 h_1387 hS hK (by decide) rfl rfl rfl fun a w v_1388 cs_1389 hq_1390 hS hK => ?_
              refine sl hK (by decide) rfl rfl (r_assign hK rfl) fun a hK => ?_
              refine wpList_nil ?_
              refine wp_region_lit ?_
              refine sl hK (by decide) rfl rfl (r_move hK rfl) fun a hK => ?_
              refine sl hK (by decide) rfl rfl (r_ibin hK rfl rfl rfl) fun a hK => ?_
              refine sl hK (by decide) rfl rfl (r_assign hK rfl) fun a hK => ?_
              refine wpList_nil ?_
              have hS := hS.pk1
              exact ⟨_, Nat.lt_succ_self _, y_1386, (IntKind.i64.wrap (x_1280 + 1)), _, _, _, H, (hl_1282.trans (hl_1378.trans hl_1385)), hq_1390, hK.sub (all_cons rfl (all_cons rfl (all_cons rfl (all_cons rfl (all_nil))))), hS⟩
            · rw [ifb_f hb_1354] at H
              refine wp_exit ?_
              refine wp_region_lit ?_
              refine sl hK (by decide) rfl rfl (r_move hK rfl) fun a hK => ?_
              refine sl hK (by decide) rfl rfl (r_ibin hK rfl rfl rfl) fun a hK => ?_
              refine sl hK (by decide) rfl rfl (r_assign hK rfl) fun a hK => ?_
              refine wpList_nil ?_
              have hS := hS.pk1
              have hS := hS.pk1
              exact ⟨_, Nat.lt_succ_self _, x_1276, (IntKind.i64.wrap (x_1053 + 1)), _, _, _, H, (hl_1055.trans hl_1282), hq_1279, hK.sub (all_cons rfl (all_cons rfl (all_cons rfl (all_nil)))), hS⟩
        · rw [ifb_f hb_1224] at H
          refine wp_exit ?_
          refine wp_seq ?_
          refine wp_region_lit ?_
          refine sl hK (by decide) rfl rfl (r_move hK rfl) fun a hK => ?_
          refine sl hK (by decide) rfl rfl (r_assign hK rfl) fun a hK => ?_
          refine wpList_nil ?_
          obtain rfl := Option.some.inj H
          refine wp_ret ?_
          repeat (first | refine ret_then ?_ | refine ret_block ?_ | refine ret_scope ?_)
          exact ret_1 Try.results34 hK (rv_tmp hK rfl) ⟨_, rfl, _, _, _, rfl, (hS.pk1.trunc 1), hRL, hq_1052⟩

/-! ### catchment/catchmentref03.More: function 45 -/
set_option maxHeartbeats 4000000 in
set_option maxRecDepth 100000 in
theorem ref03_More.calls (a0 : Int) (a1 : List Int) {w0 : World} {RA : Hp} {v1_0 : Value} (hRA : RA.sub w0) (h1_0 : SlR (tyInt .u8) RA v1_0 a1) {r : Int} (H : ref03_More a0 a1 = some r) : CallsV Try.prog 45 #[.int .u32 a0, v1_0] w0 (.int .u32 r) := by
  unfold ref03_More at H
  refine enter (args := [.int .u32 a0, v1_0]) Try.func45 rfl Try.ntmps45 rfl fun a hK => ?_
  have hS := St.init (R := fun _ => none) (w := w0) (fun _ _ h => by cases h)
  have hRL := RLe.refl (M := []) w0 (fun _ => none)
  refine wp_seq ?_
  refine wp_region_lit ?_
  refine sl hK (by decide) rfl rfl (r_assign hK rfl) fun a hK => ?_
  refine wpList_nil ?_
  refine wp_seq ?_
  refine wp_region_lit ?_
  refine sl hK (by decide) rfl rfl (r_move hK rfl) fun a hK => ?_
  refine sl hK (by decide) rfl rfl (r_un hK rfl (u_xor _)) fun a hK => ?_
  refine sl hK (by decide) rfl rfl (r_assign hK rfl) fun a hK => ?_
  refine wpList_nil ?_
  refine wp_seq ?_
  refine wp_seq ?_
  refine wp_region_lit ?_
  refine sl hK (by decide) rfl rfl (r_assign hK rfl) fun a hK => ?_
  refine wpList_nil ?_
  refine wp_block ?_
  refine wp_loop_k (fun k_l0 a w => ∃ (x_30 : Int) (x_31 : Int), ref03_More.l0 a1 k_l0 x_30 x_31 = some r ∧ Kn 37 a [(1, v1_0), (5, .int .u32 x_30), (6, .int .i64 x_31)] ∧ St [] w0 w (fun _ => none) []) (((a1.length : Int) - 0).toNat + 1) ?_ ?_
  · exact ⟨(IntKind.u32.wrap (BitVec.ofInt 32 4294967295 ^^^ BitVec.ofInt 32 a0).toNat), 0, H, hK.sub (all_cons rfl (all_cons rfl (all_cons rfl (all_nil)))), hS⟩
  · rintro k_l0 a w ⟨x_30, x_31, H, hK, hS⟩
    cases k_l0 with
    | zero => cases H
    | succ k_l0 =>
    rw [ref03_More.l0.eq_2] at H
    refine wp_seq ?_
    refine wp_seq ?_
    refine wp_region_lit ?_
    refine sl hK (by decide) rfl rfl (r_move hK rfl) fun a hK => ?_
    refine sl hK (by decide) rfl rfl (r_move hK rfl) fun a hK => ?_
    refine sl hK (by decide) rfl rfl (r_len_R Try.underlying22 h1_0 hK rfl) fun a hK => ?_
    refine sl hK (by decide) rfl rfl (r_ibin hK rfl rfl rfl) fun a hK => ?_
    refine wpList_nil ?_
    refine wp_cond_split (hK.ev rfl) (fun (hb_61 : (decide (x_31 < (a1.length : Int))) = true) => ?_) (fun (hb_61 : (decide (x_31 < (a1.length : Int))) = false) => ?_)
    · rw [ifb_t hb_61] at H
      refine wp_skip ?_
      refine wp_seq ?_
      refine wp_block ?_
      refine wp_seq ?_
      refine wp_region_lit ?_
      refine sl hK (by decide) rfl rfl (r_move hK rfl) fun a hK => ?_
      refine sl hK (by decide) rfl rfl (r_move hK rfl) fun a hK => ?_
      refine sl hK (by decide) rfl rfl (r_move hK rfl) fun a hK => ?_
      obtain ⟨y_62, h_63, H⟩ := bind_some H
      obtain ⟨b_64, o_65, c_66, cs_67, hv_68, hr_69, hc_70, h_630, h_631⟩ := h1_0.ix h_63
      subst hr_69
      refine sl hK (by decide) rfl rfl (r_indexAddr_R Try.underlying22 Try.sizeOf5 hv_68 h_630 h_631 hK rfl rfl) fun a hK => ?_
      refine sl hK (by decide) rfl rfl (r_load Try.isAgg5 hK rfl ((hS.ra hRA nil_not).cell (hc_70 0 _ rfl))) fun a hK => ?_
      refine sl hK (by decide) rfl rfl (r_conv Try.underlying5 Try.underlying62 hK rfl) fun a hK => ?_
      refine sl hK (by decide) rfl rfl (r_ibin hK rfl rfl rfl) fun a hK => ?_
      refine sl hK (by decide) rfl rfl (r_assign hK rfl) fun a hK => ?_
      refine wpList_nil ?_
      refine wp_seq ?_
      refine wp_region_lit ?_
      refine sl hK (by decide) rfl rfl (r_assign hK rfl) fun a hK => ?_
      refine wpList_nil ?_
      refine wp_block ?_
      refine wp_loop_k (fun k_l1 a w => ∃ (x_76 : Int) (x_77 : Int), ref03_More.l1 (ref03_More.l0 a1 k_l0) a1 x_31 k_l1 x_76 x_77 = some r ∧ Kn 37 a [(1, v1_0), (5, .int .u32 x_76), (6, .int .i64 x_31), (7, .int .i64 x_77)] ∧ St [] w0 w (fun _ => none) []) (((8 : Int) - 0).toNat + 1) ?_ ?_
      · exact ⟨(IntKind.u32.wrap (BitVec.ofInt 32 x_30 ^^^ BitVec.ofInt 32 (IntKind.u32.wrap y_62)).toNat), 0, H, hK.sub (all_cons rfl (all_cons rfl (all_cons rfl (all_cons rfl (all_nil))))), hS⟩
      · rintro k_l1 a w ⟨x_76, x_77, H, hK, hS⟩
        cases k_l1 with
        | zero => cases H
        | succ k_l1 =>
        rw [ref03_More.l1.eq_2] at H
        refine wp_seq ?_
        refine wp_seq ?_
        refine wp_region_lit ?_
        refine sl hK (by decide) rfl rfl (r_move hK rfl) fun a hK => ?_
        refine sl hK (by decide) rfl rfl (r_ibin hK rfl rfl rfl) fun a hK => ?_
        refine wpList_nil ?_
        refine wp_cond_split (hK.ev rfl) (fun (hb_84 : (decide (x_77 < 8)) = true) => ?_) (fun (hb_84 : (decide (x_77 < 8)) = false) => ?_)
        · rw [ifb_t hb_84] at H
          refine wp_skip ?_
          refine wp_seq ?_
          refine wp_block ?_
          refine wp_seq ?_
          refine wp_region_lit ?_
          refine sl hK (by decide) rfl rfl (r_move hK rfl) fun a hK => ?_
          refine sl hK (by decide) rfl rfl (r_rem hK rfl rfl (by decide)) fun a hK => ?_
          refine sl hK (by decide) rfl rfl (r_ibin hK rfl rfl rfl) fun a hK => ?_
          refine wpList_nil ?_
          refine wp_mid (fun a w => ∃ (x_86 : Int), ref03_More.j2 (ref03_More.l1 (ref03_More.l0 a1 k_l0) a1 x_31 k_l1) x_77 x_86 = some r ∧ Kn 37 a [(1, v1_0), (5, .int .u32 x_86), (6, .int .i64 x_31), (7, .int .i64 x_77)] ∧ St [] w0 w (fun _ => none) []) ?_ ?_
          · refine wp_cond_split (hK.ev rfl) (fun (hb_88 : ((x_76.tmod 2) == 1) = true) => ?_) (fun (hb_88 : ((x_76.tmod 2) == 1) = false) => ?_)
            · rw [ifb_t hb_88] at H
              refine wp_region_lit ?_
              refine sl hK (by decide) rfl rfl (r_move hK rfl) fun a hK => ?_
              refine sl hK (by decide) rfl rfl (r_shr hK rfl rfl (by decide)) fun a hK => ?_
              refine sl hK (by decide) rfl rfl (r_ibin hK rfl rfl rfl) fun a hK => ?_
              refine sl hK (by decide) rfl rfl (r_assign hK rfl) fun a hK => ?_
              refine wpList_nil ?_
              exact ⟨(IntKind.u32.wrap (BitVec.ofInt 32 (x_76.fdiv (2 ^ (min (1 : Int).toNat 32))) ^^^ BitVec.ofInt 32 2197175160).toNat), H, hK.sub (all_cons rfl (all_cons rfl (all_cons rfl (all_cons rfl (all_nil))))), hS⟩
            · rw [ifb_f hb_88] at H
              refine wp_region_lit ?_
              refine sl hK (by decide) rfl rfl (r_move hK rfl) fun a hK => ?_
              refine sl hK (by decide) rfl rfl (r_shr hK rfl rfl (by decide)) fun a hK => ?_
              refine sl hK (by decide) rfl rfl (r_assign hK rfl) fun a hK => ?_
              refine wpList_nil ?_
              exact ⟨(x_76.fdiv (2 ^ (min (1 : Int).toNat 32))), H, hK.sub (all_cons rfl (all_cons rfl (all_cons rfl (all_cons rfl (all_nil))))), hS⟩
          · rintro a w ⟨x_86, H, hK, hS⟩
            unfold ref03_More.j2 at H
            refine wp_region_lit ?_
            refine sl hK (by decide) rfl rfl (r_move hK rfl) fun a hK => ?_
            refine sl hK (by decide) rfl rfl (r_ibin hK rfl rfl rfl) fun a hK => ?_
            refine sl hK (by decide) rfl rfl (r_assign hK rfl) fun a hK => ?_
            refine wpList_nil ?_
            exact ⟨_, Nat.lt_succ_self _, x_86, (IntKind.i64.wrap (x_77 + 1)), H, hK.sub (all_cons rfl (all_cons rfl (all_cons rfl (all_cons rfl (all_nil))))), hS⟩
        · rw [ifb_f hb_84] at H
          refine wp_exit ?_
          refine wp_region_lit ?_
          refine sl hK (by decide) rfl rfl (r_move hK rfl) fun a hK => ?_
          refine sl hK (by decide) rfl rfl (r_ibin hK rfl rfl rfl) fun a hK => ?_
          refine sl hK (by decide) rfl rfl (r_assign hK rfl) fun a hK => ?_
          refine wpList_nil ?_
          exact ⟨_, Nat.lt_succ_self _, x_76, (IntKind.i64.wrap (x_31 + 1)), H, hK.sub (all_cons rfl (all_cons rfl (all_cons rfl (all_nil)))), hS⟩
    · rw [ifb_f hb_61] at H
      refine wp_exit ?_
      refine wp_seq ?_
      refine wp_region_lit ?_
      refine sl hK (by decide) rfl rfl (r_move hK rfl) fun a hK => ?_
      refine sl hK (by decide) rfl rfl (r_un hK rfl (u_xor _)) fun a hK => ?_
      refine sl hK (by decide) rfl rfl (r_assign hK rfl) fun a hK => ?_
      refine wpList_nil ?_
      obtain rfl := Option.some.inj H
      refine wp_ret ?_
      repeat (first | refine ret_then ?_ | refine ret_block ?_ | refine ret_scope ?_)
      exact ret_1 Try.results45 hK (rv_tmp hK rfl) ⟨rfl, hS.bel⟩

/-! ### catchment/catchmentref03.Sum: function 35 -/
set_option maxHeartbeats 4000000 in
set_option maxRecDepth 100000 in
theorem ref03_Sum.calls (a0 : List Int) {w0 : World} {RA : Hp} {v0_0 : Value} (hRA : RA.sub w0) (h0_0 : SlR (tyInt .u8) RA v0_0 a0) {r : Int} (H : ref03_Sum a0 = some r) : CallsV Try.prog 35 #[v0_0] w0 (.int .u32 r) := by
  unfold ref03_Sum at H
  refine enter (args := [v0_0]) Try.func35 rfl Try.ntmps35 rfl fun a hK => ?_
  have hS := St.init (R := fun _ => none) (w := w0) (fun _ _ h => by cases h)
  have hRL := RLe.refl (M := []) w0 (fun _ => none)
  refine wp_seq ?_
  refine wp_region_lit ?_
  refine sl hK (by decide) rfl rfl (r_assign hK rfl) fun a hK => ?_
  refine wpList_nil ?_
  refine wp_seq ?_
  refine wp_region_lit ?_
  refine sl hK (by decide) rfl rfl (r_move hK rfl) fun a hK => ?_
  obtain ⟨y_1, h_2, H⟩ := bind_some H
  refine sl_callV Try.call45 hS hK (by decide) rfl rfl rfl (ref03_More.calls 0 a0 (lentOf_sub [] _) (h0_0.mono (hS.raLe0 hRA nil_not)) h_2) fun a w hS hK => ?_
  refine sl hK (by decide) rfl rfl (r_assign hK rfl) fun a hK => ?_
  refine wpList_nil ?_
  obtain rfl := Option.some.inj H
  refine wp_ret ?_
  repeat (first | refine ret_then ?_ | refine ret_block ?_ | refine ret_scope ?_)
  exact ret_1 Try.results35 hK (rv_tmp hK rfl) ⟨rfl, hS.bel⟩

/-! ### catchment/catchmentref04.Encode: function 18 -/
set_option maxHeartbeats 4000000 in
set_option maxRecDepth 100000 in
theorem ref04_Encode.calls (a0 : api_Table) {w0 : World} {R : Hp} {RA : Hp} {v0_0 : Value} {v0_1 : Value} (hRA : RA.sub w0) (hR : R.sub w0) (h0_0 : SlR ty_api_Col RA v0_0 a0.Cols) (h0_1 : SlR (tySl ty_api_Value) RA v0_1 a0.Rows) {r : (List Int) × Int} (H : ref04_Encode a0 = some r) : Calls Try.prog 18 #[.agg #[v0_0, v0_1]] w0 (Rets fun v w' => ∃ (R' : Hp) (u0 : Value) (cu0 : List Value), v = .tuple #[u0, .int .i64 r.2] ∧ St [] w0 w' R' [.row 5 1 u0 r.1.length cu0] ∧ RLe [] w0 R R' ∧ Reps (tyInt .u8) R' cu0 r.1) := by
  unfold ref04_Encode at H
  refine enter (args := [.agg #[v0_0, v0_1]]) Try.func18 rfl Try.ntmps18 rfl fun a hK => ?_
  have hS := St.init hR
  have hRL := RLe.refl (M := []) w0 R
  refine wp_seq ?_
  refine wp_region_lit ?_
  refine sl_box hS hK (by decide) rfl rfl (c := [v0_0, v0_1]) rfl fun a w b_1 hS hK => ?_
  refine sl hK (by decide) rfl rfl (r_assign hK rfl) fun a hK => ?_
  refine sl hK (by decide) rfl rfl (r_assign hK rfl) fun a hK => ?_
  refine wpList_nil ?_
  refine wp_seq ?_
  refine wp_region_lit ?_
  refine sl hK (by decide) rfl rfl (r_loadA (cs := [v0_0, v0_1]) Try.isAgg37 Try.sizeOf37 rfl hK rfl (hS.cells_of (m := 2) (.head _) rfl)) fun a hK => ?_
  obtain ⟨y_2, h_3, H⟩ := bind_some H
  refine sl_callV Try.call33 hS hK (by decide) rfl rfl rfl (ref02_Check.calls a0 (lentOf_sub [] _) (h0_0.mono (hS.raLe0 hRA nil_not)) (h0_1.mono (hS.raLe0 hRA nil_not)) h_3) fun a w hS hK => ?_
  refine sl hK (by decide) rfl rfl (r_assign hK rfl) fun a hK => ?_
  refine wpList_nil ?_
  refine wp_seq ?_
  refine wp_seq ?_
  refine wp_region_lit ?_
  refine sl hK (by decide) rfl rfl (r_move hK rfl) fun a hK => ?_
  refine sl hK (by decide) rfl rfl (r_ibin hK rfl rfl rfl) fun a hK => ?_
  refine wpList_nil ?_
  refine wp_cond_split (hK.ev rfl) (fun (hb_4 : (y_2 != 0) = true) => ?_) (fun (hb_4 : (y_2 != 0) = false) => ?_)
  · rw [ifb_t hb_4] at H
    refine wp_seq ?_
    refine wp_region_lit ?_
    refine sl hK (by decide) rfl rfl (r_move hK rfl) fun a hK => ?_
    refine sl hK (by decide) rfl rfl (r_assign hK rfl) fun a hK => ?_
    refine sl hK (by decide) rfl rfl (r_assign hK rfl) fun a hK => ?_
    refine wpList_nil ?_
    have hS := hS.row_nil 5 1
    have hq_6 : Reps (tyInt .u8) R [] ([] : List Int) := Reps.nil _ _
    obtain rfl := Option.some.inj H
    refine wp_ret ?_
    repeat (first | refine ret_then ?_ | refine ret_block ?_ | refine ret_scope ?_)
    exact ret_2 Try.results18 hK (rv_tmp hK rfl) (rv_tmp hK rfl) ⟨_, rfl, _, _, _, rfl, (hS.trunc 1), hRL, hq_6⟩
  · rw [ifb_f hb_4] at H
    refine wp_skip ?_
    refine wp_seq ?_
    refine wp_seq ?_
    refine wp_region_lit ?_
    refine sl hK (by decide) rfl rfl (r_fieldAddr Try.underlying37 rfl Try.sizeOf35 hK rfl) fun a hK => ?_
    refine sl hK (by decide) rfl rfl (r_load Try.isAgg35 hK rfl (hS.cell (.head _) rfl)) fun a hK => ?_
    refine sl hK (by decide) rfl rfl (r_len_R Try.underlying35 h0_1 hK rfl) fun a hK => ?_
    refine sl hK (by decide) rfl rfl (r_ibin hK rfl rfl rfl) fun a hK => ?_
    refine wpList_nil ?_
    refine wp_cond_split (hK.ev rfl) (fun (hb_7 : (decide ((a0.Rows.length : Int) > 4096)) = true) => ?_) (fun (hb_7 : (decide ((a0.Rows.length : Int) > 4096)) = false) => ?_)
    · rw [ifb_t hb_7] at H
      refine wp_seq ?_
      refine wp_region_lit ?_
      refine sl hK (by decide) rfl rfl (r_assign hK rfl) fun a hK => ?_
      refine sl hK (by decide) rfl rfl (r_assign hK rfl) fun a hK => ?_
      refine wpList_nil ?_
      have hS := hS.row_nil 5 1
      have hq_9 : Reps (tyInt .u8) R [] ([] : List Int) := Reps.nil _ _
      obtain rfl := Option.some.inj H
      refine wp_ret ?_
      repeat (first | refine ret_then ?_ | refine ret_block ?_ | refine ret_scope ?_)
      exact ret_2 Try.results18 hK (rv_tmp hK rfl) (rv_tmp hK rfl) ⟨_, rfl, _, _, _, rfl, (hS.trunc 1), hRL, hq_9⟩
    · rw [ifb_f hb_7] at H
      refine wp_skip ?_
      refine wp_seq ?_
      refine wp_region_lit ?_
      refine sl hK (by decide) rfl rfl (r_loadA (cs := [v0_0, v0_1]) Try.isAgg37 Try.sizeOf37 rfl hK rfl (hS.cells_of (m := 2) (.head _) rfl)) fun a hK => ?_
      obtain ⟨y_10, h_11, H⟩ := bind_some H
      refine sl_call Try.call34 hK (by decide) rfl rfl rfl (ref04_body.calls a0 (lentOf_sub [] _) hS.sub (h0_0.mono (hS.raLe0 hRA nil_not)) (h0_1.mono (hS.raLe0 hRA nil_not)) h_11) fun a v_ w hv_ hK => ?_
      obtain ⟨R_12, v_15, cs_16, hv_, hr_, hl_13, hq_17⟩ := hv_
      have hv_ := hv_.symm
      subst hv_
      obtain ⟨hS, hl_13⟩ := hS.sp0.back hr_ hl_13
      have hS := hS.un1
      have hRL := hRL.trans hl_13
      refine sl hK (by decide) rfl rfl (r_assign hK rfl) fun a hK => ?_
      refine wpList_nil ?_
      refine wp_seq ?_
      refine wp_region_lit ?_
      refine sl hK (by decide) rfl rfl (r_move hK rfl) fun a hK => ?_
      refine sl hK (by decide) rfl rfl (r_len_O Try.underlying22 hS (.head _) hK rfl) fun a hK => ?_
      have hS := hS.row_nil 5 1
      have hq_19 : Reps (tyInt .u8) R_12 [] ([] : List Int) := Reps.nil _ _
      obtain ⟨y_20, h_21, H⟩ := bind_some H
      have hS1 := hS.sp1
      refine sl_call Try.call26 hK (by decide) rfl rfl rfl (ref04_big.calls ([] : List Int) (y_10.length : Int) 4 hS1.lend hq_19 h_21) fun a v_ w hv_ hK => ?_
      obtain ⟨R_22, v_25, cs_26, hv_, hr_, hl_23, hq_27⟩ := hv_
      have hv_ := hv_.symm
      subst hv_
      obtain ⟨hS, hl_23⟩ := hS1.back hr_ hl_23
      have hS := hS.un1
      have hRL := hRL.trans hl_23
      refine sl hK (by decide) rfl rfl (r_move hK rfl) fun a hK => ?_
      have hS := hS.pk1
      obtain ⟨R_28, hS, hl_30, hs_29⟩ := hS.fz_row (hq_17.mono hl_23.le) rfl rfl
      have hRL := hRL.trans hl_30
      obtain ⟨y_31, h_32, H⟩ := bind_some H
      refine sl_append_R elT22 (by decide) rfl (hq_27.mono hl_30.le) rfl hs_29 h_32 hS hK (by decide) rfl rfl rfl fun a w v_33 cs_34 hq_35 hS hK => ?_
      refine sl hK (by decide) rfl rfl (r_assign hK rfl) fun a hK => ?_
      refine wpList_nil ?_
      refine wp_seq ?_
      refine wp_region_lit ?_
      refine sl hK (by decide) rfl rfl (r_move hK rfl) fun a hK => ?_
      refine sl hK (by decide) rfl rfl (r_move hK rfl) fun a hK => ?_
      obtain ⟨y_37, h_38, H⟩ := bind_some H
      refine sl_callV Try.call35 hS hK (by decide) rfl rfl rfl (ref03_Sum.calls y_10 (lentOf_sub [] _) (hs_29.mono hS.rLe0) h_38) fun a w hS hK => ?_
      refine sl hK (by decide) rfl rfl (r_conv Try.underlying62 Try.underlying3 hK rfl) fun a hK => ?_
      obtain ⟨y_39, h_40, H⟩ := bind_some H
      have hS1 := hS.sp1
      refine sl_call Try.call26 hK (by decide) rfl rfl rfl (ref04_big.calls y_31 (IntKind.i64.wrap y_37) 4 hS1.lend hq_35 h_40) fun a v_ w hv_ hK => ?_
      obtain ⟨R_41, v_44, cs_45, hv_, hr_, hl_42, hq_46⟩ := hv_
      have hv_ := hv_.symm
      subst hv_
      obtain ⟨hS, hl_42⟩ := hS1.back hr_ hl_42
      have hS := hS.un1
      have hRL := hRL.trans hl_42
      refine sl hK (by decide) rfl rfl (r_assign hK rfl) fun a hK => ?_
      refine sl hK (by decide) rfl rfl (r_assign hK rfl) fun a hK => ?_
      refine wpList_nil ?_
      obtain rfl := Option.some.inj H
      refine wp_ret ?_
      repeat (first | refine ret_then ?_ | refine ret_block ?_ | refine ret_scope ?_)
      exact ret_2 Try.results18 hK (rv_tmp hK rfl) (rv_tmp hK rfl) ⟨_, rfl, _, _, _, rfl, (hS.trunc 1), hRL, hq_46⟩

/-! ### catchment/catchmentref02.SameCols: function 41 -/
set_option maxHeartbeats 4000000 in
set_option maxRecDepth 100000 in
theorem ref02_SameCols.calls (a0 : List api_Col) (a1 : List api_Col) {w0 : World} {RA : Hp} {v0_0 : Value} {v1_0 : Value} (hRA : RA.sub w0) (h0_0 : SlR ty_api_Col RA v0_0 a0) (h1_0 : SlR ty_api_Col RA v1_0 a1) {r : Bool} (H : ref02_SameCols a0 a1 = some r) : CallsV Try.prog 41 #[v0_0, v1_0] w0 (.bool r) := by
  unfold ref02_SameCols at H
  refine enter (args := [v0_0, v1_0]) Try.func41 rfl Try.ntmps41 rfl fun a hK => ?_
  have hS := St.init (R := fun _ => none) (w := w0) (fun _ _ h => by cases h)
  have hRL := RLe.refl (M := []) w0 (fun _ => none)
  refine wp_seq ?_
  refine wp_region_lit ?_
  refine sl hK (by decide) rfl rfl (r_assign hK rfl) fun a hK => ?_
  refine wpList_nil ?_
  refine wp_seq ?_
  refine wp_seq ?_
  refine wp_region_lit ?_
  refine sl hK (by decide) rfl rfl (r_move hK rfl) fun a hK => ?_
  refine sl hK (by decide) rfl rfl (r_len_R Try.underlying34 h0_0 hK rfl) fun a hK => ?_
  refine sl hK (by decide) rfl rfl (r_move hK rfl) fun a hK => ?_
  refine sl hK (by decide) rfl rfl (r_len_R Try.underlying34 h1_0 hK rfl) fun a hK => ?_
  refine sl hK (by decide) rfl rfl (r_ibin hK rfl rfl rfl) fun a hK => ?_
  refine wpList_nil ?_
  refine wp_cond_split (hK.ev rfl) (fun (hb_1 : ((a0.length : Int) != (a1.length : Int)) = true) => ?_) (fun (hb_1 : ((a0.length : Int) != (a1.length : Int)) = false) => ?_)
  · rw [ifb_t hb_1] at H
    refine wp_seq ?_
    refine wp_region_lit ?_
    refine sl hK (by decide) rfl rfl (r_assign hK rfl) fun a hK => ?_
    refine wpList_nil ?_
    obtain rfl := Option.some.inj H
    refine wp_ret ?_
    repeat (first | refine ret_then ?_ | refine ret_block ?_ | refine ret_scope ?_)
    exact ret_1 Try.results41 hK (rv_tmp hK rfl) ⟨rfl, hS.bel⟩
  · rw [ifb_f hb_1] at H
    refine wp_skip ?_
    refine wp_seq ?_
    refine wp_seq ?_
    refine wp_region_lit ?_
    refine sl hK (by decide) rfl rfl (r_assign hK rfl) fun a hK => ?_
    refine wpList_nil ?_
    refine wp_block ?_
    refine wp_loop_k (fun k_l0 a w => ∃ (x_41 : Int), ref02_SameCols.l0 a0 a1 k_l0 x_41 = some r ∧ Kn 26 a [(0, v0_0), (1, v1_0), (5, .int .i64 x_41)] ∧ St [] w0 w (fun _ => none) []) (((a0.length : Int) - 0).toNat + 1) ?_ ?_
    · exact ⟨0, H, hK.sub (all_cons rfl (all_cons rfl (all_cons rfl (all_nil)))), hS⟩
    · rintro k_l0 a w ⟨x_41, H, hK, hS⟩
      cases k_l0 with
      | zero => cases H
      | succ k_l0 =>
      rw [ref02_SameCols.l0.eq_2] at H
      refine wp_seq ?_
      refine wp_seq ?_
      refine wp_region_lit ?_
      refine sl hK (by decide) rfl rfl (r_move hK rfl) fun a hK => ?_
      refine sl hK (by decide) rfl rfl (r_move hK rfl) fun a hK => ?_
      refine sl hK (by decide) rfl rfl (r_len_R Try.underlying34 h0_0 hK rfl) fun a hK => ?_
      refine sl hK (by decide) rfl rfl (r_ibin hK rfl rfl rfl) fun a hK => ?_
      refine wpList_nil ?_
      refine wp_cond_split (hK.ev rfl) (fun (hb_81 : (decide (x_41 < (a0.length : Int))) = true) => ?_) (fun (hb_81 : (decide (x_41 < (a0.length : Int))) = false) => ?_)
      · rw [ifb_t hb_81] at H
        refine wp_skip ?_
        refine wp_seq ?_
        refine wp_block ?_
        refine wp_seq ?_
        refine par_region (C := fun w => St [] w0 w (fun _ => none) []) [(0, true), (1, true), (2, true), (3, true), (4, true), (5, true), (6, true), (7, true), (8, true)] mixed (by kernel_rfl) hS (fun w hS => hS) fun w hS => ?_
        refine sp (k := 0) rfl hK (by decide) rfl rfl (fun w hS => r_move hK rfl) fun a hK => ?_
        refine sp (k := 1) rfl hK (by decide) rfl rfl (fun w hS => r_move hK rfl) fun a hK => ?_
        obtain ⟨y_100, h_101, H⟩ := bind_some H
        obtain ⟨b_102, o_103, c_104, cs_105, hv_106, hr_107, hc_108, h_1010, h_1011⟩ := h0_0.ix h_101
        subst hr_107
        refine sp (k := 2) rfl hK (by decide) rfl rfl (fun w hS => r_indexAddr_R Try.underlying34 Try.sizeOf48 hv_106 h_1010 h_1011 hK rfl rfl) fun a hK => ?_
        refine sp (k := 3) rfl hK (by decide) rfl rfl (fun w hS => r_loadA (cs := [.string y_100.Name, .int .i64 y_100.Kind]) Try.isAgg48 Try.sizeOf48 rfl hK rfl (fun j v hv => (hS.ra hRA nil_not).cell (hc_108 j v hv))) fun a hK => ?_
        refine sp (k := 4) rfl hK (by decide) rfl rfl (fun w hS => r_move hK rfl) fun a hK => ?_
        refine sp (k := 5) rfl hK (by decide) rfl rfl (fun w hS => r_move hK rfl) fun a hK => ?_
        obtain ⟨y_109, h_110, H⟩ := bind_some H
        obtain ⟨b_111, o_112, c_113, cs_114, hv_115, hr_116, hc_117, h_1100, h_1101⟩ := h1_0.ix h_110
        subst hr_116
        refine sp (k := 6) rfl hK (by decide) rfl rfl (fun w hS => r_indexAddr_R Try.underlying34 Try.sizeOf48 hv_115 h_1100 h_1101 hK rfl rfl) fun a hK => ?_
        refine sp (k := 7) rfl hK (by decide) rfl rfl (fun w hS => r_loadA (cs := [.string y_109.Name, .int .i64 y_109.Kind]) Try.isAgg48 Try.sizeOf48 rfl hK rfl (fun j v hv => (hS.ra hRA nil_not).cell (hc_117 j v hv))) fun a hK => ?_
        refine sp (k := 8) rfl hK (by decide) rfl rfl (fun w hS => r_sne (by kernel_rfl) (eqs48 y_100 y_109) hK rfl rfl) fun a hK => ?_
        refine wpPar_nil (NoP_nil ?_)
        refine wp_cond_split (hK.ev rfl) (fun (hb_118 : (!decide (y_100 = y_109)) = true) => ?_) (fun (hb_118 : (!decide (y_100 = y_109)) = false) => ?_)
        · rw [ifb_t hb_118] at H
          refine wp_seq ?_
          refine wp_region_lit ?_
          refine sl hK (by decide) rfl rfl (r_assign hK rfl) fun a hK => ?_
          refine wpList_nil ?_
          obtain rfl := Option.some.inj H
          refine wp_ret ?_
          repeat (first | refine ret_then ?_ | refine ret_block ?_ | refine ret_scope ?_)
          exact ret_1 Try.results41 hK (rv_tmp hK rfl) ⟨rfl, hS.bel⟩
        · rw [ifb_f hb_118] at H
          refine wp_skip ?_
          refine wp_region_lit ?_
          refine sl hK (by decide) rfl rfl (r_move hK rfl) fun a hK => ?_
          refine sl hK (by decide) rfl rfl (r_ibin hK rfl rfl rfl) fun a hK => ?_
          refine sl hK (by decide) rfl rfl (r_assign hK rfl) fun a hK => ?_
          refine wpList_nil ?_
          exact ⟨_, Nat.lt_succ_self _, (IntKind.i64.wrap (x_41 + 1)), H, hK.sub (all_cons rfl (all_cons rfl (all_cons rfl (all_nil)))), hS⟩
      · rw [ifb_f hb_81] at H
        refine wp_exit ?_
        refine wp_seq ?_
        refine wp_region_lit ?_
        refine sl hK (by decide) rfl rfl (r_assign hK rfl) fun a hK => ?_
        refine wpList_nil ?_
        obtain rfl := Option.some.inj H
        refine wp_ret ?_
        repeat (first | refine ret_then ?_ | refine ret_block ?_ | refine ret_scope ?_)
        exact ret_1 Try.results41 hK (rv_tmp hK rfl) ⟨rfl, hS.bel⟩

/-! ### catchment/catchmentref01.order: function 52 -/
set_option maxHeartbeats 4000000 in
set_option maxRecDepth 100000 in
theorem ref01_order.calls (a0 : Int) (a1 : Int) {r : Int} (H : ref01_order a0 a1 = some r) (w0 : World) : CallsV Try.prog 52 #[.int .i64 a0, .int .i64 a1] w0 (.int .i64 r) := by
  unfold ref01_order at H
  refine enter (args := [.int .i64 a0, .int .i64 a1]) Try.func52 rfl Try.ntmps52 rfl fun a hK => ?_
  have hS := St.init (R := fun _ => none) (w := w0) (fun _ _ h => by cases h)
  have hRL := RLe.refl (M := []) w0 (fun _ => none)
  refine wp_seq ?_
  refine wp_region_lit ?_
  refine sl hK (by decide) rfl rfl (r_assign hK rfl) fun a hK => ?_
  refine wpList_nil ?_
  refine wp_seq ?_
  refine wp_seq ?_
  refine wp_region_lit ?_
  refine sl hK (by decide) rfl rfl (r_move hK rfl) fun a hK => ?_
  refine sl hK (by decide) rfl rfl (r_move hK rfl) fun a hK => ?_
  refine sl hK (by decide) rfl rfl (r_ibin hK rfl rfl rfl) fun a hK => ?_
  refine wpList_nil ?_
  refine wp_cond_split (hK.ev rfl) (fun (hb_1 : (decide (a0 < a1)) = true) => ?_) (fun (hb_1 : (decide (a0 < a1)) = false) => ?_)
  · rw [ifb_t hb_1] at H
    refine wp_seq ?_
    refine wp_region_lit ?_
    refine sl hK (by decide) rfl rfl (r_assign hK rfl) fun a hK => ?_
    refine wpList_nil ?_
    obtain rfl := Option.some.inj H
    refine wp_ret ?_
    repeat (first | refine ret_then ?_ | refine ret_block ?_ | refine ret_scope ?_)
    exact ret_1 Try.results52 hK (rv_tmp hK rfl) ⟨rfl, hS.bel⟩
  · rw [ifb_f hb_1] at H
    refine wp_skip ?_
    refine wp_seq ?_
    refine wp_seq ?_
    refine wp_region_lit ?_
    refine sl hK (by decide) rfl rfl (r_move hK rfl) fun a hK => ?_
    refine sl hK (by decide) rfl rfl (r_move hK rfl) fun a hK => ?_
    refine sl hK (by decide) rfl rfl (r_ibin hK rfl rfl rfl) fun a hK => ?_
    refine wpList_nil ?_
    refine wp_cond_split (hK.ev rfl) (fun (hb_2 : (decide (a0 > a1)) = true) => ?_) (fun (hb_2 : (decide (a0 > a1)) = false) => ?_)
    · rw [ifb_t hb_2] at H
      refine wp_seq ?_
      refine wp_region_lit ?_
      refine sl hK (by decide) rfl rfl (r_assign hK rfl) fun a hK => ?_
      refine wpList_nil ?_
      obtain rfl := Option.some.inj H
      refine wp_ret ?_
      repeat (first | refine ret_then ?_ | refine ret_block ?_ | refine ret_scope ?_)
      exact ret_1 Try.results52 hK (rv_tmp hK rfl) ⟨rfl, hS.bel⟩
    · rw [ifb_f hb_2] at H
      refine wp_skip ?_
      refine wp_seq ?_
      refine wp_region_lit ?_
      refine sl hK (by decide) rfl rfl (r_assign hK rfl) fun a hK => ?_
      refine wpList_nil ?_
      obtain rfl := Option.some.inj H
      refine wp_ret ?_
      repeat (first | refine ret_then ?_ | refine ret_block ?_ | refine ret_scope ?_)
      exact ret_1 Try.results52 hK (rv_tmp hK rfl) ⟨rfl, hS.bel⟩

/-! ### catchment/catchmentref01.Compare: function 48 -/
set_option maxHeartbeats 4000000 in
set_option maxRecDepth 100000 in
theorem ref01_Compare.calls (a0 : api_Value) (a1 : api_Value) {r : Int} (H : ref01_Compare a0 a1 = some r) (w0 : World) : CallsV Try.prog 48 #[.agg #[.int .i64 a0.Kind, .int .i64 a0.N, .string a0.S, .int .i64 a0.H.a0, .int .i64 a0.H.a1, .int .i64 a0.H.a2, .int .i64 a0.H.a3, .int .i64 a0.H.a4, .int .i64 a0.H.a5, .int .i64 a0.H.a6, .int .i64 a0.H.a7], .agg #[.int .i64 a1.Kind, .int .i64 a1.N, .string a1.S, .int .i64 a1.H.a0, .int .i64 a1.H.a1, .int .i64 a1.H.a2, .int .i64 a1.H.a3, .int .i64 a1.H.a4, .int .i64 a1.H.a5, .int .i64 a1.H.a6, .int .i64 a1.H.a7]] w0 (.int .i64 r) := by
  unfold ref01_Compare at H
  refine enter (args := [.agg #[.int .i64 a0.Kind, .int .i64 a0.N, .string a0.S, .int .i64 a0.H.a0, .int .i64 a0.H.a1, .int .i64 a0.H.a2, .int .i64 a0.H.a3, .int .i64 a0.H.a4, .int .i64 a0.H.a5, .int .i64 a0.H.a6, .int .i64 a0.H.a7], .agg #[.int .i64 a1.Kind, .int .i64 a1.N, .string a1.S, .int .i64 a1.H.a0, .int .i64 a1.H.a1, .int .i64 a1.H.a2, .int .i64 a1.H.a3, .int .i64 a1.H.a4, .int .i64 a1.H.a5, .int .i64 a1.H.a6, .int .i64 a1.H.a7]]) Try.func48 rfl Try.ntmps48 rfl fun a hK => ?_
  have hS := St.init (R := fun _ => none) (w := w0) (fun _ _ h => by cases h)
  have hRL := RLe.refl (M := []) w0 (fun _ => none)
  refine wp_seq ?_
  refine wp_region_lit ?_
  refine sl_box hS hK (by decide) rfl rfl (c := [.int .i64 a0.Kind, .int .i64 a0.N, .string a0.S, .int .i64 a0.H.a0, .int .i64 a0.H.a1, .int .i64 a0.H.a2, .int .i64 a0.H.a3, .int .i64 a0.H.a4, .int .i64 a0.H.a5, .int .i64 a0.H.a6, .int .i64 a0.H.a7]) rfl fun a w b_1 hS hK => ?_
  refine sl_box hS hK (by decide) rfl rfl (c := [.int .i64 a1.Kind, .int .i64 a1.N, .string a1.S, .int .i64 a1.H.a0, .int .i64 a1.H.a1, .int .i64 a1.H.a2, .int .i64 a1.H.a3, .int .i64 a1.H.a4, .int .i64 a1.H.a5, .int .i64 a1.H.a6, .int .i64 a1.H.a7]) rfl fun a w b_2 hS hK => ?_
  refine sl hK (by decide) rfl rfl (r_assign hK rfl) fun a hK => ?_
  refine wpList_nil ?_
  refine wp_seq ?_
  refine wp_seq ?_
  refine wp_region_lit ?_
  refine sl hK (by decide) rfl rfl (r_fieldAddr Try.underlying25 rfl Try.sizeOf3 hK rfl) fun a hK => ?_
  refine sl hK (by decide) rfl rfl (r_load Try.isAgg3 hK rfl (hS.cell (.tail _ (.head _)) rfl)) fun a hK => ?_
  refine sl hK (by decide) rfl rfl (r_fieldAddr Try.underlying25 rfl Try.sizeOf3 hK rfl) fun a hK => ?_
  refine sl hK (by decide) rfl rfl (r_load Try.isAgg3 hK rfl (hS.cell (.head _) rfl)) fun a hK => ?_
  refine sl hK (by decide) rfl rfl (r_ibin hK rfl rfl rfl) fun a hK => ?_
  refine wpList_nil ?_
  refine wp_cond_split (hK.ev rfl) (fun (hb_3 : (a0.Kind != a1.Kind) = true) => ?_) (fun (hb_3 : (a0.Kind != a1.Kind) = false) => ?_)
  · rw [ifb_t hb_3] at H
    refine wp_seq ?_
    refine wp_region_lit ?_
    refine sl hK (by decide) rfl rfl (r_fieldAddr Try.underlying25 rfl Try.sizeOf3 hK rfl) fun a hK => ?_
    refine sl hK (by decide) rfl rfl (r_load Try.isAgg3 hK rfl (hS.cell (.tail _ (.head _)) rfl)) fun a hK => ?_
    refine sl hK (by decide) rfl rfl (r_fieldAddr Try.underlying25 rfl Try.sizeOf3 hK rfl) fun a hK => ?_
    refine sl hK (by decide) rfl rfl (r_load Try.isAgg3 hK rfl (hS.cell (.head _) rfl)) fun a hK => ?_
    obtain ⟨y_4, h_5, H⟩ := bind_some H
    refine sl_callV Try.call52 hS hK (by decide) rfl rfl rfl (ref01_order.calls a0.Kind a1.Kind h_5 _) fun a w hS hK => ?_
    refine sl hK (by decide) rfl rfl (r_assign hK rfl) fun a hK => ?_
    refine wpList_nil ?_
    obtain rfl := Option.some.inj H
    refine wp_ret ?_
    repeat (first | refine ret_then ?_ | refine ret_block ?_ | refine ret_scope ?_)
    exact ret_1 Try.results48 hK (rv_tmp hK rfl) ⟨rfl, hS.bel⟩
  · rw [ifb_f hb_3] at H
    refine wp_skip ?_
    refine wp_seq ?_
    refine wp_seq ?_
    refine wp_region_lit ?_
    refine sl hK (by decide) rfl rfl (r_fieldAddr Try.underlying25 rfl Try.sizeOf3 hK rfl) fun a hK => ?_
    refine sl hK (by decide) rfl rfl (r_load Try.isAgg3 hK rfl (hS.cell (.tail _ (.head _)) rfl)) fun a hK => ?_
    refine sl hK (by decide) rfl rfl (r_fieldAddr Try.underlying25 rfl Try.sizeOf3 hK rfl) fun a hK => ?_
    refine sl hK (by decide) rfl rfl (r_load Try.isAgg3 hK rfl (hS.cell (.head _) rfl)) fun a hK => ?_
    refine sl hK (by decide) rfl rfl (r_ibin hK rfl rfl rfl) fun a hK => ?_
    refine wpList_nil ?_
    refine wp_cond_split (hK.ev rfl) (fun (hb_6 : (a0.N != a1.N) = true) => ?_) (fun (hb_6 : (a0.N != a1.N) = false) => ?_)
    · rw [ifb_t hb_6] at H
      refine wp_seq ?_
      refine wp_region_lit ?_
      refine sl hK (by decide) rfl rfl (r_fieldAddr Try.underlying25 rfl Try.sizeOf3 hK rfl) fun a hK => ?_
      refine sl hK (by decide) rfl rfl (r_load Try.isAgg3 hK rfl (hS.cell (.tail _ (.head _)) rfl)) fun a hK => ?_
      refine sl hK (by decide) rfl rfl (r_fieldAddr Try.underlying25 rfl Try.sizeOf3 hK rfl) fun a hK => ?_
      refine sl hK (by decide) rfl rfl (r_load Try.isAgg3 hK rfl (hS.cell (.head _) rfl)) fun a hK => ?_
      obtain ⟨y_7, h_8, H⟩ := bind_some H
      refine sl_callV Try.call52 hS hK (by decide) rfl rfl rfl (ref01_order.calls a0.N a1.N h_8 _) fun a w hS hK => ?_
      refine sl hK (by decide) rfl rfl (r_assign hK rfl) fun a hK => ?_
      refine wpList_nil ?_
      obtain rfl := Option.some.inj H
      refine wp_ret ?_
      repeat (first | refine ret_then ?_ | refine ret_block ?_ | refine ret_scope ?_)
      exact ret_1 Try.results48 hK (rv_tmp hK rfl) ⟨rfl, hS.bel⟩
    · rw [ifb_f hb_6] at H
      refine wp_skip ?_
      refine wp_seq ?_
      refine wp_seq ?_
      refine wp_region_lit ?_
      refine sl hK (by decide) rfl rfl (r_assign hK rfl) fun a hK => ?_
      refine wpList_nil ?_
      refine wp_block ?_
      refine wp_loop_k (fun k_l0 a w => ∃ (x_36 : Int), ref01_Compare.l0 a0 a1 k_l0 x_36 = some r ∧ Kn 97 a [(2, .pointer (some ⟨b_1, 0, none⟩)), (3, .pointer (some ⟨b_2, 0, none⟩)), (5, .int .i64 x_36)] ∧ St [] w0 w (fun _ => none) [.cells b_1 [.int .i64 a0.Kind, .int .i64 a0.N, .string a0.S, .int .i64 a0.H.a0, .int .i64 a0.H.a1, .int .i64 a0.H.a2, .int .i64 a0.H.a3, .int .i64 a0.H.a4, .int .i64 a0.H.a5, .int .i64 a0.H.a6, .int .i64 a0.H.a7] 25, .cells b_2 [.int .i64 a1.Kind, .int .i64 a1.N, .string a1.S, .int .i64 a1.H.a0, .int .i64 a1.H.a1, .int .i64 a1.H.a2, .int .i64 a1.H.a3, .int .i64 a1.H.a4, .int .i64 a1.H.a5, .int .i64 a1.H.a6, .int .i64 a1.H.a7] 25]) (((a0.S.size : Int) - 0).toNat + 1) ?_ ?_
      · have hS := hS.pk1
        exact ⟨0, H, hK.sub (all_cons rfl (all_cons rfl (all_cons rfl (all_nil)))), hS⟩
      · rintro k_l0 a w ⟨x_36, H, hK, hS⟩
        cases k_l0 with
        | zero => cases H
        | succ k_l0 =>
        rw [ref01_Compare.l0.eq_2] at H
        refine wp_seq ?_
        refine wp_seq ?_
        refine wp_mid (fun a w => ∃ (x_66 : Bool), ref01_Compare.j1 (ref01_Compare.l0 a0 a1 k_l0) a0 a1 x_36 x_66 = some r ∧ Kn 97 a [(2, .pointer (some ⟨b_1, 0, none⟩)), (3, .pointer (some ⟨b_2, 0, none⟩)), (5, .int .i64 x_36), (38, .bool x_66)] ∧ St [] w0 w (fun _ => none) [.cells b_1 [.int .i64 a0.Kind, .int .i64 a0.N, .string a0.S, .int .i64 a0.H.a0, .int .i64 a0.H.a1, .int .i64 a0.H.a2, .int .i64 a0.H.a3, .int .i64 a0.H.a4, .int .i64 a0.H.a5, .int .i64 a0.H.a6, .int .i64 a0.H.a7] 25, .cells b_2 [.int .i64 a1.Kind, .int .i64 a1.N, .string a1.S, .int .i64 a1.H.a0, .int .i64 a1.H.a1, .int .i64 a1.H.a2, .int .i64 a1.H.a3, .int .i64 a1.H.a4, .int .i64 a1.H.a5, .int .i64 a1.H.a6, .int .i64 a1.H.a7] 25]) ?_ ?_
        · refine wp_region_lit ?_
          refine sl hK (by decide) rfl rfl (r_move hK rfl) fun a hK => ?_
          refine sl hK (by decide) rfl rfl (r_fieldAddr Try.underlying25 rfl Try.sizeOf9 hK rfl) fun a hK => ?_
          refine sl hK (by decide) rfl rfl (r_load Try.isAgg9 hK rfl (hS.cell (.head _) rfl)) fun a hK => ?_
          refine sl hK (by decide) rfl rfl (r_len_str Try.underlying9 hK rfl) fun a hK => ?_
          refine sl hK (by decide) rfl rfl (r_ibin hK rfl rfl rfl) fun a hK => ?_
          refine sl hK (by decide) rfl rfl (r_move hK rfl) fun a hK => ?_
          rcases or_b (decide (x_36 < (a0.S.size : Int))) with hb_68 | hb_68
          · rw [ifb_t hb_68] at H
            refine sl hK (by decide) (wtt hb_68) rfl (r_move hK rfl) fun a hK => ?_
            refine sl hK (by decide) (wtt hb_68) rfl (r_fieldAddr Try.underlying25 rfl Try.sizeOf9 hK rfl) fun a hK => ?_
            refine sl hK (by decide) (wtt hb_68) rfl (r_load Try.isAgg9 hK rfl (hS.cell (.tail _ (.head _)) rfl)) fun a hK => ?_
            refine sl hK (by decide) (wtt hb_68) rfl (r_len_str Try.underlying9 hK rfl) fun a hK => ?_
            refine sl hK (by decide) (wtt hb_68) rfl (r_ibin hK rfl rfl rfl) fun a hK => ?_
            refine sl hK (by decide) rfl rfl (r_pick_t hb_68 hK rfl rfl) fun a hK => ?_
            refine wpList_nil ?_
            have hS := hS.pk1
            have hS := hS.pk1
            exact ⟨(decide (x_36 < (a1.S.size : Int))), H, hK.sub (all_cons rfl (all_cons rfl (all_cons rfl (all_cons rfl (all_nil))))), hS⟩
          · rw [ifb_f hb_68] at H
            refine sl_skip hK (by decide) (wtf hb_68) rfl fun a hK => ?_
            refine sl_skip hK (by decide) (wtf hb_68) rfl fun a hK => ?_
            refine sl_skip hK (by decide) (wtf hb_68) rfl fun a hK => ?_
            refine sl_skip hK (by decide) (wtf hb_68) rfl fun a hK => ?_
            refine sl_skip hK (by decide) (wtf hb_68) rfl fun a hK => ?_
            refine sl hK (by decide) rfl rfl (r_pick_f hb_68 hK rfl rfl) fun a hK => ?_
            refine wpList_nil ?_
            have hS := hS.pk1
            have hS := hS.pk1
            exact ⟨false, H, hK.sub (all_cons rfl (all_cons rfl (all_cons rfl (all_cons rfl (all_nil))))), hS⟩
        · rintro a w ⟨x_66, H, hK, hS⟩
          unfold ref01_Compare.j1 at H
          refine wp_cond_split (hK.ev rfl) (fun (hb_69 : x_66 = true) => ?_) (fun (hb_69 : x_66 = false) => ?_)
          · rw [ifb_t hb_69] at H
            refine wp_skip ?_
            refine wp_seq ?_
            refine wp_block ?_
            refine wp_seq ?_
            refine par_region (C := fun w => St [] w0 w (fun _ => none) [.cells b_1 [.int .i64 a0.Kind, .int .i64 a0.N, .string a0.S, .int .i64 a0.H.a0, .int .i64 a0.H.a1, .int .i64 a0.H.a2, .int .i64 a0.H.a3, .int .i64 a0.H.a4, .int .i64 a0.H.a5, .int .i64 a0.H.a6, .int .i64 a0.H.a7] 25, .cells b_2 [.int .i64 a1.Kind, .int .i64 a1.N, .string a1.S, .int .i64 a1.H.a0, .int .i64 a1.H.a1, .int .i64 a1.H.a2, .int .i64 a1.H.a3, .int .i64 a1.H.a4, .int .i64 a1.H.a5, .int .i64 a1.H.a6, .int .i64 a1.H.a7] 25]) [(0, true), (1, true), (2, true), (3, true), (4, true), (5, true), (6, true), (7, true), (8, true)] mixed (by kernel_rfl) hS (fun w hS => hS) fun w hS => ?_
            refine sp (k := 0) rfl hK (by decide) rfl rfl (fun w hS => r_fieldAddr Try.underlying25 rfl Try.sizeOf9 hK rfl) fun a hK => ?_
            refine sp (k := 1) rfl hK (by decide) rfl rfl (fun w hS => r_load Try.isAgg9 hK rfl (hS.cell (.head _) rfl)) fun a hK => ?_
            refine sp (k := 2) rfl hK (by decide) rfl rfl (fun w hS => r_move hK rfl) fun a hK => ?_
            obtain ⟨y_74, h_75, H⟩ := bind_some H
            refine sp (k := 3) rfl hK (by decide) rfl rfl (fun w hS => r_index_str' Try.underlying9 h_75 hK rfl rfl) fun a hK => ?_
            refine sp (k := 4) rfl hK (by decide) rfl rfl (fun w hS => r_fieldAddr Try.underlying25 rfl Try.sizeOf9 hK rfl) fun a hK => ?_
            refine sp (k := 5) rfl hK (by decide) rfl rfl (fun w hS => r_load Try.isAgg9 hK rfl (hS.cell (.tail _ (.head _)) rfl)) fun a hK => ?_
            refine sp (k := 6) rfl hK (by decide) rfl rfl (fun w hS => r_move hK rfl) fun a hK => ?_
            obtain ⟨y_76, h_77, H⟩ := bind_some H
            refine sp (k := 7) rfl hK (by decide) rfl rfl (fun w hS => r_index_str' Try.underlying9 h_77 hK rfl rfl) fun a hK => ?_
            refine sp (k := 8) rfl hK (by decide) rfl rfl (fun w hS => r_ibin hK rfl rfl rfl) fun a hK => ?_
            refine wpPar_nil (NoP_nil ?_)
            refine wp_cond_split (hK.ev rfl) (fun (hb_78 : (y_74 != y_76) = true) => ?_) (fun (hb_78 : (y_74 != y_76) = false) => ?_)
            · rw [ifb_t hb_78] at H
              refine wp_seq ?_
              refine parT_region (C := fun w => St [] w0 w (fun _ => none) [.cells b_1 [.int .i64 a0.Kind, .int .i64 a0.N, .string a0.S, .int .i64 a0.H.a0, .int .i64 a0.H.a1, .int .i64 a0.H.a2, .int .i64 a0.H.a3, .int .i64 a0.H.a4, .int .i64 a0.H.a5, .int .i64 a0.H.a6, .int .i64 a0.H.a7] 25, .cells b_2 [.int .i64 a1.Kind, .int .i64 a1.N, .string a1.S, .int .i64 a1.H.a0, .int .i64 a1.H.a1, .int .i64 a1.H.a2, .int .i64 a1.H.a3, .int .i64 a1.H.a4, .int .i64 a1.H.a5, .int .i64 a1.H.a6, .int .i64 a1.H.a7] 25]) 10 [(0, true), (1, true), (2, true), (3, true), (4, true), (5, true), (6, true), (7, true), (8, true), (9, true)] mixed (by kernel_rfl) hS (fun w hS => hS) fun w hS => ?_
              refine sp (k := 0) rfl hK (by decide) rfl rfl (fun w hS => r_fieldAddr Try.underlying25 rfl Try.sizeOf9 hK rfl) fun a hK => ?_
              refine sp (k := 1) rfl hK (by decide) rfl rfl (fun w hS => r_load Try.isAgg9 hK rfl (hS.cell (.head _) rfl)) fun a hK => ?_
              refine sp (k := 2) rfl hK (by decide) rfl rfl (fun w hS => r_move hK rfl) fun a hK => ?_
              obtain ⟨y_85, h_86, H⟩ := bind_some H
              refine sp (k := 3) rfl hK (by decide) rfl rfl (fun w hS => r_index_str' Try.underlying9 h_86 hK rfl rfl) fun a hK => ?_
              refine sp (k := 4) rfl hK (by decide) rfl rfl (fun w hS => r_conv Try.underlying5 Try.underlying3 hK rfl) fun a hK => ?_
              refine sp (k := 5) rfl hK (by decide) rfl rfl (fun w hS => r_fieldAddr Try.underlying25 rfl Try.sizeOf9 hK rfl) fun a hK => ?_
              refine sp (k := 6) rfl hK (by decide) rfl rfl (fun w hS => r_load Try.isAgg9 hK rfl (hS.cell (.tail _ (.head _)) rfl)) fun a hK => ?_
              refine sp (k := 7) rfl hK (by decide) rfl rfl (fun w hS => r_move hK rfl) fun a hK => ?_
              obtain ⟨y_87, h_88, H⟩ := bind_some H
              refine sp (k := 8) rfl hK (by decide) rfl rfl (fun w hS => r_index_str' Try.underlying9 h_88 hK rfl rfl) fun a hK => ?_
              refine sp (k := 9) rfl hK (by decide) rfl rfl (fun w hS => r_conv Try.underlying5 Try.underlying3 hK rfl) fun a hK => ?_
              refine thenL_nil ?_
              obtain ⟨y_89, h_90, H⟩ := bind_some H
              refine sl_callV Try.call52 hS hK (by decide) rfl rfl rfl (ref01_order.calls (IntKind.i64.wrap y_85) (IntKind.i64.wrap y_87) h_90 _) fun a w hS hK => ?_
              refine sl hK (by decide) rfl rfl (r_assign hK rfl) fun a hK => ?_
              refine wpList_nil (NoP_nil ?_)
              obtain rfl := Option.some.inj H
              refine wp_ret ?_
              repeat (first | refine ret_then ?_ | refine ret_block ?_ | refine ret_scope ?_)
              exact ret_1 Try.results48 hK (rv_tmp hK rfl) ⟨rfl, hS.bel⟩
            · rw [ifb_f hb_78] at H
              refine wp_skip ?_
              refine wp_region_lit ?_
              refine sl hK (by decide) rfl rfl (r_move hK rfl) fun a hK => ?_
              refine sl hK (by decide) rfl rfl (r_ibin hK rfl rfl rfl) fun a hK => ?_
              refine sl hK (by decide) rfl rfl (r_assign hK rfl) fun a hK => ?_
              refine wpList_nil ?_
              have hS := hS.pk1
              have hS := hS.pk1
              exact ⟨_, Nat.lt_succ_self _, (IntKind.i64.wrap (x_36 + 1)), H, hK.sub (all_cons rfl (all_cons rfl (all_cons rfl (all_nil)))), hS⟩
          · rw [ifb_f hb_69] at H
            refine wp_exit ?_
            refine wp_seq ?_
            refine wp_seq ?_
            refine wp_region_lit ?_
            refine sl hK (by decide) rfl rfl (r_fieldAddr Try.underlying25 rfl Try.sizeOf9 hK rfl) fun a hK => ?_
            refine sl hK (by decide) rfl rfl (r_load Try.isAgg9 hK rfl (hS.cell (.head _) rfl)) fun a hK => ?_
            refine sl hK (by decide) rfl rfl (r_len_str Try.underlying9 hK rfl) fun a hK => ?_
            refine sl hK (by decide) rfl rfl (r_fieldAddr Try.underlying25 rfl Try.sizeOf9 hK rfl) fun a hK => ?_
            refine sl hK (by decide) rfl rfl (r_load Try.isAgg9 hK rfl (hS.cell (.tail _ (.head _)) rfl)) fun a hK => ?_
            refine sl hK (by decide) rfl rfl (r_len_str Try.underlying9 hK rfl) fun a hK => ?_
            refine sl hK (by decide) rfl rfl (r_ibin hK rfl rfl rfl) fun a hK => ?_
            refine wpList_nil ?_
            refine wp_cond_split (hK.ev rfl) (fun (hb_91 : ((a0.S.size : Int) != (a1.S.size : Int)) = true) => ?_) (fun (hb_91 : ((a0.S.size : Int) != (a1.S.size : Int)) = false) => ?_)
            · rw [ifb_t hb_91] at H
              refine wp_seq ?_
              refine wp_region_lit ?_
              refine sl hK (by decide) rfl rfl (r_fieldAddr Try.underlying25 rfl Try.sizeOf9 hK rfl) fun a hK => ?_
              refine sl hK (by decide) rfl rfl (r_load Try.isAgg9 hK rfl (hS.cell (.head _) rfl)) fun a hK => ?_
              refine sl hK (by decide) rfl rfl (r_len_str Try.underlying9 hK rfl) fun a hK => ?_
              refine sl hK (by decide) rfl rfl (r_fieldAddr Try.underlying25 rfl Try.sizeOf9 hK rfl) fun a hK => ?_
              refine sl hK (by decide) rfl rfl (r_load Try.isAgg9 hK rfl (hS.cell (.tail _ (.head _)) rfl)) fun a hK => ?_
              refine sl hK (by decide) rfl rfl (r_len_str Try.underlying9 hK rfl) fun a hK => ?_
              obtain ⟨y_92, h_93, H⟩ := bind_some H
              refine sl_callV Try.call52 hS hK (by decide) rfl rfl rfl (ref01_order.calls (a0.S.size : Int) (a1.S.size : Int) h_93 _) fun a w hS hK => ?_
              refine sl hK (by decide) rfl rfl (r_assign hK rfl) fun a hK => ?_
              refine wpList_nil ?_
              obtain rfl := Option.some.inj H
              refine wp_ret ?_
              repeat (first | refine ret_then ?_ | refine ret_block ?_ | refine ret_scope ?_)
              exact ret_1 Try.results48 hK (rv_tmp hK rfl) ⟨rfl, hS.bel⟩
            · rw [ifb_f hb_91] at H
              refine wp_skip ?_
              refine wp_seq ?_
              refine wp_seq ?_
              refine wp_region_lit ?_
              refine sl hK (by decide) rfl rfl (r_assign hK rfl) fun a hK => ?_
              refine wpList_nil ?_
              refine wp_block ?_
              refine wp_loop_k (fun k_l2 a w => ∃ (x_100 : Int), ref01_Compare.l2 a0 a1 k_l2 x_100 = some r ∧ Kn 97 a [(2, .pointer (some ⟨b_1, 0, none⟩)), (3, .pointer (some ⟨b_2, 0, none⟩)), (6, .int .i64 x_100)] ∧ St [] w0 w (fun _ => none) [.cells b_1 [.int .i64 a0.Kind, .int .i64 a0.N, .string a0.S, .int .i64 a0.H.a0, .int .i64 a0.H.a1, .int .i64 a0.H.a2, .int .i64 a0.H.a3, .int .i64 a0.H.a4, .int .i64 a0.H.a5, .int .i64 a0.H.a6, .int .i64 a0.H.a7] 25, .cells b_2 [.int .i64 a1.Kind, .int .i64 a1.N, .string a1.S, .int .i64 a1.H.a0, .int .i64 a1.H.a1, .int .i64 a1.H.a2, .int .i64 a1.H.a3, .int .i64 a1.H.a4, .int .i64 a1.H.a5, .int .i64 a1.H.a6, .int .i64 a1.H.a7] 25]) (((8 : Int) - 0).toNat + 1) ?_ ?_
              · have hS := hS.pk1
                have hS := hS.pk1
                exact ⟨0, H, hK.sub (all_cons rfl (all_cons rfl (all_cons rfl (all_nil)))), hS⟩
              · rintro k_l2 a w ⟨x_100, H, hK, hS⟩
                cases k_l2 with
                | zero => cases H
                | succ k_l2 =>
                rw [ref01_Compare.l2.eq_2] at H
                refine wp_seq ?_
                refine wp_seq ?_
                refine wp_region_lit ?_
                refine sl hK (by decide) rfl rfl (r_move hK rfl) fun a hK => ?_
                refine sl hK (by decide) rfl rfl (r_ibin hK rfl rfl rfl) fun a hK => ?_
                refine wpList_nil ?_
                refine wp_cond_split (hK.ev rfl) (fun (hb_124 : (decide (x_100 < 8)) = true) => ?_) (fun (hb_124 : (decide (x_100 < 8)) = false) => ?_)
                · rw [ifb_t hb_124] at H
                  refine wp_skip ?_
                  refine wp_seq ?_
                  refine wp_block ?_
                  refine wp_seq ?_
                  refine par_region (C := fun w => St [] w0 w (fun _ => none) [.cells b_1 [.int .i64 a0.Kind, .int .i64 a0.N, .string a0.S, .int .i64 a0.H.a0, .int .i64 a0.H.a1, .int .i64 a0.H.a2, .int .i64 a0.H.a3, .int .i64 a0.H.a4, .int .i64 a0.H.a5, .int .i64 a0.H.a6, .int .i64 a0.H.a7] 25, .cells b_2 [.int .i64 a1.Kind, .int .i64 a1.N, .string a1.S, .int .i64 a1.H.a0, .int .i64 a1.H.a1, .int .i64 a1.H.a2, .int .i64 a1.H.a3, .int .i64 a1.H.a4, .int .i64 a1.H.a5, .int .i64 a1.H.a6, .int .i64 a1.H.a7] 25]) [(0, true), (1, true), (2, true), (3, true), (4, true), (5, true), (6, true), (7, true), (8, true)] mixed (by kernel_rfl) hS (fun w hS => hS) fun w hS => ?_
                  refine sp (k := 0) rfl hK (by decide) rfl rfl (fun w hS => r_move hK rfl) fun a hK => ?_
                  refine sp (k := 1) rfl hK (by decide) rfl rfl (fun w hS => r_fieldAddr Try.underlying25 rfl Try.sizeOf23 hK rfl) fun a hK => ?_
                  obtain ⟨y_129, h_130, H⟩ := bind_some H
                  refine sp (k := 2) rfl hK (by decide) rfl rfl (fun w hS => r_indexAddr_arr Try.underlying23 Try.sizeOf3 hK rfl rfl (Arr8.ix_lt h_130).1 (Arr8.ix_lt h_130).2) fun a hK => ?_
                  refine sp (k := 3) rfl hK (by decide) rfl rfl (fun w hS => r_load Try.isAgg3 hK rfl (hS.cell (.head _) (Arr8.ix_cells h_130 [.int .i64 a0.Kind, .int .i64 a0.N, .string a0.S] [] rfl))) fun a hK => ?_
                  refine sp (k := 4) rfl hK (by decide) rfl rfl (fun w hS => r_move hK rfl) fun a hK => ?_
                  refine sp (k := 5) rfl hK (by decide) rfl rfl (fun w hS => r_fieldAddr Try.underlying25 rfl Try.sizeOf23 hK rfl) fun a hK => ?_
                  obtain ⟨y_131, h_132, H⟩ := bind_some H
                  refine sp (k := 6) rfl hK (by decide) rfl rfl (fun w hS => r_indexAddr_arr Try.underlying23 Try.sizeOf3 hK rfl rfl (Arr8.ix_lt h_132).1 (Arr8.ix_lt h_132).2) fun a hK => ?_
                  refine sp (k := 7) rfl hK (by decide) rfl rfl (fun w hS => r_load Try.isAgg3 hK rfl (hS.cell (.tail _ (.head _)) (Arr8.ix_cells h_132 [.int .i64 a1.Kind, .int .i64 a1.N, .string a1.S] [] rfl))) fun a hK => ?_
                  refine sp (k := 8) rfl hK (by decide) rfl rfl (fun w hS => r_ibin hK rfl rfl rfl) fun a hK => ?_
                  refine wpPar_nil (NoP_nil ?_)
                  refine wp_cond_split (hK.ev rfl) (fun (hb_133 : (y_129 != y_131) = true) => ?_) (fun (hb_133 : (y_129 != y_131) = false) => ?_)
                  · rw [ifb_t hb_133] at H
                    refine wp_seq ?_
                    refine parT_region (C := fun w => St [] w0 w (fun _ => none) [.cells b_1 [.int .i64 a0.Kind, .int .i64 a0.N, .string a0.S, .int .i64 a0.H.a0, .int .i64 a0.H.a1, .int .i64 a0.H.a2, .int .i64 a0.H.a3, .int .i64 a0.H.a4, .int .i64 a0.H.a5, .int .i64 a0.H.a6, .int .i64 a0.H.a7] 25, .cells b_2 [.int .i64 a1.Kind, .int .i64 a1.N, .string a1.S, .int .i64 a1.H.a0, .int .i64 a1.H.a1, .int .i64 a1.H.a2, .int .i64 a1.H.a3, .int .i64 a1.H.a4, .int .i64 a1.H.a5, .int .i64 a1.H.a6, .int .i64 a1.H.a7] 25]) 8 [(0, true), (1, true), (2, true), (3, true), (4, true), (5, true), (6, true), (7, true)] mixed (by kernel_rfl) hS (fun w hS => hS) fun w hS => ?_
                    refine sp (k := 0) rfl hK (by decide) rfl rfl (fun w hS => r_move hK rfl) fun a hK => ?_
                    refine sp (k := 1) rfl hK (by decide) rfl rfl (fun w hS => r_fieldAddr Try.underlying25 rfl Try.sizeOf23 hK rfl) fun a hK => ?_
                    obtain ⟨y_140, h_141, H⟩ := bind_some H
                    refine sp (k := 2) rfl hK (by decide) rfl rfl (fun w hS => r_indexAddr_arr Try.underlying23 Try.sizeOf3 hK rfl rfl (Arr8.ix_lt h_141).1 (Arr8.ix_lt h_141).2) fun a hK => ?_
                    refine sp (k := 3) rfl hK (by decide) rfl rfl (fun w hS => r_load Try.isAgg3 hK rfl (hS.cell (.head _) (Arr8.ix_cells h_141 [.int .i64 a0.Kind, .int .i64 a0.N, .string a0.S] [] rfl))) fun a hK => ?_
                    refine sp (k := 4) rfl hK (by decide) rfl rfl (fun w hS => r_move hK rfl) fun a hK => ?_
                    refine sp (k := 5) rfl hK (by decide) rfl rfl (fun w hS => r_fieldAddr Try.underlying25 rfl Try.sizeOf23 hK rfl) fun a hK => ?_
                    obtain ⟨y_142, h_143, H⟩ := bind_some H
                    refine sp (k := 6) rfl hK (by decide) rfl rfl (fun w hS => r_indexAddr_arr Try.underlying23 Try.sizeOf3 hK rfl rfl (Arr8.ix_lt h_143).1 (Arr8.ix_lt h_143).2) fun a hK => ?_
                    refine sp (k := 7) rfl hK (by decide) rfl rfl (fun w hS => r_load Try.isAgg3 hK rfl (hS.cell (.tail _ (.head _)) (Arr8.ix_cells h_143 [.int .i64 a1.Kind, .int .i64 a1.N, .string a1.S] [] rfl))) fun a hK => ?_
                    refine thenL_nil ?_
                    obtain ⟨y_144, h_145, H⟩ := bind_some H
                    refine sl_callV Try.call52 hS hK (by decide) rfl rfl rfl (ref01_order.calls y_140 y_142 h_145 _) fun a w hS hK => ?_
                    refine sl hK (by decide) rfl rfl (r_assign hK rfl) fun a hK => ?_
                    refine wpList_nil (NoP_nil ?_)
                    obtain rfl := Option.some.inj H
                    refine wp_ret ?_
                    repeat (first | refine ret_then ?_ | refine ret_block ?_ | refine ret_scope ?_)
                    exact ret_1 Try.results48 hK (rv_tmp hK rfl) ⟨rfl, hS.bel⟩
                  · rw [ifb_f hb_133] at H
                    refine wp_skip ?_
                    refine wp_region_lit ?_
                    refine sl hK (by decide) rfl rfl (r_move hK rfl) fun a hK => ?_
                    refine sl hK (by decide) rfl rfl (r_ibin hK rfl rfl rfl) fun a hK => ?_
                    refine sl hK (by decide) rfl rfl (r_assign hK rfl) fun a hK => ?_
                    refine wpList_nil ?_
                    have hS := hS.pk1
                    have hS := hS.pk1
                    exact ⟨_, Nat.lt_succ_self _, (IntKind.i64.wrap (x_100 + 1)), H, hK.sub (all_cons rfl (all_cons rfl (all_cons rfl (all_nil)))), hS⟩
                · rw [ifb_f hb_124] at H
                  refine wp_exit ?_
                  refine wp_seq ?_
                  refine wp_region_lit ?_
                  refine sl hK (by decide) rfl rfl (r_assign hK rfl) fun a hK => ?_
                  refine wpList_nil ?_
                  obtain rfl := Option.some.inj H
                  refine wp_ret ?_
                  repeat (first | refine ret_then ?_ | refine ret_block ?_ | refine ret_scope ?_)
                  exact ret_1 Try.results48 hK (rv_tmp hK rfl) ⟨rfl, hS.bel⟩

end Go.Proofs.Ytifijboegibchaa.M
