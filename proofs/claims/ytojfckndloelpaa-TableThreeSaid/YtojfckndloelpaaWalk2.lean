/- Each Go function of the laws answers as its plain Lean function tells, wherever that tells something. Printed by wip/eng/gen.py. -/
import Derived.Test.YtojfckndloelpaaWalk1
namespace Go.Proofs.Ytojfckndloelpaa.M
open Go Go.Eng Go.Proofs Go.RowKit
set_option linter.unusedVariables false
set_option linter.unusedSimpArgs false

/-! ### catchment/catchmentlaw02.shown: function 11 -/
set_option maxHeartbeats 4000000 in
set_option maxRecDepth 100000 in
theorem law02_shown.calls {r : Bool} (H : law02_shown  = some r) (w0 : World) : CallsV Try.prog 11 #[] w0 (.bool r) := by
  unfold law02_shown at H
  refine enter (args := []) Try.func11 rfl Try.ntmps11 rfl fun a hK => ?_
  have hS := St.init (R := fun _ => none) (w := w0) (fun _ _ h => by cases h)
  have hRL := RLe.refl (M := []) w0 (fun _ => none)
  refine wp_seq ?_
  refine wp_region_lit ?_
  refine sl hK (by decide) rfl rfl (r_assign hK rfl) fun a hK => ?_
  refine wpList_nil ?_
  refine wp_seq ?_
  refine wp_region_lit ?_
  refine sl_buildSliceF (zc := [.int .i64 0]) (ps := [(0, .int .i64 1), (1, .int .i64 2), (2, .int .i64 1)]) (c := [.int .i64 1, .int .i64 2, .int .i64 1]) [[.int .i64 1], [.int .i64 2], [.int .i64 1]] Try.underlying45 Try.sizeOf3 Try.zeroValue3 rfl (pc_cons rfl (pc_cons rfl (pc_cons rfl pc_nil))) rfl rfl (Nat.le_of_ble_eq_true rfl) rfl (all_cons rfl (all_cons rfl (all_cons rfl (all_nil)))) rfl hS hK (by decide) rfl fun a w b_1 hS hK => ?_
  obtain ⟨y_2, h_3, H⟩ := bind_some H
  refine sl_call Try.call28 hK (by decide) rfl rfl rfl (law02_small.calls (⟨#[98, 97, 97]⟩ : ByteArray) [1, 2, 1] (lentOf_sub [] _) hS.sub (hS.lend_lit0 (ty := (tyInt .i64)) (xs := [1, 2, 1]) (.head _) (Reps.cons (show Ty.rep (tyInt .i64) _ [.int .i64 1] 1 from rfl) (Reps.cons (show Ty.rep (tyInt .i64) _ [.int .i64 2] 2 from rfl) (Reps.cons (show Ty.rep (tyInt .i64) _ [.int .i64 1] 1 from rfl) (Reps.nil _ _)))) rfl) h_3) fun a v_ w hv_ hK => ?_
  obtain ⟨R_4, v_7, cs_8, v_11, cs_12, hv_, hr_, hl_5, hq_9, hq_13⟩ := hv_
  have hv_ := hv_.symm
  subst hv_
  obtain ⟨hS, hl_5⟩ := hS.sp0.back hr_ hl_5
  have hS := hS.un2
  have hRL := hRL.trans hl_5
  refine sl_alloc Try.zeroValue25 hS hK (by decide) rfl rfl fun a w b_14 hS hK => ?_
  refine sl_storeA (vs := [v_7, v_11]) (c' := [v_7, v_11]) Try.sizeOf25 hS hK rfl rfl rfl rfl (all_cons (hS.row_one (.tail _ (.head _))) (all_cons (hS.row_one (.tail _ (.tail _ (.head _)))) (all_nil))) (Nat.le_of_ble_eq_true rfl) rfl fun a w hS hK => ?_
  refine wpList_nil ?_
  refine wp_seq ?_
  refine wp_region_lit ?_
  refine sl_buildSliceF (zc := [.int .i64 0]) (ps := [(0, .int .i64 1), (1, .int .i64 2), (2, .int .i64 1)]) (c := [.int .i64 1, .int .i64 2, .int .i64 1]) [[.int .i64 1], [.int .i64 2], [.int .i64 1]] Try.underlying45 Try.sizeOf3 Try.zeroValue3 rfl (pc_cons rfl (pc_cons rfl (pc_cons rfl pc_nil))) rfl rfl (Nat.le_of_ble_eq_true rfl) rfl (all_cons rfl (all_cons rfl (all_cons rfl (all_nil)))) rfl hS hK (by decide) rfl fun a w b_15 hS hK => ?_
  obtain ⟨y_16, h_17, H⟩ := bind_some H
  refine sl_call Try.call28 hK (by decide) rfl rfl rfl (law02_small.calls (⟨#[97, 97, 98]⟩ : ByteArray) [1, 2, 1] (lentOf_sub [] _) hS.sub (hS.lend_lit0 (ty := (tyInt .i64)) (xs := [1, 2, 1]) (.head _) (Reps.cons (show Ty.rep (tyInt .i64) _ [.int .i64 1] 1 from rfl) (Reps.cons (show Ty.rep (tyInt .i64) _ [.int .i64 2] 2 from rfl) (Reps.cons (show Ty.rep (tyInt .i64) _ [.int .i64 1] 1 from rfl) (Reps.nil _ _)))) rfl) h_17) fun a v_ w hv_ hK => ?_
  obtain ⟨R_18, v_21, cs_22, v_25, cs_26, hv_, hr_, hl_19, hq_23, hq_27⟩ := hv_
  have hv_ := hv_.symm
  subst hv_
  obtain ⟨hS, hl_19⟩ := hS.sp0.back hr_ hl_19
  have hS := hS.un2
  have hRL := hRL.trans hl_19
  refine sl_alloc Try.zeroValue25 hS hK (by decide) rfl rfl fun a w b_28 hS hK => ?_
  refine sl_storeA (vs := [v_21, v_25]) (c' := [v_21, v_25]) Try.sizeOf25 hS hK rfl rfl rfl rfl (all_cons (hS.row_one (.tail _ (.head _))) (all_cons (hS.row_one (.tail _ (.tail _ (.head _)))) (all_nil))) (Nat.le_of_ble_eq_true rfl) rfl fun a w hS hK => ?_
  refine wpList_nil ?_
  refine wp_seq ?_
  refine wp_region_lit ?_
  refine sl hK (by decide) rfl rfl (r_loadA (cs := [v_7, v_11]) Try.isAgg25 Try.sizeOf25 rfl hK rfl (hS.cells_of (m := 2) (.tail _ (.tail _ (.tail _ (.tail _ (.head _))))) rfl)) fun a hK => ?_
  obtain ⟨y_29, h_30, H⟩ := bind_some H
  refine sl_call Try.call20 hK (by decide) rfl rfl rfl (table_Canon.calls y_2 (lentOf_sub [] _) hS.sub (hS.lend_row0 (.tail _ (.tail _ (.tail _ (.tail _ (.tail _ (.head _)))))) (hq_9.mono hl_19.le) rfl rfl) (hS.lend_row0 (.tail _ (.tail _ (.tail _ (.tail _ (.tail _ (.tail _ (.head _))))))) (hq_13.mono hl_19.le) rfl rfl) h_30) fun a v_ w hv_ hK => ?_
  obtain ⟨R_31, v_34, cs_35, v_38, cs_39, hv_, hr_, hl_32, hq_36, hq_40⟩ := hv_
  have hv_ := hv_.symm
  subst hv_
  obtain ⟨hS, hl_32⟩ := hS.sp0.back hr_ hl_32
  have hS := hS.un2
  have hRL := hRL.trans hl_32
  refine sl_alloc Try.zeroValue25 hS hK (by decide) rfl rfl fun a w b_41 hS hK => ?_
  refine sl_storeA (vs := [v_34, v_38]) (c' := [v_34, v_38]) Try.sizeOf25 hS hK rfl rfl rfl rfl (all_cons (hS.row_one (.tail _ (.head _))) (all_cons (hS.row_one (.tail _ (.tail _ (.head _)))) (all_nil))) (Nat.le_of_ble_eq_true rfl) rfl fun a w hS hK => ?_
  refine wpList_nil ?_
  refine wp_seq ?_
  refine wp_region_lit ?_
  refine sl hK (by decide) rfl rfl (r_loadA (cs := [v_7, v_11]) Try.isAgg25 Try.sizeOf25 rfl hK rfl (hS.cells_of (m := 2) (.tail _ (.tail _ (.tail _ (.tail _ (.tail _ (.tail _ (.tail _ (.head _)))))))) rfl)) fun a hK => ?_
  refine sl_buildSliceF (zc := [.string (⟨#[]⟩ : ByteArray)]) (ps := [(0, .string (⟨#[110]⟩ : ByteArray))]) (c := [.string (⟨#[110]⟩ : ByteArray)]) [[.string (⟨#[110]⟩ : ByteArray)]] Try.underlying39 Try.sizeOf9 Try.zeroValue9 rfl (pc_cons rfl pc_nil) rfl rfl (Nat.le_of_ble_eq_true rfl) rfl (all_cons rfl (all_nil)) rfl hS hK (by decide) rfl fun a w b_42 hS hK => ?_
  obtain ⟨y_43, h_44, H⟩ := bind_some H
  refine sl_call Try.call26 hK (by decide) rfl rfl rfl (table_Keep.calls y_2 [(⟨#[110]⟩ : ByteArray)] (lentOf_sub [] _) hS.sub (hS.lend_row0 (.tail _ (.tail _ (.tail _ (.tail _ (.tail _ (.tail _ (.tail _ (.tail _ (.tail _ (.head _)))))))))) (hq_9.mono (hl_19.le.trans hl_32.le)) rfl rfl) (hS.lend_row0 (.tail _ (.tail _ (.tail _ (.tail _ (.tail _ (.tail _ (.tail _ (.tail _ (.tail _ (.tail _ (.head _))))))))))) (hq_13.mono (hl_19.le.trans hl_32.le)) rfl rfl) (hS.lend_lit0 (ty := tyStr) (xs := [(⟨#[110]⟩ : ByteArray)]) (.head _) (Reps.cons (show Ty.rep tyStr _ [.string (⟨#[110]⟩ : ByteArray)] (⟨#[110]⟩ : ByteArray) from rfl) (Reps.nil _ _)) rfl) h_44) fun a v_ w hv_ hK => ?_
  obtain ⟨R_45, v_48, cs_49, v_52, cs_53, hv_, hr_, hl_46, hq_50, hq_54⟩ := hv_
  have hv_ := hv_.symm
  subst hv_
  obtain ⟨hS, hl_46⟩ := hS.sp0.back hr_ hl_46
  have hS := hS.un2
  have hRL := hRL.trans hl_46
  refine sl hK (by decide) rfl rfl (r_move hK rfl) fun a hK => ?_
  refine sl hK (by decide) rfl rfl (r_extract hK rfl rfl) fun a hK => ?_
  refine sl hK (by decide) rfl rfl (r_extract hK rfl rfl) fun a hK => ?_
  refine sl_alloc Try.zeroValue25 hS hK (by decide) rfl rfl fun a w b_55 hS hK => ?_
  refine sl_storeA (vs := [v_48, v_52]) (c' := [v_48, v_52]) Try.sizeOf25 hS hK rfl rfl rfl rfl (all_cons (hS.row_one (.tail _ (.head _))) (all_cons (hS.row_one (.tail _ (.tail _ (.head _)))) (all_nil))) (Nat.le_of_ble_eq_true rfl) rfl fun a w hS hK => ?_
  refine sl hK (by decide) rfl rfl (r_assign hK rfl) fun a hK => ?_
  refine wpList_nil ?_
  refine wp_seq ?_
  refine wp_region_lit ?_
  refine sl hK (by decide) rfl rfl (r_buildC (ps := [(0, .string (⟨#[107]⟩ : ByteArray)), (1, .int .i64 2)]) (c := [.string (⟨#[107]⟩ : ByteArray), .int .i64 2]) Try.underlying43 Try.zeroValue43 places43 hK rfl (pc_cons rfl (pc_cons rfl pc_nil)) rfl rfl) fun a hK => ?_
  refine sl hK (by decide) rfl rfl (r_buildC (ps := [(0, .string (⟨#[107]⟩ : ByteArray)), (1, .int .i64 2)]) (c := [.string (⟨#[107]⟩ : ByteArray), .int .i64 2]) Try.underlying43 Try.zeroValue43 places43 hK rfl (pc_cons rfl (pc_cons rfl pc_nil)) rfl rfl) fun a hK => ?_
  refine sl_buildSliceF (zc := [.string (⟨#[]⟩ : ByteArray), .int .i64 0]) (ps := [(0, .agg #[.string (⟨#[107]⟩ : ByteArray), .int .i64 2]), (1, .agg #[.string (⟨#[107]⟩ : ByteArray), .int .i64 2])]) (c := [.string (⟨#[107]⟩ : ByteArray), .int .i64 2, .string (⟨#[107]⟩ : ByteArray), .int .i64 2]) [[.string (⟨#[107]⟩ : ByteArray), .int .i64 2], [.string (⟨#[107]⟩ : ByteArray), .int .i64 2]] Try.underlying22 Try.sizeOf43 Try.zeroValue43 rfl (pc_cons rfl (pc_cons rfl pc_nil)) rfl rfl (Nat.le_of_ble_eq_true rfl) rfl (all_cons rfl (all_cons rfl (all_nil))) rfl hS hK (by decide) rfl fun a w b_56 hS hK => ?_
  refine sl hK (by decide) rfl rfl (r_buildC (ps := [(0, .slice (some ⟨b_56, 0, none⟩) 2 2)]) (c := [.slice (some ⟨b_56, 0, none⟩) 2 2, .slice none 0 0]) Try.underlying25 Try.zeroValue25 places25 hK rfl (pc_cons rfl pc_nil) rfl rfl) fun a hK => ?_
  refine sl_alloc Try.zeroValue25 hS hK (by decide) rfl rfl fun a w b_57 hS hK => ?_
  refine sl_storeA (vs := [.slice (some ⟨b_56, 0, none⟩) 2 2, .slice none 0 0]) (c' := [.slice (some ⟨b_56, 0, none⟩) 2 2, .slice none 0 0]) Try.sizeOf25 hS hK rfl rfl rfl rfl (all_cons rfl (all_cons rfl (all_nil))) (Nat.le_of_ble_eq_true rfl) rfl fun a w hS hK => ?_
  refine wpList_nil ?_
  refine wp_seq ?_
  refine wp_region_lit ?_
  refine sl hK (by decide) rfl rfl (r_fieldAddr Try.underlying25 rfl Try.sizeOf22 hK rfl) fun a hK => ?_
  refine sl hK (by decide) rfl rfl (r_load Try.isAgg22 hK rfl (hS.cell (.tail _ (.tail _ (.tail _ (.tail _ (.tail _ (.tail _ (.tail _ (.tail _ (.tail _ (.tail _ (.tail _ (.tail _ (.tail _ (.head _)))))))))))))) rfl)) fun a hK => ?_
  refine sl hK (by decide) rfl rfl (r_buildC (ps := [(0, .int .i64 2), (2, .string (⟨#[97]⟩ : ByteArray))]) (c := [.int .i64 2, .int .i64 0, .string (⟨#[97]⟩ : ByteArray), .int .i64 0, .int .i64 0, .int .i64 0, .int .i64 0, .int .i64 0, .int .i64 0, .int .i64 0, .int .i64 0]) Try.underlying50 Try.zeroValue50 places50 hK rfl (pc_cons rfl (pc_cons rfl pc_nil)) rfl rfl) fun a hK => ?_
  refine sl_buildSliceF (zc := [.int .i64 0, .int .i64 0, .string (⟨#[]⟩ : ByteArray), .int .i64 0, .int .i64 0, .int .i64 0, .int .i64 0, .int .i64 0, .int .i64 0, .int .i64 0, .int .i64 0]) (ps := [(0, .agg #[.int .i64 2, .int .i64 0, .string (⟨#[97]⟩ : ByteArray), .int .i64 0, .int .i64 0, .int .i64 0, .int .i64 0, .int .i64 0, .int .i64 0, .int .i64 0, .int .i64 0])]) (c := [.int .i64 2, .int .i64 0, .string (⟨#[97]⟩ : ByteArray), .int .i64 0, .int .i64 0, .int .i64 0, .int .i64 0, .int .i64 0, .int .i64 0, .int .i64 0, .int .i64 0]) [[.int .i64 2, .int .i64 0, .string (⟨#[97]⟩ : ByteArray), .int .i64 0, .int .i64 0, .int .i64 0, .int .i64 0, .int .i64 0, .int .i64 0, .int .i64 0, .int .i64 0]] Try.underlying35 Try.sizeOf50 Try.zeroValue50 rfl (pc_cons rfl pc_nil) rfl rfl (Nat.le_of_ble_eq_true rfl) rfl (all_cons rfl (all_nil)) rfl hS hK (by decide) rfl fun a w b_58 hS hK => ?_
  refine sl_buildSliceF (zc := [.slice none 0 0]) (ps := [(0, .slice (some ⟨b_58, 0, none⟩) 1 1)]) (c := [.slice (some ⟨b_58, 0, none⟩) 1 1]) [[.slice (some ⟨b_58, 0, none⟩) 1 1]] Try.underlying23 Try.sizeOf35 Try.zeroValue35 rfl (pc_cons rfl pc_nil) rfl rfl (Nat.le_of_ble_eq_true rfl) rfl (all_cons rfl (all_nil)) rfl hS hK (by decide) rfl fun a w b_59 hS hK => ?_
  have ho_60 := hS.row_one (.tail _ (.tail _ (.tail _ (.tail _ (.tail _ (.tail _ (.tail _ (.tail _ (.tail _ (.tail _ (.tail _ (.tail _ (.tail _ (.tail _ (.tail _ (.tail _ (.head _)))))))))))))))))
  refine sl hK (by decide) rfl rfl (r_buildC (ps := [(0, v_7), (1, .slice (some ⟨b_59, 0, none⟩) 1 1)]) (c := [v_7, .slice (some ⟨b_59, 0, none⟩) 1 1]) Try.underlying25 Try.zeroValue25 places25 hK rfl (pc_cons (cells1 ho_60) (pc_cons rfl pc_nil)) rfl rfl) fun a hK => ?_
  refine sl_alloc Try.zeroValue25 hS hK (by decide) rfl rfl fun a w b_61 hS hK => ?_
  refine sl_storeA (vs := [v_7, .slice (some ⟨b_59, 0, none⟩) 1 1]) (c' := [v_7, .slice (some ⟨b_59, 0, none⟩) 1 1]) Try.sizeOf25 hS hK rfl rfl rfl rfl (all_cons (hS.row_one (.tail _ (.tail _ (.tail _ (.tail _ (.tail _ (.tail _ (.tail _ (.tail _ (.tail _ (.tail _ (.tail _ (.tail _ (.tail _ (.tail _ (.tail _ (.tail _ (.tail _ (.head _))))))))))))))))))) (all_cons rfl (all_nil))) (Nat.le_of_ble_eq_true rfl) rfl fun a w hS hK => ?_
  refine wpList_nil ?_
  refine wp_seq ?_
  refine wp_region_lit ?_
  refine sl hK (by decide) rfl rfl (r_loadA (cs := [v_7, v_11]) Try.isAgg25 Try.sizeOf25 rfl hK rfl (hS.cells_of (m := 2) (.tail _ (.tail _ (.tail _ (.tail _ (.tail _ (.tail _ (.tail _ (.tail _ (.tail _ (.tail _ (.tail _ (.tail _ (.tail _ (.tail _ (.tail _ (.tail _ (.head _))))))))))))))))) rfl)) fun a hK => ?_
  refine sl hK (by decide) rfl rfl (r_loadA (cs := [v_7, v_11]) Try.isAgg25 Try.sizeOf25 rfl hK rfl (hS.cells_of (m := 2) (.tail _ (.tail _ (.tail _ (.tail _ (.tail _ (.tail _ (.tail _ (.tail _ (.tail _ (.tail _ (.tail _ (.tail _ (.tail _ (.tail _ (.tail _ (.tail _ (.head _))))))))))))))))) rfl)) fun a hK => ?_
  have hS := hS.pk17
  obtain ⟨R_62, hS, hl_64, hs_63⟩ := hS.fz_row (hq_9.mono (hl_19.le.trans (hl_32.le.trans hl_46.le))) rfl rfl
  have hRL := hRL.trans hl_64
  have hS := hS.pk17
  obtain ⟨R_65, hS, hl_67, hs_66⟩ := hS.fz_row (hq_13.mono (hl_19.le.trans (hl_32.le.trans (hl_46.le.trans hl_64.le)))) rfl rfl
  have hRL := hRL.trans hl_67
  obtain ⟨y_68, h_69, H⟩ := bind_some H
  refine sl_call Try.call24 hK (by decide) rfl rfl rfl (table_Union.calls y_2 y_2 hS.sub (hs_63.mono hl_67.le) hs_66 (hs_63.mono hl_67.le) hs_66 h_69) fun a v_ w hv_ hK => ?_
  obtain ⟨R_70, v_73, cs_74, v_77, cs_78, hv_, hr_, hl_71, hq_75, hq_79⟩ := hv_
  have hv_ := hv_.symm
  subst hv_
  obtain ⟨hS, hl_71⟩ := hS.sp0.back hr_ hl_71
  have hS := hS.un2
  have hRL := hRL.trans hl_71
  refine sl hK (by decide) rfl rfl (r_move hK rfl) fun a hK => ?_
  refine sl hK (by decide) rfl rfl (r_extract hK rfl rfl) fun a hK => ?_
  refine sl hK (by decide) rfl rfl (r_extract hK rfl rfl) fun a hK => ?_
  refine sl_alloc Try.zeroValue25 hS hK (by decide) rfl rfl fun a w b_80 hS hK => ?_
  refine sl_storeA (vs := [v_73, v_77]) (c' := [v_73, v_77]) Try.sizeOf25 hS hK rfl rfl rfl rfl (all_cons (hS.row_one (.tail _ (.head _))) (all_cons (hS.row_one (.tail _ (.tail _ (.head _)))) (all_nil))) (Nat.le_of_ble_eq_true rfl) rfl fun a w hS hK => ?_
  refine sl hK (by decide) rfl rfl (r_assign hK rfl) fun a hK => ?_
  refine wpList_nil ?_
  refine wp_seq ?_
  refine wp_region_lit ?_
  refine sl hK (by decide) rfl rfl (r_loadA (cs := [v_34, v_38]) Try.isAgg25 Try.sizeOf25 rfl hK rfl (hS.cells_of (m := 2) (.tail _ (.tail _ (.tail _ (.tail _ (.tail _ (.tail _ (.tail _ (.tail _ (.tail _ (.tail _ (.tail _ (.tail _ (.head _))))))))))))) rfl)) fun a hK => ?_
  refine sl hK (by decide) rfl rfl (r_loadA (cs := [v_21, v_25]) Try.isAgg25 Try.sizeOf25 rfl hK rfl (hS.cells_of (m := 2) (.tail _ (.tail _ (.tail _ (.tail _ (.tail _ (.tail _ (.tail _ (.tail _ (.tail _ (.tail _ (.tail _ (.tail _ (.tail _ (.tail _ (.tail _ (.head _)))))))))))))))) rfl)) fun a hK => ?_
  obtain ⟨y_81, h_82, H⟩ := bind_some H
  refine sl_callV Try.call23 hS hK (by decide) rfl rfl rfl (table_Same.calls y_29 y_16 (lentOf_sub [] _) (hS.lend_row0 (.tail _ (.tail _ (.tail _ (.tail _ (.tail _ (.tail _ (.tail _ (.tail _ (.tail _ (.tail _ (.tail _ (.tail _ (.tail _ (.head _)))))))))))))) (hq_36.mono (hl_46.le.trans (hl_64.le.trans (hl_67.le.trans hl_71.le)))) rfl rfl) (hS.lend_row0 (.tail _ (.tail _ (.tail _ (.tail _ (.tail _ (.tail _ (.tail _ (.tail _ (.tail _ (.tail _ (.tail _ (.tail _ (.tail _ (.tail _ (.head _))))))))))))))) (hq_40.mono (hl_46.le.trans (hl_64.le.trans (hl_67.le.trans hl_71.le)))) rfl rfl) (hS.lend_row0 (.tail _ (.tail _ (.tail _ (.tail _ (.tail _ (.tail _ (.tail _ (.tail _ (.tail _ (.tail _ (.tail _ (.tail _ (.tail _ (.tail _ (.tail _ (.tail _ (.head _))))))))))))))))) (hq_23.mono (hl_32.le.trans (hl_46.le.trans (hl_64.le.trans (hl_67.le.trans hl_71.le))))) rfl rfl) (hS.lend_row0 (.tail _ (.tail _ (.tail _ (.tail _ (.tail _ (.tail _ (.tail _ (.tail _ (.tail _ (.tail _ (.tail _ (.tail _ (.tail _ (.tail _ (.tail _ (.tail _ (.tail _ (.head _)))))))))))))))))) (hq_27.mono (hl_32.le.trans (hl_46.le.trans (hl_64.le.trans (hl_67.le.trans hl_71.le))))) rfl rfl) h_82) fun a w hS hK => ?_
  refine sl hK (by decide) rfl rfl (r_move hK rfl) fun a hK => ?_
  rcases or_b y_81 with hb_83 | hb_83
  · rw [ifb_t hb_83] at H
    refine sl hK (by decide) (wtt hb_83) rfl (r_move hK rfl) fun a hK => ?_
    refine sl hK (by decide) (wtt hb_83) rfl (r_ibin hK rfl rfl rfl) fun a hK => ?_
    refine sl hK (by decide) rfl rfl (r_pick_t hb_83 hK rfl rfl) fun a hK => ?_
    refine sl hK (by decide) rfl rfl (r_move hK rfl) fun a hK => ?_
    rcases or_b (y_43.2 == 0) with hb_84 | hb_84
    · rw [ifb_t hb_84] at H
      refine sl hK (by decide) (wtt hb_84) rfl (r_fieldAddr Try.underlying25 rfl Try.sizeOf23 hK rfl) fun a hK => ?_
      refine sl hK (by decide) (wtt hb_84) rfl (r_load Try.isAgg23 hK rfl (hS.cell (.tail _ (.tail _ (.tail _ (.tail _ (.tail _ (.tail _ (.tail _ (.tail _ (.head _))))))))) rfl)) fun a hK => ?_
      refine sl hK (by decide) (wtt hb_84) rfl (r_len_O Try.underlying23 hS (.tail _ (.tail _ (.tail _ (.tail _ (.tail _ (.tail _ (.tail _ (.tail _ (.tail _ (.tail _ (.head _))))))))))) hK rfl) fun a hK => ?_
      refine sl hK (by decide) (wtt hb_84) rfl (r_ibin hK rfl rfl rfl) fun a hK => ?_
      refine sl hK (by decide) rfl rfl (r_pick_t hb_84 hK rfl rfl) fun a hK => ?_
      refine sl hK (by decide) rfl rfl (r_move hK rfl) fun a hK => ?_
      rcases or_b ((y_43.1.Rows.length : Int) == 3) with hb_85 | hb_85
      · rw [ifb_t hb_85] at H
        refine sl hK (by decide) (wtt hb_85) rfl (r_fieldAddr Try.underlying25 rfl Try.sizeOf23 hK rfl) fun a hK => ?_
        refine sl hK (by decide) (wtt hb_85) rfl (r_load Try.isAgg23 hK rfl (hS.cell (.tail _ (.tail _ (.tail _ (.tail _ (.tail _ (.tail _ (.tail _ (.tail _ (.head _))))))))) rfl)) fun a hK => ?_
        obtain ⟨y_86, h_87, H⟩ := bind_some H
        obtain ⟨b_89, c_90, cs_91, hv_88, hr_92, hc_93, h_870, h_871⟩ := hS.row_ix (.tail _ (.tail _ (.tail _ (.tail _ (.tail _ (.tail _ (.tail _ (.tail _ (.tail _ (.tail _ (.head _))))))))))) (hq_54.mono (hl_64.le.trans (hl_67.le.trans hl_71.le))) rfl rfl h_87
        obtain ⟨v_94, rfl, hs_95⟩ := hr_92
        refine sl hK (by decide) (wtt hb_85) rfl (r_indexAddr_R Try.underlying23 Try.sizeOf35 hv_88 h_870 h_871 hK rfl rfl) fun a hK => ?_
        refine sl hK (by decide) (wtt hb_85) rfl (r_load Try.isAgg35 hK rfl (hS.row_cell (.tail _ (.tail _ (.tail _ (.tail _ (.tail _ (.tail _ (.tail _ (.tail _ (.tail _ (.tail _ (.head _))))))))))) hv_88 (hc_93 0 _ rfl))) fun a hK => ?_
        refine sl hK (by decide) (wtt hb_85) rfl (r_len_R Try.underlying35 hs_95 hK rfl) fun a hK => ?_
        refine sl hK (by decide) (wtt hb_85) rfl (r_ibin hK rfl rfl rfl) fun a hK => ?_
        refine sl hK (by decide) rfl rfl (r_pick_t hb_85 hK rfl rfl) fun a hK => ?_
        refine sl hK (by decide) rfl rfl (r_move hK rfl) fun a hK => ?_
        rcases or_b ((y_86.length : Int) == 1) with hb_96 | hb_96
        · rw [ifb_t hb_96] at H
          refine sl hK (by decide) (wtt hb_96) rfl (r_fieldAddr Try.underlying25 rfl Try.sizeOf23 hK rfl) fun a hK => ?_
          refine sl hK (by decide) (wtt hb_96) rfl (r_load Try.isAgg23 hK rfl (hS.cell (.tail _ (.tail _ (.tail _ (.tail _ (.tail _ (.tail _ (.tail _ (.tail _ (.head _))))))))) rfl)) fun a hK => ?_
          obtain ⟨y_97, h_98, H⟩ := bind_some H
          obtain ⟨b_100, c_101, cs_102, hv_99, hr_103, hc_104, h_980, h_981⟩ := hS.row_ix (.tail _ (.tail _ (.tail _ (.tail _ (.tail _ (.tail _ (.tail _ (.tail _ (.tail _ (.tail _ (.head _))))))))))) (hq_54.mono (hl_64.le.trans (hl_67.le.trans hl_71.le))) rfl rfl h_98
          obtain ⟨v_105, rfl, hs_106⟩ := hr_103
          refine sl hK (by decide) (wtt hb_96) rfl (r_indexAddr_R Try.underlying23 Try.sizeOf35 hv_99 h_980 h_981 hK rfl rfl) fun a hK => ?_
          refine sl hK (by decide) (wtt hb_96) rfl (r_load Try.isAgg35 hK rfl (hS.row_cell (.tail _ (.tail _ (.tail _ (.tail _ (.tail _ (.tail _ (.tail _ (.tail _ (.tail _ (.tail _ (.head _))))))))))) hv_99 (hc_104 0 _ rfl))) fun a hK => ?_
          obtain ⟨y_107, h_108, H⟩ := bind_some H
          obtain ⟨b_109, o_110, c_111, cs_112, hv_113, hr_114, hc_115, h_1080, h_1081⟩ := hs_106.ix h_108
          subst hr_114
          refine sl hK (by decide) (wtt hb_96) rfl (r_indexAddr_R Try.underlying35 Try.sizeOf50 hv_113 h_1080 h_1081 hK rfl rfl) fun a hK => ?_
          refine sl hK (by decide) (wtt hb_96) rfl (r_fieldAddr Try.underlying50 rfl Try.sizeOf3 hK rfl) fun a hK => ?_
          refine sl hK (by decide) (wtt hb_96) rfl (r_load Try.isAgg3 hK rfl (hS.sub.cell (hc_115 1 _ rfl))) fun a hK => ?_
          refine sl hK (by decide) (wtt hb_96) rfl (r_ibin hK rfl rfl rfl) fun a hK => ?_
          refine sl hK (by decide) rfl rfl (r_pick_t hb_96 hK rfl rfl) fun a hK => ?_
          refine sl hK (by decide) rfl rfl (r_move hK rfl) fun a hK => ?_
          rcases or_b (y_107.N == 2) with hb_116 | hb_116
          · rw [ifb_t hb_116] at H
            refine sl hK (by decide) (wtt hb_116) rfl (r_loadA (cs := [.slice (some ⟨b_56, 0, none⟩) 2 2, .slice none 0 0]) Try.isAgg25 Try.sizeOf25 rfl hK rfl (hS.cells_of (m := 2) (.tail _ (.tail _ (.tail _ (.tail _ (.tail _ (.tail _ (.head _))))))) rfl)) fun a hK => ?_
            obtain ⟨y_117, h_118, H⟩ := bind_some H
            refine sl_callV Try.call13 hS hK (by decide) (wtt hb_116) rfl rfl (table_Check.calls (⟨[(⟨(⟨#[107]⟩ : ByteArray), 2⟩ : api_Col), (⟨(⟨#[107]⟩ : ByteArray), 2⟩ : api_Col)], []⟩ : api_Table) (lentOf_sub [] _) (hS.lend_lit0 (ty := ty_api_Col) (xs := [(⟨(⟨#[107]⟩ : ByteArray), 2⟩ : api_Col), (⟨(⟨#[107]⟩ : ByteArray), 2⟩ : api_Col)]) (.tail _ (.tail _ (.tail _ (.tail _ (.tail _ (.tail _ (.tail _ (.head _)))))))) (Reps.cons (show Ty.rep ty_api_Col _ [.string (⟨#[107]⟩ : ByteArray), .int .i64 2] (⟨(⟨#[107]⟩ : ByteArray), 2⟩ : api_Col) from rfl) (Reps.cons (show Ty.rep ty_api_Col _ [.string (⟨#[107]⟩ : ByteArray), .int .i64 2] (⟨(⟨#[107]⟩ : ByteArray), 2⟩ : api_Col) from rfl) (Reps.nil _ _))) rfl) (SlR.nil (tySl ty_api_Value) _) h_118) fun a w hS hK => ?_
            refine sl hK (by decide) (wtt hb_116) rfl (r_ibin hK rfl rfl rfl) fun a hK => ?_
            refine sl hK (by decide) rfl rfl (r_pick_t hb_116 hK rfl rfl) fun a hK => ?_
            refine sl hK (by decide) rfl rfl (r_move hK rfl) fun a hK => ?_
            rcases or_b (y_117 == 20) with hb_119 | hb_119
            · rw [ifb_t hb_119] at H
              refine sl hK (by decide) (wtt hb_119) rfl (r_loadA (cs := [v_7, .slice (some ⟨b_59, 0, none⟩) 1 1]) Try.isAgg25 Try.sizeOf25 rfl hK rfl (hS.cells_of (m := 2) (.tail _ (.tail _ (.tail _ (.head _)))) rfl)) fun a hK => ?_
              have hS := hS.pk5
              obtain ⟨R_120, hS, hl_122, hs_121⟩ := hS.fz_lit (ty := ty_api_Value) (xs := [(⟨2, 0, (⟨#[97]⟩ : ByteArray), (⟨0, 0, 0, 0, 0, 0, 0, 0⟩ : Arr8)⟩ : api_Value)]) (Reps.cons (show Ty.rep ty_api_Value _ [.int .i64 2, .int .i64 0, .string (⟨#[97]⟩ : ByteArray), .int .i64 0, .int .i64 0, .int .i64 0, .int .i64 0, .int .i64 0, .int .i64 0, .int .i64 0, .int .i64 0] (⟨2, 0, (⟨#[97]⟩ : ByteArray), (⟨0, 0, 0, 0, 0, 0, 0, 0⟩ : Arr8)⟩ : api_Value) from rfl) (Reps.nil _ _)) rfl
              have hRL := hRL.trans hl_122
              obtain ⟨y_123, h_124, H⟩ := bind_some H
              refine sl_callV Try.call13 hS hK (by decide) (wtt hb_119) rfl rfl (table_Check.calls (⟨y_2.Cols, [[(⟨2, 0, (⟨#[97]⟩ : ByteArray), (⟨0, 0, 0, 0, 0, 0, 0, 0⟩ : Arr8)⟩ : api_Value)]]⟩ : api_Table) (lentOf_sub [] _) (hs_63.mono ((hl_67.le.trans (hl_71.le.trans hl_122.le)).trans hS.rLe0)) (hS.lend_lit0 (ty := (tySl ty_api_Value)) (xs := [[(⟨2, 0, (⟨#[97]⟩ : ByteArray), (⟨0, 0, 0, 0, 0, 0, 0, 0⟩ : Arr8)⟩ : api_Value)]]) (.tail _ (.tail _ (.tail _ (.tail _ (.head _))))) (Reps.cons (show Ty.rep (tySl ty_api_Value) _ [(.slice (some ⟨b_58, 0, none⟩) 1 1)] [(⟨2, 0, (⟨#[97]⟩ : ByteArray), (⟨0, 0, 0, 0, 0, 0, 0, 0⟩ : Arr8)⟩ : api_Value)] from ⟨_, rfl, hs_121⟩) (Reps.nil _ _)) rfl) h_124) fun a w hS hK => ?_
              refine sl hK (by decide) (wtt hb_119) rfl (r_ibin hK rfl rfl rfl) fun a hK => ?_
              refine sl hK (by decide) rfl rfl (r_pick_t hb_119 hK rfl rfl) fun a hK => ?_
              refine sl hK (by decide) rfl rfl (r_move hK rfl) fun a hK => ?_
              rcases or_b (y_123 == 21) with hb_125 | hb_125
              · rw [ifb_t hb_125] at H
                obtain ⟨y_126, h_127, H⟩ := bind_some H
                refine sl_callV Try.call15 hS hK (by decide) (wtt hb_125) rfl rfl (table_Name.calls (⟨#[97, 35, 98]⟩ : ByteArray) h_127 _) fun a w hS hK => ?_
                refine sl hK (by decide) rfl rfl (r_pick_t hb_125 hK rfl rfl) fun a hK => ?_
                refine sl hK (by decide) rfl rfl (r_move hK rfl) fun a hK => ?_
                rcases or_b y_126 with hb_128 | hb_128
                · rw [ifb_t hb_128] at H
                  obtain ⟨y_129, h_130, H⟩ := bind_some H
                  refine sl_callV Try.call15 hS hK (by decide) (wtt hb_128) rfl rfl (table_Name.calls (⟨#[57]⟩ : ByteArray) h_130 _) fun a w hS hK => ?_
                  refine sl hK (by decide) (wtt hb_128) rfl (r_un hK rfl (u_not _)) fun a hK => ?_
                  refine sl hK (by decide) rfl rfl (r_pick_t hb_128 hK rfl rfl) fun a hK => ?_
                  refine sl hK (by decide) rfl rfl (r_move hK rfl) fun a hK => ?_
                  rcases or_b (!y_129) with hb_131 | hb_131
                  · rw [ifb_t hb_131] at H
                    obtain ⟨y_132, h_133, H⟩ := bind_some H
                    refine sl_callV Try.call15 hS hK (by decide) (wtt hb_131) rfl rfl (table_Name.calls (⟨#[]⟩ : ByteArray) h_133 _) fun a w hS hK => ?_
                    refine sl hK (by decide) (wtt hb_131) rfl (r_un hK rfl (u_not _)) fun a hK => ?_
                    refine sl hK (by decide) rfl rfl (r_pick_t hb_131 hK rfl rfl) fun a hK => ?_
                    refine sl hK (by decide) rfl rfl (r_move hK rfl) fun a hK => ?_
                    rcases or_b (!y_132) with hb_134 | hb_134
                    · rw [ifb_t hb_134] at H
                      refine sl hK (by decide) (wtt hb_134) rfl (r_fieldAddr Try.underlying25 rfl Try.sizeOf22 hK rfl) fun a hK => ?_
                      refine sl hK (by decide) (wtt hb_134) rfl (r_load Try.isAgg22 hK rfl (hS.cell (.tail _ (.tail _ (.tail _ (.tail _ (.tail _ (.tail _ (.tail _ (.tail _ (.tail _ (.tail _ (.tail _ (.tail _ (.tail _ (.tail _ (.tail _ (.tail _ (.tail _ (.tail _ (.head _))))))))))))))))))) rfl)) fun a hK => ?_
                      obtain ⟨y_135, h_136, H⟩ := bind_some H
                      refine sl_callV Try.call17 hS hK (by decide) (wtt hb_134) rfl rfl (table_Find.calls y_2.Cols (⟨#[110]⟩ : ByteArray) (lentOf_sub [] _) (hs_63.mono ((hl_67.le.trans (hl_71.le.trans hl_122.le)).trans hS.rLe0)) h_136) fun a w hS hK => ?_
                      refine sl hK (by decide) (wtt hb_134) rfl (r_ibin hK rfl rfl rfl) fun a hK => ?_
                      refine sl hK (by decide) rfl rfl (r_pick_t hb_134 hK rfl rfl) fun a hK => ?_
                      refine sl hK (by decide) rfl rfl (r_move hK rfl) fun a hK => ?_
                      rcases or_b (y_135 == 1) with hb_137 | hb_137
                      · rw [ifb_t hb_137] at H
                        refine sl hK (by decide) (wtt hb_137) rfl (r_fieldAddr Try.underlying25 rfl Try.sizeOf22 hK rfl) fun a hK => ?_
                        refine sl hK (by decide) (wtt hb_137) rfl (r_load Try.isAgg22 hK rfl (hS.cell (.tail _ (.tail _ (.tail _ (.tail _ (.tail _ (.tail _ (.tail _ (.tail _ (.tail _ (.tail _ (.tail _ (.tail _ (.tail _ (.tail _ (.tail _ (.tail _ (.tail _ (.tail _ (.head _))))))))))))))))))) rfl)) fun a hK => ?_
                        obtain ⟨y_138, h_139, H⟩ := bind_some H
                        refine sl_callV Try.call17 hS hK (by decide) (wtt hb_137) rfl rfl (table_Find.calls y_2.Cols (⟨#[120]⟩ : ByteArray) (lentOf_sub [] _) (hs_63.mono ((hl_67.le.trans (hl_71.le.trans hl_122.le)).trans hS.rLe0)) h_139) fun a w hS hK => ?_
                        refine sl hK (by decide) (wtt hb_137) rfl (r_ibin hK rfl rfl rfl) fun a hK => ?_
                        refine sl hK (by decide) rfl rfl (r_pick_t hb_137 hK rfl rfl) fun a hK => ?_
                        refine sl hK (by decide) rfl rfl (r_move hK rfl) fun a hK => ?_
                        rcases or_b (y_138 == (-1)) with hb_140 | hb_140
                        · rw [ifb_t hb_140] at H
                          refine sl hK (by decide) (wtt hb_140) rfl (r_move hK rfl) fun a hK => ?_
                          refine sl hK (by decide) (wtt hb_140) rfl (r_ibin hK rfl rfl rfl) fun a hK => ?_
                          refine sl hK (by decide) rfl rfl (r_pick_t hb_140 hK rfl rfl) fun a hK => ?_
                          refine sl hK (by decide) rfl rfl (r_move hK rfl) fun a hK => ?_
                          rcases or_b (y_68.2 == 0) with hb_141 | hb_141
                          · rw [ifb_t hb_141] at H
                            refine sl hK (by decide) (wtt hb_141) rfl (r_fieldAddr Try.underlying25 rfl Try.sizeOf23 hK rfl) fun a hK => ?_
                            refine sl hK (by decide) (wtt hb_141) rfl (r_load Try.isAgg23 hK rfl (hS.cell (.head _) rfl)) fun a hK => ?_
                            refine sl hK (by decide) (wtt hb_141) rfl (r_len_O Try.underlying23 hS (.tail _ (.tail _ (.head _))) hK rfl) fun a hK => ?_
                            refine sl hK (by decide) (wtt hb_141) rfl (r_ibin hK rfl rfl rfl) fun a hK => ?_
                            refine sl hK (by decide) rfl rfl (r_pick_t hb_141 hK rfl rfl) fun a hK => ?_
                            refine sl hK (by decide) rfl rfl (r_assign hK rfl) fun a hK => ?_
                            refine wpList_nil ?_
                            obtain rfl := Option.some.inj H
                            refine wp_ret ?_
                            repeat (first | refine ret_then ?_ | refine ret_block ?_ | refine ret_scope ?_)
                            exact ret_1 Try.results11 hK (rv_tmp hK rfl) ⟨rfl, hS.bel⟩
                          · rw [ifb_f hb_141] at H
                            refine sl_skip hK (by decide) (wtf hb_141) rfl fun a hK => ?_
                            refine sl_skip hK (by decide) (wtf hb_141) rfl fun a hK => ?_
                            refine sl_skip hK (by decide) (wtf hb_141) rfl fun a hK => ?_
                            refine sl_skip hK (by decide) (wtf hb_141) rfl fun a hK => ?_
                            refine sl hK (by decide) rfl rfl (r_pick_f hb_141 hK rfl rfl) fun a hK => ?_
                            refine sl hK (by decide) rfl rfl (r_assign hK rfl) fun a hK => ?_
                            refine wpList_nil ?_
                            obtain rfl := Option.some.inj H
                            refine wp_ret ?_
                            repeat (first | refine ret_then ?_ | refine ret_block ?_ | refine ret_scope ?_)
                            exact ret_1 Try.results11 hK (rv_tmp hK rfl) ⟨rfl, hS.bel⟩
                        · rw [ifb_f hb_140] at H
                          refine sl_skip hK (by decide) (wtf hb_140) rfl fun a hK => ?_
                          refine sl_skip hK (by decide) (wtf hb_140) rfl fun a hK => ?_
                          refine sl hK (by decide) rfl rfl (r_pick_f hb_140 hK rfl rfl) fun a hK => ?_
                          refine sl hK (by decide) rfl rfl (r_move hK rfl) fun a hK => ?_
                          refine sl_skip hK (by decide) rfl rfl fun a hK => ?_
                          refine sl_skip hK (by decide) rfl rfl fun a hK => ?_
                          refine sl_skip hK (by decide) rfl rfl fun a hK => ?_
                          refine sl_skip hK (by decide) rfl rfl fun a hK => ?_
                          refine sl hK (by decide) rfl rfl (r_pick hK rfl rfl rfl) fun a hK => ?_
                          refine sl hK (by decide) rfl rfl (r_assign hK rfl) fun a hK => ?_
                          refine wpList_nil ?_
                          obtain rfl := Option.some.inj H
                          refine wp_ret ?_
                          repeat (first | refine ret_then ?_ | refine ret_block ?_ | refine ret_scope ?_)
                          exact ret_1 Try.results11 hK (rv_tmp hK rfl) ⟨rfl, hS.bel⟩
                      · rw [ifb_f hb_137] at H
                        refine sl_skip hK (by decide) (wtf hb_137) rfl fun a hK => ?_
                        refine sl_skip hK (by decide) (wtf hb_137) rfl fun a hK => ?_
                        refine sl_skip hK (by decide) (wtf hb_137) rfl fun a hK => ?_
                        refine sl_skip hK (by decide) (wtf hb_137) rfl fun a hK => ?_
                        refine sl hK (by decide) rfl rfl (r_pick_f hb_137 hK rfl rfl) fun a hK => ?_
                        refine sl hK (by decide) rfl rfl (r_move hK rfl) fun a hK => ?_
                        refine sl_skip hK (by decide) rfl rfl fun a hK => ?_
                        refine sl_skip hK (by decide) rfl rfl fun a hK => ?_
                        refine sl hK (by decide) rfl rfl (r_pick hK rfl rfl rfl) fun a hK => ?_
                        refine sl hK (by decide) rfl rfl (r_move hK rfl) fun a hK => ?_
                        refine sl_skip hK (by decide) rfl rfl fun a hK => ?_
                        refine sl_skip hK (by decide) rfl rfl fun a hK => ?_
                        refine sl_skip hK (by decide) rfl rfl fun a hK => ?_
                        refine sl_skip hK (by decide) rfl rfl fun a hK => ?_
                        refine sl hK (by decide) rfl rfl (r_pick hK rfl rfl rfl) fun a hK => ?_
                        refine sl hK (by decide) rfl rfl (r_assign hK rfl) fun a hK => ?_
                        refine wpList_nil ?_
                        obtain rfl := Option.some.inj H
                        refine wp_ret ?_
                        repeat (first | refine ret_then ?_ | refine ret_block ?_ | refine ret_scope ?_)
                        exact ret_1 Try.results11 hK (rv_tmp hK rfl) ⟨rfl, hS.bel⟩
                    · rw [ifb_f hb_134] at H
                      refine sl_skip hK (by decide) (wtf hb_134) rfl fun a hK => ?_
                      refine sl_skip hK (by decide) (wtf hb_134) rfl fun a hK => ?_
                      refine sl_skip hK (by decide) (wtf hb_134) rfl fun a hK => ?_
                      refine sl_skip hK (by decide) (wtf hb_134) rfl fun a hK => ?_
                      refine sl hK (by decide) rfl rfl (r_pick_f hb_134 hK rfl rfl) fun a hK => ?_
                      refine sl hK (by decide) rfl rfl (r_move hK rfl) fun a hK => ?_
                      refine sl_skip hK (by decide) rfl rfl fun a hK => ?_
                      refine sl_skip hK (by decide) rfl rfl fun a hK => ?_
                      refine sl_skip hK (by decide) rfl rfl fun a hK => ?_
                      refine sl_skip hK (by decide) rfl rfl fun a hK => ?_
                      refine sl hK (by decide) rfl rfl (r_pick hK rfl rfl rfl) fun a hK => ?_
                      refine sl hK (by decide) rfl rfl (r_move hK rfl) fun a hK => ?_
                      refine sl_skip hK (by decide) rfl rfl fun a hK => ?_
                      refine sl_skip hK (by decide) rfl rfl fun a hK => ?_
                      refine sl hK (by decide) rfl rfl (r_pick hK rfl rfl rfl) fun a hK => ?_
                      refine sl hK (by decide) rfl rfl (r_move hK rfl) fun a hK => ?_
                      refine sl_skip hK (by decide) rfl rfl fun a hK => ?_
                      refine sl_skip hK (by decide) rfl rfl fun a hK => ?_
                      refine sl_skip hK (by decide) rfl rfl fun a hK => ?_
                      refine sl_skip hK (by decide) rfl rfl fun a hK => ?_
                      refine sl hK (by decide) rfl rfl (r_pick hK rfl rfl rfl) fun a hK => ?_
                      refine sl hK (by decide) rfl rfl (r_assign hK rfl) fun a hK => ?_
                      refine wpList_nil ?_
                      obtain rfl := Option.some.inj H
                      refine wp_ret ?_
                      repeat (first | refine ret_then ?_ | refine ret_block ?_ | refine ret_scope ?_)
                      exact ret_1 Try.results11 hK (rv_tmp hK rfl) ⟨rfl, hS.bel⟩
                  · rw [ifb_f hb_131] at H
                    refine sl_skip hK (by decide) (wtf hb_131) rfl fun a hK => ?_
                    refine sl_skip hK (by decide) (wtf hb_131) rfl fun a hK => ?_
                    refine sl hK (by decide) rfl rfl (r_pick_f hb_131 hK rfl rfl) fun a hK => ?_
                    refine sl hK (by decide) rfl rfl (r_move hK rfl) fun a hK => ?_
                    refine sl_skip hK (by decide) rfl rfl fun a hK => ?_
                    refine sl_skip hK (by decide) rfl rfl fun a hK => ?_
                    refine sl_skip hK (by decide) rfl rfl fun a hK => ?_
                    refine sl_skip hK (by decide) rfl rfl fun a hK => ?_
                    refine sl hK (by decide) rfl rfl (r_pick hK rfl rfl rfl) fun a hK => ?_
                    refine sl hK (by decide) rfl rfl (r_move hK rfl) fun a hK => ?_
                    refine sl_skip hK (by decide) rfl rfl fun a hK => ?_
                    refine sl_skip hK (by decide) rfl rfl fun a hK => ?_
                    refine sl_skip hK (by decide) rfl rfl fun a hK => ?_
                    refine sl_skip hK (by decide) rfl rfl fun a hK => ?_
                    refine sl hK (by decide) rfl rfl (r_pick hK rfl rfl rfl) fun a hK => ?_
                    refine sl hK (by decide) rfl rfl (r_move hK rfl) fun a hK => ?_
                    refine sl_skip hK (by decide) rfl rfl fun a hK => ?_
                    refine sl_skip hK (by decide) rfl rfl fun a hK => ?_
                    refine sl hK (by decide) rfl rfl (r_pick hK rfl rfl rfl) fun a hK => ?_
                    refine sl hK (by decide) rfl rfl (r_move hK rfl) fun a hK => ?_
                    refine sl_skip hK (by decide) rfl rfl fun a hK => ?_
                    refine sl_skip hK (by decide) rfl rfl fun a hK => ?_
                    refine sl_skip hK (by decide) rfl rfl fun a hK => ?_
                    refine sl_skip hK (by decide) rfl rfl fun a hK => ?_
                    refine sl hK (by decide) rfl rfl (r_pick hK rfl rfl rfl) fun a hK => ?_
                    refine sl hK (by decide) rfl rfl (r_assign hK rfl) fun a hK => ?_
                    refine wpList_nil ?_
                    obtain rfl := Option.some.inj H
                    refine wp_ret ?_
                    repeat (first | refine ret_then ?_ | refine ret_block ?_ | refine ret_scope ?_)
                    exact ret_1 Try.results11 hK (rv_tmp hK rfl) ⟨rfl, hS.bel⟩
                · rw [ifb_f hb_128] at H
                  refine sl_skip hK (by decide) (wtf hb_128) rfl fun a hK => ?_
                  refine sl_skip hK (by decide) (wtf hb_128) rfl fun a hK => ?_
                  refine sl hK (by decide) rfl rfl (r_pick_f hb_128 hK rfl rfl) fun a hK => ?_
                  refine sl hK (by decide) rfl rfl (r_move hK rfl) fun a hK => ?_
                  refine sl_skip hK (by decide) rfl rfl fun a hK => ?_
                  refine sl_skip hK (by decide) rfl rfl fun a hK => ?_
                  refine sl hK (by decide) rfl rfl (r_pick hK rfl rfl rfl) fun a hK => ?_
                  refine sl hK (by decide) rfl rfl (r_move hK rfl) fun a hK => ?_
                  refine sl_skip hK (by decide) rfl rfl fun a hK => ?_
                  refine sl_skip hK (by decide) rfl rfl fun a hK => ?_
                  refine sl_skip hK (by decide) rfl rfl fun a hK => ?_
                  refine sl_skip hK (by decide) rfl rfl fun a hK => ?_
                  refine sl hK (by decide) rfl rfl (r_pick hK rfl rfl rfl) fun a hK => ?_
                  refine sl hK (by decide) rfl rfl (r_move hK rfl) fun a hK => ?_
                  refine sl_skip hK (by decide) rfl rfl fun a hK => ?_
                  refine sl_skip hK (by decide) rfl rfl fun a hK => ?_
                  refine sl_skip hK (by decide) rfl rfl fun a hK => ?_
                  refine sl_skip hK (by decide) rfl rfl fun a hK => ?_
                  refine sl hK (by decide) rfl rfl (r_pick hK rfl rfl rfl) fun a hK => ?_
                  refine sl hK (by decide) rfl rfl (r_move hK rfl) fun a hK => ?_
                  refine sl_skip hK (by decide) rfl rfl fun a hK => ?_
                  refine sl_skip hK (by decide) rfl rfl fun a hK => ?_
                  refine sl hK (by decide) rfl rfl (r_pick hK rfl rfl rfl) fun a hK => ?_
                  refine sl hK (by decide) rfl rfl (r_move hK rfl) fun a hK => ?_
                  refine sl_skip hK (by decide) rfl rfl fun a hK => ?_
                  refine sl_skip hK (by decide) rfl rfl fun a hK => ?_
                  refine sl_skip hK (by decide) rfl rfl fun a hK => ?_
                  refine sl_skip hK (by decide) rfl rfl fun a hK => ?_
                  refine sl hK (by decide) rfl rfl (r_pick hK rfl rfl rfl) fun a hK => ?_
                  refine sl hK (by decide) rfl rfl (r_assign hK rfl) fun a hK => ?_
                  refine wpList_nil ?_
                  obtain rfl := Option.some.inj H
                  refine wp_ret ?_
                  repeat (first | refine ret_then ?_ | refine ret_block ?_ | refine ret_scope ?_)
                  exact ret_1 Try.results11 hK (rv_tmp hK rfl) ⟨rfl, hS.bel⟩
              · rw [ifb_f hb_125] at H
                refine sl_skip hK (by decide) (wtf hb_125) rfl fun a hK => ?_
                refine sl hK (by decide) rfl rfl (r_pick_f hb_125 hK rfl rfl) fun a hK => ?_
                refine sl hK (by decide) rfl rfl (r_move hK rfl) fun a hK => ?_
                refine sl_skip hK (by decide) rfl rfl fun a hK => ?_
                refine sl_skip hK (by decide) rfl rfl fun a hK => ?_
                refine sl hK (by decide) rfl rfl (r_pick hK rfl rfl rfl) fun a hK => ?_
                refine sl hK (by decide) rfl rfl (r_move hK rfl) fun a hK => ?_
                refine sl_skip hK (by decide) rfl rfl fun a hK => ?_
                refine sl_skip hK (by decide) rfl rfl fun a hK => ?_
                refine sl hK (by decide) rfl rfl (r_pick hK rfl rfl rfl) fun a hK => ?_
                refine sl hK (by decide) rfl rfl (r_move hK rfl) fun a hK => ?_
                refine sl_skip hK (by decide) rfl rfl fun a hK => ?_
                refine sl_skip hK (by decide) rfl rfl fun a hK => ?_
                refine sl_skip hK (by decide) rfl rfl fun a hK => ?_
                refine sl_skip hK (by decide) rfl rfl fun a hK => ?_
                refine sl hK (by decide) rfl rfl (r_pick hK rfl rfl rfl) fun a hK => ?_
                refine sl hK (by decide) rfl rfl (r_move hK rfl) fun a hK => ?_
                refine sl_skip hK (by decide) rfl rfl fun a hK => ?_
                refine sl_skip hK (by decide) rfl rfl fun a hK => ?_
                refine sl_skip hK (by decide) rfl rfl fun a hK => ?_
                refine sl_skip hK (by decide) rfl rfl fun a hK => ?_
                refine sl hK (by decide) rfl rfl (r_pick hK rfl rfl rfl) fun a hK => ?_
                refine sl hK (by decide) rfl rfl (r_move hK rfl) fun a hK => ?_
                refine sl_skip hK (by decide) rfl rfl fun a hK => ?_
                refine sl_skip hK (by decide) rfl rfl fun a hK => ?_
                refine sl hK (by decide) rfl rfl (r_pick hK rfl rfl rfl) fun a hK => ?_
                refine sl hK (by decide) rfl rfl (r_move hK rfl) fun a hK => ?_
                refine sl_skip hK (by decide) rfl rfl fun a hK => ?_
                refine sl_skip hK (by decide) rfl rfl fun a hK => ?_
                refine sl_skip hK (by decide) rfl rfl fun a hK => ?_
                refine sl_skip hK (by decide) rfl rfl fun a hK => ?_
                refine sl hK (by decide) rfl rfl (r_pick hK rfl rfl rfl) fun a hK => ?_
                refine sl hK (by decide) rfl rfl (r_assign hK rfl) fun a hK => ?_
                refine wpList_nil ?_
                obtain rfl := Option.some.inj H
                refine wp_ret ?_
                repeat (first | refine ret_then ?_ | refine ret_block ?_ | refine ret_scope ?_)
                exact ret_1 Try.results11 hK (rv_tmp hK rfl) ⟨rfl, hS.bel⟩
            · rw [ifb_f hb_119] at H
              refine sl_skip hK (by decide) (wtf hb_119) rfl fun a hK => ?_
              refine sl_skip hK (by decide) (wtf hb_119) rfl fun a hK => ?_
              refine sl_skip hK (by decide) (wtf hb_119) rfl fun a hK => ?_
              refine sl hK (by decide) rfl rfl (r_pick_f hb_119 hK rfl rfl) fun a hK => ?_
              refine sl hK (by decide) rfl rfl (r_move hK rfl) fun a hK => ?_
              refine sl_skip hK (by decide) rfl rfl fun a hK => ?_
              refine sl hK (by decide) rfl rfl (r_pick hK rfl rfl rfl) fun a hK => ?_
              refine sl hK (by decide) rfl rfl (r_move hK rfl) fun a hK => ?_
              refine sl_skip hK (by decide) rfl rfl fun a hK => ?_
              refine sl_skip hK (by decide) rfl rfl fun a hK => ?_
              refine sl hK (by decide) rfl rfl (r_pick hK rfl rfl rfl) fun a hK => ?_
              refine sl hK (by decide) rfl rfl (r_move hK rfl) fun a hK => ?_
              refine sl_skip hK (by decide) rfl rfl fun a hK => ?_
              refine sl_skip hK (by decide) rfl rfl fun a hK => ?_
              refine sl hK (by decide) rfl rfl (r_pick hK rfl rfl rfl) fun a hK => ?_
              refine sl hK (by decide) rfl rfl (r_move hK rfl) fun a hK => ?_
              refine sl_skip hK (by decide) rfl rfl fun a hK => ?_
              refine sl_skip hK (by decide) rfl rfl fun a hK => ?_
              refine sl_skip hK (by decide) rfl rfl fun a hK => ?_
              refine sl_skip hK (by decide) rfl rfl fun a hK => ?_
              refine sl hK (by decide) rfl rfl (r_pick hK rfl rfl rfl) fun a hK => ?_
              refine sl hK (by decide) rfl rfl (r_move hK rfl) fun a hK => ?_
              refine sl_skip hK (by decide) rfl rfl fun a hK => ?_
              refine sl_skip hK (by decide) rfl rfl fun a hK => ?_
              refine sl_skip hK (by decide) rfl rfl fun a hK => ?_
              refine sl_skip hK (by decide) rfl rfl fun a hK => ?_
              refine sl hK (by decide) rfl rfl (r_pick hK rfl rfl rfl) fun a hK => ?_
              refine sl hK (by decide) rfl rfl (r_move hK rfl) fun a hK => ?_
              refine sl_skip hK (by decide) rfl rfl fun a hK => ?_
              refine sl_skip hK (by decide) rfl rfl fun a hK => ?_
              refine sl hK (by decide) rfl rfl (r_pick hK rfl rfl rfl) fun a hK => ?_
              refine sl hK (by decide) rfl rfl (r_move hK rfl) fun a hK => ?_
              refine sl_skip hK (by decide) rfl rfl fun a hK => ?_
              refine sl_skip hK (by decide) rfl rfl fun a hK => ?_
              refine sl_skip hK (by decide) rfl rfl fun a hK => ?_
              refine sl_skip hK (by decide) rfl rfl fun a hK => ?_
              refine sl hK (by decide) rfl rfl (r_pick hK rfl rfl rfl) fun a hK => ?_
              refine sl hK (by decide) rfl rfl (r_assign hK rfl) fun a hK => ?_
              refine wpList_nil ?_
              obtain rfl := Option.some.inj H
              refine wp_ret ?_
              repeat (first | refine ret_then ?_ | refine ret_block ?_ | refine ret_scope ?_)
              exact ret_1 Try.results11 hK (rv_tmp hK rfl) ⟨rfl, hS.bel⟩
          · rw [ifb_f hb_116] at H
            refine sl_skip hK (by decide) (wtf hb_116) rfl fun a hK => ?_
            refine sl_skip hK (by decide) (wtf hb_116) rfl fun a hK => ?_
            refine sl_skip hK (by decide) (wtf hb_116) rfl fun a hK => ?_
            refine sl hK (by decide) rfl rfl (r_pick_f hb_116 hK rfl rfl) fun a hK => ?_
            refine sl hK (by decide) rfl rfl (r_move hK rfl) fun a hK => ?_
            refine sl_skip hK (by decide) rfl rfl fun a hK => ?_
            refine sl_skip hK (by decide) rfl rfl fun a hK => ?_
            refine sl_skip hK (by decide) rfl rfl fun a hK => ?_
            refine sl hK (by decide) rfl rfl (r_pick hK rfl rfl rfl) fun a hK => ?_
            refine sl hK (by decide) rfl rfl (r_move hK rfl) fun a hK => ?_
            refine sl_skip hK (by decide) rfl rfl fun a hK => ?_
            refine sl hK (by decide) rfl rfl (r_pick hK rfl rfl rfl) fun a hK => ?_
            refine sl hK (by decide) rfl rfl (r_move hK rfl) fun a hK => ?_
            refine sl_skip hK (by decide) rfl rfl fun a hK => ?_
            refine sl_skip hK (by decide) rfl rfl fun a hK => ?_
            refine sl hK (by decide) rfl rfl (r_pick hK rfl rfl rfl) fun a hK => ?_
            refine sl hK (by decide) rfl rfl (r_move hK rfl) fun a hK => ?_
            refine sl_skip hK (by decide) rfl rfl fun a hK => ?_
            refine sl_skip hK (by decide) rfl rfl fun a hK => ?_
            refine sl hK (by decide) rfl rfl (r_pick hK rfl rfl rfl) fun a hK => ?_
            refine sl hK (by decide) rfl rfl (r_move hK rfl) fun a hK => ?_
            refine sl_skip hK (by decide) rfl rfl fun a hK => ?_
            refine sl_skip hK (by decide) rfl rfl fun a hK => ?_
            refine sl_skip hK (by decide) rfl rfl fun a hK => ?_
            refine sl_skip hK (by decide) rfl rfl fun a hK => ?_
            refine sl hK (by decide) rfl rfl (r_pick hK rfl rfl rfl) fun a hK => ?_
            refine sl hK (by decide) rfl rfl (r_move hK rfl) fun a hK => ?_
            refine sl_skip hK (by decide) rfl rfl fun a hK => ?_
            refine sl_skip hK (by decide) rfl rfl fun a hK => ?_
            refine sl_skip hK (by decide) rfl rfl fun a hK => ?_
            refine sl_skip hK (by decide) rfl rfl fun a hK => ?_
            refine sl hK (by decide) rfl rfl (r_pick hK rfl rfl rfl) fun a hK => ?_
            refine sl hK (by decide) rfl rfl (r_move hK rfl) fun a hK => ?_
            refine sl_skip hK (by decide) rfl rfl fun a hK => ?_
            refine sl_skip hK (by decide) rfl rfl fun a hK => ?_
            refine sl hK (by decide) rfl rfl (r_pick hK rfl rfl rfl) fun a hK => ?_
            refine sl hK (by decide) rfl rfl (r_move hK rfl) fun a hK => ?_
            refine sl_skip hK (by decide) rfl rfl fun a hK => ?_
            refine sl_skip hK (by decide) rfl rfl fun a hK => ?_
            refine sl_skip hK (by decide) rfl rfl fun a hK => ?_
            refine sl_skip hK (by decide) rfl rfl fun a hK => ?_
            refine sl hK (by decide) rfl rfl (r_pick hK rfl rfl rfl) fun a hK => ?_
            refine sl hK (by decide) rfl rfl (r_assign hK rfl) fun a hK => ?_
            refine wpList_nil ?_
            obtain rfl := Option.some.inj H
            refine wp_ret ?_
            repeat (first | refine ret_then ?_ | refine ret_block ?_ | refine ret_scope ?_)
            exact ret_1 Try.results11 hK (rv_tmp hK rfl) ⟨rfl, hS.bel⟩
        · rw [ifb_f hb_96] at H
          refine sl_skip hK (by decide) (wtf hb_96) rfl fun a hK => ?_
          refine sl_skip hK (by decide) (wtf hb_96) rfl fun a hK => ?_
          refine sl_skip hK (by decide) (wtf hb_96) rfl fun a hK => ?_
          refine sl_skip hK (by decide) (wtf hb_96) rfl fun a hK => ?_
          refine sl_skip hK (by decide) (wtf hb_96) rfl fun a hK => ?_
          refine sl_skip hK (by decide) (wtf hb_96) rfl fun a hK => ?_
          refine sl_skip hK (by decide) (wtf hb_96) rfl fun a hK => ?_
          refine sl_skip hK (by decide) (wtf hb_96) rfl fun a hK => ?_
          refine sl hK (by decide) rfl rfl (r_pick_f hb_96 hK rfl rfl) fun a hK => ?_
          refine sl hK (by decide) rfl rfl (r_move hK rfl) fun a hK => ?_
          refine sl_skip hK (by decide) rfl rfl fun a hK => ?_
          refine sl_skip hK (by decide) rfl rfl fun a hK => ?_
          refine sl_skip hK (by decide) rfl rfl fun a hK => ?_
          refine sl hK (by decide) rfl rfl (r_pick hK rfl rfl rfl) fun a hK => ?_
          refine sl hK (by decide) rfl rfl (r_move hK rfl) fun a hK => ?_
          refine sl_skip hK (by decide) rfl rfl fun a hK => ?_
          refine sl_skip hK (by decide) rfl rfl fun a hK => ?_
          refine sl_skip hK (by decide) rfl rfl fun a hK => ?_
          refine sl hK (by decide) rfl rfl (r_pick hK rfl rfl rfl) fun a hK => ?_
          refine sl hK (by decide) rfl rfl (r_move hK rfl) fun a hK => ?_
          refine sl_skip hK (by decide) rfl rfl fun a hK => ?_
          refine sl hK (by decide) rfl rfl (r_pick hK rfl rfl rfl) fun a hK => ?_
          refine sl hK (by decide) rfl rfl (r_move hK rfl) fun a hK => ?_
          refine sl_skip hK (by decide) rfl rfl fun a hK => ?_
          refine sl_skip hK (by decide) rfl rfl fun a hK => ?_
          refine sl hK (by decide) rfl rfl (r_pick hK rfl rfl rfl) fun a hK => ?_
          refine sl hK (by decide) rfl rfl (r_move hK rfl) fun a hK => ?_
          refine sl_skip hK (by decide) rfl rfl fun a hK => ?_
          refine sl_skip hK (by decide) rfl rfl fun a hK => ?_
          refine sl hK (by decide) rfl rfl (r_pick hK rfl rfl rfl) fun a hK => ?_
          refine sl hK (by decide) rfl rfl (r_move hK rfl) fun a hK => ?_
          refine sl_skip hK (by decide) rfl rfl fun a hK => ?_
          refine sl_skip hK (by decide) rfl rfl fun a hK => ?_
          refine sl_skip hK (by decide) rfl rfl fun a hK => ?_
          refine sl_skip hK (by decide) rfl rfl fun a hK => ?_
          refine sl hK (by decide) rfl rfl (r_pick hK rfl rfl rfl) fun a hK => ?_
          refine sl hK (by decide) rfl rfl (r_move hK rfl) fun a hK => ?_
          refine sl_skip hK (by decide) rfl rfl fun a hK => ?_
          refine sl_skip hK (by decide) rfl rfl fun a hK => ?_
          refine sl_skip hK (by decide) rfl rfl fun a hK => ?_
          refine sl_skip hK (by decide) rfl rfl fun a hK => ?_
          refine sl hK (by decide) rfl rfl (r_pick hK rfl rfl rfl) fun a hK => ?_
          refine sl hK (by decide) rfl rfl (r_move hK rfl) fun a hK => ?_
          refine sl_skip hK (by decide) rfl rfl fun a hK => ?_
          refine sl_skip hK (by decide) rfl rfl fun a hK => ?_
          refine sl hK (by decide) rfl rfl (r_pick hK rfl rfl rfl) fun a hK => ?_
          refine sl hK (by decide) rfl rfl (r_move hK rfl) fun a hK => ?_
          refine sl_skip hK (by decide) rfl rfl fun a hK => ?_
          refine sl_skip hK (by decide) rfl rfl fun a hK => ?_
          refine sl_skip hK (by decide) rfl rfl fun a hK => ?_
          refine sl_skip hK (by decide) rfl rfl fun a hK => ?_
          refine sl hK (by decide) rfl rfl (r_pick hK rfl rfl rfl) fun a hK => ?_
          refine sl hK (by decide) rfl rfl (r_assign hK rfl) fun a hK => ?_
          refine wpList_nil ?_
          obtain rfl := Option.some.inj H
          refine wp_ret ?_
          repeat (first | refine ret_then ?_ | refine ret_block ?_ | refine ret_scope ?_)
          exact ret_1 Try.results11 hK (rv_tmp hK rfl) ⟨rfl, hS.bel⟩
      · rw [ifb_f hb_85] at H
        refine sl_skip hK (by decide) (wtf hb_85) rfl fun a hK => ?_
        refine sl_skip hK (by decide) (wtf hb_85) rfl fun a hK => ?_
        refine sl_skip hK (by decide) (wtf hb_85) rfl fun a hK => ?_
        refine sl_skip hK (by decide) (wtf hb_85) rfl fun a hK => ?_
        refine sl_skip hK (by decide) (wtf hb_85) rfl fun a hK => ?_
        refine sl_skip hK (by decide) (wtf hb_85) rfl fun a hK => ?_
        refine sl hK (by decide) rfl rfl (r_pick_f hb_85 hK rfl rfl) fun a hK => ?_
        refine sl hK (by decide) rfl rfl (r_move hK rfl) fun a hK => ?_
        refine sl_skip hK (by decide) rfl rfl fun a hK => ?_
        refine sl_skip hK (by decide) rfl rfl fun a hK => ?_
        refine sl_skip hK (by decide) rfl rfl fun a hK => ?_
        refine sl_skip hK (by decide) rfl rfl fun a hK => ?_
        refine sl_skip hK (by decide) rfl rfl fun a hK => ?_
        refine sl_skip hK (by decide) rfl rfl fun a hK => ?_
        refine sl_skip hK (by decide) rfl rfl fun a hK => ?_
        refine sl_skip hK (by decide) rfl rfl fun a hK => ?_
        refine sl hK (by decide) rfl rfl (r_pick hK rfl rfl rfl) fun a hK => ?_
        refine sl hK (by decide) rfl rfl (r_move hK rfl) fun a hK => ?_
        refine sl_skip hK (by decide) rfl rfl fun a hK => ?_
        refine sl_skip hK (by decide) rfl rfl fun a hK => ?_
        refine sl_skip hK (by decide) rfl rfl fun a hK => ?_
        refine sl hK (by decide) rfl rfl (r_pick hK rfl rfl rfl) fun a hK => ?_
        refine sl hK (by decide) rfl rfl (r_move hK rfl) fun a hK => ?_
        refine sl_skip hK (by decide) rfl rfl fun a hK => ?_
        refine sl_skip hK (by decide) rfl rfl fun a hK => ?_
        refine sl_skip hK (by decide) rfl rfl fun a hK => ?_
        refine sl hK (by decide) rfl rfl (r_pick hK rfl rfl rfl) fun a hK => ?_
        refine sl hK (by decide) rfl rfl (r_move hK rfl) fun a hK => ?_
        refine sl_skip hK (by decide) rfl rfl fun a hK => ?_
        refine sl hK (by decide) rfl rfl (r_pick hK rfl rfl rfl) fun a hK => ?_
        refine sl hK (by decide) rfl rfl (r_move hK rfl) fun a hK => ?_
        refine sl_skip hK (by decide) rfl rfl fun a hK => ?_
        refine sl_skip hK (by decide) rfl rfl fun a hK => ?_
        refine sl hK (by decide) rfl rfl (r_pick hK rfl rfl rfl) fun a hK => ?_
        refine sl hK (by decide) rfl rfl (r_move hK rfl) fun a hK => ?_
        refine sl_skip hK (by decide) rfl rfl fun a hK => ?_
        refine sl_skip hK (by decide) rfl rfl fun a hK => ?_
        refine sl hK (by decide) rfl rfl (r_pick hK rfl rfl rfl) fun a hK => ?_
        refine sl hK (by decide) rfl rfl (r_move hK rfl) fun a hK => ?_
        refine sl_skip hK (by decide) rfl rfl fun a hK => ?_
        refine sl_skip hK (by decide) rfl rfl fun a hK => ?_
        refine sl_skip hK (by decide) rfl rfl fun a hK => ?_
        refine sl_skip hK (by decide) rfl rfl fun a hK => ?_
        refine sl hK (by decide) rfl rfl (r_pick hK rfl rfl rfl) fun a hK => ?_
        refine sl hK (by decide) rfl rfl (r_move hK rfl) fun a hK => ?_
        refine sl_skip hK (by decide) rfl rfl fun a hK => ?_
        refine sl_skip hK (by decide) rfl rfl fun a hK => ?_
        refine sl_skip hK (by decide) rfl rfl fun a hK => ?_
        refine sl_skip hK (by decide) rfl rfl fun a hK => ?_
        refine sl hK (by decide) rfl rfl (r_pick hK rfl rfl rfl) fun a hK => ?_
        refine sl hK (by decide) rfl rfl (r_move hK rfl) fun a hK => ?_
        refine sl_skip hK (by decide) rfl rfl fun a hK => ?_
        refine sl_skip hK (by decide) rfl rfl fun a hK => ?_
        refine sl hK (by decide) rfl rfl (r_pick hK rfl rfl rfl) fun a hK => ?_
        refine sl hK (by decide) rfl rfl (r_move hK rfl) fun a hK => ?_
        refine sl_skip hK (by decide) rfl rfl fun a hK => ?_
        refine sl_skip hK (by decide) rfl rfl fun a hK => ?_
        refine sl_skip hK (by decide) rfl rfl fun a hK => ?_
        refine sl_skip hK (by decide) rfl rfl fun a hK => ?_
        refine sl hK (by decide) rfl rfl (r_pick hK rfl rfl rfl) fun a hK => ?_
        refine sl hK (by decide) rfl rfl (r_assign hK rfl) fun a hK => ?_
        refine wpList_nil ?_
        obtain rfl := Option.some.inj H
        refine wp_ret ?_
        repeat (first | refine ret_then ?_ | refine ret_block ?_ | refine ret_scope ?_)
        exact ret_1 Try.results11 hK (rv_tmp hK rfl) ⟨rfl, hS.bel⟩
    · rw [ifb_f hb_84] at H
      refine sl_skip hK (by decide) (wtf hb_84) rfl fun a hK => ?_
      refine sl_skip hK (by decide) (wtf hb_84) rfl fun a hK => ?_
      refine sl_skip hK (by decide) (wtf hb_84) rfl fun a hK => ?_
      refine sl_skip hK (by decide) (wtf hb_84) rfl fun a hK => ?_
      refine sl hK (by decide) rfl rfl (r_pick_f hb_84 hK rfl rfl) fun a hK => ?_
      refine sl hK (by decide) rfl rfl (r_move hK rfl) fun a hK => ?_
      refine sl_skip hK (by decide) rfl rfl fun a hK => ?_
      refine sl_skip hK (by decide) rfl rfl fun a hK => ?_
      refine sl_skip hK (by decide) rfl rfl fun a hK => ?_
      refine sl_skip hK (by decide) rfl rfl fun a hK => ?_
      refine sl_skip hK (by decide) rfl rfl fun a hK => ?_
      refine sl_skip hK (by decide) rfl rfl fun a hK => ?_
      refine sl hK (by decide) rfl rfl (r_pick hK rfl rfl rfl) fun a hK => ?_
      refine sl hK (by decide) rfl rfl (r_move hK rfl) fun a hK => ?_
      refine sl_skip hK (by decide) rfl rfl fun a hK => ?_
      refine sl_skip hK (by decide) rfl rfl fun a hK => ?_
      refine sl_skip hK (by decide) rfl rfl fun a hK => ?_
      refine sl_skip hK (by decide) rfl rfl fun a hK => ?_
      refine sl_skip hK (by decide) rfl rfl fun a hK => ?_
      refine sl_skip hK (by decide) rfl rfl fun a hK => ?_
      refine sl_skip hK (by decide) rfl rfl fun a hK => ?_
      refine sl_skip hK (by decide) rfl rfl fun a hK => ?_
      refine sl hK (by decide) rfl rfl (r_pick hK rfl rfl rfl) fun a hK => ?_
      refine sl hK (by decide) rfl rfl (r_move hK rfl) fun a hK => ?_
      refine sl_skip hK (by decide) rfl rfl fun a hK => ?_
      refine sl_skip hK (by decide) rfl rfl fun a hK => ?_
      refine sl_skip hK (by decide) rfl rfl fun a hK => ?_
      refine sl hK (by decide) rfl rfl (r_pick hK rfl rfl rfl) fun a hK => ?_
      refine sl hK (by decide) rfl rfl (r_move hK rfl) fun a hK => ?_
      refine sl_skip hK (by decide) rfl rfl fun a hK => ?_
      refine sl_skip hK (by decide) rfl rfl fun a hK => ?_
      refine sl_skip hK (by decide) rfl rfl fun a hK => ?_
      refine sl hK (by decide) rfl rfl (r_pick hK rfl rfl rfl) fun a hK => ?_
      refine sl hK (by decide) rfl rfl (r_move hK rfl) fun a hK => ?_
      refine sl_skip hK (by decide) rfl rfl fun a hK => ?_
      refine sl hK (by decide) rfl rfl (r_pick hK rfl rfl rfl) fun a hK => ?_
      refine sl hK (by decide) rfl rfl (r_move hK rfl) fun a hK => ?_
      refine sl_skip hK (by decide) rfl rfl fun a hK => ?_
      refine sl_skip hK (by decide) rfl rfl fun a hK => ?_
      refine sl hK (by decide) rfl rfl (r_pick hK rfl rfl rfl) fun a hK => ?_
      refine sl hK (by decide) rfl rfl (r_move hK rfl) fun a hK => ?_
      refine sl_skip hK (by decide) rfl rfl fun a hK => ?_
      refine sl_skip hK (by decide) rfl rfl fun a hK => ?_
      refine sl hK (by decide) rfl rfl (r_pick hK rfl rfl rfl) fun a hK => ?_
      refine sl hK (by decide) rfl rfl (r_move hK rfl) fun a hK => ?_
      refine sl_skip hK (by decide) rfl rfl fun a hK => ?_
      refine sl_skip hK (by decide) rfl rfl fun a hK => ?_
      refine sl_skip hK (by decide) rfl rfl fun a hK => ?_
      refine sl_skip hK (by decide) rfl rfl fun a hK => ?_
      refine sl hK (by decide) rfl rfl (r_pick hK rfl rfl rfl) fun a hK => ?_
      refine sl hK (by decide) rfl rfl (r_move hK rfl) fun a hK => ?_
      refine sl_skip hK (by decide) rfl rfl fun a hK => ?_
      refine sl_skip hK (by decide) rfl rfl fun a hK => ?_
      refine sl_skip hK (by decide) rfl rfl fun a hK => ?_
      refine sl_skip hK (by decide) rfl rfl fun a hK => ?_
      refine sl hK (by decide) rfl rfl (r_pick hK rfl rfl rfl) fun a hK => ?_
      refine sl hK (by decide) rfl rfl (r_move hK rfl) fun a hK => ?_
      refine sl_skip hK (by decide) rfl rfl fun a hK => ?_
      refine sl_skip hK (by decide) rfl rfl fun a hK => ?_
      refine sl hK (by decide) rfl rfl (r_pick hK rfl rfl rfl) fun a hK => ?_
      refine sl hK (by decide) rfl rfl (r_move hK rfl) fun a hK => ?_
      refine sl_skip hK (by decide) rfl rfl fun a hK => ?_
      refine sl_skip hK (by decide) rfl rfl fun a hK => ?_
      refine sl_skip hK (by decide) rfl rfl fun a hK => ?_
      refine sl_skip hK (by decide) rfl rfl fun a hK => ?_
      refine sl hK (by decide) rfl rfl (r_pick hK rfl rfl rfl) fun a hK => ?_
      refine sl hK (by decide) rfl rfl (r_assign hK rfl) fun a hK => ?_
      refine wpList_nil ?_
      obtain rfl := Option.some.inj H
      refine wp_ret ?_
      repeat (first | refine ret_then ?_ | refine ret_block ?_ | refine ret_scope ?_)
      exact ret_1 Try.results11 hK (rv_tmp hK rfl) ⟨rfl, hS.bel⟩
  · rw [ifb_f hb_83] at H
    refine sl_skip hK (by decide) (wtf hb_83) rfl fun a hK => ?_
    refine sl_skip hK (by decide) (wtf hb_83) rfl fun a hK => ?_
    refine sl hK (by decide) rfl rfl (r_pick_f hb_83 hK rfl rfl) fun a hK => ?_
    refine sl hK (by decide) rfl rfl (r_move hK rfl) fun a hK => ?_
    refine sl_skip hK (by decide) rfl rfl fun a hK => ?_
    refine sl_skip hK (by decide) rfl rfl fun a hK => ?_
    refine sl_skip hK (by decide) rfl rfl fun a hK => ?_
    refine sl_skip hK (by decide) rfl rfl fun a hK => ?_
    refine sl hK (by decide) rfl rfl (r_pick hK rfl rfl rfl) fun a hK => ?_
    refine sl hK (by decide) rfl rfl (r_move hK rfl) fun a hK => ?_
    refine sl_skip hK (by decide) rfl rfl fun a hK => ?_
    refine sl_skip hK (by decide) rfl rfl fun a hK => ?_
    refine sl_skip hK (by decide) rfl rfl fun a hK => ?_
    refine sl_skip hK (by decide) rfl rfl fun a hK => ?_
    refine sl_skip hK (by decide) rfl rfl fun a hK => ?_
    refine sl_skip hK (by decide) rfl rfl fun a hK => ?_
    refine sl hK (by decide) rfl rfl (r_pick hK rfl rfl rfl) fun a hK => ?_
    refine sl hK (by decide) rfl rfl (r_move hK rfl) fun a hK => ?_
    refine sl_skip hK (by decide) rfl rfl fun a hK => ?_
    refine sl_skip hK (by decide) rfl rfl fun a hK => ?_
    refine sl_skip hK (by decide) rfl rfl fun a hK => ?_
    refine sl_skip hK (by decide) rfl rfl fun a hK => ?_
    refine sl_skip hK (by decide) rfl rfl fun a hK => ?_
    refine sl_skip hK (by decide) rfl rfl fun a hK => ?_
    refine sl_skip hK (by decide) rfl rfl fun a hK => ?_
    refine sl_skip hK (by decide) rfl rfl fun a hK => ?_
    refine sl hK (by decide) rfl rfl (r_pick hK rfl rfl rfl) fun a hK => ?_
    refine sl hK (by decide) rfl rfl (r_move hK rfl) fun a hK => ?_
    refine sl_skip hK (by decide) rfl rfl fun a hK => ?_
    refine sl_skip hK (by decide) rfl rfl fun a hK => ?_
    refine sl_skip hK (by decide) rfl rfl fun a hK => ?_
    refine sl hK (by decide) rfl rfl (r_pick hK rfl rfl rfl) fun a hK => ?_
    refine sl hK (by decide) rfl rfl (r_move hK rfl) fun a hK => ?_
    refine sl_skip hK (by decide) rfl rfl fun a hK => ?_
    refine sl_skip hK (by decide) rfl rfl fun a hK => ?_
    refine sl_skip hK (by decide) rfl rfl fun a hK => ?_
    refine sl hK (by decide) rfl rfl (r_pick hK rfl rfl rfl) fun a hK => ?_
    refine sl hK (by decide) rfl rfl (r_move hK rfl) fun a hK => ?_
    refine sl_skip hK (by decide) rfl rfl fun a hK => ?_
    refine sl hK (by decide) rfl rfl (r_pick hK rfl rfl rfl) fun a hK => ?_
    refine sl hK (by decide) rfl rfl (r_move hK rfl) fun a hK => ?_
    refine sl_skip hK (by decide) rfl rfl fun a hK => ?_
    refine sl_skip hK (by decide) rfl rfl fun a hK => ?_
    refine sl hK (by decide) rfl rfl (r_pick hK rfl rfl rfl) fun a hK => ?_
    refine sl hK (by decide) rfl rfl (r_move hK rfl) fun a hK => ?_
    refine sl_skip hK (by decide) rfl rfl fun a hK => ?_
    refine sl_skip hK (by decide) rfl rfl fun a hK => ?_
    refine sl hK (by decide) rfl rfl (r_pick hK rfl rfl rfl) fun a hK => ?_
    refine sl hK (by decide) rfl rfl (r_move hK rfl) fun a hK => ?_
    refine sl_skip hK (by decide) rfl rfl fun a hK => ?_
    refine sl_skip hK (by decide) rfl rfl fun a hK => ?_
    refine sl_skip hK (by decide) rfl rfl fun a hK => ?_
    refine sl_skip hK (by decide) rfl rfl fun a hK => ?_
    refine sl hK (by decide) rfl rfl (r_pick hK rfl rfl rfl) fun a hK => ?_
    refine sl hK (by decide) rfl rfl (r_move hK rfl) fun a hK => ?_
    refine sl_skip hK (by decide) rfl rfl fun a hK => ?_
    refine sl_skip hK (by decide) rfl rfl fun a hK => ?_
    refine sl_skip hK (by decide) rfl rfl fun a hK => ?_
    refine sl_skip hK (by decide) rfl rfl fun a hK => ?_
    refine sl hK (by decide) rfl rfl (r_pick hK rfl rfl rfl) fun a hK => ?_
    refine sl hK (by decide) rfl rfl (r_move hK rfl) fun a hK => ?_
    refine sl_skip hK (by decide) rfl rfl fun a hK => ?_
    refine sl_skip hK (by decide) rfl rfl fun a hK => ?_
    refine sl hK (by decide) rfl rfl (r_pick hK rfl rfl rfl) fun a hK => ?_
    refine sl hK (by decide) rfl rfl (r_move hK rfl) fun a hK => ?_
    refine sl_skip hK (by decide) rfl rfl fun a hK => ?_
    refine sl_skip hK (by decide) rfl rfl fun a hK => ?_
    refine sl_skip hK (by decide) rfl rfl fun a hK => ?_
    refine sl_skip hK (by decide) rfl rfl fun a hK => ?_
    refine sl hK (by decide) rfl rfl (r_pick hK rfl rfl rfl) fun a hK => ?_
    refine sl hK (by decide) rfl rfl (r_assign hK rfl) fun a hK => ?_
    refine wpList_nil ?_
    obtain rfl := Option.some.inj H
    refine wp_ret ?_
    repeat (first | refine ret_then ?_ | refine ret_block ?_ | refine ret_scope ?_)
    exact ret_1 Try.results11 hK (rv_tmp hK rfl) ⟨rfl, hS.bel⟩

/-! ### catchment/catchmentlaw02.cut: function 12 -/
set_option maxHeartbeats 4000000 in
set_option maxRecDepth 100000 in
theorem law02_cut.calls (a0 : api_Table) {w0 : World} {R : Hp} {v0_0 : Value} {v0_1 : Value} (hR : R.sub w0) (h0_0 : SlR ty_api_Col R v0_0 a0.Cols) (h0_1 : SlR (tySl ty_api_Value) R v0_1 a0.Rows) {r : api_Table} (H : law02_cut a0 = some r) : Calls Try.prog 12 #[.agg #[v0_0, v0_1]] w0 (Rets fun v w' => ∃ (R' : Hp) (u0 : Value) (u1 : Value), v = .agg #[u0, u1] ∧ St [] w0 w' R' [] ∧ RLe [] w0 R R' ∧ SlR ty_api_Col R' u0 r.Cols ∧ SlR (tySl ty_api_Value) R' u1 r.Rows) := by
  unfold law02_cut at H
  refine enter (args := [.agg #[v0_0, v0_1]]) Try.func12 rfl Try.ntmps12 rfl fun a hK => ?_
  have hS := St.init hR
  have hRL := RLe.refl (M := []) w0 R
  refine wp_seq ?_
  refine wp_region_lit ?_
  refine sl_box hS hK (by decide) rfl rfl (c := [v0_0, v0_1]) rfl fun a w b_1 hS hK => ?_
  refine sl_alloc Try.zeroValue25 hS hK (by decide) rfl rfl fun a w b_2 hS hK => ?_
  refine wpList_nil ?_
  refine wp_seq ?_
  refine wp_seq ?_
  refine wp_region_lit ?_
  refine sl hK (by decide) rfl rfl (r_fieldAddr Try.underlying25 rfl Try.sizeOf23 hK rfl) fun a hK => ?_
  refine sl hK (by decide) rfl rfl (r_load Try.isAgg23 hK rfl (hS.cell (.tail _ (.head _)) rfl)) fun a hK => ?_
  refine sl hK (by decide) rfl rfl (r_len_R Try.underlying23 h0_1 hK rfl) fun a hK => ?_
  refine sl hK (by decide) rfl rfl (r_ibin hK rfl rfl rfl) fun a hK => ?_
  refine wpList_nil ?_
  refine wp_cond_split (hK.ev rfl) (fun (hb_3 : (decide ((a0.Rows.length : Int) > 200)) = true) => ?_) (fun (hb_3 : (decide ((a0.Rows.length : Int) > 200)) = false) => ?_)
  · rw [ifb_t hb_3] at H
    refine wp_region_lit ?_
    refine sl hK (by decide) rfl rfl (r_fieldAddr Try.underlying25 rfl Try.sizeOf23 hK rfl) fun a hK => ?_
    refine sl hK (by decide) rfl rfl (r_load Try.isAgg23 hK rfl (hS.cell (.tail _ (.head _)) rfl)) fun a hK => ?_
    obtain ⟨y_4, h_5, H⟩ := bind_some H
    obtain ⟨v_6, hs_7, hr_8⟩ := r_slice_R (x := .tmp 8) (lo := none) (hi := some (.const (.int .i64 200))) Try.underlying23 Try.sizeOf35 h0_1 h_5 hK rfl rfl ⟨_, rfl⟩
    refine sl hK (by decide) rfl rfl (hr_8 _ _ _ _ _ _ _ hK) fun a hK => ?_
    refine sl hK (by decide) rfl rfl (r_fieldAddr Try.underlying25 rfl Try.sizeOf23 hK rfl) fun a hK => ?_
    have hS := hS.pk1
    refine sl_store1 (c' := [v0_0, v_6]) Try.sizeOf23 hS hK rfl rfl rfl hs_7.one (Nat.le_of_ble_eq_true rfl) rfl fun a w hS hK => ?_
    refine wpList_nil ?_
    refine wp_seq ?_
    refine wp_region_lit ?_
    refine sl hK (by decide) rfl rfl (r_loadA (cs := [v0_0, v_6]) Try.isAgg25 Try.sizeOf25 rfl hK rfl (hS.cells_of (m := 2) (.head _) rfl)) fun a hK => ?_
    have hS := hS.pk1
    refine sl_storeA (vs := [v0_0, v_6]) (c' := [v0_0, v_6]) Try.sizeOf25 hS hK rfl rfl rfl rfl (all_cons h0_0.one (all_cons hs_7.one (all_nil))) (Nat.le_of_ble_eq_true rfl) rfl fun a w hS hK => ?_
    refine wpList_nil ?_
    obtain rfl := Option.some.inj H
    refine wp_ret ?_
    repeat (first | refine ret_then ?_ | refine ret_block ?_ | refine ret_scope ?_)
    exact ret_1 Try.results12 hK (rv_cell (c := [v0_0, v_6]) Try.isAgg25 Try.sizeOf25 hS (.head _) rfl hK rfl) ⟨_, rfl, _, _, _, rfl, (hS.trunc 0), hRL, h0_0, hs_7⟩
  · rw [ifb_f hb_3] at H
    refine wp_skip ?_
    refine wp_seq ?_
    refine wp_region_lit ?_
    refine sl hK (by decide) rfl rfl (r_loadA (cs := [v0_0, v0_1]) Try.isAgg25 Try.sizeOf25 rfl hK rfl (hS.cells_of (m := 2) (.tail _ (.head _)) rfl)) fun a hK => ?_
    refine sl_storeA (vs := [v0_0, v0_1]) (c' := [v0_0, v0_1]) Try.sizeOf25 hS hK rfl rfl rfl rfl (all_cons h0_0.one (all_cons h0_1.one (all_nil))) (Nat.le_of_ble_eq_true rfl) rfl fun a w hS hK => ?_
    refine wpList_nil ?_
    obtain rfl := Option.some.inj H
    refine wp_ret ?_
    repeat (first | refine ret_then ?_ | refine ret_block ?_ | refine ret_scope ?_)
    exact ret_1 Try.results12 hK (rv_cell (c := [v0_0, v0_1]) Try.isAgg25 Try.sizeOf25 hS (.head _) rfl hK rfl) ⟨_, rfl, _, _, _, rfl, (hS.trunc 0), hRL, h0_0, h0_1⟩

/-! ### catchment/catchmentref02.Name: function 16 -/
set_option maxHeartbeats 4000000 in
set_option maxRecDepth 100000 in
theorem ref02_Name.calls (a0 : ByteArray) {r : Bool} (H : ref02_Name a0 = some r) (w0 : World) : CallsV Try.prog 16 #[.string a0] w0 (.bool r) := by
  unfold ref02_Name at H
  refine enter (args := [.string a0]) Try.func16 rfl Try.ntmps16 rfl fun a hK => ?_
  have hS := St.init (R := fun _ => none) (w := w0) (fun _ _ h => by cases h)
  have hRL := RLe.refl (M := []) w0 (fun _ => none)
  refine wp_seq ?_
  refine wp_region_lit ?_
  refine sl hK (by decide) rfl rfl (r_assign hK rfl) fun a hK => ?_
  refine wpList_nil ?_
  refine wp_seq ?_
  refine wp_seq ?_
  refine wp_mid (fun a w => ∃ (x_8 : Bool), ref02_Name.j0 a0 x_8 = some r ∧ Kn 55 a [(0, .string a0), (22, .bool x_8)] ∧ St [] w0 w (fun _ => none) []) ?_ ?_
  · refine wp_region_lit ?_
    refine sl hK (by decide) rfl rfl (r_move hK rfl) fun a hK => ?_
    refine sl hK (by decide) rfl rfl (r_len_str Try.underlying9 hK rfl) fun a hK => ?_
    refine sl hK (by decide) rfl rfl (r_ibin hK rfl rfl rfl) fun a hK => ?_
    refine sl hK (by decide) rfl rfl (r_move hK rfl) fun a hK => ?_
    rcases or_b (decide ((a0.size : Int) < 1)) with hb_10 | hb_10
    · rw [ifb_t hb_10] at H
      refine sl_skip hK (by decide) (wft hb_10) rfl fun a hK => ?_
      refine sl_skip hK (by decide) (wft hb_10) rfl fun a hK => ?_
      refine sl_skip hK (by decide) (wft hb_10) rfl fun a hK => ?_
      refine sl hK (by decide) rfl rfl (r_pick_t hb_10 hK rfl rfl) fun a hK => ?_
      refine sl hK (by decide) rfl rfl (r_move hK rfl) fun a hK => ?_
      refine sl_skip hK (by decide) rfl rfl fun a hK => ?_
      refine sl_skip hK (by decide) rfl rfl fun a hK => ?_
      refine sl_skip hK (by decide) rfl rfl fun a hK => ?_
      refine sl hK (by decide) rfl rfl (r_pick hK rfl rfl rfl) fun a hK => ?_
      refine sl hK (by decide) rfl rfl (r_move hK rfl) fun a hK => ?_
      refine sl_skip hK (by decide) rfl rfl fun a hK => ?_
      refine sl_skip hK (by decide) rfl rfl fun a hK => ?_
      refine sl_skip hK (by decide) rfl rfl fun a hK => ?_
      refine sl hK (by decide) rfl rfl (r_pick hK rfl rfl rfl) fun a hK => ?_
      refine wpList_nil ?_
      exact ⟨true, H, hK.sub (all_cons rfl (all_cons rfl (all_nil))), hS⟩
    · rw [ifb_f hb_10] at H
      refine sl hK (by decide) (wff hb_10) rfl (r_move hK rfl) fun a hK => ?_
      refine sl hK (by decide) (wff hb_10) rfl (r_len_str Try.underlying9 hK rfl) fun a hK => ?_
      refine sl hK (by decide) (wff hb_10) rfl (r_ibin hK rfl rfl rfl) fun a hK => ?_
      refine sl hK (by decide) rfl rfl (r_pick_f hb_10 hK rfl rfl) fun a hK => ?_
      refine sl hK (by decide) rfl rfl (r_move hK rfl) fun a hK => ?_
      rcases or_b (decide ((a0.size : Int) > 24)) with hb_11 | hb_11
      · rw [ifb_t hb_11] at H
        refine sl_skip hK (by decide) (wft hb_11) rfl fun a hK => ?_
        refine sl_skip hK (by decide) (wft hb_11) rfl fun a hK => ?_
        refine sl_skip hK (by decide) (wft hb_11) rfl fun a hK => ?_
        refine sl hK (by decide) rfl rfl (r_pick_t hb_11 hK rfl rfl) fun a hK => ?_
        refine sl hK (by decide) rfl rfl (r_move hK rfl) fun a hK => ?_
        refine sl_skip hK (by decide) rfl rfl fun a hK => ?_
        refine sl_skip hK (by decide) rfl rfl fun a hK => ?_
        refine sl_skip hK (by decide) rfl rfl fun a hK => ?_
        refine sl hK (by decide) rfl rfl (r_pick hK rfl rfl rfl) fun a hK => ?_
        refine wpList_nil ?_
        exact ⟨true, H, hK.sub (all_cons rfl (all_cons rfl (all_nil))), hS⟩
      · rw [ifb_f hb_11] at H
        refine sl hK (by decide) (wff hb_11) rfl (r_move hK rfl) fun a hK => ?_
        obtain ⟨y_12, h_13, H⟩ := bind_some H
        refine sl hK (by decide) (wff hb_11) rfl (r_index_str' Try.underlying9 h_13 hK rfl rfl) fun a hK => ?_
        refine sl hK (by decide) (wff hb_11) rfl (r_ibin hK rfl rfl rfl) fun a hK => ?_
        refine sl hK (by decide) rfl rfl (r_pick_f hb_11 hK rfl rfl) fun a hK => ?_
        refine sl hK (by decide) rfl rfl (r_move hK rfl) fun a hK => ?_
        rcases or_b (decide (y_12 < 97)) with hb_14 | hb_14
        · rw [ifb_t hb_14] at H
          refine sl_skip hK (by decide) (wft hb_14) rfl fun a hK => ?_
          refine sl_skip hK (by decide) (wft hb_14) rfl fun a hK => ?_
          refine sl_skip hK (by decide) (wft hb_14) rfl fun a hK => ?_
          refine sl hK (by decide) rfl rfl (r_pick_t hb_14 hK rfl rfl) fun a hK => ?_
          refine wpList_nil ?_
          exact ⟨true, H, hK.sub (all_cons rfl (all_cons rfl (all_nil))), hS⟩
        · rw [ifb_f hb_14] at H
          refine sl hK (by decide) (wff hb_14) rfl (r_move hK rfl) fun a hK => ?_
          obtain ⟨y_15, h_16, H⟩ := bind_some H
          refine sl hK (by decide) (wff hb_14) rfl (r_index_str' Try.underlying9 h_16 hK rfl rfl) fun a hK => ?_
          refine sl hK (by decide) (wff hb_14) rfl (r_ibin hK rfl rfl rfl) fun a hK => ?_
          refine sl hK (by decide) rfl rfl (r_pick_f hb_14 hK rfl rfl) fun a hK => ?_
          refine wpList_nil ?_
          exact ⟨(decide (y_15 > 122)), H, hK.sub (all_cons rfl (all_cons rfl (all_nil))), hS⟩
  · rintro a w ⟨x_8, H, hK, hS⟩
    unfold ref02_Name.j0 at H
    refine wp_cond_split (hK.ev rfl) (fun (hb_17 : x_8 = true) => ?_) (fun (hb_17 : x_8 = false) => ?_)
    · rw [ifb_t hb_17] at H
      refine wp_seq ?_
      refine wp_region_lit ?_
      refine sl hK (by decide) rfl rfl (r_assign hK rfl) fun a hK => ?_
      refine wpList_nil ?_
      obtain rfl := Option.some.inj H
      refine wp_ret ?_
      repeat (first | refine ret_then ?_ | refine ret_block ?_ | refine ret_scope ?_)
      exact ret_1 Try.results16 hK (rv_tmp hK rfl) ⟨rfl, hS.bel⟩
    · rw [ifb_f hb_17] at H
      refine wp_skip ?_
      refine wp_seq ?_
      refine wp_seq ?_
      refine wp_region_lit ?_
      refine sl hK (by decide) rfl rfl (r_assign hK rfl) fun a hK => ?_
      refine wpList_nil ?_
      refine wp_block ?_
      refine wp_loop_k (fun k_l1 a w => ∃ (x_45 : Int), ref02_Name.l1 a0 k_l1 x_45 = some r ∧ Kn 55 a [(0, .string a0), (3, .int .i64 x_45)] ∧ St [] w0 w (fun _ => none) []) (((a0.size : Int) - 0).toNat + 1) ?_ ?_
      · exact ⟨0, H, hK.sub (all_cons rfl (all_cons rfl (all_nil))), hS⟩
      · rintro k_l1 a w ⟨x_45, H, hK, hS⟩
        cases k_l1 with
        | zero => cases H
        | succ k_l1 =>
        rw [ref02_Name.l1.eq_2] at H
        refine wp_seq ?_
        refine wp_seq ?_
        refine wp_region_lit ?_
        refine sl hK (by decide) rfl rfl (r_move hK rfl) fun a hK => ?_
        refine sl hK (by decide) rfl rfl (r_move hK rfl) fun a hK => ?_
        refine sl hK (by decide) rfl rfl (r_len_str Try.underlying9 hK rfl) fun a hK => ?_
        refine sl hK (by decide) rfl rfl (r_ibin hK rfl rfl rfl) fun a hK => ?_
        refine wpList_nil ?_
        refine wp_cond_split (hK.ev rfl) (fun (hb_73 : (decide (x_45 < (a0.size : Int))) = true) => ?_) (fun (hb_73 : (decide (x_45 < (a0.size : Int))) = false) => ?_)
        · rw [ifb_t hb_73] at H
          refine wp_skip ?_
          refine wp_seq ?_
          refine wp_block ?_
          refine wp_seq ?_
          refine wp_region_lit ?_
          refine sl hK (by decide) rfl rfl (r_move hK rfl) fun a hK => ?_
          refine sl hK (by decide) rfl rfl (r_move hK rfl) fun a hK => ?_
          obtain ⟨y_74, h_75, H⟩ := bind_some H
          refine sl hK (by decide) rfl rfl (r_index_str' Try.underlying9 h_75 hK rfl rfl) fun a hK => ?_
          refine sl hK (by decide) rfl rfl (r_assign hK rfl) fun a hK => ?_
          refine wpList_nil ?_
          refine wp_seq ?_
          refine wp_mid (fun a w => ∃ (x_86 : Bool), ref02_Name.j2 (ref02_Name.l1 a0 k_l1) a0 x_45 x_86 = some r ∧ Kn 55 a [(0, .string a0), (3, .int .i64 x_45), (54, .bool x_86)] ∧ St [] w0 w (fun _ => none) []) ?_ ?_
          · refine wp_region_lit ?_
            refine sl hK (by decide) rfl rfl (r_move hK rfl) fun a hK => ?_
            refine sl hK (by decide) rfl rfl (r_ibin hK rfl rfl rfl) fun a hK => ?_
            refine sl hK (by decide) rfl rfl (r_move hK rfl) fun a hK => ?_
            rcases or_b (decide (y_74 ≥ 97)) with hb_88 | hb_88
            · rw [ifb_t hb_88] at H
              refine sl hK (by decide) (wtt hb_88) rfl (r_move hK rfl) fun a hK => ?_
              refine sl hK (by decide) (wtt hb_88) rfl (r_ibin hK rfl rfl rfl) fun a hK => ?_
              refine sl hK (by decide) rfl rfl (r_pick_t hb_88 hK rfl rfl) fun a hK => ?_
              refine sl hK (by decide) rfl rfl (r_move hK rfl) fun a hK => ?_
              rcases or_b (decide (y_74 ≤ 122)) with hb_89 | hb_89
              · rw [ifb_t hb_89] at H
                refine sl_skip hK (by decide) (wft hb_89) rfl fun a hK => ?_
                refine sl_skip hK (by decide) (wft hb_89) rfl fun a hK => ?_
                refine sl_skip hK (by decide) (wft hb_89) rfl fun a hK => ?_
                refine sl_skip hK (by decide) rfl rfl fun a hK => ?_
                refine sl_skip hK (by decide) rfl rfl fun a hK => ?_
                refine sl_skip hK (by decide) (wft hb_89) rfl fun a hK => ?_
                refine sl hK (by decide) rfl rfl (r_pick_t hb_89 hK rfl rfl) fun a hK => ?_
                refine sl hK (by decide) rfl rfl (r_move hK rfl) fun a hK => ?_
                refine sl_skip hK (by decide) rfl rfl fun a hK => ?_
                refine sl_skip hK (by decide) rfl rfl fun a hK => ?_
                refine sl hK (by decide) rfl rfl (r_pick hK rfl rfl rfl) fun a hK => ?_
                refine sl hK (by decide) rfl rfl (r_move hK rfl) fun a hK => ?_
                refine sl_skip hK (by decide) rfl rfl fun a hK => ?_
                refine sl_skip hK (by decide) rfl rfl fun a hK => ?_
                refine sl hK (by decide) rfl rfl (r_pick hK rfl rfl rfl) fun a hK => ?_
                refine sl hK (by decide) rfl rfl (r_un hK rfl (u_not _)) fun a hK => ?_
                refine wpList_nil ?_
                exact ⟨false, H, hK.sub (all_cons rfl (all_cons rfl (all_cons rfl (all_nil)))), hS⟩
              · rw [ifb_f hb_89] at H
                refine sl hK (by decide) (wff hb_89) rfl (r_move hK rfl) fun a hK => ?_
                refine sl hK (by decide) (wff hb_89) rfl (r_ibin hK rfl rfl rfl) fun a hK => ?_
                refine sl hK (by decide) (wff hb_89) rfl (r_move hK rfl) fun a hK => ?_
                rcases or_b (decide (y_74 ≥ 48)) with hb_90 | hb_90
                · rw [ifb_t hb_90] at H
                  refine sl hK (by decide) (wtt hb_90) rfl (r_move hK rfl) fun a hK => ?_
                  refine sl hK (by decide) (wtt hb_90) rfl (r_ibin hK rfl rfl rfl) fun a hK => ?_
                  refine sl hK (by decide) (wff hb_89) rfl (r_pick_t hb_90 hK rfl rfl) fun a hK => ?_
                  refine sl hK (by decide) rfl rfl (r_pick_f hb_89 hK rfl rfl) fun a hK => ?_
                  refine sl hK (by decide) rfl rfl (r_move hK rfl) fun a hK => ?_
                  rcases or_b (decide (y_74 ≤ 57)) with hb_91 | hb_91
                  · rw [ifb_t hb_91] at H
                    refine sl_skip hK (by decide) (wft hb_91) rfl fun a hK => ?_
                    refine sl_skip hK (by decide) (wft hb_91) rfl fun a hK => ?_
                    refine sl hK (by decide) rfl rfl (r_pick_t hb_91 hK rfl rfl) fun a hK => ?_
                    refine sl hK (by decide) rfl rfl (r_move hK rfl) fun a hK => ?_
                    refine sl_skip hK (by decide) rfl rfl fun a hK => ?_
                    refine sl_skip hK (by decide) rfl rfl fun a hK => ?_
                    refine sl hK (by decide) rfl rfl (r_pick hK rfl rfl rfl) fun a hK => ?_
                    refine sl hK (by decide) rfl rfl (r_un hK rfl (u_not _)) fun a hK => ?_
                    refine wpList_nil ?_
                    exact ⟨false, H, hK.sub (all_cons rfl (all_cons rfl (all_cons rfl (all_nil)))), hS⟩
                  · rw [ifb_f hb_91] at H
                    refine sl hK (by decide) (wff hb_91) rfl (r_move hK rfl) fun a hK => ?_
                    refine sl hK (by decide) (wff hb_91) rfl (r_ibin hK rfl rfl rfl) fun a hK => ?_
                    refine sl hK (by decide) rfl rfl (r_pick_f hb_91 hK rfl rfl) fun a hK => ?_
                    refine sl hK (by decide) rfl rfl (r_move hK rfl) fun a hK => ?_
                    rcases or_b (y_74 == 95) with hb_92 | hb_92
                    · rw [ifb_t hb_92] at H
                      refine sl_skip hK (by decide) (wft hb_92) rfl fun a hK => ?_
                      refine sl_skip hK (by decide) (wft hb_92) rfl fun a hK => ?_
                      refine sl hK (by decide) rfl rfl (r_pick_t hb_92 hK rfl rfl) fun a hK => ?_
                      refine sl hK (by decide) rfl rfl (r_un hK rfl (u_not _)) fun a hK => ?_
                      refine wpList_nil ?_
                      exact ⟨false, H, hK.sub (all_cons rfl (all_cons rfl (all_cons rfl (all_nil)))), hS⟩
                    · rw [ifb_f hb_92] at H
                      refine sl hK (by decide) (wff hb_92) rfl (r_move hK rfl) fun a hK => ?_
                      refine sl hK (by decide) (wff hb_92) rfl (r_ibin hK rfl rfl rfl) fun a hK => ?_
                      refine sl hK (by decide) rfl rfl (r_pick_f hb_92 hK rfl rfl) fun a hK => ?_
                      refine sl hK (by decide) rfl rfl (r_un hK rfl (u_not _)) fun a hK => ?_
                      refine wpList_nil ?_
                      exact ⟨(!(y_74 == 35)), H, hK.sub (all_cons rfl (all_cons rfl (all_cons rfl (all_nil)))), hS⟩
                · rw [ifb_f hb_90] at H
                  refine sl_skip hK (by decide) (wtf hb_90) rfl fun a hK => ?_
                  refine sl_skip hK (by decide) (wtf hb_90) rfl fun a hK => ?_
                  refine sl hK (by decide) (wff hb_89) rfl (r_pick_f hb_90 hK rfl rfl) fun a hK => ?_
                  refine sl hK (by decide) rfl rfl (r_pick_f hb_89 hK rfl rfl) fun a hK => ?_
                  refine sl hK (by decide) rfl rfl (r_move hK rfl) fun a hK => ?_
                  refine sl hK (by decide) rfl rfl (r_move hK rfl) fun a hK => ?_
                  refine sl hK (by decide) rfl rfl (r_ibin hK rfl rfl rfl) fun a hK => ?_
                  refine sl hK (by decide) rfl rfl (r_pick hK rfl rfl rfl) fun a hK => ?_
                  refine sl hK (by decide) rfl rfl (r_move hK rfl) fun a hK => ?_
                  rcases or_b (y_74 == 95) with hb_93 | hb_93
                  · rw [ifb_t hb_93] at H
                    refine sl_skip hK (by decide) (wft hb_93) rfl fun a hK => ?_
                    refine sl_skip hK (by decide) (wft hb_93) rfl fun a hK => ?_
                    refine sl hK (by decide) rfl rfl (r_pick_t hb_93 hK rfl rfl) fun a hK => ?_
                    refine sl hK (by decide) rfl rfl (r_un hK rfl (u_not _)) fun a hK => ?_
                    refine wpList_nil ?_
                    exact ⟨false, H, hK.sub (all_cons rfl (all_cons rfl (all_cons rfl (all_nil)))), hS⟩
                  · rw [ifb_f hb_93] at H
                    refine sl hK (by decide) (wff hb_93) rfl (r_move hK rfl) fun a hK => ?_
                    refine sl hK (by decide) (wff hb_93) rfl (r_ibin hK rfl rfl rfl) fun a hK => ?_
                    refine sl hK (by decide) rfl rfl (r_pick_f hb_93 hK rfl rfl) fun a hK => ?_
                    refine sl hK (by decide) rfl rfl (r_un hK rfl (u_not _)) fun a hK => ?_
                    refine wpList_nil ?_
                    exact ⟨(!(y_74 == 35)), H, hK.sub (all_cons rfl (all_cons rfl (all_cons rfl (all_nil)))), hS⟩
            · rw [ifb_f hb_88] at H
              refine sl_skip hK (by decide) (wtf hb_88) rfl fun a hK => ?_
              refine sl_skip hK (by decide) (wtf hb_88) rfl fun a hK => ?_
              refine sl hK (by decide) rfl rfl (r_pick_f hb_88 hK rfl rfl) fun a hK => ?_
              refine sl hK (by decide) rfl rfl (r_move hK rfl) fun a hK => ?_
              refine sl hK (by decide) rfl rfl (r_move hK rfl) fun a hK => ?_
              refine sl hK (by decide) rfl rfl (r_ibin hK rfl rfl rfl) fun a hK => ?_
              refine sl hK (by decide) rfl rfl (r_move hK rfl) fun a hK => ?_
              rcases or_b (decide (y_74 ≥ 48)) with hb_94 | hb_94
              · rw [ifb_t hb_94] at H
                refine sl hK (by decide) (wtt hb_94) rfl (r_move hK rfl) fun a hK => ?_
                refine sl hK (by decide) (wtt hb_94) rfl (r_ibin hK rfl rfl rfl) fun a hK => ?_
                refine sl hK (by decide) rfl rfl (r_pick_t hb_94 hK rfl rfl) fun a hK => ?_
                refine sl hK (by decide) rfl rfl (r_pick hK rfl rfl rfl) fun a hK => ?_
                refine sl hK (by decide) rfl rfl (r_move hK rfl) fun a hK => ?_
                rcases or_b (decide (y_74 ≤ 57)) with hb_95 | hb_95
                · rw [ifb_t hb_95] at H
                  refine sl_skip hK (by decide) (wft hb_95) rfl fun a hK => ?_
                  refine sl_skip hK (by decide) (wft hb_95) rfl fun a hK => ?_
                  refine sl hK (by decide) rfl rfl (r_pick_t hb_95 hK rfl rfl) fun a hK => ?_
                  refine sl hK (by decide) rfl rfl (r_move hK rfl) fun a hK => ?_
                  refine sl_skip hK (by decide) rfl rfl fun a hK => ?_
                  refine sl_skip hK (by decide) rfl rfl fun a hK => ?_
                  refine sl hK (by decide) rfl rfl (r_pick hK rfl rfl rfl) fun a hK => ?_
                  refine sl hK (by decide) rfl rfl (r_un hK rfl (u_not _)) fun a hK => ?_
                  refine wpList_nil ?_
                  exact ⟨false, H, hK.sub (all_cons rfl (all_cons rfl (all_cons rfl (all_nil)))), hS⟩
                · rw [ifb_f hb_95] at H
                  refine sl hK (by decide) (wff hb_95) rfl (r_move hK rfl) fun a hK => ?_
                  refine sl hK (by decide) (wff hb_95) rfl (r_ibin hK rfl rfl rfl) fun a hK => ?_
                  refine sl hK (by decide) rfl rfl (r_pick_f hb_95 hK rfl rfl) fun a hK => ?_
                  refine sl hK (by decide) rfl rfl (r_move hK rfl) fun a hK => ?_
                  rcases or_b (y_74 == 95) with hb_96 | hb_96
                  · rw [ifb_t hb_96] at H
                    refine sl_skip hK (by decide) (wft hb_96) rfl fun a hK => ?_
                    refine sl_skip hK (by decide) (wft hb_96) rfl fun a hK => ?_
                    refine sl hK (by decide) rfl rfl (r_pick_t hb_96 hK rfl rfl) fun a hK => ?_
                    refine sl hK (by decide) rfl rfl (r_un hK rfl (u_not _)) fun a hK => ?_
                    refine wpList_nil ?_
                    exact ⟨false, H, hK.sub (all_cons rfl (all_cons rfl (all_cons rfl (all_nil)))), hS⟩
                  · rw [ifb_f hb_96] at H
                    refine sl hK (by decide) (wff hb_96) rfl (r_move hK rfl) fun a hK => ?_
                    refine sl hK (by decide) (wff hb_96) rfl (r_ibin hK rfl rfl rfl) fun a hK => ?_
                    refine sl hK (by decide) rfl rfl (r_pick_f hb_96 hK rfl rfl) fun a hK => ?_
                    refine sl hK (by decide) rfl rfl (r_un hK rfl (u_not _)) fun a hK => ?_
                    refine wpList_nil ?_
                    exact ⟨(!(y_74 == 35)), H, hK.sub (all_cons rfl (all_cons rfl (all_cons rfl (all_nil)))), hS⟩
              · rw [ifb_f hb_94] at H
                refine sl_skip hK (by decide) (wtf hb_94) rfl fun a hK => ?_
                refine sl_skip hK (by decide) (wtf hb_94) rfl fun a hK => ?_
                refine sl hK (by decide) rfl rfl (r_pick_f hb_94 hK rfl rfl) fun a hK => ?_
                refine sl hK (by decide) rfl rfl (r_pick hK rfl rfl rfl) fun a hK => ?_
                refine sl hK (by decide) rfl rfl (r_move hK rfl) fun a hK => ?_
                refine sl hK (by decide) rfl rfl (r_move hK rfl) fun a hK => ?_
                refine sl hK (by decide) rfl rfl (r_ibin hK rfl rfl rfl) fun a hK => ?_
                refine sl hK (by decide) rfl rfl (r_pick hK rfl rfl rfl) fun a hK => ?_
                refine sl hK (by decide) rfl rfl (r_move hK rfl) fun a hK => ?_
                rcases or_b (y_74 == 95) with hb_97 | hb_97
                · rw [ifb_t hb_97] at H
                  refine sl_skip hK (by decide) (wft hb_97) rfl fun a hK => ?_
                  refine sl_skip hK (by decide) (wft hb_97) rfl fun a hK => ?_
                  refine sl hK (by decide) rfl rfl (r_pick_t hb_97 hK rfl rfl) fun a hK => ?_
                  refine sl hK (by decide) rfl rfl (r_un hK rfl (u_not _)) fun a hK => ?_
                  refine wpList_nil ?_
                  exact ⟨false, H, hK.sub (all_cons rfl (all_cons rfl (all_cons rfl (all_nil)))), hS⟩
                · rw [ifb_f hb_97] at H
                  refine sl hK (by decide) (wff hb_97) rfl (r_move hK rfl) fun a hK => ?_
                  refine sl hK (by decide) (wff hb_97) rfl (r_ibin hK rfl rfl rfl) fun a hK => ?_
                  refine sl hK (by decide) rfl rfl (r_pick_f hb_97 hK rfl rfl) fun a hK => ?_
                  refine sl hK (by decide) rfl rfl (r_un hK rfl (u_not _)) fun a hK => ?_
                  refine wpList_nil ?_
                  exact ⟨(!(y_74 == 35)), H, hK.sub (all_cons rfl (all_cons rfl (all_cons rfl (all_nil)))), hS⟩
          · rintro a w ⟨x_86, H, hK, hS⟩
            unfold ref02_Name.j2 at H
            refine wp_cond_split (hK.ev rfl) (fun (hb_98 : x_86 = true) => ?_) (fun (hb_98 : x_86 = false) => ?_)
            · rw [ifb_t hb_98] at H
              refine wp_seq ?_
              refine wp_region_lit ?_
              refine sl hK (by decide) rfl rfl (r_assign hK rfl) fun a hK => ?_
              refine wpList_nil ?_
              obtain rfl := Option.some.inj H
              refine wp_ret ?_
              repeat (first | refine ret_then ?_ | refine ret_block ?_ | refine ret_scope ?_)
              exact ret_1 Try.results16 hK (rv_tmp hK rfl) ⟨rfl, hS.bel⟩
            · rw [ifb_f hb_98] at H
              refine wp_skip ?_
              refine wp_region_lit ?_
              refine sl hK (by decide) rfl rfl (r_move hK rfl) fun a hK => ?_
              refine sl hK (by decide) rfl rfl (r_ibin hK rfl rfl rfl) fun a hK => ?_
              refine sl hK (by decide) rfl rfl (r_assign hK rfl) fun a hK => ?_
              refine wpList_nil ?_
              exact ⟨_, Nat.lt_succ_self _, (IntKind.i64.wrap (x_45 + 1)), H, hK.sub (all_cons rfl (all_cons rfl (all_nil))), hS⟩
        · rw [ifb_f hb_73] at H
          refine wp_exit ?_
          refine wp_seq ?_
          refine wp_region_lit ?_
          refine sl hK (by decide) rfl rfl (r_assign hK rfl) fun a hK => ?_
          refine wpList_nil ?_
          obtain rfl := Option.some.inj H
          refine wp_ret ?_
          repeat (first | refine ret_then ?_ | refine ret_block ?_ | refine ret_scope ?_)
          exact ret_1 Try.results16 hK (rv_tmp hK rfl) ⟨rfl, hS.bel⟩

/-! ### catchment/catchmentref02.Find: function 18 -/
set_option maxHeartbeats 4000000 in
set_option maxRecDepth 100000 in
theorem ref02_Find.calls (a0 : List api_Col) (a1 : ByteArray) {w0 : World} {RA : Hp} {v0_0 : Value} (hRA : RA.sub w0) (h0_0 : SlR ty_api_Col RA v0_0 a0) {r : Int} (H : ref02_Find a0 a1 = some r) : CallsV Try.prog 18 #[v0_0, .string a1] w0 (.int .i64 r) := by
  unfold ref02_Find at H
  refine enter (args := [v0_0, .string a1]) Try.func18 rfl Try.ntmps18 rfl fun a hK => ?_
  have hS := St.init (R := fun _ => none) (w := w0) (fun _ _ h => by cases h)
  have hRL := RLe.refl (M := []) w0 (fun _ => none)
  refine wp_seq ?_
  refine wp_region_lit ?_
  refine sl hK (by decide) rfl rfl (r_assign hK rfl) fun a hK => ?_
  refine wpList_nil ?_
  refine wp_seq ?_
  refine wp_seq ?_
  refine wp_region_lit ?_
  refine sl hK (by decide) rfl rfl (r_assign hK rfl) fun a hK => ?_
  refine wpList_nil ?_
  refine wp_block ?_
  refine wp_loop_k (fun k_l0 a w => ∃ (x_13 : Int), ref02_Find.l0 a0 a1 k_l0 x_13 = some r ∧ Kn 20 a [(0, v0_0), (1, .string a1), (5, .int .i64 x_13)] ∧ St [] w0 w (fun _ => none) []) (((a0.length : Int) - 0).toNat + 1) ?_ ?_
  · exact ⟨0, H, hK.sub (all_cons rfl (all_cons rfl (all_cons rfl (all_nil)))), hS⟩
  · rintro k_l0 a w ⟨x_13, H, hK, hS⟩
    cases k_l0 with
    | zero => cases H
    | succ k_l0 =>
    rw [ref02_Find.l0.eq_2] at H
    refine wp_seq ?_
    refine wp_seq ?_
    refine wp_region_lit ?_
    refine sl hK (by decide) rfl rfl (r_move hK rfl) fun a hK => ?_
    refine sl hK (by decide) rfl rfl (r_move hK rfl) fun a hK => ?_
    refine sl hK (by decide) rfl rfl (r_len_R Try.underlying22 h0_0 hK rfl) fun a hK => ?_
    refine sl hK (by decide) rfl rfl (r_ibin hK rfl rfl rfl) fun a hK => ?_
    refine wpList_nil ?_
    refine wp_cond_split (hK.ev rfl) (fun (hb_26 : (decide (x_13 < (a0.length : Int))) = true) => ?_) (fun (hb_26 : (decide (x_13 < (a0.length : Int))) = false) => ?_)
    · rw [ifb_t hb_26] at H
      refine wp_skip ?_
      refine wp_seq ?_
      refine wp_block ?_
      refine wp_seq ?_
      refine wp_region_lit ?_
      refine sl hK (by decide) rfl rfl (r_move hK rfl) fun a hK => ?_
      refine sl hK (by decide) rfl rfl (r_move hK rfl) fun a hK => ?_
      obtain ⟨y_27, h_28, H⟩ := bind_some H
      obtain ⟨b_29, o_30, c_31, cs_32, hv_33, hr_34, hc_35, h_280, h_281⟩ := h0_0.ix h_28
      subst hr_34
      refine sl hK (by decide) rfl rfl (r_indexAddr_R Try.underlying22 Try.sizeOf43 hv_33 h_280 h_281 hK rfl rfl) fun a hK => ?_
      refine sl hK (by decide) rfl rfl (r_fieldAddr Try.underlying43 rfl Try.sizeOf9 hK rfl) fun a hK => ?_
      refine sl hK (by decide) rfl rfl (r_load Try.isAgg9 hK rfl ((hS.ra hRA nil_not).cell (hc_35 0 _ rfl))) fun a hK => ?_
      refine sl hK (by decide) rfl rfl (r_move hK rfl) fun a hK => ?_
      refine sl hK (by decide) rfl rfl (r_sbin hK rfl rfl rfl) fun a hK => ?_
      refine wpList_nil ?_
      refine wp_cond_split (hK.ev rfl) (fun (hb_36 : (y_27.Name.toList == a1.toList) = true) => ?_) (fun (hb_36 : (y_27.Name.toList == a1.toList) = false) => ?_)
      · rw [ifb_t hb_36] at H
        refine wp_seq ?_
        refine wp_region_lit ?_
        refine sl hK (by decide) rfl rfl (r_move hK rfl) fun a hK => ?_
        refine sl hK (by decide) rfl rfl (r_assign hK rfl) fun a hK => ?_
        refine wpList_nil ?_
        obtain rfl := Option.some.inj H
        refine wp_ret ?_
        repeat (first | refine ret_then ?_ | refine ret_block ?_ | refine ret_scope ?_)
        exact ret_1 Try.results18 hK (rv_tmp hK rfl) ⟨rfl, hS.bel⟩
      · rw [ifb_f hb_36] at H
        refine wp_skip ?_
        refine wp_region_lit ?_
        refine sl hK (by decide) rfl rfl (r_move hK rfl) fun a hK => ?_
        refine sl hK (by decide) rfl rfl (r_ibin hK rfl rfl rfl) fun a hK => ?_
        refine sl hK (by decide) rfl rfl (r_assign hK rfl) fun a hK => ?_
        refine wpList_nil ?_
        exact ⟨_, Nat.lt_succ_self _, (IntKind.i64.wrap (x_13 + 1)), H, hK.sub (all_cons rfl (all_cons rfl (all_cons rfl (all_nil)))), hS⟩
    · rw [ifb_f hb_26] at H
      refine wp_exit ?_
      refine wp_seq ?_
      refine wp_region_lit ?_
      refine sl hK (by decide) rfl rfl (r_assign hK rfl) fun a hK => ?_
      refine wpList_nil ?_
      obtain rfl := Option.some.inj H
      refine wp_ret ?_
      repeat (first | refine ret_then ?_ | refine ret_block ?_ | refine ret_scope ?_)
      exact ret_1 Try.results18 hK (rv_tmp hK rfl) ⟨rfl, hS.bel⟩

/-! ### catchment/catchmentref02.Cols: function 31 -/
set_option maxHeartbeats 4000000 in
set_option maxRecDepth 100000 in
theorem ref02_Cols.calls (a0 : List api_Col) {w0 : World} {RA : Hp} {v0_0 : Value} (hRA : RA.sub w0) (h0_0 : SlR ty_api_Col RA v0_0 a0) {r : Bool} (H : ref02_Cols a0 = some r) : CallsV Try.prog 31 #[v0_0] w0 (.bool r) := by
  unfold ref02_Cols at H
  refine enter (args := [v0_0]) Try.func31 rfl Try.ntmps31 rfl fun a hK => ?_
  have hS := St.init (R := fun _ => none) (w := w0) (fun _ _ h => by cases h)
  have hRL := RLe.refl (M := []) w0 (fun _ => none)
  refine wp_seq ?_
  refine wp_region_lit ?_
  refine sl hK (by decide) rfl rfl (r_assign hK rfl) fun a hK => ?_
  refine wpList_nil ?_
  refine wp_seq ?_
  refine wp_seq ?_
  refine wp_mid (fun a w => ∃ (x_2 : Bool), ref02_Cols.j0 a0 x_2 = some r ∧ Kn 52 a [(0, v0_0), (11, .bool x_2)] ∧ St [] w0 w (fun _ => none) []) ?_ ?_
  · refine wp_region_lit ?_
    refine sl hK (by decide) rfl rfl (r_move hK rfl) fun a hK => ?_
    refine sl hK (by decide) rfl rfl (r_len_R Try.underlying22 h0_0 hK rfl) fun a hK => ?_
    refine sl hK (by decide) rfl rfl (r_ibin hK rfl rfl rfl) fun a hK => ?_
    refine sl hK (by decide) rfl rfl (r_move hK rfl) fun a hK => ?_
    rcases or_b (decide ((a0.length : Int) < 1)) with hb_4 | hb_4
    · rw [ifb_t hb_4] at H
      refine sl_skip hK (by decide) (wft hb_4) rfl fun a hK => ?_
      refine sl_skip hK (by decide) (wft hb_4) rfl fun a hK => ?_
      refine sl_skip hK (by decide) (wft hb_4) rfl fun a hK => ?_
      refine sl hK (by decide) rfl rfl (r_pick_t hb_4 hK rfl rfl) fun a hK => ?_
      refine wpList_nil ?_
      exact ⟨true, H, hK.sub (all_cons rfl (all_cons rfl (all_nil))), hS⟩
    · rw [ifb_f hb_4] at H
      refine sl hK (by decide) (wff hb_4) rfl (r_move hK rfl) fun a hK => ?_
      refine sl hK (by decide) (wff hb_4) rfl (r_len_R Try.underlying22 h0_0 hK rfl) fun a hK => ?_
      refine sl hK (by decide) (wff hb_4) rfl (r_ibin hK rfl rfl rfl) fun a hK => ?_
      refine sl hK (by decide) rfl rfl (r_pick_f hb_4 hK rfl rfl) fun a hK => ?_
      refine wpList_nil ?_
      exact ⟨(decide ((a0.length : Int) > 16)), H, hK.sub (all_cons rfl (all_cons rfl (all_nil))), hS⟩
  · rintro a w ⟨x_2, H, hK, hS⟩
    unfold ref02_Cols.j0 at H
    refine wp_cond_split (hK.ev rfl) (fun (hb_5 : x_2 = true) => ?_) (fun (hb_5 : x_2 = false) => ?_)
    · rw [ifb_t hb_5] at H
      refine wp_seq ?_
      refine wp_region_lit ?_
      refine sl hK (by decide) rfl rfl (r_assign hK rfl) fun a hK => ?_
      refine wpList_nil ?_
      obtain rfl := Option.some.inj H
      refine wp_ret ?_
      repeat (first | refine ret_then ?_ | refine ret_block ?_ | refine ret_scope ?_)
      exact ret_1 Try.results31 hK (rv_tmp hK rfl) ⟨rfl, hS.bel⟩
    · rw [ifb_f hb_5] at H
      refine wp_skip ?_
      refine wp_seq ?_
      refine wp_seq ?_
      refine wp_region_lit ?_
      refine sl hK (by decide) rfl rfl (r_assign hK rfl) fun a hK => ?_
      refine wpList_nil ?_
      refine wp_block ?_
      refine wp_loop_k (fun k_l1 a w => ∃ (x_97 : Int), ref02_Cols.l1 a0 k_l1 x_97 = some r ∧ Kn 52 a [(0, v0_0), (3, .int .i64 x_97)] ∧ St [] w0 w (fun _ => none) []) (((a0.length : Int) - 0).toNat + 1) ?_ ?_
      · exact ⟨0, H, hK.sub (all_cons rfl (all_cons rfl (all_nil))), hS⟩
      · rintro k_l1 a w ⟨x_97, H, hK, hS⟩
        cases k_l1 with
        | zero => cases H
        | succ k_l1 =>
        rw [ref02_Cols.l1.eq_2] at H
        refine wp_seq ?_
        refine wp_seq ?_
        refine wp_region_lit ?_
        refine sl hK (by decide) rfl rfl (r_move hK rfl) fun a hK => ?_
        refine sl hK (by decide) rfl rfl (r_move hK rfl) fun a hK => ?_
        refine sl hK (by decide) rfl rfl (r_len_R Try.underlying22 h0_0 hK rfl) fun a hK => ?_
        refine sl hK (by decide) rfl rfl (r_ibin hK rfl rfl rfl) fun a hK => ?_
        refine wpList_nil ?_
        refine wp_cond_split (hK.ev rfl) (fun (hb_189 : (decide (x_97 < (a0.length : Int))) = true) => ?_) (fun (hb_189 : (decide (x_97 < (a0.length : Int))) = false) => ?_)
        · rw [ifb_t hb_189] at H
          refine wp_skip ?_
          refine wp_seq ?_
          refine wp_block ?_
          refine wp_seq ?_
          refine wp_mid (fun a w => ∃ (x_233 : Bool), ref02_Cols.j2 (ref02_Cols.l1 a0 k_l1) a0 x_97 x_233 = some r ∧ Kn 52 a [(0, v0_0), (3, .int .i64 x_97), (51, .bool x_233)] ∧ St [] w0 w (fun _ => none) []) ?_ ?_
          · refine wp_region_lit ?_
            refine sl hK (by decide) rfl rfl (r_move hK rfl) fun a hK => ?_
            refine sl hK (by decide) rfl rfl (r_move hK rfl) fun a hK => ?_
            obtain ⟨y_235, h_236, H⟩ := bind_some H
            obtain ⟨b_237, o_238, c_239, cs_240, hv_241, hr_242, hc_243, h_2360, h_2361⟩ := h0_0.ix h_236
            subst hr_242
            refine sl hK (by decide) rfl rfl (r_indexAddr_R Try.underlying22 Try.sizeOf43 hv_241 h_2360 h_2361 hK rfl rfl) fun a hK => ?_
            refine sl hK (by decide) rfl rfl (r_fieldAddr Try.underlying43 rfl Try.sizeOf9 hK rfl) fun a hK => ?_
            refine sl hK (by decide) rfl rfl (r_load Try.isAgg9 hK rfl ((hS.ra hRA nil_not).cell (hc_243 0 _ rfl))) fun a hK => ?_
            obtain ⟨y_244, h_245, H⟩ := bind_some H
            refine sl_callV Try.call16 hS hK (by decide) rfl rfl rfl (ref02_Name.calls y_235.Name h_245 _) fun a w hS hK => ?_
            refine sl hK (by decide) rfl rfl (r_un hK rfl (u_not _)) fun a hK => ?_
            refine sl hK (by decide) rfl rfl (r_move hK rfl) fun a hK => ?_
            rcases or_b (!y_244) with hb_246 | hb_246
            · rw [ifb_t hb_246] at H
              refine sl_skip hK (by decide) (wft hb_246) rfl fun a hK => ?_
              refine sl_skip hK (by decide) (wft hb_246) rfl fun a hK => ?_
              refine sl_skip hK (by decide) (wft hb_246) rfl fun a hK => ?_
              refine sl_skip hK (by decide) (wft hb_246) rfl fun a hK => ?_
              refine sl_skip hK (by decide) (wft hb_246) rfl fun a hK => ?_
              refine sl_skip hK (by decide) (wft hb_246) rfl fun a hK => ?_
              refine sl_skip hK (by decide) (wft hb_246) rfl fun a hK => ?_
              refine sl_skip hK (by decide) (wft hb_246) rfl fun a hK => ?_
              refine sl_skip hK (by decide) (wft hb_246) rfl fun a hK => ?_
              refine sl hK (by decide) rfl rfl (r_pick_t hb_246 hK rfl rfl) fun a hK => ?_
              refine sl hK (by decide) rfl rfl (r_move hK rfl) fun a hK => ?_
              refine sl_skip hK (by decide) rfl rfl fun a hK => ?_
              refine sl_skip hK (by decide) rfl rfl fun a hK => ?_
              refine sl_skip hK (by decide) rfl rfl fun a hK => ?_
              refine sl_skip hK (by decide) rfl rfl fun a hK => ?_
              refine sl_skip hK (by decide) rfl rfl fun a hK => ?_
              refine sl_skip hK (by decide) rfl rfl fun a hK => ?_
              refine sl hK (by decide) rfl rfl (r_pick hK rfl rfl rfl) fun a hK => ?_
              refine sl hK (by decide) rfl rfl (r_move hK rfl) fun a hK => ?_
              refine sl_skip hK (by decide) rfl rfl fun a hK => ?_
              refine sl_skip hK (by decide) rfl rfl fun a hK => ?_
              refine sl_skip hK (by decide) rfl rfl fun a hK => ?_
              refine sl_skip hK (by decide) rfl rfl fun a hK => ?_
              refine sl_skip hK (by decide) rfl rfl fun a hK => ?_
              refine sl_skip hK (by decide) rfl rfl fun a hK => ?_
              refine sl hK (by decide) rfl rfl (r_pick hK rfl rfl rfl) fun a hK => ?_
              refine wpList_nil ?_
              exact ⟨true, H, hK.sub (all_cons rfl (all_cons rfl (all_cons rfl (all_nil)))), hS⟩
            · rw [ifb_f hb_246] at H
              refine sl hK (by decide) (wff hb_246) rfl (r_move hK rfl) fun a hK => ?_
              refine sl hK (by decide) (wff hb_246) rfl (r_move hK rfl) fun a hK => ?_
              refine sl hK (by decide) (wff hb_246) rfl (r_move hK rfl) fun a hK => ?_
              obtain ⟨y_247, h_248, H⟩ := bind_some H
              obtain ⟨b_249, o_250, c_251, cs_252, hv_253, hr_254, hc_255, h_2480, h_2481⟩ := h0_0.ix h_248
              subst hr_254
              refine sl hK (by decide) (wff hb_246) rfl (r_indexAddr_R Try.underlying22 Try.sizeOf43 hv_253 h_2480 h_2481 hK rfl rfl) fun a hK => ?_
              refine sl hK (by decide) (wff hb_246) rfl (r_fieldAddr Try.underlying43 rfl Try.sizeOf9 hK rfl) fun a hK => ?_
              refine sl hK (by decide) (wff hb_246) rfl (r_load Try.isAgg9 hK rfl ((hS.ra hRA nil_not).cell (hc_255 0 _ rfl))) fun a hK => ?_
              obtain ⟨y_256, h_257, H⟩ := bind_some H
              refine sl_callV Try.call18 hS hK (by decide) (wff hb_246) rfl rfl (ref02_Find.calls a0 y_247.Name (lentOf_sub [] _) (h0_0.mono (hS.raLe0 hRA nil_not)) h_257) fun a w hS hK => ?_
              refine sl hK (by decide) (wff hb_246) rfl (r_move hK rfl) fun a hK => ?_
              refine sl hK (by decide) (wff hb_246) rfl (r_ibin hK rfl rfl rfl) fun a hK => ?_
              refine sl hK (by decide) rfl rfl (r_pick_f hb_246 hK rfl rfl) fun a hK => ?_
              refine sl hK (by decide) rfl rfl (r_move hK rfl) fun a hK => ?_
              rcases or_b (y_256 != x_97) with hb_258 | hb_258
              · rw [ifb_t hb_258] at H
                refine sl_skip hK (by decide) (wft hb_258) rfl fun a hK => ?_
                refine sl_skip hK (by decide) (wft hb_258) rfl fun a hK => ?_
                refine sl_skip hK (by decide) (wft hb_258) rfl fun a hK => ?_
                refine sl_skip hK (by decide) (wft hb_258) rfl fun a hK => ?_
                refine sl_skip hK (by decide) (wft hb_258) rfl fun a hK => ?_
                refine sl_skip hK (by decide) (wft hb_258) rfl fun a hK => ?_
                refine sl hK (by decide) rfl rfl (r_pick_t hb_258 hK rfl rfl) fun a hK => ?_
                refine sl hK (by decide) rfl rfl (r_move hK rfl) fun a hK => ?_
                refine sl_skip hK (by decide) rfl rfl fun a hK => ?_
                refine sl_skip hK (by decide) rfl rfl fun a hK => ?_
                refine sl_skip hK (by decide) rfl rfl fun a hK => ?_
                refine sl_skip hK (by decide) rfl rfl fun a hK => ?_
                refine sl_skip hK (by decide) rfl rfl fun a hK => ?_
                refine sl_skip hK (by decide) rfl rfl fun a hK => ?_
                refine sl hK (by decide) rfl rfl (r_pick hK rfl rfl rfl) fun a hK => ?_
                refine wpList_nil ?_
                exact ⟨true, H, hK.sub (all_cons rfl (all_cons rfl (all_cons rfl (all_nil)))), hS⟩
              · rw [ifb_f hb_258] at H
                refine sl hK (by decide) (wff hb_258) rfl (r_move hK rfl) fun a hK => ?_
                refine sl hK (by decide) (wff hb_258) rfl (r_move hK rfl) fun a hK => ?_
                obtain ⟨y_259, h_260, H⟩ := bind_some H
                obtain ⟨b_261, o_262, c_263, cs_264, hv_265, hr_266, hc_267, h_2600, h_2601⟩ := h0_0.ix h_260
                subst hr_266
                refine sl hK (by decide) (wff hb_258) rfl (r_indexAddr_R Try.underlying22 Try.sizeOf43 hv_265 h_2600 h_2601 hK rfl rfl) fun a hK => ?_
                refine sl hK (by decide) (wff hb_258) rfl (r_fieldAddr Try.underlying43 rfl Try.sizeOf3 hK rfl) fun a hK => ?_
                refine sl hK (by decide) (wff hb_258) rfl (r_load Try.isAgg3 hK rfl ((hS.ra hRA nil_not).cell (hc_267 1 _ rfl))) fun a hK => ?_
                refine sl hK (by decide) (wff hb_258) rfl (r_ibin hK rfl rfl rfl) fun a hK => ?_
                refine sl hK (by decide) rfl rfl (r_pick_f hb_258 hK rfl rfl) fun a hK => ?_
                refine sl hK (by decide) rfl rfl (r_move hK rfl) fun a hK => ?_
                rcases or_b (decide (y_259.Kind < 1)) with hb_268 | hb_268
                · rw [ifb_t hb_268] at H
                  refine sl_skip hK (by decide) (wft hb_268) rfl fun a hK => ?_
                  refine sl_skip hK (by decide) (wft hb_268) rfl fun a hK => ?_
                  refine sl_skip hK (by decide) (wft hb_268) rfl fun a hK => ?_
                  refine sl_skip hK (by decide) (wft hb_268) rfl fun a hK => ?_
                  refine sl_skip hK (by decide) (wft hb_268) rfl fun a hK => ?_
                  refine sl_skip hK (by decide) (wft hb_268) rfl fun a hK => ?_
                  refine sl hK (by decide) rfl rfl (r_pick_t hb_268 hK rfl rfl) fun a hK => ?_
                  refine wpList_nil ?_
                  exact ⟨true, H, hK.sub (all_cons rfl (all_cons rfl (all_cons rfl (all_nil)))), hS⟩
                · rw [ifb_f hb_268] at H
                  refine sl hK (by decide) (wff hb_268) rfl (r_move hK rfl) fun a hK => ?_
                  refine sl hK (by decide) (wff hb_268) rfl (r_move hK rfl) fun a hK => ?_
                  obtain ⟨y_269, h_270, H⟩ := bind_some H
                  obtain ⟨b_271, o_272, c_273, cs_274, hv_275, hr_276, hc_277, h_2700, h_2701⟩ := h0_0.ix h_270
                  subst hr_276
                  refine sl hK (by decide) (wff hb_268) rfl (r_indexAddr_R Try.underlying22 Try.sizeOf43 hv_275 h_2700 h_2701 hK rfl rfl) fun a hK => ?_
                  refine sl hK (by decide) (wff hb_268) rfl (r_fieldAddr Try.underlying43 rfl Try.sizeOf3 hK rfl) fun a hK => ?_
                  refine sl hK (by decide) (wff hb_268) rfl (r_load Try.isAgg3 hK rfl ((hS.ra hRA nil_not).cell (hc_277 1 _ rfl))) fun a hK => ?_
                  refine sl hK (by decide) (wff hb_268) rfl (r_ibin hK rfl rfl rfl) fun a hK => ?_
                  refine sl hK (by decide) rfl rfl (r_pick_f hb_268 hK rfl rfl) fun a hK => ?_
                  refine wpList_nil ?_
                  exact ⟨(decide (y_269.Kind > 4)), H, hK.sub (all_cons rfl (all_cons rfl (all_cons rfl (all_nil)))), hS⟩
          · rintro a w ⟨x_233, H, hK, hS⟩
            unfold ref02_Cols.j2 at H
            refine wp_cond_split (hK.ev rfl) (fun (hb_278 : x_233 = true) => ?_) (fun (hb_278 : x_233 = false) => ?_)
            · rw [ifb_t hb_278] at H
              refine wp_seq ?_
              refine wp_region_lit ?_
              refine sl hK (by decide) rfl rfl (r_assign hK rfl) fun a hK => ?_
              refine wpList_nil ?_
              obtain rfl := Option.some.inj H
              refine wp_ret ?_
              repeat (first | refine ret_then ?_ | refine ret_block ?_ | refine ret_scope ?_)
              exact ret_1 Try.results31 hK (rv_tmp hK rfl) ⟨rfl, hS.bel⟩
            · rw [ifb_f hb_278] at H
              refine wp_skip ?_
              refine wp_region_lit ?_
              refine sl hK (by decide) rfl rfl (r_move hK rfl) fun a hK => ?_
              refine sl hK (by decide) rfl rfl (r_ibin hK rfl rfl rfl) fun a hK => ?_
              refine sl hK (by decide) rfl rfl (r_assign hK rfl) fun a hK => ?_
              refine wpList_nil ?_
              exact ⟨_, Nat.lt_succ_self _, (IntKind.i64.wrap (x_97 + 1)), H, hK.sub (all_cons rfl (all_cons rfl (all_nil))), hS⟩
        · rw [ifb_f hb_189] at H
          refine wp_exit ?_
          refine wp_seq ?_
          refine wp_region_lit ?_
          refine sl hK (by decide) rfl rfl (r_assign hK rfl) fun a hK => ?_
          refine wpList_nil ?_
          obtain rfl := Option.some.inj H
          refine wp_ret ?_
          repeat (first | refine ret_then ?_ | refine ret_block ?_ | refine ret_scope ?_)
          exact ret_1 Try.results31 hK (rv_tmp hK rfl) ⟨rfl, hS.bel⟩

/-! ### catchment/catchmentref01.Valid: function 32 -/
set_option maxHeartbeats 4000000 in
set_option maxRecDepth 100000 in
theorem ref01_Valid.calls (a0 : api_Value) {r : Bool} (H : ref01_Valid a0 = some r) (w0 : World) : CallsV Try.prog 32 #[.agg #[.int .i64 a0.Kind, .int .i64 a0.N, .string a0.S, .int .i64 a0.H.a0, .int .i64 a0.H.a1, .int .i64 a0.H.a2, .int .i64 a0.H.a3, .int .i64 a0.H.a4, .int .i64 a0.H.a5, .int .i64 a0.H.a6, .int .i64 a0.H.a7]] w0 (.bool r) := by
  unfold ref01_Valid at H
  refine enter (args := [.agg #[.int .i64 a0.Kind, .int .i64 a0.N, .string a0.S, .int .i64 a0.H.a0, .int .i64 a0.H.a1, .int .i64 a0.H.a2, .int .i64 a0.H.a3, .int .i64 a0.H.a4, .int .i64 a0.H.a5, .int .i64 a0.H.a6, .int .i64 a0.H.a7]]) Try.func32 rfl Try.ntmps32 rfl fun a hK => ?_
  have hS := St.init (R := fun _ => none) (w := w0) (fun _ _ h => by cases h)
  have hRL := RLe.refl (M := []) w0 (fun _ => none)
  refine wp_seq ?_
  refine wp_region_lit ?_
  refine sl_box hS hK (by decide) rfl rfl (c := [.int .i64 a0.Kind, .int .i64 a0.N, .string a0.S, .int .i64 a0.H.a0, .int .i64 a0.H.a1, .int .i64 a0.H.a2, .int .i64 a0.H.a3, .int .i64 a0.H.a4, .int .i64 a0.H.a5, .int .i64 a0.H.a6, .int .i64 a0.H.a7]) rfl fun a w b_1 hS hK => ?_
  refine sl hK (by decide) rfl rfl (r_assign hK rfl) fun a hK => ?_
  refine wpList_nil ?_
  refine wp_seq ?_
  refine wp_region_lit ?_
  refine sl hK (by decide) rfl rfl (r_fieldAddr Try.underlying50 rfl Try.sizeOf48 hK rfl) fun a hK => ?_
  refine sl hK (by decide) rfl rfl (r_loadA (cs := [.int .i64 a0.H.a0, .int .i64 a0.H.a1, .int .i64 a0.H.a2, .int .i64 a0.H.a3, .int .i64 a0.H.a4, .int .i64 a0.H.a5, .int .i64 a0.H.a6, .int .i64 a0.H.a7]) Try.isAgg48 Try.sizeOf48 rfl hK rfl (hS.cells_of (m := 8) (.head _) rfl)) fun a hK => ?_
  refine sl hK (by decide) rfl rfl (r_buildAC (ps := []) (c := [.int .i64 0, .int .i64 0, .int .i64 0, .int .i64 0, .int .i64 0, .int .i64 0, .int .i64 0, .int .i64 0]) Try.underlying48 Try.zeroValue48 Try.sizeOf3 hK rfl pc_nil rfl rfl) fun a hK => ?_
  refine sl hK (by decide) rfl rfl (r_seq (by kernel_rfl) (eqs48 a0.H (⟨0, 0, 0, 0, 0, 0, 0, 0⟩ : Arr8)) hK rfl rfl) fun a hK => ?_
  refine sl hK (by decide) rfl rfl (r_assign hK rfl) fun a hK => ?_
  refine wpList_nil ?_
  refine wp_seq ?_
  refine wp_seq ?_
  refine wp_region_lit ?_
  refine sl hK (by decide) rfl rfl (r_fieldAddr Try.underlying50 rfl Try.sizeOf3 hK rfl) fun a hK => ?_
  refine sl hK (by decide) rfl rfl (r_load Try.isAgg3 hK rfl (hS.cell (.head _) rfl)) fun a hK => ?_
  refine wpList_nil ?_
  refine wp_block ?_
  refine wp_seq ?_
  refine wp_region_lit ?_
  refine sl hK (by decide) rfl rfl (r_ibin hK rfl rfl rfl) fun a hK => ?_
  refine sl hK (by decide) rfl rfl (r_assign hK rfl) fun a hK => ?_
  refine wpList_nil ?_
  refine wp_cond_split (hK.ev rfl) (fun (hb_2 : (a0.Kind == 1) = true) => ?_) (fun (hb_2 : (a0.Kind == 1) = false) => ?_)
  · rw [ifb_t hb_2] at H
    refine wp_seq ?_
    refine wp_region_lit ?_
    refine sl hK (by decide) rfl rfl (r_fieldAddr Try.underlying50 rfl Try.sizeOf9 hK rfl) fun a hK => ?_
    refine sl hK (by decide) rfl rfl (r_load Try.isAgg9 hK rfl (hS.cell (.head _) rfl)) fun a hK => ?_
    refine sl hK (by decide) rfl rfl (r_sbin hK rfl rfl rfl) fun a hK => ?_
    refine sl hK (by decide) rfl rfl (r_move hK rfl) fun a hK => ?_
    rcases or_b (a0.S.toList == (⟨#[]⟩ : ByteArray).toList) with hb_3 | hb_3
    · rw [ifb_t hb_3] at H
      refine sl hK (by decide) (wtt hb_3) rfl (r_move hK rfl) fun a hK => ?_
      refine sl hK (by decide) rfl rfl (r_pick_t hb_3 hK rfl rfl) fun a hK => ?_
      refine sl hK (by decide) rfl rfl (r_assign hK rfl) fun a hK => ?_
      refine wpList_nil ?_
      obtain rfl := Option.some.inj H
      refine wp_ret ?_
      repeat (first | refine ret_then ?_ | refine ret_block ?_ | refine ret_scope ?_)
      exact ret_1 Try.results32 hK (rv_tmp hK rfl) ⟨rfl, hS.bel⟩
    · rw [ifb_f hb_3] at H
      refine sl_skip hK (by decide) (wtf hb_3) rfl fun a hK => ?_
      refine sl hK (by decide) rfl rfl (r_pick_f hb_3 hK rfl rfl) fun a hK => ?_
      refine sl hK (by decide) rfl rfl (r_assign hK rfl) fun a hK => ?_
      refine wpList_nil ?_
      obtain rfl := Option.some.inj H
      refine wp_ret ?_
      repeat (first | refine ret_then ?_ | refine ret_block ?_ | refine ret_scope ?_)
      exact ret_1 Try.results32 hK (rv_tmp hK rfl) ⟨rfl, hS.bel⟩
  · rw [ifb_f hb_2] at H
    refine wp_seq ?_
    refine wp_region_lit ?_
    refine sl hK (by decide) rfl rfl (r_ibin hK rfl rfl rfl) fun a hK => ?_
    refine sl hK (by decide) rfl rfl (r_assign hK rfl) fun a hK => ?_
    refine wpList_nil ?_
    refine wp_cond_split (hK.ev rfl) (fun (hb_4 : (a0.Kind == 2) = true) => ?_) (fun (hb_4 : (a0.Kind == 2) = false) => ?_)
    · rw [ifb_t hb_4] at H
      refine wp_seq ?_
      refine wp_region_lit ?_
      refine sl hK (by decide) rfl rfl (r_fieldAddr Try.underlying50 rfl Try.sizeOf3 hK rfl) fun a hK => ?_
      refine sl hK (by decide) rfl rfl (r_load Try.isAgg3 hK rfl (hS.cell (.head _) rfl)) fun a hK => ?_
      refine sl hK (by decide) rfl rfl (r_ibin hK rfl rfl rfl) fun a hK => ?_
      refine sl hK (by decide) rfl rfl (r_move hK rfl) fun a hK => ?_
      rcases or_b (a0.N == 0) with hb_5 | hb_5
      · rw [ifb_t hb_5] at H
        refine sl hK (by decide) (wtt hb_5) rfl (r_move hK rfl) fun a hK => ?_
        refine sl hK (by decide) rfl rfl (r_pick_t hb_5 hK rfl rfl) fun a hK => ?_
        refine sl hK (by decide) rfl rfl (r_move hK rfl) fun a hK => ?_
        rcases or_b (decide (a0.H = (⟨0, 0, 0, 0, 0, 0, 0, 0⟩ : Arr8))) with hb_6 | hb_6
        · rw [ifb_t hb_6] at H
          refine sl hK (by decide) (wtt hb_6) rfl (r_fieldAddr Try.underlying50 rfl Try.sizeOf9 hK rfl) fun a hK => ?_
          refine sl hK (by decide) (wtt hb_6) rfl (r_load Try.isAgg9 hK rfl (hS.cell (.head _) rfl)) fun a hK => ?_
          refine sl hK (by decide) (wtt hb_6) rfl (r_len_str Try.underlying9 hK rfl) fun a hK => ?_
          refine sl hK (by decide) (wtt hb_6) rfl (r_ibin hK rfl rfl rfl) fun a hK => ?_
          refine sl hK (by decide) rfl rfl (r_pick_t hb_6 hK rfl rfl) fun a hK => ?_
          refine sl hK (by decide) rfl rfl (r_assign hK rfl) fun a hK => ?_
          refine wpList_nil ?_
          obtain rfl := Option.some.inj H
          refine wp_ret ?_
          repeat (first | refine ret_then ?_ | refine ret_block ?_ | refine ret_scope ?_)
          exact ret_1 Try.results32 hK (rv_tmp hK rfl) ⟨rfl, hS.bel⟩
        · rw [ifb_f hb_6] at H
          refine sl_skip hK (by decide) (wtf hb_6) rfl fun a hK => ?_
          refine sl_skip hK (by decide) (wtf hb_6) rfl fun a hK => ?_
          refine sl_skip hK (by decide) (wtf hb_6) rfl fun a hK => ?_
          refine sl_skip hK (by decide) (wtf hb_6) rfl fun a hK => ?_
          refine sl hK (by decide) rfl rfl (r_pick_f hb_6 hK rfl rfl) fun a hK => ?_
          refine sl hK (by decide) rfl rfl (r_assign hK rfl) fun a hK => ?_
          refine wpList_nil ?_
          obtain rfl := Option.some.inj H
          refine wp_ret ?_
          repeat (first | refine ret_then ?_ | refine ret_block ?_ | refine ret_scope ?_)
          exact ret_1 Try.results32 hK (rv_tmp hK rfl) ⟨rfl, hS.bel⟩
      · rw [ifb_f hb_5] at H
        refine sl_skip hK (by decide) (wtf hb_5) rfl fun a hK => ?_
        refine sl hK (by decide) rfl rfl (r_pick_f hb_5 hK rfl rfl) fun a hK => ?_
        refine sl hK (by decide) rfl rfl (r_move hK rfl) fun a hK => ?_
        refine sl_skip hK (by decide) rfl rfl fun a hK => ?_
        refine sl_skip hK (by decide) rfl rfl fun a hK => ?_
        refine sl_skip hK (by decide) rfl rfl fun a hK => ?_
        refine sl_skip hK (by decide) rfl rfl fun a hK => ?_
        refine sl hK (by decide) rfl rfl (r_pick hK rfl rfl rfl) fun a hK => ?_
        refine sl hK (by decide) rfl rfl (r_assign hK rfl) fun a hK => ?_
        refine wpList_nil ?_
        obtain rfl := Option.some.inj H
        refine wp_ret ?_
        repeat (first | refine ret_then ?_ | refine ret_block ?_ | refine ret_scope ?_)
        exact ret_1 Try.results32 hK (rv_tmp hK rfl) ⟨rfl, hS.bel⟩
    · rw [ifb_f hb_4] at H
      refine wp_seq ?_
      refine wp_region_lit ?_
      refine sl hK (by decide) rfl rfl (r_ibin hK rfl rfl rfl) fun a hK => ?_
      refine sl hK (by decide) rfl rfl (r_assign hK rfl) fun a hK => ?_
      refine wpList_nil ?_
      refine wp_cond_split (hK.ev rfl) (fun (hb_7 : (a0.Kind == 3) = true) => ?_) (fun (hb_7 : (a0.Kind == 3) = false) => ?_)
      · rw [ifb_t hb_7] at H
        refine wp_seq ?_
        refine wp_region_lit ?_
        refine sl hK (by decide) rfl rfl (r_fieldAddr Try.underlying50 rfl Try.sizeOf3 hK rfl) fun a hK => ?_
        refine sl hK (by decide) rfl rfl (r_load Try.isAgg3 hK rfl (hS.cell (.head _) rfl)) fun a hK => ?_
        refine sl hK (by decide) rfl rfl (r_ibin hK rfl rfl rfl) fun a hK => ?_
        refine sl hK (by decide) rfl rfl (r_move hK rfl) fun a hK => ?_
        rcases or_b (a0.N == 0) with hb_8 | hb_8
        · rw [ifb_t hb_8] at H
          refine sl_skip hK (by decide) (wft hb_8) rfl fun a hK => ?_
          refine sl_skip hK (by decide) (wft hb_8) rfl fun a hK => ?_
          refine sl_skip hK (by decide) (wft hb_8) rfl fun a hK => ?_
          refine sl hK (by decide) rfl rfl (r_pick_t hb_8 hK rfl rfl) fun a hK => ?_
          refine sl hK (by decide) rfl rfl (r_move hK rfl) fun a hK => ?_
          refine sl hK (by decide) rfl rfl (r_fieldAddr Try.underlying50 rfl Try.sizeOf9 hK rfl) fun a hK => ?_
          refine sl hK (by decide) rfl rfl (r_load Try.isAgg9 hK rfl (hS.cell (.head _) rfl)) fun a hK => ?_
          refine sl hK (by decide) rfl rfl (r_sbin hK rfl rfl rfl) fun a hK => ?_
          refine sl hK (by decide) rfl rfl (r_pick hK rfl rfl rfl) fun a hK => ?_
          refine sl hK (by decide) rfl rfl (r_move hK rfl) fun a hK => ?_
          rcases or_b (a0.S.toList == (⟨#[]⟩ : ByteArray).toList) with hb_9 | hb_9
          · rw [ifb_t hb_9] at H
            refine sl hK (by decide) (wtt hb_9) rfl (r_move hK rfl) fun a hK => ?_
            refine sl hK (by decide) rfl rfl (r_pick_t hb_9 hK rfl rfl) fun a hK => ?_
            refine sl hK (by decide) rfl rfl (r_assign hK rfl) fun a hK => ?_
            refine wpList_nil ?_
            obtain rfl := Option.some.inj H
            refine wp_ret ?_
            repeat (first | refine ret_then ?_ | refine ret_block ?_ | refine ret_scope ?_)
            exact ret_1 Try.results32 hK (rv_tmp hK rfl) ⟨rfl, hS.bel⟩
          · rw [ifb_f hb_9] at H
            refine sl_skip hK (by decide) (wtf hb_9) rfl fun a hK => ?_
            refine sl hK (by decide) rfl rfl (r_pick_f hb_9 hK rfl rfl) fun a hK => ?_
            refine sl hK (by decide) rfl rfl (r_assign hK rfl) fun a hK => ?_
            refine wpList_nil ?_
            obtain rfl := Option.some.inj H
            refine wp_ret ?_
            repeat (first | refine ret_then ?_ | refine ret_block ?_ | refine ret_scope ?_)
            exact ret_1 Try.results32 hK (rv_tmp hK rfl) ⟨rfl, hS.bel⟩
        · rw [ifb_f hb_8] at H
          refine sl hK (by decide) (wff hb_8) rfl (r_fieldAddr Try.underlying50 rfl Try.sizeOf3 hK rfl) fun a hK => ?_
          refine sl hK (by decide) (wff hb_8) rfl (r_load Try.isAgg3 hK rfl (hS.cell (.head _) rfl)) fun a hK => ?_
          refine sl hK (by decide) (wff hb_8) rfl (r_ibin hK rfl rfl rfl) fun a hK => ?_
          refine sl hK (by decide) rfl rfl (r_pick_f hb_8 hK rfl rfl) fun a hK => ?_
          refine sl hK (by decide) rfl rfl (r_move hK rfl) fun a hK => ?_
          rcases or_b (a0.N == 1) with hb_10 | hb_10
          · rw [ifb_t hb_10] at H
            refine sl hK (by decide) (wtt hb_10) rfl (r_fieldAddr Try.underlying50 rfl Try.sizeOf9 hK rfl) fun a hK => ?_
            refine sl hK (by decide) (wtt hb_10) rfl (r_load Try.isAgg9 hK rfl (hS.cell (.head _) rfl)) fun a hK => ?_
            refine sl hK (by decide) (wtt hb_10) rfl (r_sbin hK rfl rfl rfl) fun a hK => ?_
            refine sl hK (by decide) rfl rfl (r_pick_t hb_10 hK rfl rfl) fun a hK => ?_
            refine sl hK (by decide) rfl rfl (r_move hK rfl) fun a hK => ?_
            rcases or_b (a0.S.toList == (⟨#[]⟩ : ByteArray).toList) with hb_11 | hb_11
            · rw [ifb_t hb_11] at H
              refine sl hK (by decide) (wtt hb_11) rfl (r_move hK rfl) fun a hK => ?_
              refine sl hK (by decide) rfl rfl (r_pick_t hb_11 hK rfl rfl) fun a hK => ?_
              refine sl hK (by decide) rfl rfl (r_assign hK rfl) fun a hK => ?_
              refine wpList_nil ?_
              obtain rfl := Option.some.inj H
              refine wp_ret ?_
              repeat (first | refine ret_then ?_ | refine ret_block ?_ | refine ret_scope ?_)
              exact ret_1 Try.results32 hK (rv_tmp hK rfl) ⟨rfl, hS.bel⟩
            · rw [ifb_f hb_11] at H
              refine sl_skip hK (by decide) (wtf hb_11) rfl fun a hK => ?_
              refine sl hK (by decide) rfl rfl (r_pick_f hb_11 hK rfl rfl) fun a hK => ?_
              refine sl hK (by decide) rfl rfl (r_assign hK rfl) fun a hK => ?_
              refine wpList_nil ?_
              obtain rfl := Option.some.inj H
              refine wp_ret ?_
              repeat (first | refine ret_then ?_ | refine ret_block ?_ | refine ret_scope ?_)
              exact ret_1 Try.results32 hK (rv_tmp hK rfl) ⟨rfl, hS.bel⟩
          · rw [ifb_f hb_10] at H
            refine sl_skip hK (by decide) (wtf hb_10) rfl fun a hK => ?_
            refine sl_skip hK (by decide) (wtf hb_10) rfl fun a hK => ?_
            refine sl_skip hK (by decide) (wtf hb_10) rfl fun a hK => ?_
            refine sl hK (by decide) rfl rfl (r_pick_f hb_10 hK rfl rfl) fun a hK => ?_
            refine sl hK (by decide) rfl rfl (r_move hK rfl) fun a hK => ?_
            refine sl_skip hK (by decide) rfl rfl fun a hK => ?_
            refine sl hK (by decide) rfl rfl (r_pick hK rfl rfl rfl) fun a hK => ?_
            refine sl hK (by decide) rfl rfl (r_assign hK rfl) fun a hK => ?_
            refine wpList_nil ?_
            obtain rfl := Option.some.inj H
            refine wp_ret ?_
            repeat (first | refine ret_then ?_ | refine ret_block ?_ | refine ret_scope ?_)
            exact ret_1 Try.results32 hK (rv_tmp hK rfl) ⟨rfl, hS.bel⟩
      · rw [ifb_f hb_7] at H
        refine wp_seq ?_
        refine wp_region_lit ?_
        refine sl hK (by decide) rfl rfl (r_ibin hK rfl rfl rfl) fun a hK => ?_
        refine sl hK (by decide) rfl rfl (r_assign hK rfl) fun a hK => ?_
        refine wpList_nil ?_
        refine wp_cond_split (hK.ev rfl) (fun (hb_12 : (a0.Kind == 4) = true) => ?_) (fun (hb_12 : (a0.Kind == 4) = false) => ?_)
        · rw [ifb_t hb_12] at H
          refine wp_seq ?_
          refine wp_region_lit ?_
          refine sl hK (by decide) rfl rfl (r_fieldAddr Try.underlying50 rfl Try.sizeOf3 hK rfl) fun a hK => ?_
          refine sl hK (by decide) rfl rfl (r_load Try.isAgg3 hK rfl (hS.cell (.head _) rfl)) fun a hK => ?_
          refine sl hK (by decide) rfl rfl (r_ibin hK rfl rfl rfl) fun a hK => ?_
          refine sl hK (by decide) rfl rfl (r_move hK rfl) fun a hK => ?_
          rcases or_b (a0.N == 0) with hb_13 | hb_13
          · rw [ifb_t hb_13] at H
            refine sl hK (by decide) (wtt hb_13) rfl (r_fieldAddr Try.underlying50 rfl Try.sizeOf9 hK rfl) fun a hK => ?_
            refine sl hK (by decide) (wtt hb_13) rfl (r_load Try.isAgg9 hK rfl (hS.cell (.head _) rfl)) fun a hK => ?_
            refine sl hK (by decide) (wtt hb_13) rfl (r_sbin hK rfl rfl rfl) fun a hK => ?_
            refine sl hK (by decide) rfl rfl (r_pick_t hb_13 hK rfl rfl) fun a hK => ?_
            refine sl hK (by decide) rfl rfl (r_assign hK rfl) fun a hK => ?_
            refine wpList_nil ?_
            obtain rfl := Option.some.inj H
            refine wp_ret ?_
            repeat (first | refine ret_then ?_ | refine ret_block ?_ | refine ret_scope ?_)
            exact ret_1 Try.results32 hK (rv_tmp hK rfl) ⟨rfl, hS.bel⟩
          · rw [ifb_f hb_13] at H
            refine sl_skip hK (by decide) (wtf hb_13) rfl fun a hK => ?_
            refine sl_skip hK (by decide) (wtf hb_13) rfl fun a hK => ?_
            refine sl_skip hK (by decide) (wtf hb_13) rfl fun a hK => ?_
            refine sl hK (by decide) rfl rfl (r_pick_f hb_13 hK rfl rfl) fun a hK => ?_
            refine sl hK (by decide) rfl rfl (r_assign hK rfl) fun a hK => ?_
            refine wpList_nil ?_
            obtain rfl := Option.some.inj H
            refine wp_ret ?_
            repeat (first | refine ret_then ?_ | refine ret_block ?_ | refine ret_scope ?_)
            exact ret_1 Try.results32 hK (rv_tmp hK rfl) ⟨rfl, hS.bel⟩
        · rw [ifb_f hb_12] at H
          refine wp_skip ?_
          refine wp_seq ?_
          refine wp_region_lit ?_
          refine sl hK (by decide) rfl rfl (r_assign hK rfl) fun a hK => ?_
          refine wpList_nil ?_
          obtain rfl := Option.some.inj H
          refine wp_ret ?_
          repeat (first | refine ret_then ?_ | refine ret_block ?_ | refine ret_scope ?_)
          exact ret_1 Try.results32 hK (rv_tmp hK rfl) ⟨rfl, hS.bel⟩

/-! ### catchment/catchmentref02.Check: function 14 -/
set_option maxHeartbeats 4000000 in
set_option maxRecDepth 100000 in
theorem ref02_Check.calls (a0 : api_Table) {w0 : World} {RA : Hp} {v0_0 : Value} {v0_1 : Value} (hRA : RA.sub w0) (h0_0 : SlR ty_api_Col RA v0_0 a0.Cols) (h0_1 : SlR (tySl ty_api_Value) RA v0_1 a0.Rows) {r : Int} (H : ref02_Check a0 = some r) : CallsV Try.prog 14 #[.agg #[v0_0, v0_1]] w0 (.int .i64 r) := by
  unfold ref02_Check at H
  refine enter (args := [.agg #[v0_0, v0_1]]) Try.func14 rfl Try.ntmps14 rfl fun a hK => ?_
  have hS := St.init (R := fun _ => none) (w := w0) (fun _ _ h => by cases h)
  have hRL := RLe.refl (M := []) w0 (fun _ => none)
  refine wp_seq ?_
  refine wp_region_lit ?_
  refine sl_box hS hK (by decide) rfl rfl (c := [v0_0, v0_1]) rfl fun a w b_1 hS hK => ?_
  refine sl hK (by decide) rfl rfl (r_assign hK rfl) fun a hK => ?_
  refine wpList_nil ?_
  refine wp_seq ?_
  refine wp_seq ?_
  refine wp_region_lit ?_
  refine sl hK (by decide) rfl rfl (r_fieldAddr Try.underlying25 rfl Try.sizeOf22 hK rfl) fun a hK => ?_
  refine sl hK (by decide) rfl rfl (r_load Try.isAgg22 hK rfl (hS.cell (.head _) rfl)) fun a hK => ?_
  obtain ⟨y_2, h_3, H⟩ := bind_some H
  refine sl_callV Try.call31 hS hK (by decide) rfl rfl rfl (ref02_Cols.calls a0.Cols (lentOf_sub [] _) (h0_0.mono (hS.raLe0 hRA nil_not)) h_3) fun a w hS hK => ?_
  refine sl hK (by decide) rfl rfl (r_un hK rfl (u_not _)) fun a hK => ?_
  refine wpList_nil ?_
  refine wp_cond_split (hK.ev rfl) (fun (hb_4 : (!y_2) = true) => ?_) (fun (hb_4 : (!y_2) = false) => ?_)
  · rw [ifb_t hb_4] at H
    refine wp_seq ?_
    refine wp_region_lit ?_
    refine sl hK (by decide) rfl rfl (r_assign hK rfl) fun a hK => ?_
    refine wpList_nil ?_
    obtain rfl := Option.some.inj H
    refine wp_ret ?_
    repeat (first | refine ret_then ?_ | refine ret_block ?_ | refine ret_scope ?_)
    exact ret_1 Try.results14 hK (rv_tmp hK rfl) ⟨rfl, hS.bel⟩
  · rw [ifb_f hb_4] at H
    refine wp_skip ?_
    refine wp_seq ?_
    refine wp_seq ?_
    refine wp_region_lit ?_
    refine sl hK (by decide) rfl rfl (r_assign hK rfl) fun a hK => ?_
    refine wpList_nil ?_
    refine wp_block ?_
    refine wp_loop_k (fun k_l0 a w => ∃ (x_669 : Int), ref02_Check.l0 a0 k_l0 x_669 = some r ∧ Kn 61 a [(1, .pointer (some ⟨b_1, 0, none⟩)), (3, .int .i64 x_669)] ∧ St [] w0 w (fun _ => none) [.cells b_1 [v0_0, v0_1] 25]) (((a0.Rows.length : Int) - 0).toNat + 1) ?_ ?_
    · exact ⟨0, H, hK.sub (all_cons rfl (all_cons rfl (all_nil))), hS⟩
    · rintro k_l0 a w ⟨x_669, H, hK, hS⟩
      cases k_l0 with
      | zero => cases H
      | succ k_l0 =>
      rw [ref02_Check.l0.eq_2] at H
      refine wp_seq ?_
      refine wp_seq ?_
      refine wp_region_lit ?_
      refine sl hK (by decide) rfl rfl (r_move hK rfl) fun a hK => ?_
      refine sl hK (by decide) rfl rfl (r_fieldAddr Try.underlying25 rfl Try.sizeOf23 hK rfl) fun a hK => ?_
      refine sl hK (by decide) rfl rfl (r_load Try.isAgg23 hK rfl (hS.cell (.head _) rfl)) fun a hK => ?_
      refine sl hK (by decide) rfl rfl (r_len_R Try.underlying23 h0_1 hK rfl) fun a hK => ?_
      refine sl hK (by decide) rfl rfl (r_ibin hK rfl rfl rfl) fun a hK => ?_
      refine wpList_nil ?_
      refine wp_cond_split (hK.ev rfl) (fun (hb_1334 : (decide (x_669 < (a0.Rows.length : Int))) = true) => ?_) (fun (hb_1334 : (decide (x_669 < (a0.Rows.length : Int))) = false) => ?_)
      · rw [ifb_t hb_1334] at H
        refine wp_skip ?_
        refine wp_seq ?_
        refine wp_block ?_
        refine wp_seq ?_
        refine wp_seq ?_
        refine par_region (C := fun w => St [] w0 w (fun _ => none) [.cells b_1 [v0_0, v0_1] 25]) [(0, true), (1, true), (2, true), (3, true), (4, true), (5, true), (6, true), (7, true), (8, true), (9, true)] mixed (by kernel_rfl) hS (fun w hS => hS) fun w hS => ?_
        refine sp (k := 0) rfl hK (by decide) rfl rfl (fun w hS => r_fieldAddr Try.underlying25 rfl Try.sizeOf23 hK rfl) fun a hK => ?_
        refine sp (k := 1) rfl hK (by decide) rfl rfl (fun w hS => r_load Try.isAgg23 hK rfl (hS.cell (.head _) rfl)) fun a hK => ?_
        refine sp (k := 2) rfl hK (by decide) rfl rfl (fun w hS => r_move hK rfl) fun a hK => ?_
        obtain ⟨y_1346, h_1347, H⟩ := bind_some H
        obtain ⟨b_1348, o_1349, c_1350, cs_1351, hv_1352, hr_1353, hc_1354, h_13470, h_13471⟩ := h0_1.ix h_1347
        obtain ⟨v_1355, rfl, hs_1356⟩ := hr_1353
        refine sp (k := 3) rfl hK (by decide) rfl rfl (fun w hS => r_indexAddr_R Try.underlying23 Try.sizeOf35 hv_1352 h_13470 h_13471 hK rfl rfl) fun a hK => ?_
        refine sp (k := 4) rfl hK (by decide) rfl rfl (fun w hS => r_load Try.isAgg35 hK rfl ((hS.ra hRA nil_not).cell (hc_1354 0 _ rfl))) fun a hK => ?_
        refine sp (k := 5) rfl hK (by decide) rfl rfl (fun w hS => r_len_R Try.underlying35 hs_1356 hK rfl) fun a hK => ?_
        refine sp (k := 6) rfl hK (by decide) rfl rfl (fun w hS => r_fieldAddr Try.underlying25 rfl Try.sizeOf22 hK rfl) fun a hK => ?_
        refine sp (k := 7) rfl hK (by decide) rfl rfl (fun w hS => r_load Try.isAgg22 hK rfl (hS.cell (.head _) rfl)) fun a hK => ?_
        refine sp (k := 8) rfl hK (by decide) rfl rfl (fun w hS => r_len_R Try.underlying22 h0_0 hK rfl) fun a hK => ?_
        refine sp (k := 9) rfl hK (by decide) rfl rfl (fun w hS => r_ibin hK rfl rfl rfl) fun a hK => ?_
        refine wpPar_nil (NoP_nil ?_)
        refine wp_cond_split (hK.ev rfl) (fun (hb_1357 : ((y_1346.length : Int) != (a0.Cols.length : Int)) = true) => ?_) (fun (hb_1357 : ((y_1346.length : Int) != (a0.Cols.length : Int)) = false) => ?_)
        · rw [ifb_t hb_1357] at H
          refine wp_seq ?_
          refine wp_region_lit ?_
          refine sl hK (by decide) rfl rfl (r_assign hK rfl) fun a hK => ?_
          refine wpList_nil ?_
          obtain rfl := Option.some.inj H
          refine wp_ret ?_
          repeat (first | refine ret_then ?_ | refine ret_block ?_ | refine ret_scope ?_)
          exact ret_1 Try.results14 hK (rv_tmp hK rfl) ⟨rfl, hS.bel⟩
        · rw [ifb_f hb_1357] at H
          refine wp_skip ?_
          refine wp_seq ?_
          refine wp_region_lit ?_
          refine sl hK (by decide) rfl rfl (r_assign hK rfl) fun a hK => ?_
          refine wpList_nil ?_
          refine wp_block ?_
          refine wp_loop_k (fun k_l1 a w => ∃ (x_1571 : Int), ref02_Check.l1 (ref02_Check.l0 a0 k_l0) a0 x_669 k_l1 x_1571 = some r ∧ Kn 61 a [(1, .pointer (some ⟨b_1, 0, none⟩)), (3, .int .i64 x_669), (4, .int .i64 x_1571)] ∧ St [] w0 w (fun _ => none) [.cells b_1 [v0_0, v0_1] 25]) (((a0.Cols.length : Int) - 0).toNat + 1) ?_ ?_
          · exact ⟨0, H, hK.sub (all_cons rfl (all_cons rfl (all_cons rfl (all_nil)))), hS⟩
          · rintro k_l1 a w ⟨x_1571, H, hK, hS⟩
            cases k_l1 with
            | zero => cases H
            | succ k_l1 =>
            rw [ref02_Check.l1.eq_2] at H
            refine wp_seq ?_
            refine wp_seq ?_
            refine wp_region_lit ?_
            refine sl hK (by decide) rfl rfl (r_move hK rfl) fun a hK => ?_
            refine sl hK (by decide) rfl rfl (r_fieldAddr Try.underlying25 rfl Try.sizeOf22 hK rfl) fun a hK => ?_
            refine sl hK (by decide) rfl rfl (r_load Try.isAgg22 hK rfl (hS.cell (.head _) rfl)) fun a hK => ?_
            refine sl hK (by decide) rfl rfl (r_len_R Try.underlying22 h0_0 hK rfl) fun a hK => ?_
            refine sl hK (by decide) rfl rfl (r_ibin hK rfl rfl rfl) fun a hK => ?_
            refine wpList_nil ?_
            refine wp_cond_split (hK.ev rfl) (fun (hb_1785 : (decide (x_1571 < (a0.Cols.length : Int))) = true) => ?_) (fun (hb_1785 : (decide (x_1571 < (a0.Cols.length : Int))) = false) => ?_)
            · rw [ifb_t hb_1785] at H
              refine wp_skip ?_
              refine wp_seq ?_
              refine wp_block ?_
              refine wp_seq ?_
              refine wp_mid (fun a w => ∃ (x_1890 : Bool), ref02_Check.j2 (ref02_Check.l1 (ref02_Check.l0 a0 k_l0) a0 x_669 k_l1) a0 x_1571 x_1890 = some r ∧ Kn 61 a [(1, .pointer (some ⟨b_1, 0, none⟩)), (3, .int .i64 x_669), (4, .int .i64 x_1571), (60, .bool x_1890)] ∧ St [] w0 w (fun _ => none) [.cells b_1 [v0_0, v0_1] 25]) ?_ ?_
              · refine parT_region (C := fun w => St [] w0 w (fun _ => none) [.cells b_1 [v0_0, v0_1] 25]) 23 [(0, true), (1, true), (2, true), (3, true), (4, true), (5, true), (6, true), (7, true), (8, true), (9, true), (10, true), (11, true), (12, true), (13, true), (14, true), (15, true), (16, true), (17, true), (18, true), (19, true), (20, true), (21, true), (22, true)] mixed (by kernel_rfl) hS (fun w hS => hS) fun w hS => ?_
                refine sp (k := 0) rfl hK (by decide) rfl rfl (fun w hS => r_fieldAddr Try.underlying25 rfl Try.sizeOf23 hK rfl) fun a hK => ?_
                refine sp (k := 1) rfl hK (by decide) rfl rfl (fun w hS => r_load Try.isAgg23 hK rfl (hS.cell (.head _) rfl)) fun a hK => ?_
                refine sp (k := 2) rfl hK (by decide) rfl rfl (fun w hS => r_move hK rfl) fun a hK => ?_
                obtain ⟨y_1944, h_1945, H⟩ := bind_some H
                obtain ⟨b_1946, o_1947, c_1948, cs_1949, hv_1950, hr_1951, hc_1952, h_19450, h_19451⟩ := h0_1.ix h_1945
                obtain ⟨v_1953, rfl, hs_1954⟩ := hr_1951
                refine sp (k := 3) rfl hK (by decide) rfl rfl (fun w hS => r_indexAddr_R Try.underlying23 Try.sizeOf35 hv_1950 h_19450 h_19451 hK rfl rfl) fun a hK => ?_
                refine sp (k := 4) rfl hK (by decide) rfl rfl (fun w hS => r_load Try.isAgg35 hK rfl ((hS.ra hRA nil_not).cell (hc_1952 0 _ rfl))) fun a hK => ?_
                refine sp (k := 5) rfl hK (by decide) rfl rfl (fun w hS => r_move hK rfl) fun a hK => ?_
                obtain ⟨y_1955, h_1956, H⟩ := bind_some H
                obtain ⟨b_1957, o_1958, c_1959, cs_1960, hv_1961, hr_1962, hc_1963, h_19560, h_19561⟩ := hs_1954.ix h_1956
                subst hr_1962
                refine sp (k := 6) rfl hK (by decide) rfl rfl (fun w hS => r_indexAddr_R Try.underlying35 Try.sizeOf50 hv_1961 h_19560 h_19561 hK rfl rfl) fun a hK => ?_
                refine sp (k := 7) rfl hK (by decide) rfl rfl (fun w hS => r_fieldAddr Try.underlying50 rfl Try.sizeOf3 hK rfl) fun a hK => ?_
                refine sp (k := 8) rfl hK (by decide) rfl rfl (fun w hS => r_load Try.isAgg3 hK rfl ((hS.ra hRA nil_not).cell (hc_1963 0 _ rfl))) fun a hK => ?_
                refine sp (k := 9) rfl hK (by decide) rfl rfl (fun w hS => r_fieldAddr Try.underlying25 rfl Try.sizeOf22 hK rfl) fun a hK => ?_
                refine sp (k := 10) rfl hK (by decide) rfl rfl (fun w hS => r_load Try.isAgg22 hK rfl (hS.cell (.head _) rfl)) fun a hK => ?_
                refine sp (k := 11) rfl hK (by decide) rfl rfl (fun w hS => r_move hK rfl) fun a hK => ?_
                obtain ⟨y_1964, h_1965, H⟩ := bind_some H
                obtain ⟨b_1966, o_1967, c_1968, cs_1969, hv_1970, hr_1971, hc_1972, h_19650, h_19651⟩ := h0_0.ix h_1965
                subst hr_1971
                refine sp (k := 12) rfl hK (by decide) rfl rfl (fun w hS => r_indexAddr_R Try.underlying22 Try.sizeOf43 hv_1970 h_19650 h_19651 hK rfl rfl) fun a hK => ?_
                refine sp (k := 13) rfl hK (by decide) rfl rfl (fun w hS => r_fieldAddr Try.underlying43 rfl Try.sizeOf3 hK rfl) fun a hK => ?_
                refine sp (k := 14) rfl hK (by decide) rfl rfl (fun w hS => r_load Try.isAgg3 hK rfl ((hS.ra hRA nil_not).cell (hc_1972 1 _ rfl))) fun a hK => ?_
                refine sp (k := 15) rfl hK (by decide) rfl rfl (fun w hS => r_ibin hK rfl rfl rfl) fun a hK => ?_
                refine sp (k := 16) rfl hK (by decide) rfl rfl (fun w hS => r_move hK rfl) fun a hK => ?_
                rcases or_b (y_1955.Kind != y_1964.Kind) with hb_1973 | hb_1973
                · rw [ifb_t hb_1973] at H
                  refine sp_skip (k := 17) rfl hK (by decide) (wft hb_1973) rfl fun a hK => ?_
                  refine sp_skip (k := 18) rfl hK (by decide) (wft hb_1973) rfl fun a hK => ?_
                  refine sp_skip (k := 19) rfl hK (by decide) (wft hb_1973) rfl fun a hK => ?_
                  refine sp_skip (k := 20) rfl hK (by decide) (wft hb_1973) rfl fun a hK => ?_
                  refine sp_skip (k := 21) rfl hK (by decide) (wft hb_1973) rfl fun a hK => ?_
                  refine sp_skip (k := 22) rfl hK (by decide) (wft hb_1973) rfl fun a hK => ?_
                  refine thenL_nil ?_
                  refine sl_skip hK (by decide) (wft hb_1973) rfl fun a hK => ?_
                  refine sl_skip hK (by decide) (wft hb_1973) rfl fun a hK => ?_
                  refine sl_skip hK (by decide) (wft hb_1973) rfl fun a hK => ?_
                  refine sl_skip hK (by decide) (wft hb_1973) rfl fun a hK => ?_
                  refine sl hK (by decide) rfl rfl (r_pick_t hb_1973 hK rfl rfl) fun a hK => ?_
                  refine wpList_nil (NoP_nil ?_)
                  exact ⟨true, H, hK.sub (all_cons rfl (all_cons rfl (all_cons rfl (all_cons rfl (all_nil))))), hS⟩
                · rw [ifb_f hb_1973] at H
                  refine sp (k := 17) rfl hK (by decide) (wff hb_1973) rfl (fun w hS => r_fieldAddr Try.underlying25 rfl Try.sizeOf23 hK rfl) fun a hK => ?_
                  refine sp (k := 18) rfl hK (by decide) (wff hb_1973) rfl (fun w hS => r_load Try.isAgg23 hK rfl (hS.cell (.head _) rfl)) fun a hK => ?_
                  refine sp (k := 19) rfl hK (by decide) (wff hb_1973) rfl (fun w hS => r_move hK rfl) fun a hK => ?_
                  obtain ⟨y_1974, h_1975, H⟩ := bind_some H
                  obtain ⟨b_1976, o_1977, c_1978, cs_1979, hv_1980, hr_1981, hc_1982, h_19750, h_19751⟩ := h0_1.ix h_1975
                  obtain ⟨v_1983, rfl, hs_1984⟩ := hr_1981
                  refine sp (k := 20) rfl hK (by decide) (wff hb_1973) rfl (fun w hS => r_indexAddr_R Try.underlying23 Try.sizeOf35 hv_1980 h_19750 h_19751 hK rfl rfl) fun a hK => ?_
                  refine sp (k := 21) rfl hK (by decide) (wff hb_1973) rfl (fun w hS => r_load Try.isAgg35 hK rfl ((hS.ra hRA nil_not).cell (hc_1982 0 _ rfl))) fun a hK => ?_
                  refine sp (k := 22) rfl hK (by decide) (wff hb_1973) rfl (fun w hS => r_move hK rfl) fun a hK => ?_
                  refine thenL_nil ?_
                  obtain ⟨y_1985, h_1986, H⟩ := bind_some H
                  obtain ⟨b_1987, o_1988, c_1989, cs_1990, hv_1991, hr_1992, hc_1993, h_19860, h_19861⟩ := hs_1984.ix h_1986
                  subst hr_1992
                  refine sl hK (by decide) (wff hb_1973) rfl (r_indexAddr_R Try.underlying35 Try.sizeOf50 hv_1991 h_19860 h_19861 hK rfl rfl) fun a hK => ?_
                  refine sl hK (by decide) (wff hb_1973) rfl (r_loadA (cs := [.int .i64 y_1985.Kind, .int .i64 y_1985.N, .string y_1985.S, .int .i64 y_1985.H.a0, .int .i64 y_1985.H.a1, .int .i64 y_1985.H.a2, .int .i64 y_1985.H.a3, .int .i64 y_1985.H.a4, .int .i64 y_1985.H.a5, .int .i64 y_1985.H.a6, .int .i64 y_1985.H.a7]) Try.isAgg50 Try.sizeOf50 rfl hK rfl (fun j v hv => (hS.ra hRA nil_not).cell (hc_1993 j v hv))) fun a hK => ?_
                  obtain ⟨y_1994, h_1995, H⟩ := bind_some H
                  refine sl_callV Try.call32 hS hK (by decide) (wff hb_1973) rfl rfl (ref01_Valid.calls y_1985 h_1995 _) fun a w hS hK => ?_
                  refine sl hK (by decide) (wff hb_1973) rfl (r_un hK rfl (u_not _)) fun a hK => ?_
                  refine sl hK (by decide) rfl rfl (r_pick_f hb_1973 hK rfl rfl) fun a hK => ?_
                  refine wpList_nil (NoP_nil ?_)
                  exact ⟨(!y_1994), H, hK.sub (all_cons rfl (all_cons rfl (all_cons rfl (all_cons rfl (all_nil))))), hS⟩
              · rintro a w ⟨x_1890, H, hK, hS⟩
                unfold ref02_Check.j2 at H
                refine wp_cond_split (hK.ev rfl) (fun (hb_1996 : x_1890 = true) => ?_) (fun (hb_1996 : x_1890 = false) => ?_)
                · rw [ifb_t hb_1996] at H
                  refine wp_seq ?_
                  refine wp_region_lit ?_
                  refine sl hK (by decide) rfl rfl (r_assign hK rfl) fun a hK => ?_
                  refine wpList_nil ?_
                  obtain rfl := Option.some.inj H
                  refine wp_ret ?_
                  repeat (first | refine ret_then ?_ | refine ret_block ?_ | refine ret_scope ?_)
                  exact ret_1 Try.results14 hK (rv_tmp hK rfl) ⟨rfl, hS.bel⟩
                · rw [ifb_f hb_1996] at H
                  refine wp_skip ?_
                  refine wp_region_lit ?_
                  refine sl hK (by decide) rfl rfl (r_move hK rfl) fun a hK => ?_
                  refine sl hK (by decide) rfl rfl (r_ibin hK rfl rfl rfl) fun a hK => ?_
                  refine sl hK (by decide) rfl rfl (r_assign hK rfl) fun a hK => ?_
                  refine wpList_nil ?_
                  exact ⟨_, Nat.lt_succ_self _, (IntKind.i64.wrap (x_1571 + 1)), H, hK.sub (all_cons rfl (all_cons rfl (all_cons rfl (all_nil)))), hS⟩
            · rw [ifb_f hb_1785] at H
              refine wp_exit ?_
              refine wp_region_lit ?_
              refine sl hK (by decide) rfl rfl (r_move hK rfl) fun a hK => ?_
              refine sl hK (by decide) rfl rfl (r_ibin hK rfl rfl rfl) fun a hK => ?_
              refine sl hK (by decide) rfl rfl (r_assign hK rfl) fun a hK => ?_
              refine wpList_nil ?_
              exact ⟨_, Nat.lt_succ_self _, (IntKind.i64.wrap (x_669 + 1)), H, hK.sub (all_cons rfl (all_cons rfl (all_nil))), hS⟩
      · rw [ifb_f hb_1334] at H
        refine wp_exit ?_
        refine wp_seq ?_
        refine wp_region_lit ?_
        refine sl hK (by decide) rfl rfl (r_assign hK rfl) fun a hK => ?_
        refine wpList_nil ?_
        obtain rfl := Option.some.inj H
        refine wp_ret ?_
        repeat (first | refine ret_then ?_ | refine ret_block ?_ | refine ret_scope ?_)
        exact ret_1 Try.results14 hK (rv_tmp hK rfl) ⟨rfl, hS.bel⟩

/-! ### catchment/catchmentref01.order: function 68 -/
set_option maxHeartbeats 4000000 in
set_option maxRecDepth 100000 in
theorem ref01_order.calls (a0 : Int) (a1 : Int) {r : Int} (H : ref01_order a0 a1 = some r) (w0 : World) : CallsV Try.prog 68 #[.int .i64 a0, .int .i64 a1] w0 (.int .i64 r) := by
  unfold ref01_order at H
  refine enter (args := [.int .i64 a0, .int .i64 a1]) Try.func68 rfl Try.ntmps68 rfl fun a hK => ?_
  have hS := St.init (R := fun _ => none) (w := w0) (fun _ _ h => by cases h)
  have hRL := RLe.refl (M := []) w0 (fun _ => none)
  refine wp_seq ?_
  refine wp_region_lit ?_
  refine sl hK (by decide) rfl rfl (r_assign hK rfl) fun a hK => ?_
  refine wpList_nil ?_
  refine wp_seq ?_
  refine wp_seq ?_
  refine wp_region_lit ?_
  refine sl hK (by decide) rfl rfl (r_move hK rfl) fun a hK => ?_
  refine sl hK (by decide) rfl rfl (r_move hK rfl) fun a hK => ?_
  refine sl hK (by decide) rfl rfl (r_ibin hK rfl rfl rfl) fun a hK => ?_
  refine wpList_nil ?_
  refine wp_cond_split (hK.ev rfl) (fun (hb_1 : (decide (a0 < a1)) = true) => ?_) (fun (hb_1 : (decide (a0 < a1)) = false) => ?_)
  · rw [ifb_t hb_1] at H
    refine wp_seq ?_
    refine wp_region_lit ?_
    refine sl hK (by decide) rfl rfl (r_assign hK rfl) fun a hK => ?_
    refine wpList_nil ?_
    obtain rfl := Option.some.inj H
    refine wp_ret ?_
    repeat (first | refine ret_then ?_ | refine ret_block ?_ | refine ret_scope ?_)
    exact ret_1 Try.results68 hK (rv_tmp hK rfl) ⟨rfl, hS.bel⟩
  · rw [ifb_f hb_1] at H
    refine wp_skip ?_
    refine wp_seq ?_
    refine wp_seq ?_
    refine wp_region_lit ?_
    refine sl hK (by decide) rfl rfl (r_move hK rfl) fun a hK => ?_
    refine sl hK (by decide) rfl rfl (r_move hK rfl) fun a hK => ?_
    refine sl hK (by decide) rfl rfl (r_ibin hK rfl rfl rfl) fun a hK => ?_
    refine wpList_nil ?_
    refine wp_cond_split (hK.ev rfl) (fun (hb_2 : (decide (a0 > a1)) = true) => ?_) (fun (hb_2 : (decide (a0 > a1)) = false) => ?_)
    · rw [ifb_t hb_2] at H
      refine wp_seq ?_
      refine wp_region_lit ?_
      refine sl hK (by decide) rfl rfl (r_assign hK rfl) fun a hK => ?_
      refine wpList_nil ?_
      obtain rfl := Option.some.inj H
      refine wp_ret ?_
      repeat (first | refine ret_then ?_ | refine ret_block ?_ | refine ret_scope ?_)
      exact ret_1 Try.results68 hK (rv_tmp hK rfl) ⟨rfl, hS.bel⟩
    · rw [ifb_f hb_2] at H
      refine wp_skip ?_
      refine wp_seq ?_
      refine wp_region_lit ?_
      refine sl hK (by decide) rfl rfl (r_assign hK rfl) fun a hK => ?_
      refine wpList_nil ?_
      obtain rfl := Option.some.inj H
      refine wp_ret ?_
      repeat (first | refine ret_then ?_ | refine ret_block ?_ | refine ret_scope ?_)
      exact ret_1 Try.results68 hK (rv_tmp hK rfl) ⟨rfl, hS.bel⟩

/-! ### catchment/catchmentref01.Compare: function 51 -/
set_option maxHeartbeats 4000000 in
set_option maxRecDepth 100000 in
theorem ref01_Compare.calls (a0 : api_Value) (a1 : api_Value) {r : Int} (H : ref01_Compare a0 a1 = some r) (w0 : World) : CallsV Try.prog 51 #[.agg #[.int .i64 a0.Kind, .int .i64 a0.N, .string a0.S, .int .i64 a0.H.a0, .int .i64 a0.H.a1, .int .i64 a0.H.a2, .int .i64 a0.H.a3, .int .i64 a0.H.a4, .int .i64 a0.H.a5, .int .i64 a0.H.a6, .int .i64 a0.H.a7], .agg #[.int .i64 a1.Kind, .int .i64 a1.N, .string a1.S, .int .i64 a1.H.a0, .int .i64 a1.H.a1, .int .i64 a1.H.a2, .int .i64 a1.H.a3, .int .i64 a1.H.a4, .int .i64 a1.H.a5, .int .i64 a1.H.a6, .int .i64 a1.H.a7]] w0 (.int .i64 r) := by
  unfold ref01_Compare at H
  refine enter (args := [.agg #[.int .i64 a0.Kind, .int .i64 a0.N, .string a0.S, .int .i64 a0.H.a0, .int .i64 a0.H.a1, .int .i64 a0.H.a2, .int .i64 a0.H.a3, .int .i64 a0.H.a4, .int .i64 a0.H.a5, .int .i64 a0.H.a6, .int .i64 a0.H.a7], .agg #[.int .i64 a1.Kind, .int .i64 a1.N, .string a1.S, .int .i64 a1.H.a0, .int .i64 a1.H.a1, .int .i64 a1.H.a2, .int .i64 a1.H.a3, .int .i64 a1.H.a4, .int .i64 a1.H.a5, .int .i64 a1.H.a6, .int .i64 a1.H.a7]]) Try.func51 rfl Try.ntmps51 rfl fun a hK => ?_
  have hS := St.init (R := fun _ => none) (w := w0) (fun _ _ h => by cases h)
  have hRL := RLe.refl (M := []) w0 (fun _ => none)
  refine wp_seq ?_
  refine wp_region_lit ?_
  refine sl_box hS hK (by decide) rfl rfl (c := [.int .i64 a0.Kind, .int .i64 a0.N, .string a0.S, .int .i64 a0.H.a0, .int .i64 a0.H.a1, .int .i64 a0.H.a2, .int .i64 a0.H.a3, .int .i64 a0.H.a4, .int .i64 a0.H.a5, .int .i64 a0.H.a6, .int .i64 a0.H.a7]) rfl fun a w b_1 hS hK => ?_
  refine sl_box hS hK (by decide) rfl rfl (c := [.int .i64 a1.Kind, .int .i64 a1.N, .string a1.S, .int .i64 a1.H.a0, .int .i64 a1.H.a1, .int .i64 a1.H.a2, .int .i64 a1.H.a3, .int .i64 a1.H.a4, .int .i64 a1.H.a5, .int .i64 a1.H.a6, .int .i64 a1.H.a7]) rfl fun a w b_2 hS hK => ?_
  refine sl hK (by decide) rfl rfl (r_assign hK rfl) fun a hK => ?_
  refine wpList_nil ?_
  refine wp_seq ?_
  refine wp_seq ?_
  refine wp_region_lit ?_
  refine sl hK (by decide) rfl rfl (r_fieldAddr Try.underlying50 rfl Try.sizeOf3 hK rfl) fun a hK => ?_
  refine sl hK (by decide) rfl rfl (r_load Try.isAgg3 hK rfl (hS.cell (.tail _ (.head _)) rfl)) fun a hK => ?_
  refine sl hK (by decide) rfl rfl (r_fieldAddr Try.underlying50 rfl Try.sizeOf3 hK rfl) fun a hK => ?_
  refine sl hK (by decide) rfl rfl (r_load Try.isAgg3 hK rfl (hS.cell (.head _) rfl)) fun a hK => ?_
  refine sl hK (by decide) rfl rfl (r_ibin hK rfl rfl rfl) fun a hK => ?_
  refine wpList_nil ?_
  refine wp_cond_split (hK.ev rfl) (fun (hb_3 : (a0.Kind != a1.Kind) = true) => ?_) (fun (hb_3 : (a0.Kind != a1.Kind) = false) => ?_)
  · rw [ifb_t hb_3] at H
    refine wp_seq ?_
    refine wp_region_lit ?_
    refine sl hK (by decide) rfl rfl (r_fieldAddr Try.underlying50 rfl Try.sizeOf3 hK rfl) fun a hK => ?_
    refine sl hK (by decide) rfl rfl (r_load Try.isAgg3 hK rfl (hS.cell (.tail _ (.head _)) rfl)) fun a hK => ?_
    refine sl hK (by decide) rfl rfl (r_fieldAddr Try.underlying50 rfl Try.sizeOf3 hK rfl) fun a hK => ?_
    refine sl hK (by decide) rfl rfl (r_load Try.isAgg3 hK rfl (hS.cell (.head _) rfl)) fun a hK => ?_
    obtain ⟨y_4, h_5, H⟩ := bind_some H
    refine sl_callV Try.call68 hS hK (by decide) rfl rfl rfl (ref01_order.calls a0.Kind a1.Kind h_5 _) fun a w hS hK => ?_
    refine sl hK (by decide) rfl rfl (r_assign hK rfl) fun a hK => ?_
    refine wpList_nil ?_
    obtain rfl := Option.some.inj H
    refine wp_ret ?_
    repeat (first | refine ret_then ?_ | refine ret_block ?_ | refine ret_scope ?_)
    exact ret_1 Try.results51 hK (rv_tmp hK rfl) ⟨rfl, hS.bel⟩
  · rw [ifb_f hb_3] at H
    refine wp_skip ?_
    refine wp_seq ?_
    refine wp_seq ?_
    refine wp_region_lit ?_
    refine sl hK (by decide) rfl rfl (r_fieldAddr Try.underlying50 rfl Try.sizeOf3 hK rfl) fun a hK => ?_
    refine sl hK (by decide) rfl rfl (r_load Try.isAgg3 hK rfl (hS.cell (.tail _ (.head _)) rfl)) fun a hK => ?_
    refine sl hK (by decide) rfl rfl (r_fieldAddr Try.underlying50 rfl Try.sizeOf3 hK rfl) fun a hK => ?_
    refine sl hK (by decide) rfl rfl (r_load Try.isAgg3 hK rfl (hS.cell (.head _) rfl)) fun a hK => ?_
    refine sl hK (by decide) rfl rfl (r_ibin hK rfl rfl rfl) fun a hK => ?_
    refine wpList_nil ?_
    refine wp_cond_split (hK.ev rfl) (fun (hb_6 : (a0.N != a1.N) = true) => ?_) (fun (hb_6 : (a0.N != a1.N) = false) => ?_)
    · rw [ifb_t hb_6] at H
      refine wp_seq ?_
      refine wp_region_lit ?_
      refine sl hK (by decide) rfl rfl (r_fieldAddr Try.underlying50 rfl Try.sizeOf3 hK rfl) fun a hK => ?_
      refine sl hK (by decide) rfl rfl (r_load Try.isAgg3 hK rfl (hS.cell (.tail _ (.head _)) rfl)) fun a hK => ?_
      refine sl hK (by decide) rfl rfl (r_fieldAddr Try.underlying50 rfl Try.sizeOf3 hK rfl) fun a hK => ?_
      refine sl hK (by decide) rfl rfl (r_load Try.isAgg3 hK rfl (hS.cell (.head _) rfl)) fun a hK => ?_
      obtain ⟨y_7, h_8, H⟩ := bind_some H
      refine sl_callV Try.call68 hS hK (by decide) rfl rfl rfl (ref01_order.calls a0.N a1.N h_8 _) fun a w hS hK => ?_
      refine sl hK (by decide) rfl rfl (r_assign hK rfl) fun a hK => ?_
      refine wpList_nil ?_
      obtain rfl := Option.some.inj H
      refine wp_ret ?_
      repeat (first | refine ret_then ?_ | refine ret_block ?_ | refine ret_scope ?_)
      exact ret_1 Try.results51 hK (rv_tmp hK rfl) ⟨rfl, hS.bel⟩
    · rw [ifb_f hb_6] at H
      refine wp_skip ?_
      refine wp_seq ?_
      refine wp_seq ?_
      refine wp_region_lit ?_
      refine sl hK (by decide) rfl rfl (r_assign hK rfl) fun a hK => ?_
      refine wpList_nil ?_
      refine wp_block ?_
      refine wp_loop_k (fun k_l0 a w => ∃ (x_36 : Int), ref01_Compare.l0 a0 a1 k_l0 x_36 = some r ∧ Kn 97 a [(2, .pointer (some ⟨b_1, 0, none⟩)), (3, .pointer (some ⟨b_2, 0, none⟩)), (5, .int .i64 x_36)] ∧ St [] w0 w (fun _ => none) [.cells b_1 [.int .i64 a0.Kind, .int .i64 a0.N, .string a0.S, .int .i64 a0.H.a0, .int .i64 a0.H.a1, .int .i64 a0.H.a2, .int .i64 a0.H.a3, .int .i64 a0.H.a4, .int .i64 a0.H.a5, .int .i64 a0.H.a6, .int .i64 a0.H.a7] 50, .cells b_2 [.int .i64 a1.Kind, .int .i64 a1.N, .string a1.S, .int .i64 a1.H.a0, .int .i64 a1.H.a1, .int .i64 a1.H.a2, .int .i64 a1.H.a3, .int .i64 a1.H.a4, .int .i64 a1.H.a5, .int .i64 a1.H.a6, .int .i64 a1.H.a7] 50]) (((a0.S.size : Int) - 0).toNat + 1) ?_ ?_
      · have hS := hS.pk1
        exact ⟨0, H, hK.sub (all_cons rfl (all_cons rfl (all_cons rfl (all_nil)))), hS⟩
      · rintro k_l0 a w ⟨x_36, H, hK, hS⟩
        cases k_l0 with
        | zero => cases H
        | succ k_l0 =>
        rw [ref01_Compare.l0.eq_2] at H
        refine wp_seq ?_
        refine wp_seq ?_
        refine wp_mid (fun a w => ∃ (x_66 : Bool), ref01_Compare.j1 (ref01_Compare.l0 a0 a1 k_l0) a0 a1 x_36 x_66 = some r ∧ Kn 97 a [(2, .pointer (some ⟨b_1, 0, none⟩)), (3, .pointer (some ⟨b_2, 0, none⟩)), (5, .int .i64 x_36), (38, .bool x_66)] ∧ St [] w0 w (fun _ => none) [.cells b_1 [.int .i64 a0.Kind, .int .i64 a0.N, .string a0.S, .int .i64 a0.H.a0, .int .i64 a0.H.a1, .int .i64 a0.H.a2, .int .i64 a0.H.a3, .int .i64 a0.H.a4, .int .i64 a0.H.a5, .int .i64 a0.H.a6, .int .i64 a0.H.a7] 50, .cells b_2 [.int .i64 a1.Kind, .int .i64 a1.N, .string a1.S, .int .i64 a1.H.a0, .int .i64 a1.H.a1, .int .i64 a1.H.a2, .int .i64 a1.H.a3, .int .i64 a1.H.a4, .int .i64 a1.H.a5, .int .i64 a1.H.a6, .int .i64 a1.H.a7] 50]) ?_ ?_
        · refine wp_region_lit ?_
          refine sl hK (by decide) rfl rfl (r_move hK rfl) fun a hK => ?_
          refine sl hK (by decide) rfl rfl (r_fieldAddr Try.underlying50 rfl Try.sizeOf9 hK rfl) fun a hK => ?_
          refine sl hK (by decide) rfl rfl (r_load Try.isAgg9 hK rfl (hS.cell (.head _) rfl)) fun a hK => ?_
          refine sl hK (by decide) rfl rfl (r_len_str Try.underlying9 hK rfl) fun a hK => ?_
          refine sl hK (by decide) rfl rfl (r_ibin hK rfl rfl rfl) fun a hK => ?_
          refine sl hK (by decide) rfl rfl (r_move hK rfl) fun a hK => ?_
          rcases or_b (decide (x_36 < (a0.S.size : Int))) with hb_68 | hb_68
          · rw [ifb_t hb_68] at H
            refine sl hK (by decide) (wtt hb_68) rfl (r_move hK rfl) fun a hK => ?_
            refine sl hK (by decide) (wtt hb_68) rfl (r_fieldAddr Try.underlying50 rfl Try.sizeOf9 hK rfl) fun a hK => ?_
            refine sl hK (by decide) (wtt hb_68) rfl (r_load Try.isAgg9 hK rfl (hS.cell (.tail _ (.head _)) rfl)) fun a hK => ?_
            refine sl hK (by decide) (wtt hb_68) rfl (r_len_str Try.underlying9 hK rfl) fun a hK => ?_
            refine sl hK (by decide) (wtt hb_68) rfl (r_ibin hK rfl rfl rfl) fun a hK => ?_
            refine sl hK (by decide) rfl rfl (r_pick_t hb_68 hK rfl rfl) fun a hK => ?_
            refine wpList_nil ?_
            have hS := hS.pk1
            have hS := hS.pk1
            exact ⟨(decide (x_36 < (a1.S.size : Int))), H, hK.sub (all_cons rfl (all_cons rfl (all_cons rfl (all_cons rfl (all_nil))))), hS⟩
          · rw [ifb_f hb_68] at H
            refine sl_skip hK (by decide) (wtf hb_68) rfl fun a hK => ?_
            refine sl_skip hK (by decide) (wtf hb_68) rfl fun a hK => ?_
            refine sl_skip hK (by decide) (wtf hb_68) rfl fun a hK => ?_
            refine sl_skip hK (by decide) (wtf hb_68) rfl fun a hK => ?_
            refine sl_skip hK (by decide) (wtf hb_68) rfl fun a hK => ?_
            refine sl hK (by decide) rfl rfl (r_pick_f hb_68 hK rfl rfl) fun a hK => ?_
            refine wpList_nil ?_
            have hS := hS.pk1
            have hS := hS.pk1
            exact ⟨false, H, hK.sub (all_cons rfl (all_cons rfl (all_cons rfl (all_cons rfl (all_nil))))), hS⟩
        · rintro a w ⟨x_66, H, hK, hS⟩
          unfold ref01_Compare.j1 at H
          refine wp_cond_split (hK.ev rfl) (fun (hb_69 : x_66 = true) => ?_) (fun (hb_69 : x_66 = false) => ?_)
          · rw [ifb_t hb_69] at H
            refine wp_skip ?_
            refine wp_seq ?_
            refine wp_block ?_
            refine wp_seq ?_
            refine par_region (C := fun w => St [] w0 w (fun _ => none) [.cells b_1 [.int .i64 a0.Kind, .int .i64 a0.N, .string a0.S, .int .i64 a0.H.a0, .int .i64 a0.H.a1, .int .i64 a0.H.a2, .int .i64 a0.H.a3, .int .i64 a0.H.a4, .int .i64 a0.H.a5, .int .i64 a0.H.a6, .int .i64 a0.H.a7] 50, .cells b_2 [.int .i64 a1.Kind, .int .i64 a1.N, .string a1.S, .int .i64 a1.H.a0, .int .i64 a1.H.a1, .int .i64 a1.H.a2, .int .i64 a1.H.a3, .int .i64 a1.H.a4, .int .i64 a1.H.a5, .int .i64 a1.H.a6, .int .i64 a1.H.a7] 50]) [(0, true), (1, true), (2, true), (3, true), (4, true), (5, true), (6, true), (7, true), (8, true)] mixed (by kernel_rfl) hS (fun w hS => hS) fun w hS => ?_
            refine sp (k := 0) rfl hK (by decide) rfl rfl (fun w hS => r_fieldAddr Try.underlying50 rfl Try.sizeOf9 hK rfl) fun a hK => ?_
            refine sp (k := 1) rfl hK (by decide) rfl rfl (fun w hS => r_load Try.isAgg9 hK rfl (hS.cell (.head _) rfl)) fun a hK => ?_
            refine sp (k := 2) rfl hK (by decide) rfl rfl (fun w hS => r_move hK rfl) fun a hK => ?_
            obtain ⟨y_74, h_75, H⟩ := bind_some H
            refine sp (k := 3) rfl hK (by decide) rfl rfl (fun w hS => r_index_str' Try.underlying9 h_75 hK rfl rfl) fun a hK => ?_
            refine sp (k := 4) rfl hK (by decide) rfl rfl (fun w hS => r_fieldAddr Try.underlying50 rfl Try.sizeOf9 hK rfl) fun a hK => ?_
            refine sp (k := 5) rfl hK (by decide) rfl rfl (fun w hS => r_load Try.isAgg9 hK rfl (hS.cell (.tail _ (.head _)) rfl)) fun a hK => ?_
            refine sp (k := 6) rfl hK (by decide) rfl rfl (fun w hS => r_move hK rfl) fun a hK => ?_
            obtain ⟨y_76, h_77, H⟩ := bind_some H
            refine sp (k := 7) rfl hK (by decide) rfl rfl (fun w hS => r_index_str' Try.underlying9 h_77 hK rfl rfl) fun a hK => ?_
            refine sp (k := 8) rfl hK (by decide) rfl rfl (fun w hS => r_ibin hK rfl rfl rfl) fun a hK => ?_
            refine wpPar_nil (NoP_nil ?_)
            refine wp_cond_split (hK.ev rfl) (fun (hb_78 : (y_74 != y_76) = true) => ?_) (fun (hb_78 : (y_74 != y_76) = false) => ?_)
            · rw [ifb_t hb_78] at H
              refine wp_seq ?_
              refine parT_region (C := fun w => St [] w0 w (fun _ => none) [.cells b_1 [.int .i64 a0.Kind, .int .i64 a0.N, .string a0.S, .int .i64 a0.H.a0, .int .i64 a0.H.a1, .int .i64 a0.H.a2, .int .i64 a0.H.a3, .int .i64 a0.H.a4, .int .i64 a0.H.a5, .int .i64 a0.H.a6, .int .i64 a0.H.a7] 50, .cells b_2 [.int .i64 a1.Kind, .int .i64 a1.N, .string a1.S, .int .i64 a1.H.a0, .int .i64 a1.H.a1, .int .i64 a1.H.a2, .int .i64 a1.H.a3, .int .i64 a1.H.a4, .int .i64 a1.H.a5, .int .i64 a1.H.a6, .int .i64 a1.H.a7] 50]) 10 [(0, true), (1, true), (2, true), (3, true), (4, true), (5, true), (6, true), (7, true), (8, true), (9, true)] mixed (by kernel_rfl) hS (fun w hS => hS) fun w hS => ?_
              refine sp (k := 0) rfl hK (by decide) rfl rfl (fun w hS => r_fieldAddr Try.underlying50 rfl Try.sizeOf9 hK rfl) fun a hK => ?_
              refine sp (k := 1) rfl hK (by decide) rfl rfl (fun w hS => r_load Try.isAgg9 hK rfl (hS.cell (.head _) rfl)) fun a hK => ?_
              refine sp (k := 2) rfl hK (by decide) rfl rfl (fun w hS => r_move hK rfl) fun a hK => ?_
              obtain ⟨y_85, h_86, H⟩ := bind_some H
              refine sp (k := 3) rfl hK (by decide) rfl rfl (fun w hS => r_index_str' Try.underlying9 h_86 hK rfl rfl) fun a hK => ?_
              refine sp (k := 4) rfl hK (by decide) rfl rfl (fun w hS => r_conv Try.underlying5 Try.underlying3 hK rfl) fun a hK => ?_
              refine sp (k := 5) rfl hK (by decide) rfl rfl (fun w hS => r_fieldAddr Try.underlying50 rfl Try.sizeOf9 hK rfl) fun a hK => ?_
              refine sp (k := 6) rfl hK (by decide) rfl rfl (fun w hS => r_load Try.isAgg9 hK rfl (hS.cell (.tail _ (.head _)) rfl)) fun a hK => ?_
              refine sp (k := 7) rfl hK (by decide) rfl rfl (fun w hS => r_move hK rfl) fun a hK => ?_
              obtain ⟨y_87, h_88, H⟩ := bind_some H
              refine sp (k := 8) rfl hK (by decide) rfl rfl (fun w hS => r_index_str' Try.underlying9 h_88 hK rfl rfl) fun a hK => ?_
              refine sp (k := 9) rfl hK (by decide) rfl rfl (fun w hS => r_conv Try.underlying5 Try.underlying3 hK rfl) fun a hK => ?_
              refine thenL_nil ?_
              obtain ⟨y_89, h_90, H⟩ := bind_some H
              refine sl_callV Try.call68 hS hK (by decide) rfl rfl rfl (ref01_order.calls (IntKind.i64.wrap y_85) (IntKind.i64.wrap y_87) h_90 _) fun a w hS hK => ?_
              refine sl hK (by decide) rfl rfl (r_assign hK rfl) fun a hK => ?_
              refine wpList_nil (NoP_nil ?_)
              obtain rfl := Option.some.inj H
              refine wp_ret ?_
              repeat (first | refine ret_then ?_ | refine ret_block ?_ | refine ret_scope ?_)
              exact ret_1 Try.results51 hK (rv_tmp hK rfl) ⟨rfl, hS.bel⟩
            · rw [ifb_f hb_78] at H
              refine wp_skip ?_
              refine wp_region_lit ?_
              refine sl hK (by decide) rfl rfl (r_move hK rfl) fun a hK => ?_
              refine sl hK (by decide) rfl rfl (r_ibin hK rfl rfl rfl) fun a hK => ?_
              refine sl hK (by decide) rfl rfl (r_assign hK rfl) fun a hK => ?_
              refine wpList_nil ?_
              have hS := hS.pk1
              have hS := hS.pk1
              exact ⟨_, Nat.lt_succ_self _, (IntKind.i64.wrap (x_36 + 1)), H, hK.sub (all_cons rfl (all_cons rfl (all_cons rfl (all_nil)))), hS⟩
          · rw [ifb_f hb_69] at H
            refine wp_exit ?_
            refine wp_seq ?_
            refine wp_seq ?_
            refine wp_region_lit ?_
            refine sl hK (by decide) rfl rfl (r_fieldAddr Try.underlying50 rfl Try.sizeOf9 hK rfl) fun a hK => ?_
            refine sl hK (by decide) rfl rfl (r_load Try.isAgg9 hK rfl (hS.cell (.head _) rfl)) fun a hK => ?_
            refine sl hK (by decide) rfl rfl (r_len_str Try.underlying9 hK rfl) fun a hK => ?_
            refine sl hK (by decide) rfl rfl (r_fieldAddr Try.underlying50 rfl Try.sizeOf9 hK rfl) fun a hK => ?_
            refine sl hK (by decide) rfl rfl (r_load Try.isAgg9 hK rfl (hS.cell (.tail _ (.head _)) rfl)) fun a hK => ?_
            refine sl hK (by decide) rfl rfl (r_len_str Try.underlying9 hK rfl) fun a hK => ?_
            refine sl hK (by decide) rfl rfl (r_ibin hK rfl rfl rfl) fun a hK => ?_
            refine wpList_nil ?_
            refine wp_cond_split (hK.ev rfl) (fun (hb_91 : ((a0.S.size : Int) != (a1.S.size : Int)) = true) => ?_) (fun (hb_91 : ((a0.S.size : Int) != (a1.S.size : Int)) = false) => ?_)
            · rw [ifb_t hb_91] at H
              refine wp_seq ?_
              refine wp_region_lit ?_
              refine sl hK (by decide) rfl rfl (r_fieldAddr Try.underlying50 rfl Try.sizeOf9 hK rfl) fun a hK => ?_
              refine sl hK (by decide) rfl rfl (r_load Try.isAgg9 hK rfl (hS.cell (.head _) rfl)) fun a hK => ?_
              refine sl hK (by decide) rfl rfl (r_len_str Try.underlying9 hK rfl) fun a hK => ?_
              refine sl hK (by decide) rfl rfl (r_fieldAddr Try.underlying50 rfl Try.sizeOf9 hK rfl) fun a hK => ?_
              refine sl hK (by decide) rfl rfl (r_load Try.isAgg9 hK rfl (hS.cell (.tail _ (.head _)) rfl)) fun a hK => ?_
              refine sl hK (by decide) rfl rfl (r_len_str Try.underlying9 hK rfl) fun a hK => ?_
              obtain ⟨y_92, h_93, H⟩ := bind_some H
              refine sl_callV Try.call68 hS hK (by decide) rfl rfl rfl (ref01_order.calls (a0.S.size : Int) (a1.S.size : Int) h_93 _) fun a w hS hK => ?_
              refine sl hK (by decide) rfl rfl (r_assign hK rfl) fun a hK => ?_
              refine wpList_nil ?_
              obtain rfl := Option.some.inj H
              refine wp_ret ?_
              repeat (first | refine ret_then ?_ | refine ret_block ?_ | refine ret_scope ?_)
              exact ret_1 Try.results51 hK (rv_tmp hK rfl) ⟨rfl, hS.bel⟩
            · rw [ifb_f hb_91] at H
              refine wp_skip ?_
              refine wp_seq ?_
              refine wp_seq ?_
              refine wp_region_lit ?_
              refine sl hK (by decide) rfl rfl (r_assign hK rfl) fun a hK => ?_
              refine wpList_nil ?_
              refine wp_block ?_
              refine wp_loop_k (fun k_l2 a w => ∃ (x_100 : Int), ref01_Compare.l2 a0 a1 k_l2 x_100 = some r ∧ Kn 97 a [(2, .pointer (some ⟨b_1, 0, none⟩)), (3, .pointer (some ⟨b_2, 0, none⟩)), (6, .int .i64 x_100)] ∧ St [] w0 w (fun _ => none) [.cells b_1 [.int .i64 a0.Kind, .int .i64 a0.N, .string a0.S, .int .i64 a0.H.a0, .int .i64 a0.H.a1, .int .i64 a0.H.a2, .int .i64 a0.H.a3, .int .i64 a0.H.a4, .int .i64 a0.H.a5, .int .i64 a0.H.a6, .int .i64 a0.H.a7] 50, .cells b_2 [.int .i64 a1.Kind, .int .i64 a1.N, .string a1.S, .int .i64 a1.H.a0, .int .i64 a1.H.a1, .int .i64 a1.H.a2, .int .i64 a1.H.a3, .int .i64 a1.H.a4, .int .i64 a1.H.a5, .int .i64 a1.H.a6, .int .i64 a1.H.a7] 50]) (((8 : Int) - 0).toNat + 1) ?_ ?_
              · have hS := hS.pk1
                have hS := hS.pk1
                exact ⟨0, H, hK.sub (all_cons rfl (all_cons rfl (all_cons rfl (all_nil)))), hS⟩
              · rintro k_l2 a w ⟨x_100, H, hK, hS⟩
                cases k_l2 with
                | zero => cases H
                | succ k_l2 =>
                rw [ref01_Compare.l2.eq_2] at H
                refine wp_seq ?_
                refine wp_seq ?_
                refine wp_region_lit ?_
                refine sl hK (by decide) rfl rfl (r_move hK rfl) fun a hK => ?_
                refine sl hK (by decide) rfl rfl (r_ibin hK rfl rfl rfl) fun a hK => ?_
                refine wpList_nil ?_
                refine wp_cond_split (hK.ev rfl) (fun (hb_124 : (decide (x_100 < 8)) = true) => ?_) (fun (hb_124 : (decide (x_100 < 8)) = false) => ?_)
                · rw [ifb_t hb_124] at H
                  refine wp_skip ?_
                  refine wp_seq ?_
                  refine wp_block ?_
                  refine wp_seq ?_
                  refine par_region (C := fun w => St [] w0 w (fun _ => none) [.cells b_1 [.int .i64 a0.Kind, .int .i64 a0.N, .string a0.S, .int .i64 a0.H.a0, .int .i64 a0.H.a1, .int .i64 a0.H.a2, .int .i64 a0.H.a3, .int .i64 a0.H.a4, .int .i64 a0.H.a5, .int .i64 a0.H.a6, .int .i64 a0.H.a7] 50, .cells b_2 [.int .i64 a1.Kind, .int .i64 a1.N, .string a1.S, .int .i64 a1.H.a0, .int .i64 a1.H.a1, .int .i64 a1.H.a2, .int .i64 a1.H.a3, .int .i64 a1.H.a4, .int .i64 a1.H.a5, .int .i64 a1.H.a6, .int .i64 a1.H.a7] 50]) [(0, true), (1, true), (2, true), (3, true), (4, true), (5, true), (6, true), (7, true), (8, true)] mixed (by kernel_rfl) hS (fun w hS => hS) fun w hS => ?_
                  refine sp (k := 0) rfl hK (by decide) rfl rfl (fun w hS => r_move hK rfl) fun a hK => ?_
                  refine sp (k := 1) rfl hK (by decide) rfl rfl (fun w hS => r_fieldAddr Try.underlying50 rfl Try.sizeOf48 hK rfl) fun a hK => ?_
                  obtain ⟨y_129, h_130, H⟩ := bind_some H
                  refine sp (k := 2) rfl hK (by decide) rfl rfl (fun w hS => r_indexAddr_arr Try.underlying48 Try.sizeOf3 hK rfl rfl (Arr8.ix_lt h_130).1 (Arr8.ix_lt h_130).2) fun a hK => ?_
                  refine sp (k := 3) rfl hK (by decide) rfl rfl (fun w hS => r_load Try.isAgg3 hK rfl (hS.cell (.head _) (Arr8.ix_cells h_130 [.int .i64 a0.Kind, .int .i64 a0.N, .string a0.S] [] rfl))) fun a hK => ?_
                  refine sp (k := 4) rfl hK (by decide) rfl rfl (fun w hS => r_move hK rfl) fun a hK => ?_
                  refine sp (k := 5) rfl hK (by decide) rfl rfl (fun w hS => r_fieldAddr Try.underlying50 rfl Try.sizeOf48 hK rfl) fun a hK => ?_
                  obtain ⟨y_131, h_132, H⟩ := bind_some H
                  refine sp (k := 6) rfl hK (by decide) rfl rfl (fun w hS => r_indexAddr_arr Try.underlying48 Try.sizeOf3 hK rfl rfl (Arr8.ix_lt h_132).1 (Arr8.ix_lt h_132).2) fun a hK => ?_
                  refine sp (k := 7) rfl hK (by decide) rfl rfl (fun w hS => r_load Try.isAgg3 hK rfl (hS.cell (.tail _ (.head _)) (Arr8.ix_cells h_132 [.int .i64 a1.Kind, .int .i64 a1.N, .string a1.S] [] rfl))) fun a hK => ?_
                  refine sp (k := 8) rfl hK (by decide) rfl rfl (fun w hS => r_ibin hK rfl rfl rfl) fun a hK => ?_
                  refine wpPar_nil (NoP_nil ?_)
                  refine wp_cond_split (hK.ev rfl) (fun (hb_133 : (y_129 != y_131) = true) => ?_) (fun (hb_133 : (y_129 != y_131) = false) => ?_)
                  · rw [ifb_t hb_133] at H
                    refine wp_seq ?_
                    refine parT_region (C := fun w => St [] w0 w (fun _ => none) [.cells b_1 [.int .i64 a0.Kind, .int .i64 a0.N, .string a0.S, .int .i64 a0.H.a0, .int .i64 a0.H.a1, .int .i64 a0.H.a2, .int .i64 a0.H.a3, .int .i64 a0.H.a4, .int .i64 a0.H.a5, .int .i64 a0.H.a6, .int .i64 a0.H.a7] 50, .cells b_2 [.int .i64 a1.Kind, .int .i64 a1.N, .string a1.S, .int .i64 a1.H.a0, .int .i64 a1.H.a1, .int .i64 a1.H.a2, .int .i64 a1.H.a3, .int .i64 a1.H.a4, .int .i64 a1.H.a5, .int .i64 a1.H.a6, .int .i64 a1.H.a7] 50]) 8 [(0, true), (1, true), (2, true), (3, true), (4, true), (5, true), (6, true), (7, true)] mixed (by kernel_rfl) hS (fun w hS => hS) fun w hS => ?_
                    refine sp (k := 0) rfl hK (by decide) rfl rfl (fun w hS => r_move hK rfl) fun a hK => ?_
                    refine sp (k := 1) rfl hK (by decide) rfl rfl (fun w hS => r_fieldAddr Try.underlying50 rfl Try.sizeOf48 hK rfl) fun a hK => ?_
                    obtain ⟨y_140, h_141, H⟩ := bind_some H
                    refine sp (k := 2) rfl hK (by decide) rfl rfl (fun w hS => r_indexAddr_arr Try.underlying48 Try.sizeOf3 hK rfl rfl (Arr8.ix_lt h_141).1 (Arr8.ix_lt h_141).2) fun a hK => ?_
                    refine sp (k := 3) rfl hK (by decide) rfl rfl (fun w hS => r_load Try.isAgg3 hK rfl (hS.cell (.head _) (Arr8.ix_cells h_141 [.int .i64 a0.Kind, .int .i64 a0.N, .string a0.S] [] rfl))) fun a hK => ?_
                    refine sp (k := 4) rfl hK (by decide) rfl rfl (fun w hS => r_move hK rfl) fun a hK => ?_
                    refine sp (k := 5) rfl hK (by decide) rfl rfl (fun w hS => r_fieldAddr Try.underlying50 rfl Try.sizeOf48 hK rfl) fun a hK => ?_
                    obtain ⟨y_142, h_143, H⟩ := bind_some H
                    refine sp (k := 6) rfl hK (by decide) rfl rfl (fun w hS => r_indexAddr_arr Try.underlying48 Try.sizeOf3 hK rfl rfl (Arr8.ix_lt h_143).1 (Arr8.ix_lt h_143).2) fun a hK => ?_
                    refine sp (k := 7) rfl hK (by decide) rfl rfl (fun w hS => r_load Try.isAgg3 hK rfl (hS.cell (.tail _ (.head _)) (Arr8.ix_cells h_143 [.int .i64 a1.Kind, .int .i64 a1.N, .string a1.S] [] rfl))) fun a hK => ?_
                    refine thenL_nil ?_
                    obtain ⟨y_144, h_145, H⟩ := bind_some H
                    refine sl_callV Try.call68 hS hK (by decide) rfl rfl rfl (ref01_order.calls y_140 y_142 h_145 _) fun a w hS hK => ?_
                    refine sl hK (by decide) rfl rfl (r_assign hK rfl) fun a hK => ?_
                    refine wpList_nil (NoP_nil ?_)
                    obtain rfl := Option.some.inj H
                    refine wp_ret ?_
                    repeat (first | refine ret_then ?_ | refine ret_block ?_ | refine ret_scope ?_)
                    exact ret_1 Try.results51 hK (rv_tmp hK rfl) ⟨rfl, hS.bel⟩
                  · rw [ifb_f hb_133] at H
                    refine wp_skip ?_
                    refine wp_region_lit ?_
                    refine sl hK (by decide) rfl rfl (r_move hK rfl) fun a hK => ?_
                    refine sl hK (by decide) rfl rfl (r_ibin hK rfl rfl rfl) fun a hK => ?_
                    refine sl hK (by decide) rfl rfl (r_assign hK rfl) fun a hK => ?_
                    refine wpList_nil ?_
                    have hS := hS.pk1
                    have hS := hS.pk1
                    exact ⟨_, Nat.lt_succ_self _, (IntKind.i64.wrap (x_100 + 1)), H, hK.sub (all_cons rfl (all_cons rfl (all_cons rfl (all_nil)))), hS⟩
                · rw [ifb_f hb_124] at H
                  refine wp_exit ?_
                  refine wp_seq ?_
                  refine wp_region_lit ?_
                  refine sl hK (by decide) rfl rfl (r_assign hK rfl) fun a hK => ?_
                  refine wpList_nil ?_
                  obtain rfl := Option.some.inj H
                  refine wp_ret ?_
                  repeat (first | refine ret_then ?_ | refine ret_block ?_ | refine ret_scope ?_)
                  exact ret_1 Try.results51 hK (rv_tmp hK rfl) ⟨rfl, hS.bel⟩

/-! ### catchment/catchmentref02.Row: function 41 -/
set_option maxHeartbeats 4000000 in
set_option maxRecDepth 100000 in
theorem ref02_Row.calls (a0 : List api_Value) (a1 : List api_Value) {w0 : World} {RA : Hp} {v0_0 : Value} {v1_0 : Value} (hRA : RA.sub w0) (h0_0 : SlR ty_api_Value RA v0_0 a0) (h1_0 : SlR ty_api_Value RA v1_0 a1) {r : Int} (H : ref02_Row a0 a1 = some r) : CallsV Try.prog 41 #[v0_0, v1_0] w0 (.int .i64 r) := by
  unfold ref02_Row at H
  refine enter (args := [v0_0, v1_0]) Try.func41 rfl Try.ntmps41 rfl fun a hK => ?_
  have hS := St.init (R := fun _ => none) (w := w0) (fun _ _ h => by cases h)
  have hRL := RLe.refl (M := []) w0 (fun _ => none)
  refine wp_seq ?_
  refine wp_region_lit ?_
  refine sl hK (by decide) rfl rfl (r_assign hK rfl) fun a hK => ?_
  refine wpList_nil ?_
  refine wp_seq ?_
  refine wp_seq ?_
  refine wp_region_lit ?_
  refine sl hK (by decide) rfl rfl (r_assign hK rfl) fun a hK => ?_
  refine wpList_nil ?_
  refine wp_block ?_
  refine wp_loop_k (fun k_l0 a w => ∃ (x_48 : Int), ref02_Row.l0 a0 a1 k_l0 x_48 = some r ∧ Kn 41 a [(0, v0_0), (1, v1_0), (5, .int .i64 x_48)] ∧ St [] w0 w (fun _ => none) []) (((a0.length : Int) - 0).toNat + 1) ?_ ?_
  · exact ⟨0, H, hK.sub (all_cons rfl (all_cons rfl (all_cons rfl (all_nil)))), hS⟩
  · rintro k_l0 a w ⟨x_48, H, hK, hS⟩
    cases k_l0 with
    | zero => cases H
    | succ k_l0 =>
    rw [ref02_Row.l0.eq_2] at H
    refine wp_seq ?_
    refine wp_seq ?_
    refine wp_mid (fun a w => ∃ (x_98 : Bool), ref02_Row.j1 (ref02_Row.l0 a0 a1 k_l0) a0 a1 x_48 x_98 = some r ∧ Kn 41 a [(0, v0_0), (1, v1_0), (5, .int .i64 x_48), (16, .bool x_98)] ∧ St [] w0 w (fun _ => none) []) ?_ ?_
    · refine wp_region_lit ?_
      refine sl hK (by decide) rfl rfl (r_move hK rfl) fun a hK => ?_
      refine sl hK (by decide) rfl rfl (r_move hK rfl) fun a hK => ?_
      refine sl hK (by decide) rfl rfl (r_len_R Try.underlying35 h0_0 hK rfl) fun a hK => ?_
      refine sl hK (by decide) rfl rfl (r_ibin hK rfl rfl rfl) fun a hK => ?_
      refine sl hK (by decide) rfl rfl (r_move hK rfl) fun a hK => ?_
      rcases or_b (decide (x_48 < (a0.length : Int))) with hb_100 | hb_100
      · rw [ifb_t hb_100] at H
        refine sl hK (by decide) (wtt hb_100) rfl (r_move hK rfl) fun a hK => ?_
        refine sl hK (by decide) (wtt hb_100) rfl (r_move hK rfl) fun a hK => ?_
        refine sl hK (by decide) (wtt hb_100) rfl (r_len_R Try.underlying35 h1_0 hK rfl) fun a hK => ?_
        refine sl hK (by decide) (wtt hb_100) rfl (r_ibin hK rfl rfl rfl) fun a hK => ?_
        refine sl hK (by decide) rfl rfl (r_pick_t hb_100 hK rfl rfl) fun a hK => ?_
        refine wpList_nil ?_
        exact ⟨(decide (x_48 < (a1.length : Int))), H, hK.sub (all_cons rfl (all_cons rfl (all_cons rfl (all_cons rfl (all_nil))))), hS⟩
      · rw [ifb_f hb_100] at H
        refine sl_skip hK (by decide) (wtf hb_100) rfl fun a hK => ?_
        refine sl_skip hK (by decide) (wtf hb_100) rfl fun a hK => ?_
        refine sl_skip hK (by decide) (wtf hb_100) rfl fun a hK => ?_
        refine sl_skip hK (by decide) (wtf hb_100) rfl fun a hK => ?_
        refine sl hK (by decide) rfl rfl (r_pick_f hb_100 hK rfl rfl) fun a hK => ?_
        refine wpList_nil ?_
        exact ⟨false, H, hK.sub (all_cons rfl (all_cons rfl (all_cons rfl (all_cons rfl (all_nil))))), hS⟩
    · rintro a w ⟨x_98, H, hK, hS⟩
      unfold ref02_Row.j1 at H
      refine wp_cond_split (hK.ev rfl) (fun (hb_101 : x_98 = true) => ?_) (fun (hb_101 : x_98 = false) => ?_)
      · rw [ifb_t hb_101] at H
        refine wp_skip ?_
        refine wp_seq ?_
        refine wp_block ?_
        refine wp_seq ?_
        refine parT_region (C := fun w => St [] w0 w (fun _ => none) []) 8 [(0, true), (1, true), (2, true), (3, true), (4, true), (5, true), (6, true), (7, true)] mixed (by kernel_rfl) hS (fun w hS => hS) fun w hS => ?_
        refine sp (k := 0) rfl hK (by decide) rfl rfl (fun w hS => r_move hK rfl) fun a hK => ?_
        refine sp (k := 1) rfl hK (by decide) rfl rfl (fun w hS => r_move hK rfl) fun a hK => ?_
        obtain ⟨y_122, h_123, H⟩ := bind_some H
        obtain ⟨b_124, o_125, c_126, cs_127, hv_128, hr_129, hc_130, h_1230, h_1231⟩ := h0_0.ix h_123
        subst hr_129
        refine sp (k := 2) rfl hK (by decide) rfl rfl (fun w hS => r_indexAddr_R Try.underlying35 Try.sizeOf50 hv_128 h_1230 h_1231 hK rfl rfl) fun a hK => ?_
        refine sp (k := 3) rfl hK (by decide) rfl rfl (fun w hS => r_loadA (cs := [.int .i64 y_122.Kind, .int .i64 y_122.N, .string y_122.S, .int .i64 y_122.H.a0, .int .i64 y_122.H.a1, .int .i64 y_122.H.a2, .int .i64 y_122.H.a3, .int .i64 y_122.H.a4, .int .i64 y_122.H.a5, .int .i64 y_122.H.a6, .int .i64 y_122.H.a7]) Try.isAgg50 Try.sizeOf50 rfl hK rfl (fun j v hv => (hS.ra hRA nil_not).cell (hc_130 j v hv))) fun a hK => ?_
        refine sp (k := 4) rfl hK (by decide) rfl rfl (fun w hS => r_move hK rfl) fun a hK => ?_
        refine sp (k := 5) rfl hK (by decide) rfl rfl (fun w hS => r_move hK rfl) fun a hK => ?_
        obtain ⟨y_131, h_132, H⟩ := bind_some H
        obtain ⟨b_133, o_134, c_135, cs_136, hv_137, hr_138, hc_139, h_1320, h_1321⟩ := h1_0.ix h_132
        subst hr_138
        refine sp (k := 6) rfl hK (by decide) rfl rfl (fun w hS => r_indexAddr_R Try.underlying35 Try.sizeOf50 hv_137 h_1320 h_1321 hK rfl rfl) fun a hK => ?_
        refine sp (k := 7) rfl hK (by decide) rfl rfl (fun w hS => r_loadA (cs := [.int .i64 y_131.Kind, .int .i64 y_131.N, .string y_131.S, .int .i64 y_131.H.a0, .int .i64 y_131.H.a1, .int .i64 y_131.H.a2, .int .i64 y_131.H.a3, .int .i64 y_131.H.a4, .int .i64 y_131.H.a5, .int .i64 y_131.H.a6, .int .i64 y_131.H.a7]) Try.isAgg50 Try.sizeOf50 rfl hK rfl (fun j v hv => (hS.ra hRA nil_not).cell (hc_139 j v hv))) fun a hK => ?_
        refine thenL_nil ?_
        obtain ⟨y_140, h_141, H⟩ := bind_some H
        refine sl_callV Try.call51 hS hK (by decide) rfl rfl rfl (ref01_Compare.calls y_122 y_131 h_141 _) fun a w hS hK => ?_
        refine sl hK (by decide) rfl rfl (r_assign hK rfl) fun a hK => ?_
        refine wpList_nil (NoP_nil ?_)
        refine wp_seq ?_
        refine wp_region_lit ?_
        refine sl hK (by decide) rfl rfl (r_move hK rfl) fun a hK => ?_
        refine sl hK (by decide) rfl rfl (r_ibin hK rfl rfl rfl) fun a hK => ?_
        refine wpList_nil ?_
        refine wp_cond_split (hK.ev rfl) (fun (hb_142 : (y_140 != 0) = true) => ?_) (fun (hb_142 : (y_140 != 0) = false) => ?_)
        · rw [ifb_t hb_142] at H
          refine wp_seq ?_
          refine wp_region_lit ?_
          refine sl hK (by decide) rfl rfl (r_move hK rfl) fun a hK => ?_
          refine sl hK (by decide) rfl rfl (r_assign hK rfl) fun a hK => ?_
          refine wpList_nil ?_
          obtain rfl := Option.some.inj H
          refine wp_ret ?_
          repeat (first | refine ret_then ?_ | refine ret_block ?_ | refine ret_scope ?_)
          exact ret_1 Try.results41 hK (rv_tmp hK rfl) ⟨rfl, hS.bel⟩
        · rw [ifb_f hb_142] at H
          refine wp_skip ?_
          refine wp_region_lit ?_
          refine sl hK (by decide) rfl rfl (r_move hK rfl) fun a hK => ?_
          refine sl hK (by decide) rfl rfl (r_ibin hK rfl rfl rfl) fun a hK => ?_
          refine sl hK (by decide) rfl rfl (r_assign hK rfl) fun a hK => ?_
          refine wpList_nil ?_
          exact ⟨_, Nat.lt_succ_self _, (IntKind.i64.wrap (x_48 + 1)), H, hK.sub (all_cons rfl (all_cons rfl (all_cons rfl (all_nil)))), hS⟩
      · rw [ifb_f hb_101] at H
        refine wp_exit ?_
        refine wp_seq ?_
        refine wp_seq ?_
        refine wp_region_lit ?_
        refine sl hK (by decide) rfl rfl (r_move hK rfl) fun a hK => ?_
        refine sl hK (by decide) rfl rfl (r_len_R Try.underlying35 h0_0 hK rfl) fun a hK => ?_
        refine sl hK (by decide) rfl rfl (r_move hK rfl) fun a hK => ?_
        refine sl hK (by decide) rfl rfl (r_len_R Try.underlying35 h1_0 hK rfl) fun a hK => ?_
        refine sl hK (by decide) rfl rfl (r_ibin hK rfl rfl rfl) fun a hK => ?_
        refine wpList_nil ?_
        refine wp_cond_split (hK.ev rfl) (fun (hb_143 : (decide ((a0.length : Int) < (a1.length : Int))) = true) => ?_) (fun (hb_143 : (decide ((a0.length : Int) < (a1.length : Int))) = false) => ?_)
        · rw [ifb_t hb_143] at H
          refine wp_seq ?_
          refine wp_region_lit ?_
          refine sl hK (by decide) rfl rfl (r_assign hK rfl) fun a hK => ?_
          refine wpList_nil ?_
          obtain rfl := Option.some.inj H
          refine wp_ret ?_
          repeat (first | refine ret_then ?_ | refine ret_block ?_ | refine ret_scope ?_)
          exact ret_1 Try.results41 hK (rv_tmp hK rfl) ⟨rfl, hS.bel⟩
        · rw [ifb_f hb_143] at H
          refine wp_skip ?_
          refine wp_seq ?_
          refine wp_seq ?_
          refine wp_region_lit ?_
          refine sl hK (by decide) rfl rfl (r_move hK rfl) fun a hK => ?_
          refine sl hK (by decide) rfl rfl (r_len_R Try.underlying35 h0_0 hK rfl) fun a hK => ?_
          refine sl hK (by decide) rfl rfl (r_move hK rfl) fun a hK => ?_
          refine sl hK (by decide) rfl rfl (r_len_R Try.underlying35 h1_0 hK rfl) fun a hK => ?_
          refine sl hK (by decide) rfl rfl (r_ibin hK rfl rfl rfl) fun a hK => ?_
          refine wpList_nil ?_
          refine wp_cond_split (hK.ev rfl) (fun (hb_144 : (decide ((a0.length : Int) > (a1.length : Int))) = true) => ?_) (fun (hb_144 : (decide ((a0.length : Int) > (a1.length : Int))) = false) => ?_)
          · rw [ifb_t hb_144] at H
            refine wp_seq ?_
            refine wp_region_lit ?_
            refine sl hK (by decide) rfl rfl (r_assign hK rfl) fun a hK => ?_
            refine wpList_nil ?_
            obtain rfl := Option.some.inj H
            refine wp_ret ?_
            repeat (first | refine ret_then ?_ | refine ret_block ?_ | refine ret_scope ?_)
            exact ret_1 Try.results41 hK (rv_tmp hK rfl) ⟨rfl, hS.bel⟩
          · rw [ifb_f hb_144] at H
            refine wp_skip ?_
            refine wp_seq ?_
            refine wp_region_lit ?_
            refine sl hK (by decide) rfl rfl (r_assign hK rfl) fun a hK => ?_
            refine wpList_nil ?_
            obtain rfl := Option.some.inj H
            refine wp_ret ?_
            repeat (first | refine ret_then ?_ | refine ret_block ?_ | refine ret_scope ?_)
            exact ret_1 Try.results41 hK (rv_tmp hK rfl) ⟨rfl, hS.bel⟩

/-! ### catchment/catchmentref02.sorted: function 39 -/
set_option maxHeartbeats 4000000 in
set_option maxRecDepth 100000 in
theorem ref02_sorted.r_calls (fuel : Nat) : ∀ (a0 : List (List api_Value)) {w0 : World} {R : Hp} {v0_0 : Value} (hR : R.sub w0) (h0_0 : SlR (tySl ty_api_Value) R v0_0 a0) {r : List (List api_Value)} (H : ref02_sorted.r fuel a0 = some r), Calls Try.prog 39 #[v0_0] w0 (Rets fun v w' => ∃ (R' : Hp) (u0 : Value) (cu0 : List Value), v = u0 ∧ St [] w0 w' R' [.row 35 1 u0 r.length cu0] ∧ RLe [] w0 R R' ∧ Reps (tySl ty_api_Value) R' cu0 r) := by
  induction fuel with
  | zero => intros; rename_i H; exact nomatch (show (none : Option _) = some _ from H)
  | succ fuel ih =>
    intro a0 w0 R v0_0 hR h0_0 r H
    rw [ref02_sorted.r.eq_2] at H
    generalize ref02_sorted.r fuel = kr_0 at ih H
    unfold ref02_sorted.b at H
    refine enter (args := [v0_0]) Try.func39 rfl Try.ntmps39 rfl fun a hK => ?_
    have hS := St.init hR
    have hRL := RLe.refl (M := []) w0 R
    refine wp_seq ?_
    refine wp_region_lit ?_
    refine sl hK (by decide) rfl rfl (r_assign hK rfl) fun a hK => ?_
    refine wpList_nil ?_
    refine wp_seq ?_
    refine wp_seq ?_
    refine wp_region_lit ?_
    refine sl hK (by decide) rfl rfl (r_move hK rfl) fun a hK => ?_
    refine sl hK (by decide) rfl rfl (r_len_R Try.underlying23 h0_0 hK rfl) fun a hK => ?_
    refine sl hK (by decide) rfl rfl (r_ibin hK rfl rfl rfl) fun a hK => ?_
    refine wpList_nil ?_
    refine wp_cond_split (hK.ev rfl) (fun (hb_1 : (decide ((a0.length : Int) < 2)) = true) => ?_) (fun (hb_1 : (decide ((a0.length : Int) < 2)) = false) => ?_)
    · rw [ifb_t hb_1] at H
      refine wp_seq ?_
      refine wp_region_lit ?_
      refine sl_buildSliceC (zc := [.slice none 0 0]) (zs := []) (ps := []) (c := []) Try.underlying23 Try.sizeOf35 Try.zeroValue35 rfl pc_nil rfl rfl (by decide) (by kernel_rfl) rfl hS hK (by decide) rfl fun a w b_2 hS hK => ?_
      refine sl hK (by decide) rfl rfl (r_move hK rfl) fun a hK => ?_
      obtain ⟨y_5, h_6, H⟩ := bind_some H
      have hS := hS.row_lit (size := 1) (m := 0) rfl (by decide)
      have hq_4 : Reps (tySl ty_api_Value) R [] ([] : List (List api_Value)) := (Reps.nil _ _)
      refine sl_append_R elT23 (by decide) rfl hq_4 rfl h0_0 h_6 hS hK (by decide) rfl rfl rfl fun a w v_7 cs_8 hq_9 hS hK => ?_
      refine sl hK (by decide) rfl rfl (r_assign hK rfl) fun a hK => ?_
      refine wpList_nil ?_
      obtain rfl := Option.some.inj H
      refine wp_ret ?_
      repeat (first | refine ret_then ?_ | refine ret_block ?_ | refine ret_scope ?_)
      exact ret_1 Try.results39 hK (rv_tmp hK rfl) ⟨_, rfl, _, _, _, rfl, hS, hRL, hq_9⟩
    · rw [ifb_f hb_1] at H
      refine wp_skip ?_
      refine wp_seq ?_
      refine wp_region_lit ?_
      refine sl hK (by decide) rfl rfl (r_move hK rfl) fun a hK => ?_
      refine sl hK (by decide) rfl rfl (r_move hK rfl) fun a hK => ?_
      refine sl hK (by decide) rfl rfl (r_len_R Try.underlying23 h0_0 hK rfl) fun a hK => ?_
      refine sl hK (by decide) rfl rfl (r_quo hK rfl rfl (by decide)) fun a hK => ?_
      obtain ⟨y_11, h_12, H⟩ := bind_some H
      obtain ⟨v_13, hs_14, hr_15⟩ := r_slice_R (x := .tmp 14) (lo := none) (hi := some (.tmp 17)) Try.underlying23 Try.sizeOf35 h0_0 h_12 hK rfl rfl ⟨_, rfl⟩
      refine sl hK (by decide) rfl rfl (hr_15 _ _ _ _ _ _ _ hK) fun a hK => ?_
      obtain ⟨y_16, h_17, H⟩ := bind_some H
      refine sl_call Try.call39 hK (by decide) rfl rfl rfl (ih y_11 hS.sub hs_14 h_17) fun a v_ w hv_ hK => ?_
      obtain ⟨R_18, v_21, cs_22, hv_, hr_, hl_19, hq_23⟩ := hv_
      have hv_ := hv_.symm
      subst hv_
      obtain ⟨hS, hl_19⟩ := hS.sp0.back hr_ hl_19
      have hS := hS.un1
      have hRL := hRL.trans hl_19
      refine sl hK (by decide) rfl rfl (r_assign hK rfl) fun a hK => ?_
      refine wpList_nil ?_
      refine wp_seq ?_
      refine wp_region_lit ?_
      refine sl hK (by decide) rfl rfl (r_move hK rfl) fun a hK => ?_
      refine sl hK (by decide) rfl rfl (r_move hK rfl) fun a hK => ?_
      refine sl hK (by decide) rfl rfl (r_len_R Try.underlying23 h0_0 hK rfl) fun a hK => ?_
      refine sl hK (by decide) rfl rfl (r_quo hK rfl rfl (by decide)) fun a hK => ?_
      obtain ⟨y_24, h_25, H⟩ := bind_some H
      obtain ⟨v_26, hs_27, hr_28⟩ := r_slice_R (x := .tmp 20) (lo := some (.tmp 23)) (hi := none) Try.underlying23 Try.sizeOf35 h0_0 h_25 hK rfl ⟨_, rfl⟩ rfl
      refine sl hK (by decide) rfl rfl (hr_28 _ _ _ _ _ _ _ hK) fun a hK => ?_
      obtain ⟨y_29, h_30, H⟩ := bind_some H
      refine sl_call Try.call39 hK (by decide) rfl rfl rfl (ih y_24 hS.sub (hs_27.mono hl_19.le) h_30) fun a v_ w hv_ hK => ?_
      obtain ⟨R_31, v_34, cs_35, hv_, hr_, hl_32, hq_36⟩ := hv_
      have hv_ := hv_.symm
      subst hv_
      obtain ⟨hS, hl_32⟩ := hS.sp0.back hr_ hl_32
      have hS := hS.un1
      have hRL := hRL.trans hl_32
      refine sl hK (by decide) rfl rfl (r_assign hK rfl) fun a hK => ?_
      refine wpList_nil ?_
      refine wp_seq ?_
      refine wp_region_lit ?_
      refine sl hK (by decide) rfl rfl (r_assign hK rfl) fun a hK => ?_
      refine wpList_nil ?_
      refine wp_seq ?_
      refine wp_region_lit ?_
      refine sl hK (by decide) rfl rfl (r_assign hK rfl) fun a hK => ?_
      refine wpList_nil ?_
      refine wp_seq ?_
      refine wp_region_lit ?_
      refine sl hK (by decide) rfl rfl (r_assign hK rfl) fun a hK => ?_
      refine wpList_nil ?_
      refine wp_seq ?_
      refine wp_block ?_
      refine wp_loop_k (fun k_l0 a w => ∃ (x_228 : List (List api_Value)) (x_232 : Int) (x_233 : Int) (v_229 : Value) (cs_230 : List Value), ref02_sorted.l0 y_16 y_29 k_l0 x_228 x_232 x_233 = some r ∧ Reps (tySl ty_api_Value) R_31 cs_230 x_228 ∧ Kn 77 a [(3, v_21), (4, v_34), (5, v_229), (6, .int .i64 x_232), (7, .int .i64 x_233)] ∧ St [] w0 w R_31 [.row 35 1 v_21 y_16.length cs_22, .row 35 1 v_34 y_29.length cs_35, .row 35 1 v_229 x_228.length cs_230]) (y_16.length + y_29.length + 1) ?_ ?_
      · have hS := hS.row_nil 35 1
        have hq_417 : Reps (tySl ty_api_Value) R_31 [] ([] : List (List api_Value)) := Reps.nil _ _
        have hS := hS.pk1
        have hS := hS.pk2
        exact ⟨[], 0, 0, _, _, H, hq_417, hK.sub (all_cons rfl (all_cons rfl (all_cons rfl (all_cons rfl (all_cons rfl (all_nil)))))), hS⟩
      · rintro k_l0 a w ⟨x_228, x_232, x_233, v_229, cs_230, H, hq_231, hK, hS⟩
        cases k_l0 with
        | zero => cases H
        | succ k_l0 =>
        rw [ref02_sorted.l0.eq_2] at H
        refine wp_seq ?_
        refine wp_seq ?_
        refine wp_mid (fun a w => ∃ (x_419 : Bool), ref02_sorted.j1 (ref02_sorted.l0 y_16 y_29 k_l0) y_16 y_29 x_228 x_232 x_233 x_419 = some r ∧ Kn 77 a [(3, v_21), (4, v_34), (5, v_229), (6, .int .i64 x_232), (7, .int .i64 x_233), (35, .bool x_419)] ∧ St [] w0 w R_31 [.row 35 1 v_21 y_16.length cs_22, .row 35 1 v_34 y_29.length cs_35, .row 35 1 v_229 x_228.length cs_230]) ?_ ?_
        · refine wp_region_lit ?_
          refine sl hK (by decide) rfl rfl (r_move hK rfl) fun a hK => ?_
          refine sl hK (by decide) rfl rfl (r_move hK rfl) fun a hK => ?_
          refine sl hK (by decide) rfl rfl (r_len_O Try.underlying23 hS (.head _) hK rfl) fun a hK => ?_
          refine sl hK (by decide) rfl rfl (r_ibin hK rfl rfl rfl) fun a hK => ?_
          refine sl hK (by decide) rfl rfl (r_move hK rfl) fun a hK => ?_
          rcases or_b (decide (x_232 < (y_16.length : Int))) with hb_421 | hb_421
          · rw [ifb_t hb_421] at H
            refine sl_skip hK (by decide) (wft hb_421) rfl fun a hK => ?_
            refine sl_skip hK (by decide) (wft hb_421) rfl fun a hK => ?_
            refine sl_skip hK (by decide) (wft hb_421) rfl fun a hK => ?_
            refine sl_skip hK (by decide) (wft hb_421) rfl fun a hK => ?_
            refine sl hK (by decide) rfl rfl (r_pick_t hb_421 hK rfl rfl) fun a hK => ?_
            refine wpList_nil ?_
            have hS := hS.pk2
            have hS := hS.pk2
            have hS := hS.pk2
            exact ⟨true, H, hK.sub (all_cons rfl (all_cons rfl (all_cons rfl (all_cons rfl (all_cons rfl (all_cons rfl (all_nil))))))), hS⟩
          · rw [ifb_f hb_421] at H
            refine sl hK (by decide) (wff hb_421) rfl (r_move hK rfl) fun a hK => ?_
            refine sl hK (by decide) (wff hb_421) rfl (r_move hK rfl) fun a hK => ?_
            refine sl hK (by decide) (wff hb_421) rfl (r_len_O Try.underlying23 hS (.tail _ (.head _)) hK rfl) fun a hK => ?_
            refine sl hK (by decide) (wff hb_421) rfl (r_ibin hK rfl rfl rfl) fun a hK => ?_
            refine sl hK (by decide) rfl rfl (r_pick_f hb_421 hK rfl rfl) fun a hK => ?_
            refine wpList_nil ?_
            have hS := hS.pk2
            have hS := hS.pk2
            have hS := hS.pk2
            exact ⟨(decide (x_233 < (y_29.length : Int))), H, hK.sub (all_cons rfl (all_cons rfl (all_cons rfl (all_cons rfl (all_cons rfl (all_cons rfl (all_nil))))))), hS⟩
        · rintro a w ⟨x_419, H, hK, hS⟩
          unfold ref02_sorted.j1 at H
          refine wp_cond_split (hK.ev rfl) (fun (hb_422 : x_419 = true) => ?_) (fun (hb_422 : x_419 = false) => ?_)
          · rw [ifb_t hb_422] at H
            refine wp_skip ?_
            refine wp_block ?_
            refine wp_seq ?_
            refine wp_mid (fun a w => ∃ (x_471 : Bool), ref02_sorted.j2 (ref02_sorted.l0 y_16 y_29 k_l0) y_16 y_29 x_228 x_232 x_233 x_471 = some r ∧ Kn 77 a [(3, v_21), (4, v_34), (5, v_229), (6, .int .i64 x_232), (7, .int .i64 x_233), (57, .bool x_471)] ∧ St [] w0 w R_31 [.row 35 1 v_21 y_16.length cs_22, .row 35 1 v_34 y_29.length cs_35, .row 35 1 v_229 x_228.length cs_230]) ?_ ?_
            · refine parT_region (C := fun w => St [] w0 w R_31 [.row 35 1 v_21 y_16.length cs_22, .row 35 1 v_34 y_29.length cs_35, .row 35 1 v_229 x_228.length cs_230]) 18 [(0, true), (1, true), (2, true), (3, true), (4, true), (5, true), (6, true), (7, true), (8, true), (9, true), (10, true), (11, true), (12, true), (13, true), (14, true), (15, true), (16, true), (17, true)] mixed (by kernel_rfl) hS (fun w hS => hS) fun w hS => ?_
              refine sp (k := 0) rfl hK (by decide) rfl rfl (fun w hS => r_move hK rfl) fun a hK => ?_
              refine sp (k := 1) rfl hK (by decide) rfl rfl (fun w hS => r_move hK rfl) fun a hK => ?_
              refine sp (k := 2) rfl hK (by decide) rfl rfl (fun w hS => r_len_O Try.underlying23 hS (.tail _ (.head _)) hK rfl) fun a hK => ?_
              refine sp (k := 3) rfl hK (by decide) rfl rfl (fun w hS => r_ibin hK rfl rfl rfl) fun a hK => ?_
              refine sp (k := 4) rfl hK (by decide) rfl rfl (fun w hS => r_move hK rfl) fun a hK => ?_
              rcases or_b (x_233 == (y_29.length : Int)) with hb_497 | hb_497
              · rw [ifb_t hb_497] at H
                refine sp_skip (k := 5) rfl hK (by decide) (wft hb_497) rfl fun a hK => ?_
                refine sp_skip (k := 6) rfl hK (by decide) (wft hb_497) rfl fun a hK => ?_
                refine sp_skip (k := 7) rfl hK (by decide) (wft hb_497) rfl fun a hK => ?_
                refine sp_skip (k := 8) rfl hK (by decide) (wft hb_497) rfl fun a hK => ?_
                refine sp_skip (k := 9) rfl hK (by decide) (wft hb_497) rfl fun a hK => ?_
                refine sp_skip (k := 10) rfl hK (by decide) rfl rfl fun a hK => ?_
                refine sp_skip (k := 11) rfl hK (by decide) rfl rfl fun a hK => ?_
                refine sp_skip (k := 12) rfl hK (by decide) rfl rfl fun a hK => ?_
                refine sp_skip (k := 13) rfl hK (by decide) rfl rfl fun a hK => ?_
                refine sp_skip (k := 14) rfl hK (by decide) rfl rfl fun a hK => ?_
                refine sp_skip (k := 15) rfl hK (by decide) rfl rfl fun a hK => ?_
                refine sp_skip (k := 16) rfl hK (by decide) rfl rfl fun a hK => ?_
                refine sp_skip (k := 17) rfl hK (by decide) rfl rfl fun a hK => ?_
                refine thenL_nil ?_
                refine sl_skip hK (by decide) rfl rfl fun a hK => ?_
                refine sl_skip hK (by decide) rfl rfl fun a hK => ?_
                refine sl_skip hK (by decide) (wft hb_497) rfl fun a hK => ?_
                refine sl hK (by decide) rfl rfl (r_pick_t hb_497 hK rfl rfl) fun a hK => ?_
                refine wpList_nil (NoP_nil ?_)
                have hS := hS.pk2
                have hS := hS.pk2
                have hS := hS.pk2
                exact ⟨true, H, hK.sub (all_cons rfl (all_cons rfl (all_cons rfl (all_cons rfl (all_cons rfl (all_cons rfl (all_nil))))))), hS⟩
              · rw [ifb_f hb_497] at H
                refine sp (k := 5) rfl hK (by decide) (wff hb_497) rfl (fun w hS => r_move hK rfl) fun a hK => ?_
                refine sp (k := 6) rfl hK (by decide) (wff hb_497) rfl (fun w hS => r_move hK rfl) fun a hK => ?_
                refine sp (k := 7) rfl hK (by decide) (wff hb_497) rfl (fun w hS => r_len_O Try.underlying23 hS (.head _) hK rfl) fun a hK => ?_
                refine sp (k := 8) rfl hK (by decide) (wff hb_497) rfl (fun w hS => r_ibin hK rfl rfl rfl) fun a hK => ?_
                refine sp (k := 9) rfl hK (by decide) (wff hb_497) rfl (fun w hS => r_move hK rfl) fun a hK => ?_
                rcases or_b (decide (x_232 < (y_16.length : Int))) with hb_498 | hb_498
                · rw [ifb_t hb_498] at H
                  refine sp (k := 10) rfl hK (by decide) (wtt hb_498) rfl (fun w hS => r_move hK rfl) fun a hK => ?_
                  refine sp (k := 11) rfl hK (by decide) (wtt hb_498) rfl (fun w hS => r_move hK rfl) fun a hK => ?_
                  obtain ⟨y_499, h_500, H⟩ := bind_some H
                  obtain ⟨b_502, c_503, cs_504, hv_501, hr_505, hc_506, h_5000, h_5001⟩ := hS.row_ix (.head _) (hq_23.mono hl_32.le) rfl rfl h_500
                  obtain ⟨v_507, rfl, hs_508⟩ := hr_505
                  refine sp (k := 12) rfl hK (by decide) (wtt hb_498) rfl (fun w hS => r_indexAddr_R Try.underlying23 Try.sizeOf35 hv_501 h_5000 h_5001 hK rfl rfl) fun a hK => ?_
                  refine sp (k := 13) rfl hK (by decide) (wtt hb_498) rfl (fun w hS => r_load Try.isAgg35 hK rfl (hS.row_cell (.head _) hv_501 (hc_506 0 _ rfl))) fun a hK => ?_
                  refine sp (k := 14) rfl hK (by decide) (wtt hb_498) rfl (fun w hS => r_move hK rfl) fun a hK => ?_
                  refine sp (k := 15) rfl hK (by decide) (wtt hb_498) rfl (fun w hS => r_move hK rfl) fun a hK => ?_
                  obtain ⟨y_509, h_510, H⟩ := bind_some H
                  obtain ⟨b_512, c_513, cs_514, hv_511, hr_515, hc_516, h_5100, h_5101⟩ := hS.row_ix (.tail _ (.head _)) hq_36 rfl rfl h_510
                  obtain ⟨v_517, rfl, hs_518⟩ := hr_515
                  refine sp (k := 16) rfl hK (by decide) (wtt hb_498) rfl (fun w hS => r_indexAddr_R Try.underlying23 Try.sizeOf35 hv_511 h_5100 h_5101 hK rfl rfl) fun a hK => ?_
                  refine sp (k := 17) rfl hK (by decide) (wtt hb_498) rfl (fun w hS => r_load Try.isAgg35 hK rfl (hS.row_cell (.tail _ (.head _)) hv_511 (hc_516 0 _ rfl))) fun a hK => ?_
                  refine thenL_nil ?_
                  obtain ⟨y_519, h_520, H⟩ := bind_some H
                  refine sl_callV Try.call41 hS hK (by decide) (wtt hb_498) rfl rfl (ref02_Row.calls y_499 y_509 (lentOf_sub [] _) (hs_508.mono hS.rLe0) (hs_518.mono hS.rLe0) h_520) fun a w hS hK => ?_
                  refine sl hK (by decide) (wtt hb_498) rfl (r_ibin hK rfl rfl rfl) fun a hK => ?_
                  refine sl hK (by decide) (wff hb_497) rfl (r_pick_t hb_498 hK rfl rfl) fun a hK => ?_
                  refine sl hK (by decide) rfl rfl (r_pick_f hb_497 hK rfl rfl) fun a hK => ?_
                  refine wpList_nil (NoP_nil ?_)
                  have hS := hS.pk2
                  have hS := hS.pk2
                  have hS := hS.pk2
                  exact ⟨(decide (y_519 ≤ 0)), H, hK.sub (all_cons rfl (all_cons rfl (all_cons rfl (all_cons rfl (all_cons rfl (all_cons rfl (all_nil))))))), hS⟩
                · rw [ifb_f hb_498] at H
                  refine sp_skip (k := 10) rfl hK (by decide) (wtf hb_498) rfl fun a hK => ?_
                  refine sp_skip (k := 11) rfl hK (by decide) (wtf hb_498) rfl fun a hK => ?_
                  refine sp_skip (k := 12) rfl hK (by decide) (wtf hb_498) rfl fun a hK => ?_
                  refine sp_skip (k := 13) rfl hK (by decide) (wtf hb_498) rfl fun a hK => ?_
                  refine sp_skip (k := 14) rfl hK (by decide) (wtf hb_498) rfl fun a hK => ?_
                  refine sp_skip (k := 15) rfl hK (by decide) (wtf hb_498) rfl fun a hK => ?_
                  refine sp_skip (k := 16) rfl hK (by decide) (wtf hb_498) rfl fun a hK => ?_
                  refine sp_skip (k := 17) rfl hK (by decide) (wtf hb_498) rfl fun a hK => ?_
                  refine thenL_nil ?_
                  refine sl_skip hK (by decide) (wtf hb_498) rfl fun a hK => ?_
                  refine sl_skip hK (by decide) (wtf hb_498) rfl fun a hK => ?_
                  refine sl hK (by decide) (wff hb_497) rfl (r_pick_f hb_498 hK rfl rfl) fun a hK => ?_
                  refine sl hK (by decide) rfl rfl (r_pick_f hb_497 hK rfl rfl) fun a hK => ?_
                  refine wpList_nil (NoP_nil ?_)
                  have hS := hS.pk2
                  have hS := hS.pk2
                  have hS := hS.pk2
                  exact ⟨false, H, hK.sub (all_cons rfl (all_cons rfl (all_cons rfl (all_cons rfl (all_cons rfl (all_cons rfl (all_nil))))))), hS⟩
            · rintro a w ⟨x_471, H, hK, hS⟩
              unfold ref02_sorted.j2 at H
              refine wp_mid (fun a w => ∃ (x_557 : List (List api_Value)) (x_561 : Int) (x_562 : Int) (v_558 : Value) (cs_559 : List Value), ref02_sorted.j3 (ref02_sorted.l0 y_16 y_29 k_l0) y_16 y_29 x_557 x_561 x_562 = some r ∧ Reps (tySl ty_api_Value) R_31 cs_559 x_557 ∧ Kn 77 a [(3, v_21), (4, v_34), (5, v_558), (6, .int .i64 x_561), (7, .int .i64 x_562)] ∧ St [] w0 w R_31 [.row 35 1 v_21 y_16.length cs_22, .row 35 1 v_34 y_29.length cs_35, .row 35 1 v_558 x_557.length cs_559]) ?_ ?_
              · refine wp_cond_split (hK.ev rfl) (fun (hb_564 : x_471 = true) => ?_) (fun (hb_564 : x_471 = false) => ?_)
                · rw [ifb_t hb_564] at H
                  refine wp_seq ?_
                  refine wp_region_lit ?_
                  refine sl hK (by decide) rfl rfl (r_move hK rfl) fun a hK => ?_
                  refine sl hK (by decide) rfl rfl (r_move hK rfl) fun a hK => ?_
                  refine sl hK (by decide) rfl rfl (r_move hK rfl) fun a hK => ?_
                  obtain ⟨y_565, h_566, H⟩ := bind_some H
                  obtain ⟨b_568, c_569, cs_570, hv_567, hr_571, hc_572, h_5660, h_5661⟩ := hS.row_ix (.head _) (hq_23.mono hl_32.le) rfl rfl h_566
                  obtain ⟨v_573, rfl, hs_574⟩ := hr_571
                  refine sl hK (by decide) rfl rfl (r_indexAddr_R Try.underlying23 Try.sizeOf35 hv_567 h_5660 h_5661 hK rfl rfl) fun a hK => ?_
                  refine sl hK (by decide) rfl rfl (r_load Try.isAgg35 hK rfl (hS.row_cell (.head _) hv_567 (hc_572 0 _ rfl))) fun a hK => ?_
                  refine sl_buildSliceF (zc := [.slice none 0 0]) (ps := [(0, v_573)]) (c := [v_573]) [[v_573]] Try.underlying23 Try.sizeOf35 Try.zeroValue35 rfl (pc_cons (cells1 hs_574.one) pc_nil) rfl rfl (Nat.le_of_ble_eq_true rfl) rfl (all_cons rfl (all_nil)) rfl hS hK (by decide) rfl fun a w b_575 hS hK => ?_
                  obtain ⟨y_576, h_577, H⟩ := bind_some H
                  have hS := hS.pk3
                  refine sl_append_L (ty := (tySl ty_api_Value)) (ys := [y_565]) elT23 (by decide) rfl hq_231 rfl (Reps.cons (show Ty.rep (tySl ty_api_Value) _ [v_573] y_565 from ⟨_, rfl, hs_574⟩) (Reps.nil _ _)) rfl h_577 hS hK (by decide) rfl rfl rfl fun a w v_578 cs_579 hq_580 hS hK => ?_
                  refine sl hK (by decide) rfl rfl (r_assign hK rfl) fun a hK => ?_
                  refine wpList_nil ?_
                  refine wp_region_lit ?_
                  refine sl hK (by decide) rfl rfl (r_move hK rfl) fun a hK => ?_
                  refine sl hK (by decide) rfl rfl (r_ibin hK rfl rfl rfl) fun a hK => ?_
                  refine sl hK (by decide) rfl rfl (r_assign hK rfl) fun a hK => ?_
                  refine wpList_nil ?_
                  have hS := hS.pk2
                  have hS := hS.pk2
                  exact ⟨y_576, (IntKind.i64.wrap (x_232 + 1)), x_233, _, _, H, hq_580, hK.sub (all_cons rfl (all_cons rfl (all_cons rfl (all_cons rfl (all_cons rfl (all_nil)))))), hS⟩
                · rw [ifb_f hb_564] at H
                  refine wp_seq ?_
                  refine wp_region_lit ?_
                  refine sl hK (by decide) rfl rfl (r_move hK rfl) fun a hK => ?_
                  refine sl hK (by decide) rfl rfl (r_move hK rfl) fun a hK => ?_
                  refine sl hK (by decide) rfl rfl (r_move hK rfl) fun a hK => ?_
                  obtain ⟨y_582, h_583, H⟩ := bind_some H
                  obtain ⟨b_585, c_586, cs_587, hv_584, hr_588, hc_589, h_5830, h_5831⟩ := hS.row_ix (.tail _ (.head _)) hq_36 rfl rfl h_583
                  obtain ⟨v_590, rfl, hs_591⟩ := hr_588
                  refine sl hK (by decide) rfl rfl (r_indexAddr_R Try.underlying23 Try.sizeOf35 hv_584 h_5830 h_5831 hK rfl rfl) fun a hK => ?_
                  refine sl hK (by decide) rfl rfl (r_load Try.isAgg35 hK rfl (hS.row_cell (.tail _ (.head _)) hv_584 (hc_589 0 _ rfl))) fun a hK => ?_
                  refine sl_buildSliceF (zc := [.slice none 0 0]) (ps := [(0, v_590)]) (c := [v_590]) [[v_590]] Try.underlying23 Try.sizeOf35 Try.zeroValue35 rfl (pc_cons (cells1 hs_591.one) pc_nil) rfl rfl (Nat.le_of_ble_eq_true rfl) rfl (all_cons rfl (all_nil)) rfl hS hK (by decide) rfl fun a w b_592 hS hK => ?_
                  obtain ⟨y_593, h_594, H⟩ := bind_some H
                  have hS := hS.pk3
                  refine sl_append_L (ty := (tySl ty_api_Value)) (ys := [y_582]) elT23 (by decide) rfl hq_231 rfl (Reps.cons (show Ty.rep (tySl ty_api_Value) _ [v_590] y_582 from ⟨_, rfl, hs_591⟩) (Reps.nil _ _)) rfl h_594 hS hK (by decide) rfl rfl rfl fun a w v_595 cs_596 hq_597 hS hK => ?_
                  refine sl hK (by decide) rfl rfl (r_assign hK rfl) fun a hK => ?_
                  refine wpList_nil ?_
                  refine wp_region_lit ?_
                  refine sl hK (by decide) rfl rfl (r_move hK rfl) fun a hK => ?_
                  refine sl hK (by decide) rfl rfl (r_ibin hK rfl rfl rfl) fun a hK => ?_
                  refine sl hK (by decide) rfl rfl (r_assign hK rfl) fun a hK => ?_
                  refine wpList_nil ?_
                  have hS := hS.pk2
                  have hS := hS.pk2
                  exact ⟨y_593, x_232, (IntKind.i64.wrap (x_233 + 1)), _, _, H, hq_597, hK.sub (all_cons rfl (all_cons rfl (all_cons rfl (all_cons rfl (all_cons rfl (all_nil)))))), hS⟩
              · rintro a w ⟨x_557, x_561, x_562, v_558, cs_559, H, hq_560, hK, hS⟩
                unfold ref02_sorted.j3 at H
                have hS := hS.pk2
                have hS := hS.pk2
                have hS := hS.pk2
                exact ⟨_, Nat.lt_succ_self _, x_557, x_561, x_562, _, _, H, hq_560, hK.sub (all_cons rfl (all_cons rfl (all_cons rfl (all_cons rfl (all_cons rfl (all_nil)))))), hS⟩
          · rw [ifb_f hb_422] at H
            refine wp_exit ?_
            refine wp_seq ?_
            refine wp_region_lit ?_
            refine sl hK (by decide) rfl rfl (r_move hK rfl) fun a hK => ?_
            refine sl hK (by decide) rfl rfl (r_assign hK rfl) fun a hK => ?_
            refine wpList_nil ?_
            obtain rfl := Option.some.inj H
            refine wp_ret ?_
            repeat (first | refine ret_then ?_ | refine ret_block ?_ | refine ret_scope ?_)
            exact ret_1 Try.results39 hK (rv_tmp hK rfl) ⟨_, rfl, _, _, _, rfl, (hS.pk2.trunc 1), hRL, hq_231⟩
theorem ref02_sorted.calls (a0 : List (List api_Value)) {w0 : World} {R : Hp} {v0_0 : Value} (hR : R.sub w0) (h0_0 : SlR (tySl ty_api_Value) R v0_0 a0) {r : List (List api_Value)} (H : ref02_sorted a0 = some r) : Calls Try.prog 39 #[v0_0] w0 (Rets fun v w' => ∃ (R' : Hp) (u0 : Value) (cu0 : List Value), v = u0 ∧ St [] w0 w' R' [.row 35 1 u0 r.length cu0] ∧ RLe [] w0 R R' ∧ Reps (tySl ty_api_Value) R' cu0 r) := ref02_sorted.r_calls _ a0 hR h0_0 H

/-! ### catchment/catchmentref02.Canon: function 21 -/
set_option maxHeartbeats 4000000 in
set_option maxRecDepth 100000 in
theorem ref02_Canon.calls (a0 : api_Table) {w0 : World} {R : Hp} {v0_0 : Value} {v0_1 : Value} (hR : R.sub w0) (h0_0 : SlR ty_api_Col R v0_0 a0.Cols) (h0_1 : SlR (tySl ty_api_Value) R v0_1 a0.Rows) {r : api_Table} (H : ref02_Canon a0 = some r) : Calls Try.prog 21 #[.agg #[v0_0, v0_1]] w0 (Rets fun v w' => ∃ (R' : Hp) (u0 : Value) (cu0 : List Value) (u1 : Value) (cu1 : List Value), v = .agg #[u0, u1] ∧ St [] w0 w' R' [.row 43 2 u0 r.Cols.length cu0, .row 35 1 u1 r.Rows.length cu1] ∧ RLe [] w0 R R' ∧ Reps ty_api_Col R' cu0 r.Cols ∧ Reps (tySl ty_api_Value) R' cu1 r.Rows) := by
  unfold ref02_Canon at H
  refine enter (args := [.agg #[v0_0, v0_1]]) Try.func21 rfl Try.ntmps21 rfl fun a hK => ?_
  have hS := St.init hR
  have hRL := RLe.refl (M := []) w0 R
  refine wp_seq ?_
  refine wp_region_lit ?_
  refine sl_box hS hK (by decide) rfl rfl (c := [v0_0, v0_1]) rfl fun a w b_1 hS hK => ?_
  refine sl_alloc Try.zeroValue25 hS hK (by decide) rfl rfl fun a w b_2 hS hK => ?_
  refine wpList_nil ?_
  refine wp_seq ?_
  refine parT_region (C := fun w => St [] w0 w R [.cells b_2 [.slice none 0 0, .slice none 0 0] 25, .cells b_1 [v0_0, v0_1] 25]) 6 [(1, true), (2, true), (4, true), (5, true), (0, false), (3, false)] mixed (by kernel_rfl) hS (fun w hS => hS) fun w hS => ?_
  refine sp (k := 1) rfl hK (by decide) rfl rfl (fun w hS => r_fieldAddr Try.underlying25 rfl Try.sizeOf22 hK rfl) fun a hK => ?_
  refine sp (k := 2) rfl hK (by decide) rfl rfl (fun w hS => r_load Try.isAgg22 hK rfl (hS.cell (.tail _ (.head _)) rfl)) fun a hK => ?_
  refine sp (k := 4) rfl hK (by decide) rfl rfl (fun w hS => r_fieldAddr Try.underlying25 rfl Try.sizeOf23 hK rfl) fun a hK => ?_
  refine sp (k := 5) rfl hK (by decide) rfl rfl (fun w hS => r_load Try.isAgg23 hK rfl (hS.cell (.tail _ (.head _)) rfl)) fun a hK => ?_
  refine spw (k := 0) rfl rfl hS ?_
  refine sl_buildSliceC (zc := [.string (⟨#[]⟩ : ByteArray), .int .i64 0]) (zs := []) (ps := []) (c := []) Try.underlying22 Try.sizeOf43 Try.zeroValue43 rfl pc_nil rfl rfl (by decide) (by kernel_rfl) rfl hS hK (by decide) rfl fun a w b_22 hS hK => ?_
  refine parK_nil (hS.pk2.pk2.trunc 2) ?_
  refine spw (k := 3) rfl rfl (hS.pk2.pk2.trunc 2) ?_
  obtain ⟨y_25, h_26, H⟩ := bind_some H
  have hS := hS.row_lit (size := 2) (m := 0) rfl (by decide)
  have hq_24 : Reps ty_api_Col R [] ([] : List api_Col) := (Reps.nil _ _)
  refine sl_append_R elT22 (by decide) rfl hq_24 rfl h0_0 h_26 hS hK (by decide) rfl rfl rfl fun a w v_27 cs_28 hq_29 hS hK => ?_
  refine parK_nil (hS.pk2.pk2.trunc 2) ?_
  refine thenL_nil ?_
  obtain ⟨y_31, h_32, H⟩ := bind_some H
  refine sl_call Try.call39 hK (by decide) rfl rfl rfl (ref02_sorted.calls a0.Rows hS.sub h0_1 h_32) fun a v_ w hv_ hK => ?_
  obtain ⟨R_33, v_36, cs_37, hv_, hr_, hl_34, hq_38⟩ := hv_
  have hv_ := hv_.symm
  subst hv_
  obtain ⟨hS, hl_34⟩ := hS.sp0.back hr_ hl_34
  have hS := hS.un1
  have hRL := hRL.trans hl_34
  have ho_39 := hS.row_one (.tail _ (.head _))
  have ho_40 := hS.row_one (.head _)
  refine sl hK (by decide) rfl rfl (r_buildC (ps := [(0, v_27), (1, v_36)]) (c := [v_27, v_36]) Try.underlying25 Try.zeroValue25 places25 hK rfl (pc_cons (cells1 ho_39) (pc_cons (cells1 ho_40) pc_nil)) rfl rfl) fun a hK => ?_
  have hS := hS.pk2
  refine sl_storeA (vs := [v_27, v_36]) (c' := [v_27, v_36]) Try.sizeOf25 hS hK rfl rfl rfl rfl (all_cons (hS.row_one (.tail _ (.tail _ (.head _)))) (all_cons (hS.row_one (.tail _ (.head _))) (all_nil))) (Nat.le_of_ble_eq_true rfl) rfl fun a w hS hK => ?_
  refine wpList_nil (NoP_nil ?_)
  obtain rfl := Option.some.inj H
  refine wp_ret ?_
  repeat (first | refine ret_then ?_ | refine ret_block ?_ | refine ret_scope ?_)
  exact ret_1 Try.results21 hK (rv_cell (c := [v_27, v_36]) Try.isAgg25 Try.sizeOf25 hS (.head _) rfl hK rfl) ⟨_, rfl, _, _, _, _, _, rfl, (hS.pk1.pk2.trunc 2), hRL, (hq_29.mono hl_34.le), hq_38⟩

/-! ### catchment/catchmentref02.SameCols: function 40 -/
set_option maxHeartbeats 4000000 in
set_option maxRecDepth 100000 in
theorem ref02_SameCols.calls (a0 : List api_Col) (a1 : List api_Col) {w0 : World} {RA : Hp} {v0_0 : Value} {v1_0 : Value} (hRA : RA.sub w0) (h0_0 : SlR ty_api_Col RA v0_0 a0) (h1_0 : SlR ty_api_Col RA v1_0 a1) {r : Bool} (H : ref02_SameCols a0 a1 = some r) : CallsV Try.prog 40 #[v0_0, v1_0] w0 (.bool r) := by
  unfold ref02_SameCols at H
  refine enter (args := [v0_0, v1_0]) Try.func40 rfl Try.ntmps40 rfl fun a hK => ?_
  have hS := St.init (R := fun _ => none) (w := w0) (fun _ _ h => by cases h)
  have hRL := RLe.refl (M := []) w0 (fun _ => none)
  refine wp_seq ?_
  refine wp_region_lit ?_
  refine sl hK (by decide) rfl rfl (r_assign hK rfl) fun a hK => ?_
  refine wpList_nil ?_
  refine wp_seq ?_
  refine wp_seq ?_
  refine wp_region_lit ?_
  refine sl hK (by decide) rfl rfl (r_move hK rfl) fun a hK => ?_
  refine sl hK (by decide) rfl rfl (r_len_R Try.underlying22 h0_0 hK rfl) fun a hK => ?_
  refine sl hK (by decide) rfl rfl (r_move hK rfl) fun a hK => ?_
  refine sl hK (by decide) rfl rfl (r_len_R Try.underlying22 h1_0 hK rfl) fun a hK => ?_
  refine sl hK (by decide) rfl rfl (r_ibin hK rfl rfl rfl) fun a hK => ?_
  refine wpList_nil ?_
  refine wp_cond_split (hK.ev rfl) (fun (hb_1 : ((a0.length : Int) != (a1.length : Int)) = true) => ?_) (fun (hb_1 : ((a0.length : Int) != (a1.length : Int)) = false) => ?_)
  · rw [ifb_t hb_1] at H
    refine wp_seq ?_
    refine wp_region_lit ?_
    refine sl hK (by decide) rfl rfl (r_assign hK rfl) fun a hK => ?_
    refine wpList_nil ?_
    obtain rfl := Option.some.inj H
    refine wp_ret ?_
    repeat (first | refine ret_then ?_ | refine ret_block ?_ | refine ret_scope ?_)
    exact ret_1 Try.results40 hK (rv_tmp hK rfl) ⟨rfl, hS.bel⟩
  · rw [ifb_f hb_1] at H
    refine wp_skip ?_
    refine wp_seq ?_
    refine wp_seq ?_
    refine wp_region_lit ?_
    refine sl hK (by decide) rfl rfl (r_assign hK rfl) fun a hK => ?_
    refine wpList_nil ?_
    refine wp_block ?_
    refine wp_loop_k (fun k_l0 a w => ∃ (x_41 : Int), ref02_SameCols.l0 a0 a1 k_l0 x_41 = some r ∧ Kn 26 a [(0, v0_0), (1, v1_0), (5, .int .i64 x_41)] ∧ St [] w0 w (fun _ => none) []) (((a0.length : Int) - 0).toNat + 1) ?_ ?_
    · exact ⟨0, H, hK.sub (all_cons rfl (all_cons rfl (all_cons rfl (all_nil)))), hS⟩
    · rintro k_l0 a w ⟨x_41, H, hK, hS⟩
      cases k_l0 with
      | zero => cases H
      | succ k_l0 =>
      rw [ref02_SameCols.l0.eq_2] at H
      refine wp_seq ?_
      refine wp_seq ?_
      refine wp_region_lit ?_
      refine sl hK (by decide) rfl rfl (r_move hK rfl) fun a hK => ?_
      refine sl hK (by decide) rfl rfl (r_move hK rfl) fun a hK => ?_
      refine sl hK (by decide) rfl rfl (r_len_R Try.underlying22 h0_0 hK rfl) fun a hK => ?_
      refine sl hK (by decide) rfl rfl (r_ibin hK rfl rfl rfl) fun a hK => ?_
      refine wpList_nil ?_
      refine wp_cond_split (hK.ev rfl) (fun (hb_81 : (decide (x_41 < (a0.length : Int))) = true) => ?_) (fun (hb_81 : (decide (x_41 < (a0.length : Int))) = false) => ?_)
      · rw [ifb_t hb_81] at H
        refine wp_skip ?_
        refine wp_seq ?_
        refine wp_block ?_
        refine wp_seq ?_
        refine par_region (C := fun w => St [] w0 w (fun _ => none) []) [(0, true), (1, true), (2, true), (3, true), (4, true), (5, true), (6, true), (7, true), (8, true)] mixed (by kernel_rfl) hS (fun w hS => hS) fun w hS => ?_
        refine sp (k := 0) rfl hK (by decide) rfl rfl (fun w hS => r_move hK rfl) fun a hK => ?_
        refine sp (k := 1) rfl hK (by decide) rfl rfl (fun w hS => r_move hK rfl) fun a hK => ?_
        obtain ⟨y_100, h_101, H⟩ := bind_some H
        obtain ⟨b_102, o_103, c_104, cs_105, hv_106, hr_107, hc_108, h_1010, h_1011⟩ := h0_0.ix h_101
        subst hr_107
        refine sp (k := 2) rfl hK (by decide) rfl rfl (fun w hS => r_indexAddr_R Try.underlying22 Try.sizeOf43 hv_106 h_1010 h_1011 hK rfl rfl) fun a hK => ?_
        refine sp (k := 3) rfl hK (by decide) rfl rfl (fun w hS => r_loadA (cs := [.string y_100.Name, .int .i64 y_100.Kind]) Try.isAgg43 Try.sizeOf43 rfl hK rfl (fun j v hv => (hS.ra hRA nil_not).cell (hc_108 j v hv))) fun a hK => ?_
        refine sp (k := 4) rfl hK (by decide) rfl rfl (fun w hS => r_move hK rfl) fun a hK => ?_
        refine sp (k := 5) rfl hK (by decide) rfl rfl (fun w hS => r_move hK rfl) fun a hK => ?_
        obtain ⟨y_109, h_110, H⟩ := bind_some H
        obtain ⟨b_111, o_112, c_113, cs_114, hv_115, hr_116, hc_117, h_1100, h_1101⟩ := h1_0.ix h_110
        subst hr_116
        refine sp (k := 6) rfl hK (by decide) rfl rfl (fun w hS => r_indexAddr_R Try.underlying22 Try.sizeOf43 hv_115 h_1100 h_1101 hK rfl rfl) fun a hK => ?_
        refine sp (k := 7) rfl hK (by decide) rfl rfl (fun w hS => r_loadA (cs := [.string y_109.Name, .int .i64 y_109.Kind]) Try.isAgg43 Try.sizeOf43 rfl hK rfl (fun j v hv => (hS.ra hRA nil_not).cell (hc_117 j v hv))) fun a hK => ?_
        refine sp (k := 8) rfl hK (by decide) rfl rfl (fun w hS => r_sne (by kernel_rfl) (eqs43 y_100 y_109) hK rfl rfl) fun a hK => ?_
        refine wpPar_nil (NoP_nil ?_)
        refine wp_cond_split (hK.ev rfl) (fun (hb_118 : (!decide (y_100 = y_109)) = true) => ?_) (fun (hb_118 : (!decide (y_100 = y_109)) = false) => ?_)
        · rw [ifb_t hb_118] at H
          refine wp_seq ?_
          refine wp_region_lit ?_
          refine sl hK (by decide) rfl rfl (r_assign hK rfl) fun a hK => ?_
          refine wpList_nil ?_
          obtain rfl := Option.some.inj H
          refine wp_ret ?_
          repeat (first | refine ret_then ?_ | refine ret_block ?_ | refine ret_scope ?_)
          exact ret_1 Try.results40 hK (rv_tmp hK rfl) ⟨rfl, hS.bel⟩
        · rw [ifb_f hb_118] at H
          refine wp_skip ?_
          refine wp_region_lit ?_
          refine sl hK (by decide) rfl rfl (r_move hK rfl) fun a hK => ?_
          refine sl hK (by decide) rfl rfl (r_ibin hK rfl rfl rfl) fun a hK => ?_
          refine sl hK (by decide) rfl rfl (r_assign hK rfl) fun a hK => ?_
          refine wpList_nil ?_
          exact ⟨_, Nat.lt_succ_self _, (IntKind.i64.wrap (x_41 + 1)), H, hK.sub (all_cons rfl (all_cons rfl (all_cons rfl (all_nil)))), hS⟩
      · rw [ifb_f hb_81] at H
        refine wp_exit ?_
        refine wp_seq ?_
        refine wp_region_lit ?_
        refine sl hK (by decide) rfl rfl (r_assign hK rfl) fun a hK => ?_
        refine wpList_nil ?_
        obtain rfl := Option.some.inj H
        refine wp_ret ?_
        repeat (first | refine ret_then ?_ | refine ret_block ?_ | refine ret_scope ?_)
        exact ret_1 Try.results40 hK (rv_tmp hK rfl) ⟨rfl, hS.bel⟩

/-! ### catchment/catchmentref02.Same: function 22 -/
set_option maxHeartbeats 4000000 in
set_option maxRecDepth 100000 in
theorem ref02_Same.calls (a0 : api_Table) (a1 : api_Table) {w0 : World} {RA : Hp} {v0_0 : Value} {v0_1 : Value} {v1_0 : Value} {v1_1 : Value} (hRA : RA.sub w0) (h0_0 : SlR ty_api_Col RA v0_0 a0.Cols) (h0_1 : SlR (tySl ty_api_Value) RA v0_1 a0.Rows) (h1_0 : SlR ty_api_Col RA v1_0 a1.Cols) (h1_1 : SlR (tySl ty_api_Value) RA v1_1 a1.Rows) {r : Bool} (H : ref02_Same a0 a1 = some r) : CallsV Try.prog 22 #[.agg #[v0_0, v0_1], .agg #[v1_0, v1_1]] w0 (.bool r) := by
  unfold ref02_Same at H
  refine enter (args := [.agg #[v0_0, v0_1], .agg #[v1_0, v1_1]]) Try.func22 rfl Try.ntmps22 rfl fun a hK => ?_
  have hS := St.init (R := fun _ => none) (w := w0) (fun _ _ h => by cases h)
  have hRL := RLe.refl (M := []) w0 (fun _ => none)
  refine wp_seq ?_
  refine wp_region_lit ?_
  refine sl_box hS hK (by decide) rfl rfl (c := [v0_0, v0_1]) rfl fun a w b_1 hS hK => ?_
  refine sl_box hS hK (by decide) rfl rfl (c := [v1_0, v1_1]) rfl fun a w b_2 hS hK => ?_
  refine sl hK (by decide) rfl rfl (r_assign hK rfl) fun a hK => ?_
  refine wpList_nil ?_
  refine wp_seq ?_
  refine wp_seq ?_
  refine wp_mid (fun a w => ∃ (x_6 : Bool), ref02_Same.j0 a0 a1 x_6 = some r ∧ Kn 40 a [(2, .pointer (some ⟨b_1, 0, none⟩)), (3, .pointer (some ⟨b_2, 0, none⟩)), (20, .bool x_6)] ∧ St [] w0 w (fun _ => none) [.cells b_1 [v0_0, v0_1] 25, .cells b_2 [v1_0, v1_1] 25]) ?_ ?_
  · refine wp_region_lit ?_
    refine sl hK (by decide) rfl rfl (r_fieldAddr Try.underlying25 rfl Try.sizeOf22 hK rfl) fun a hK => ?_
    refine sl hK (by decide) rfl rfl (r_load Try.isAgg22 hK rfl (hS.cell (.tail _ (.head _)) rfl)) fun a hK => ?_
    refine sl hK (by decide) rfl rfl (r_fieldAddr Try.underlying25 rfl Try.sizeOf22 hK rfl) fun a hK => ?_
    refine sl hK (by decide) rfl rfl (r_load Try.isAgg22 hK rfl (hS.cell (.head _) rfl)) fun a hK => ?_
    obtain ⟨y_8, h_9, H⟩ := bind_some H
    refine sl_callV Try.call40 hS hK (by decide) rfl rfl rfl (ref02_SameCols.calls a0.Cols a1.Cols (lentOf_sub [] _) (h0_0.mono (hS.raLe0 hRA nil_not)) (h1_0.mono (hS.raLe0 hRA nil_not)) h_9) fun a w hS hK => ?_
    refine sl hK (by decide) rfl rfl (r_un hK rfl (u_not _)) fun a hK => ?_
    refine sl hK (by decide) rfl rfl (r_move hK rfl) fun a hK => ?_
    rcases or_b (!y_8) with hb_10 | hb_10
    · rw [ifb_t hb_10] at H
      refine sl_skip hK (by decide) (wft hb_10) rfl fun a hK => ?_
      refine sl_skip hK (by decide) (wft hb_10) rfl fun a hK => ?_
      refine sl_skip hK (by decide) (wft hb_10) rfl fun a hK => ?_
      refine sl_skip hK (by decide) (wft hb_10) rfl fun a hK => ?_
      refine sl_skip hK (by decide) (wft hb_10) rfl fun a hK => ?_
      refine sl_skip hK (by decide) (wft hb_10) rfl fun a hK => ?_
      refine sl_skip hK (by decide) (wft hb_10) rfl fun a hK => ?_
      refine sl hK (by decide) rfl rfl (r_pick_t hb_10 hK rfl rfl) fun a hK => ?_
      refine wpList_nil ?_
      have hS := hS.pk1
      exact ⟨true, H, hK.sub (all_cons rfl (all_cons rfl (all_cons rfl (all_nil)))), hS⟩
    · rw [ifb_f hb_10] at H
      refine sl hK (by decide) (wff hb_10) rfl (r_fieldAddr Try.underlying25 rfl Try.sizeOf23 hK rfl) fun a hK => ?_
      refine sl hK (by decide) (wff hb_10) rfl (r_load Try.isAgg23 hK rfl (hS.cell (.tail _ (.head _)) rfl)) fun a hK => ?_
      refine sl hK (by decide) (wff hb_10) rfl (r_len_R Try.underlying23 h0_1 hK rfl) fun a hK => ?_
      refine sl hK (by decide) (wff hb_10) rfl (r_fieldAddr Try.underlying25 rfl Try.sizeOf23 hK rfl) fun a hK => ?_
      refine sl hK (by decide) (wff hb_10) rfl (r_load Try.isAgg23 hK rfl (hS.cell (.head _) rfl)) fun a hK => ?_
      refine sl hK (by decide) (wff hb_10) rfl (r_len_R Try.underlying23 h1_1 hK rfl) fun a hK => ?_
      refine sl hK (by decide) (wff hb_10) rfl (r_ibin hK rfl rfl rfl) fun a hK => ?_
      refine sl hK (by decide) rfl rfl (r_pick_f hb_10 hK rfl rfl) fun a hK => ?_
      refine wpList_nil ?_
      have hS := hS.pk1
      exact ⟨((a0.Rows.length : Int) != (a1.Rows.length : Int)), H, hK.sub (all_cons rfl (all_cons rfl (all_cons rfl (all_nil)))), hS⟩
  · rintro a w ⟨x_6, H, hK, hS⟩
    unfold ref02_Same.j0 at H
    refine wp_cond_split (hK.ev rfl) (fun (hb_11 : x_6 = true) => ?_) (fun (hb_11 : x_6 = false) => ?_)
    · rw [ifb_t hb_11] at H
      refine wp_seq ?_
      refine wp_region_lit ?_
      refine sl hK (by decide) rfl rfl (r_assign hK rfl) fun a hK => ?_
      refine wpList_nil ?_
      obtain rfl := Option.some.inj H
      refine wp_ret ?_
      repeat (first | refine ret_then ?_ | refine ret_block ?_ | refine ret_scope ?_)
      exact ret_1 Try.results22 hK (rv_tmp hK rfl) ⟨rfl, hS.bel⟩
    · rw [ifb_f hb_11] at H
      refine wp_skip ?_
      refine wp_seq ?_
      refine wp_seq ?_
      refine wp_region_lit ?_
      refine sl hK (by decide) rfl rfl (r_assign hK rfl) fun a hK => ?_
      refine wpList_nil ?_
      refine wp_block ?_
      refine wp_loop_k (fun k_l1 a w => ∃ (x_63 : Int), ref02_Same.l1 a0 a1 k_l1 x_63 = some r ∧ Kn 40 a [(2, .pointer (some ⟨b_1, 0, none⟩)), (3, .pointer (some ⟨b_2, 0, none⟩)), (5, .int .i64 x_63)] ∧ St [] w0 w (fun _ => none) [.cells b_1 [v0_0, v0_1] 25, .cells b_2 [v1_0, v1_1] 25]) (((a0.Rows.length : Int) - 0).toNat + 1) ?_ ?_
      · have hS := hS.pk1
        have hS := hS.pk1
        exact ⟨0, H, hK.sub (all_cons rfl (all_cons rfl (all_cons rfl (all_nil)))), hS⟩
      · rintro k_l1 a w ⟨x_63, H, hK, hS⟩
        cases k_l1 with
        | zero => cases H
        | succ k_l1 =>
        rw [ref02_Same.l1.eq_2] at H
        refine wp_seq ?_
        refine wp_seq ?_
        refine wp_region_lit ?_
        refine sl hK (by decide) rfl rfl (r_move hK rfl) fun a hK => ?_
        refine sl hK (by decide) rfl rfl (r_fieldAddr Try.underlying25 rfl Try.sizeOf23 hK rfl) fun a hK => ?_
        refine sl hK (by decide) rfl rfl (r_load Try.isAgg23 hK rfl (hS.cell (.head _) rfl)) fun a hK => ?_
        refine sl hK (by decide) rfl rfl (r_len_R Try.underlying23 h0_1 hK rfl) fun a hK => ?_
        refine sl hK (by decide) rfl rfl (r_ibin hK rfl rfl rfl) fun a hK => ?_
        refine wpList_nil ?_
        refine wp_cond_split (hK.ev rfl) (fun (hb_115 : (decide (x_63 < (a0.Rows.length : Int))) = true) => ?_) (fun (hb_115 : (decide (x_63 < (a0.Rows.length : Int))) = false) => ?_)
        · rw [ifb_t hb_115] at H
          refine wp_skip ?_
          refine wp_seq ?_
          refine wp_block ?_
          refine wp_seq ?_
          refine parT_region (C := fun w => St [] w0 w (fun _ => none) [.cells b_1 [v0_0, v0_1] 25, .cells b_2 [v1_0, v1_1] 25]) 10 [(0, true), (1, true), (2, true), (3, true), (4, true), (5, true), (6, true), (7, true), (8, true), (9, true)] mixed (by kernel_rfl) hS (fun w hS => hS) fun w hS => ?_
          refine sp (k := 0) rfl hK (by decide) rfl rfl (fun w hS => r_fieldAddr Try.underlying25 rfl Try.sizeOf23 hK rfl) fun a hK => ?_
          refine sp (k := 1) rfl hK (by decide) rfl rfl (fun w hS => r_load Try.isAgg23 hK rfl (hS.cell (.head _) rfl)) fun a hK => ?_
          refine sp (k := 2) rfl hK (by decide) rfl rfl (fun w hS => r_move hK rfl) fun a hK => ?_
          obtain ⟨y_140, h_141, H⟩ := bind_some H
          obtain ⟨b_142, o_143, c_144, cs_145, hv_146, hr_147, hc_148, h_1410, h_1411⟩ := h0_1.ix h_141
          obtain ⟨v_149, rfl, hs_150⟩ := hr_147
          refine sp (k := 3) rfl hK (by decide) rfl rfl (fun w hS => r_indexAddr_R Try.underlying23 Try.sizeOf35 hv_146 h_1410 h_1411 hK rfl rfl) fun a hK => ?_
          refine sp (k := 4) rfl hK (by decide) rfl rfl (fun w hS => r_load Try.isAgg35 hK rfl ((hS.ra hRA nil_not).cell (hc_148 0 _ rfl))) fun a hK => ?_
          refine sp (k := 5) rfl hK (by decide) rfl rfl (fun w hS => r_fieldAddr Try.underlying25 rfl Try.sizeOf23 hK rfl) fun a hK => ?_
          refine sp (k := 6) rfl hK (by decide) rfl rfl (fun w hS => r_load Try.isAgg23 hK rfl (hS.cell (.tail _ (.head _)) rfl)) fun a hK => ?_
          refine sp (k := 7) rfl hK (by decide) rfl rfl (fun w hS => r_move hK rfl) fun a hK => ?_
          obtain ⟨y_151, h_152, H⟩ := bind_some H
          obtain ⟨b_153, o_154, c_155, cs_156, hv_157, hr_158, hc_159, h_1520, h_1521⟩ := h1_1.ix h_152
          obtain ⟨v_160, rfl, hs_161⟩ := hr_158
          refine sp (k := 8) rfl hK (by decide) rfl rfl (fun w hS => r_indexAddr_R Try.underlying23 Try.sizeOf35 hv_157 h_1520 h_1521 hK rfl rfl) fun a hK => ?_
          refine sp (k := 9) rfl hK (by decide) rfl rfl (fun w hS => r_load Try.isAgg35 hK rfl ((hS.ra hRA nil_not).cell (hc_159 0 _ rfl))) fun a hK => ?_
          refine thenL_nil ?_
          obtain ⟨y_162, h_163, H⟩ := bind_some H
          refine sl_callV Try.call41 hS hK (by decide) rfl rfl rfl (ref02_Row.calls y_140 y_151 (lentOf_sub [] _) (hs_150.mono (hS.raLe0 hRA nil_not)) (hs_161.mono (hS.raLe0 hRA nil_not)) h_163) fun a w hS hK => ?_
          refine sl hK (by decide) rfl rfl (r_ibin hK rfl rfl rfl) fun a hK => ?_
          refine wpList_nil (NoP_nil ?_)
          refine wp_cond_split (hK.ev rfl) (fun (hb_164 : (y_162 != 0) = true) => ?_) (fun (hb_164 : (y_162 != 0) = false) => ?_)
          · rw [ifb_t hb_164] at H
            refine wp_seq ?_
            refine wp_region_lit ?_
            refine sl hK (by decide) rfl rfl (r_assign hK rfl) fun a hK => ?_
            refine wpList_nil ?_
            obtain rfl := Option.some.inj H
            refine wp_ret ?_
            repeat (first | refine ret_then ?_ | refine ret_block ?_ | refine ret_scope ?_)
            exact ret_1 Try.results22 hK (rv_tmp hK rfl) ⟨rfl, hS.bel⟩
          · rw [ifb_f hb_164] at H
            refine wp_skip ?_
            refine wp_region_lit ?_
            refine sl hK (by decide) rfl rfl (r_move hK rfl) fun a hK => ?_
            refine sl hK (by decide) rfl rfl (r_ibin hK rfl rfl rfl) fun a hK => ?_
            refine sl hK (by decide) rfl rfl (r_assign hK rfl) fun a hK => ?_
            refine wpList_nil ?_
            have hS := hS.pk1
            have hS := hS.pk1
            exact ⟨_, Nat.lt_succ_self _, (IntKind.i64.wrap (x_63 + 1)), H, hK.sub (all_cons rfl (all_cons rfl (all_cons rfl (all_nil)))), hS⟩
        · rw [ifb_f hb_115] at H
          refine wp_exit ?_
          refine wp_seq ?_
          refine wp_region_lit ?_
          refine sl hK (by decide) rfl rfl (r_assign hK rfl) fun a hK => ?_
          refine wpList_nil ?_
          obtain rfl := Option.some.inj H
          refine wp_ret ?_
          repeat (first | refine ret_then ?_ | refine ret_block ?_ | refine ret_scope ?_)
          exact ret_1 Try.results22 hK (rv_tmp hK rfl) ⟨rfl, hS.bel⟩

end Go.Proofs.Ytojfckndloelpaa.M
