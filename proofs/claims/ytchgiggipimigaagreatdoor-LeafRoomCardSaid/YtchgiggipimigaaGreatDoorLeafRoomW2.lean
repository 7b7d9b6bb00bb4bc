/- For the law LeafRoom: each Go function answers as its plain Lean function tells, wherever that tells something; without further condition. -/
import Derived.Test.YtchgiggipimigaaGreatDoorLeafRoomW1
section
namespace Go.Proofs.YtchgiggipimigaaGreatDoor.M
open Go Go.Eng Go.Proofs Go.RowKit
set_option linter.unusedVariables false
set_option linter.unusedSimpArgs false
open Go.Proofs.Tryz
set_option maxHeartbeats 4000000
set_option maxRecDepth 100000
theorem slices_Compare_int_int.calls (a0 : List Int) (a1 : List Int) {w0 : World} {RA : Hp} {v0_0 : Value} {v1_0 : Value} (hRA : RA.sub w0) (h0_0 : SlR (tyInt .i64) RA v0_0 a0) (h1_0 : SlR (tyInt .i64) RA v1_0 a1) {r : Int} (H : slices_Compare_int_int a0 a1 = some r) : CallsV prog 116 #[v0_0,v1_0] w0 (I6 r):=by
 unfold slices_Compare_int_int at H
 refine enter (args:=[v0_0,v1_0]) func116 rfl ntmps116 rfl fun a q=>?_
 have s:=St.init (R:=fun _=>none) (w:=w0) (fun _ _ h=>by cases h)
 have hRL:=RLe.refl (M:=[]) w0 (fun _=>none)
 refine zq<|zr<|za q rfl fun a q=>zn<|zq<|zq<|zr<|zm q rfl fun a q=>zl q (r_len_R underlying22 h0_0 q rfl) fun a q=>zm q rfl fun a q=>zn ?_
 refine wp_block ?_
 refine wp_loop_k (fun k_l0 a w=>∃ (x_25 : Int),slices_Compare_int_int.l0 a0 a1 k_l0 x_25 = some r ∧ Kn 36 a [(0,v0_0),(1,v1_0),(9,v0_0),(10,I6 (a0.length : Int)),(11,I6 x_25)] ∧ St [] w0 w (fun _=>none) []) (((a0.length : Int) - 0).toNat + 1) ?_ ?_
 exact ⟨0,H,q.sub (zc (zc (zc (zc (zc zz))))),s⟩
 rintro k_l0 a w ⟨x_25,H,q,s⟩
 rcases k_l0 with _ | k_l0
 cases H
 rw [slices_Compare_int_int.l0.eq_2] at H
 refine zq<|zr<|zl q (r_ibin q rfl rfl rfl) fun a q=>zn<|zq ?_
 refine wp_cond_split (q.ev rfl) (fun (hb_50 : (decide (x_25 < (a0.length : Int))) = true)=>?_) fun hb_50=>?_
 rw [ifb_t hb_50] at H
 refine wp_skip<|zq ?_
 refine wp_block ?_
 refine zq<|zr<|zm q rfl fun a q=>?_
 obtain ⟨y_51,h_52,H⟩:=bs H
 obtain ⟨b_53,o_54,c_55,cs_56,hv_57,hr_58,hc_59,h_520,h_521⟩:=h0_0.ix h_52
 subst hr_58
 refine zl q (r_indexAddr_R underlying22 sizeOf3 hv_57 h_520 h_521 q rfl rfl) fun a q=>zl q (r_load isAgg3 q rfl ((s.ra hRA nil_not).cell (hc_59 0 _ rfl))) fun a q=>za q rfl fun a q=>za q rfl fun a q=>zn<|zq<|zq<|zr<|zm q rfl fun a q=>zm q rfl fun a q=>zl q (r_len_R underlying22 h1_0 q rfl) fun a q=>zl q (r_ibin q rfl rfl rfl) fun a q=>zn ?_
 refine wp_cond_split (q.ev rfl) (fun (hb_60 : (decide (x_25 ≥ (a1.length : Int))) = true)=>?_) fun hb_60=>?_
 rw [ifb_t hb_60] at H
 refine zq<|zr<|za q rfl fun a q=>zn ?_
 obtain rfl:=Option.some.inj H
 refine wp_ret ?_
 repeat first | refine zt ?_ | refine zb ?_ | refine zo ?_
 exact ret_1 results116 q (rv_tmp q rfl) ⟨rfl,s.bel⟩
 rw [ifb_f hb_60] at H
 refine wp_skip<|zq<|zr<|zm q rfl fun a q=>zm q rfl fun a q=>?_
 obtain ⟨y_61,h_62,H⟩:=bs H
 obtain ⟨b_63,o_64,c_65,cs_66,hv_67,hr_68,hc_69,h_620,h_621⟩:=h1_0.ix h_62
 subst hr_68
 refine zl q (r_indexAddr_R underlying22 sizeOf3 hv_67 h_620 h_621 q rfl rfl) fun a q=>zl q (r_load isAgg3 q rfl ((s.ra hRA nil_not).cell (hc_69 0 _ rfl))) fun a q=>za q rfl fun a q=>zn<|zq<|zr<|zm q rfl fun a q=>zm q rfl fun a q=>?_
 obtain ⟨y_70,h_71,H⟩:=bs H
 refine sl_callV call83 s q (by decide) rfl rfl rfl (cmp_Compare_int.calls y_51 y_61 h_71 _) fun a w s q=>?_
 refine za q rfl fun a q=>zn<|zq<|zr<|zm q rfl fun a q=>zl q (r_ibin q rfl rfl rfl) fun a q=>zn ?_
 refine wp_cond_split (q.ev rfl) (fun (hb_72 : (y_70 != 0) = true)=>?_) fun hb_72=>?_
 rw [ifb_t hb_72] at H
 refine zq<|zr<|zm q rfl fun a q=>za q rfl fun a q=>zn ?_
 obtain rfl:=Option.some.inj H
 refine wp_ret ?_
 repeat first | refine zt ?_ | refine zb ?_ | refine zo ?_
 exact ret_1 results116 q (rv_tmp q rfl) ⟨rfl,s.bel⟩
 rw [ifb_f hb_72] at H
 refine wp_skip<|zr<|zl q (r_ibin q rfl rfl rfl) fun a q=>zm q rfl fun a q=>zn ?_
 exact ⟨_,Nat.lt_succ_self _,(IntKind.i64.wrap (x_25 + 1)),H,q.sub (zc (zc (zc (zc (zc zz))))),s⟩
 rw [ifb_f hb_50] at H
 refine wp_exit ?_
 refine zq<|zq<|zr<|zm q rfl fun a q=>zl q (r_len_R underlying22 h0_0 q rfl) fun a q=>zm q rfl fun a q=>zl q (r_len_R underlying22 h1_0 q rfl) fun a q=>zl q (r_ibin q rfl rfl rfl) fun a q=>zn ?_
 refine wp_cond_split (q.ev rfl) (fun (hb_73 : (decide ((a0.length : Int) < (a1.length : Int))) = true)=>?_) fun hb_73=>?_
 rw [ifb_t hb_73] at H
 refine zq<|zr<|za q rfl fun a q=>zn ?_
 obtain rfl:=Option.some.inj H
 refine wp_ret ?_
 repeat first | refine zt ?_ | refine zb ?_ | refine zo ?_
 exact ret_1 results116 q (rv_tmp q rfl) ⟨rfl,s.bel⟩
 rw [ifb_f hb_73] at H
 refine wp_skip<|zq<|zr<|za q rfl fun a q=>zn ?_
 obtain rfl:=Option.some.inj H
 refine wp_ret ?_
 repeat first | refine zt ?_ | refine zb ?_ | refine zo ?_
 exact ret_1 results116 q (rv_tmp q rfl) ⟨rfl,s.bel⟩
theorem cmp_Or_int.calls (a0 : List Int) {w0 : World} {RA : Hp} {v0_0 : Value} (hRA : RA.sub w0) (h0_0 : SlR (tyInt .i64) RA v0_0 a0) {r : Int} (H : cmp_Or_int a0 = some r) : CallsV prog 114 #[v0_0] w0 (I6 r):=by
 unfold cmp_Or_int at H
 refine enter (args:=[v0_0]) func114 rfl ntmps114 rfl fun a q=>?_
 have s:=St.init (R:=fun _=>none) (w:=w0) (fun _ _ h=>by cases h)
 have hRL:=RLe.refl (M:=[]) w0 (fun _=>none)
 refine zq<|zr<|za q rfl fun a q=>zn<|zq<|zr<|za q rfl fun a q=>zn<|zq<|zq<|zr<|zm q rfl fun a q=>zl q (r_len_R underlying22 h0_0 q rfl) fun a q=>zm q rfl fun a q=>zn ?_
 refine wp_block ?_
 refine wp_loop_k (fun k_l0 a w=>∃ (x_13 : Int),cmp_Or_int.l0 a0 k_l0 x_13 = some r ∧ Kn 18 a [(3,I6 0),(6,v0_0),(7,I6 (a0.length : Int)),(8,I6 x_13)] ∧ St [] w0 w (fun _=>none) []) (((a0.length : Int) - 0).toNat + 1) ?_ ?_
 exact ⟨0,H,q.sub (zc (zc (zc (zc zz)))),s⟩
 rintro k_l0 a w ⟨x_13,H,q,s⟩
 rcases k_l0 with _ | k_l0
 cases H
 rw [cmp_Or_int.l0.eq_2] at H
 refine zq<|zr<|zl q (r_ibin q rfl rfl rfl) fun a q=>zn<|zq ?_
 refine wp_cond_split (q.ev rfl) (fun (hb_26 : (decide (x_13 < (a0.length : Int))) = true)=>?_) fun hb_26=>?_
 rw [ifb_t hb_26] at H
 refine wp_skip<|zq ?_
 refine wp_block ?_
 refine zq<|zr ?_
 obtain ⟨y_27,h_28,H⟩:=bs H
 obtain ⟨b_29,o_30,c_31,cs_32,hv_33,hr_34,hc_35,h_280,h_281⟩:=h0_0.ix h_28
 subst hr_34
 refine zl q (r_indexAddr_R underlying22 sizeOf3 hv_33 h_280 h_281 q rfl rfl) fun a q=>zl q (r_load isAgg3 q rfl ((s.ra hRA nil_not).cell (hc_35 0 _ rfl))) fun a q=>za q rfl fun a q=>zn<|zq<|zr<|zm q rfl fun a q=>zm q rfl fun a q=>zl q (r_ibin q rfl rfl rfl) fun a q=>zn ?_
 refine wp_cond_split (q.ev rfl) (fun (hb_36 : (y_27 != 0) = true)=>?_) fun hb_36=>?_
 rw [ifb_t hb_36] at H
 refine zq<|zr<|zm q rfl fun a q=>za q rfl fun a q=>zn ?_
 obtain rfl:=Option.some.inj H
 refine wp_ret ?_
 repeat first | refine zt ?_ | refine zb ?_ | refine zo ?_
 exact ret_1 results114 q (rv_tmp q rfl) ⟨rfl,s.bel⟩
 rw [ifb_f hb_36] at H
 refine wp_skip<|zr<|zl q (r_ibin q rfl rfl rfl) fun a q=>zm q rfl fun a q=>zn ?_
 exact ⟨_,Nat.lt_succ_self _,(IntKind.i64.wrap (x_13 + 1)),H,q.sub (zc (zc (zc (zc zz)))),s⟩
 rw [ifb_f hb_26] at H
 refine wp_exit ?_
 refine zq<|zr<|zm q rfl fun a q=>za q rfl fun a q=>zn ?_
 obtain rfl:=Option.some.inj H
 refine wp_ret ?_
 repeat first | refine zt ?_ | refine zb ?_ | refine zo ?_
 exact ret_1 results114 q (rv_tmp q rfl) ⟨rfl,s.bel⟩
theorem value_Compare.calls (a0 : api_Value) (a1 : api_Value) {r : Int} (H : value_Compare a0 a1 = some r) (w0 : World) : CallsV prog 90 #[.agg ⟨cV a0⟩,.agg ⟨cV a1⟩] w0 (I6 r):=by
 unfold value_Compare at H
 refine enter (args:=[.agg ⟨cV a0⟩,.agg ⟨cV a1⟩]) func90 rfl ntmps90 rfl fun a q=>?_
 have s:=St.init (R:=fun _=>none) (w:=w0) (fun _ _ h=>by cases h)
 have hRL:=RLe.refl (M:=[]) w0 (fun _=>none)
 refine zq<|zr ?_
 refine sl_box s q (by decide) rfl rfl (c:=(cV a0)) rfl fun a w b_1 s q=>?_
 refine sl_box s q (by decide) rfl rfl (c:=(cV a1)) rfl fun a w b_2 s q=>?_
 refine za q rfl fun a q=>zn<|zq ?_
 refine parT_region (C:=fun w=>St [] w0 w (fun _=>none) [.cells b_2 (cV a1) 58,.cells b_1 (cV a0) 58]) 19 [(0,true),(1,true),(2,true),(3,true),(5,true),(6,true),(7,true),(8,true),(10,true),(11,true),(12,true),(13,true),(15,true),(16,true),(17,true),(18,true),(4,false),(9,false),(14,false)] mixed (by kernel_rfl) s (fun w s=>s) fun w s=>?_
 refine zp rfl q (fun w s=>r_fieldAddr underlying58 rfl sizeOf3 q rfl) fun a q=>zp rfl q (fun w s=>r_load isAgg3 q rfl (s.cell z1 rfl)) fun a q=>zp rfl q (fun w s=>r_fieldAddr underlying58 rfl sizeOf3 q rfl) fun a q=>zp rfl q (fun w s=>r_load isAgg3 q rfl (s.cell z0 rfl)) fun a q=>zp rfl q (fun w s=>r_fieldAddr underlying58 rfl sizeOf3 q rfl) fun a q=>zp rfl q (fun w s=>r_load isAgg3 q rfl (s.cell z1 rfl)) fun a q=>zp rfl q (fun w s=>r_fieldAddr underlying58 rfl sizeOf3 q rfl) fun a q=>zp rfl q (fun w s=>r_load isAgg3 q rfl (s.cell z0 rfl)) fun a q=>zp rfl q (fun w s=>r_fieldAddr underlying58 rfl sizeOf9 q rfl) fun a q=>?_
 refine zp rfl q (fun w s=>r_load isAgg9 q rfl (s.cell z1 rfl)) fun a q=>zp rfl q (fun w s=>r_fieldAddr underlying58 rfl sizeOf9 q rfl) fun a q=>zp rfl q (fun w s=>r_load isAgg9 q rfl (s.cell z0 rfl)) fun a q=>zp rfl q (fun w s=>r_fieldAddr underlying58 rfl sizeOf56 q rfl) fun a q=>zp rfl q (fun w s=>r_slice_arr0 underlying56 sizeOf3 q rfl) fun a q=>zp rfl q (fun w s=>r_fieldAddr underlying58 rfl sizeOf56 q rfl) fun a q=>zp rfl q (fun w s=>r_slice_arr0 underlying56 sizeOf3 q rfl) fun a q=>?_
 refine spw (k:=4) rfl rfl s ?_
 obtain ⟨y_14,h_15,H⟩:=bs H
 refine sl_callV call83 s q (by decide) rfl rfl rfl (cmp_Compare_int.calls a0.Kind a1.Kind h_15 _) fun a w s q=>?_
 refine parK_nil s ?_
 refine spw (k:=9) rfl rfl s ?_
 obtain ⟨y_16,h_17,H⟩:=bs H
 refine sl_callV call83 s q (by decide) rfl rfl rfl (cmp_Compare_int.calls a0.N a1.N h_17 _) fun a w s q=>?_
 refine parK_nil s ?_
 refine spw (k:=14) rfl rfl s ?_
 obtain ⟨y_18,h_19,H⟩:=bs H
 refine sl_callV call115 s q (by decide) rfl rfl rfl (strings_Compare.calls a0.S a1.S h_19 _) fun a w s q=>?_
 refine parK_nil s ?_
 refine thenL_nil ?_
 obtain ⟨y_20,h_21,H⟩:=bs H
 refine sl_callV call116 s q (by decide) rfl rfl rfl (slices_Compare_int_int.calls a0.H.list a1.H.list (lentOf_sub [] _) (s.lend_part0 z1 (xs:=a0.H.list) rfl (Nat.le_refl _)) (s.lend_part0 z0 (xs:=a1.H.list) rfl (Nat.le_refl _)) h_21) fun a w s q=>?_
 refine sl_buildSliceF (zc:=[I6 0]) (ps:=[(0,I6 y_14),(1,I6 y_16),(2,I6 y_18),(3,I6 y_20)]) (c:=[I6 y_14,I6 y_16,I6 y_18,I6 y_20]) [[I6 y_14],[I6 y_16],[I6 y_18],[I6 y_20]] underlying22 sizeOf3 zeroValue3 rfl (pc_cons rfl (pc_cons rfl (pc_cons rfl (pc_cons rfl pc_nil)))) rfl rfl (Nat.le_of_ble_eq_true rfl) rfl (zc (zc (zc (zc zz)))) rfl s q (by decide) rfl fun a w b_22 s q=>?_
 obtain ⟨y_23,h_24,H⟩:=bs H
 refine sl_callV call114 s q (by decide) rfl rfl rfl (cmp_Or_int.calls [y_14,y_16,y_18,y_20] (lentOf_sub [] _) (s.lend_lit0 (ty:=(tyInt .i64)) (xs:=[y_14,y_16,y_18,y_20]) z0 (Reps.cons (show Ty.rep (tyInt .i64) _ [I6 y_14] y_14 from rfl) (Reps.cons (show Ty.rep (tyInt .i64) _ [I6 y_16] y_16 from rfl) (Reps.cons (show Ty.rep (tyInt .i64) _ [I6 y_18] y_18 from rfl) (Reps.cons (show Ty.rep (tyInt .i64) _ [I6 y_20] y_20 from rfl) (Reps.nil _ _))))) rfl) h_24) fun a w s q=>?_
 refine za q rfl fun a q=>?_
 refine wpList_nil (NoP_nil ?_)
 obtain rfl:=Option.some.inj H
 refine wp_ret ?_
 repeat first | refine zt ?_ | refine zb ?_ | refine zo ?_
 exact ret_1 results90 q (rv_tmp q rfl) ⟨rfl,s.bel⟩
theorem slices_CompareFunc_api_Value_api_Value_api_Value_api_Value_f_value_Compare.calls (a0 : List api_Value) (a1 : List api_Value) {w0 : World} {RA : Hp} {v0_0 : Value} {v1_0 : Value} (hRA : RA.sub w0) (h0_0 : SlR ty_api_Value RA v0_0 a0) (h1_0 : SlR ty_api_Value RA v1_0 a1) {r : Int} (H : slices_CompareFunc_api_Value_api_Value_api_Value_api_Value_f_value_Compare a0 a1 = some r) : CallsV prog 89 #[v0_0,v1_0,.func (.func 90) #[] #[]] w0 (I6 r):=by
 unfold slices_CompareFunc_api_Value_api_Value_api_Value_api_Value_f_value_Compare at H
 refine enter (args:=[v0_0,v1_0,.func (.func 90) #[] #[]]) func89 rfl ntmps89 rfl fun a q=>?_
 have s:=St.init (R:=fun _=>none) (w:=w0) (fun _ _ h=>by cases h)
 have hRL:=RLe.refl (M:=[]) w0 (fun _=>none)
 refine zq<|zr<|za q rfl fun a q=>zn<|zq<|zq<|zr<|zm q rfl fun a q=>zl q (r_len_R underlying31 h0_0 q rfl) fun a q=>zm q rfl fun a q=>zn ?_
 refine wp_block ?_
 refine wp_loop_k (fun k_l0 a w=>∃ (x_27 : Int),slices_CompareFunc_api_Value_api_Value_api_Value_api_Value_f_value_Compare.l0 a0 a1 k_l0 x_27 = some r ∧ Kn 39 a [(0,v0_0),(1,v1_0),(2,.func (.func 90) #[] #[]),(11,v0_0),(12,I6 (a0.length : Int)),(13,I6 x_27)] ∧ St [] w0 w (fun _=>none) []) (((a0.length : Int) - 0).toNat + 1) ?_ ?_
 exact ⟨0,H,q.sub (zc (zc (zc (zc (zc (zc zz)))))),s⟩
 rintro k_l0 a w ⟨x_27,H,q,s⟩
 rcases k_l0 with _ | k_l0
 cases H
 rw [slices_CompareFunc_api_Value_api_Value_api_Value_api_Value_f_value_Compare.l0.eq_2] at H
 refine zq<|zr<|zl q (r_ibin q rfl rfl rfl) fun a q=>zn<|zq ?_
 refine wp_cond_split (q.ev rfl) (fun (hb_54 : (decide (x_27 < (a0.length : Int))) = true)=>?_) fun hb_54=>?_
 rw [ifb_t hb_54] at H
 refine wp_skip<|zq ?_
 refine wp_block ?_
 refine zq<|zr<|zm q rfl fun a q=>?_
 obtain ⟨y_55,h_56,H⟩:=bs H
 obtain ⟨b_57,o_58,c_59,cs_60,hv_61,hr_62,hc_63,h_560,h_561⟩:=h0_0.ix h_56
 subst hr_62
 refine zl q (r_indexAddr_R underlying31 sizeOf58 hv_61 h_560 h_561 q rfl rfl) fun a q=>zl q (r_loadA (cs:=(cV y_55)) isAgg58 sizeOf58 rfl q rfl (fun j v hv=>(s.ra hRA nil_not).cell (hc_63 j v hv))) fun a q=>?_
 refine sl_alloc zeroValue58 s q (by decide) rfl rfl fun a w b_64 s q=>?_
 refine za q rfl fun a q=>?_
 refine sl_storeA (vs:=(cV y_55)) (c':=(cV y_55)) sizeOf58 s q rfl rfl rfl rfl (zc (zc (zc (zc (zc (zc (zc (zc (zc (zc (zc zz))))))))))) (Nat.le_of_ble_eq_true rfl) rfl fun a w s q=>?_
 refine zn<|zq<|zq<|zr<|zm q rfl fun a q=>zm q rfl fun a q=>zl q (r_len_R underlying31 h1_0 q rfl) fun a q=>zl q (r_ibin q rfl rfl rfl) fun a q=>zn ?_
 refine wp_cond_split (q.ev rfl) (fun (hb_65 : (decide (x_27 ≥ (a1.length : Int))) = true)=>?_) fun hb_65=>?_
 rw [ifb_t hb_65] at H
 refine zq<|zr<|za q rfl fun a q=>zn ?_
 obtain rfl:=Option.some.inj H
 refine wp_ret ?_
 repeat first | refine zt ?_ | refine zb ?_ | refine zo ?_
 exact ret_1 results89 q (rv_tmp q rfl) ⟨rfl,s.bel⟩
 rw [ifb_f hb_65] at H
 refine wp_skip<|zq<|zr<|zm q rfl fun a q=>zm q rfl fun a q=>?_
 obtain ⟨y_66,h_67,H⟩:=bs H
 obtain ⟨b_68,o_69,c_70,cs_71,hv_72,hr_73,hc_74,h_670,h_671⟩:=h1_0.ix h_67
 subst hr_73
 refine zl q (r_indexAddr_R underlying31 sizeOf58 hv_72 h_670 h_671 q rfl rfl) fun a q=>zl q (r_loadA (cs:=(cV y_66)) isAgg58 sizeOf58 rfl q rfl (fun j v hv=>(s.ra hRA nil_not).cell (hc_74 j v hv))) fun a q=>?_
 refine sl_alloc zeroValue58 s q (by decide) rfl rfl fun a w b_75 s q=>?_
 refine sl_storeA (vs:=(cV y_66)) (c':=(cV y_66)) sizeOf58 s q rfl rfl rfl rfl (zc (zc (zc (zc (zc (zc (zc (zc (zc (zc (zc zz))))))))))) (Nat.le_of_ble_eq_true rfl) rfl fun a w s q=>?_
 refine zn<|zq<|zr<|zm q rfl fun a q=>zl q (r_loadA (cs:=(cV y_55)) isAgg58 sizeOf58 rfl q rfl (s.cells_of (m:=11) z1 rfl)) fun a q=>zl q (r_loadA (cs:=(cV y_66)) isAgg58 sizeOf58 rfl q rfl (s.cells_of (m:=11) z0 rfl)) fun a q=>?_
 obtain ⟨y_76,h_77,H⟩:=bs H
 refine sl_callV call90 s q (by decide) rfl rfl rfl (value_Compare.calls y_55 y_66 h_77 _) fun a w s q=>?_
 refine za q rfl fun a q=>zn<|zq<|zr<|zm q rfl fun a q=>zl q (r_ibin q rfl rfl rfl) fun a q=>zn ?_
 refine wp_cond_split (q.ev rfl) (fun (hb_78 : (y_76 != 0) = true)=>?_) fun hb_78=>?_
 rw [ifb_t hb_78] at H
 refine zq<|zr<|zm q rfl fun a q=>za q rfl fun a q=>zn ?_
 obtain rfl:=Option.some.inj H
 refine wp_ret ?_
 repeat first | refine zt ?_ | refine zb ?_ | refine zo ?_
 exact ret_1 results89 q (rv_tmp q rfl) ⟨rfl,s.bel⟩
 rw [ifb_f hb_78] at H
 refine wp_skip<|zr<|zl q (r_ibin q rfl rfl rfl) fun a q=>zm q rfl fun a q=>zn ?_
 exact ⟨_,Nat.lt_succ_self _,(IntKind.i64.wrap (x_27 + 1)),H,q.sub (zc (zc (zc (zc (zc (zc zz)))))),s.trunc 0⟩
 rw [ifb_f hb_54] at H
 refine wp_exit ?_
 refine zq<|zq<|zr<|zm q rfl fun a q=>zl q (r_len_R underlying31 h0_0 q rfl) fun a q=>zm q rfl fun a q=>zl q (r_len_R underlying31 h1_0 q rfl) fun a q=>zl q (r_ibin q rfl rfl rfl) fun a q=>zn ?_
 refine wp_cond_split (q.ev rfl) (fun (hb_79 : (decide ((a0.length : Int) < (a1.length : Int))) = true)=>?_) fun hb_79=>?_
 rw [ifb_t hb_79] at H
 refine zq<|zr<|za q rfl fun a q=>zn ?_
 obtain rfl:=Option.some.inj H
 refine wp_ret ?_
 repeat first | refine zt ?_ | refine zb ?_ | refine zo ?_
 exact ret_1 results89 q (rv_tmp q rfl) ⟨rfl,s.bel⟩
 rw [ifb_f hb_79] at H
 refine wp_skip<|zq<|zr<|za q rfl fun a q=>zn ?_
 obtain rfl:=Option.some.inj H
 refine wp_ret ?_
 repeat first | refine zt ?_ | refine zb ?_ | refine zo ?_
 exact ret_1 results89 q (rv_tmp q rfl) ⟨rfl,s.bel⟩
theorem table_order.calls (a0 : List api_Value) (a1 : List api_Value) {w0 : World} {RA : Hp} {v0_0 : Value} {v1_0 : Value} (hRA : RA.sub w0) (h0_0 : SlR ty_api_Value RA v0_0 a0) (h1_0 : SlR ty_api_Value RA v1_0 a1) {r : Int} (H : table_order a0 a1 = some r) : CallsV prog 60 #[v0_0,v1_0] w0 (I6 r):=by
 unfold table_order at H
 refine enter (args:=[v0_0,v1_0]) func60 rfl ntmps60 rfl fun a q=>?_
 have s:=St.init (R:=fun _=>none) (w:=w0) (fun _ _ h=>by cases h)
 have hRL:=RLe.refl (M:=[]) w0 (fun _=>none)
 refine zq<|zr<|za q rfl fun a q=>zn<|zq<|zr<|zm q rfl fun a q=>zm q rfl fun a q=>?_
 obtain ⟨y_1,h_2,H⟩:=bs H
 refine sl_callV call89 s q (by decide) rfl rfl rfl (slices_CompareFunc_api_Value_api_Value_api_Value_api_Value_f_value_Compare.calls a0 a1 (lentOf_sub [] _) (h0_0.mono (s.raLe0 hRA nil_not)) (h1_0.mono (s.raLe0 hRA nil_not)) h_2) fun a w s q=>?_
 refine za q rfl fun a q=>zn ?_
 obtain rfl:=Option.some.inj H
 refine wp_ret ?_
 repeat first | refine zt ?_ | refine zb ?_ | refine zo ?_
 exact ret_1 results60 q (rv_tmp q rfl) ⟨rfl,s.bel⟩
set_option maxHeartbeats 4000000 in
set_option maxRecDepth 100000 in
theorem slices_SortFunc_api_Value_api_Value_f_table_order.calls (a0 : List (List api_Value)) {w0 : World} {R : Hp} {M : List Own} {v0 : Value} {cs0 : List Value} (hS0 : St M w0 w0 R [.row 31 1 v0 a0.length cs0]) (h0 : Reps (tySl ty_api_Value) R cs0 a0) {r : List (List api_Value)} (H : slices_SortFunc_api_Value_api_Value_f_table_order a0 = some r) :
    Calls Tryz.prog 59 #[v0, .func (.func 60) #[] #[]] w0 (Rets fun v w' => ∃ (R' : Hp) (cu0 : List Value), v = .tuple #[] ∧ St M w0 w' R' [.row 31 1 v0 r.length cu0] ∧ RLe M w0 R R' ∧ Reps (tySl ty_api_Value) R' cu0 r ∧ cu0.Perm cs0) := by
  unfold slices_SortFunc_api_Value_api_Value_f_table_order at H
  exact sort_calls sortL59 (ty := (tySl ty_api_Value)) rfl Tryz.call60 hS0 h0 (fun w hsub u1 u2 x y i hx hy hi => by
    obtain ⟨v1, e1, s1⟩ := hx
    obtain ⟨v2, e2, s2⟩ := hy
    cases e1; cases e2
    exact table_order.calls x y hsub s1 s2 hi) H
theorem table_Canon.calls (a0 : api_Table) {w0 : World} {R : Hp} {RA : Hp} {v0_0 : Value} {v0_1 : Value} (hRA : RA.sub w0) (hR : R.sub w0) (h0_0 : SlR ty_api_Col RA v0_0 a0.Cols) (h0_1 : SlR (tySl ty_api_Value) RA v0_1 a0.Rows) {r : api_Table} (H : table_Canon a0 = some r) : Calls prog 35 #[.agg #[v0_0,v0_1]] w0 (Rets fun v w'=>∃ (R' : Hp) (u0 : Value) (cu0 : List Value) (u1 : Value) (cu1 : List Value),v = .agg #[u0,u1] ∧ St [] w0 w' R' [.row 65 2 u0 r.Cols.length cu0,.row 31 1 u1 r.Rows.length cu1] ∧ RLe [] w0 R R' ∧ Reps ty_api_Col R' cu0 r.Cols ∧ Reps (tySl ty_api_Value) R' cu1 r.Rows ∧ Apart R R' cu1):=by
 unfold table_Canon at H
 refine enter (args:=[.agg #[v0_0,v0_1]]) func35 rfl ntmps35 rfl fun a q=>?_
 have s:=St.init hR
 have hRL:=RLe.refl (M:=[]) w0 R
 refine zq<|zr ?_
 refine sl_box s q (by decide) rfl rfl (c:=[v0_0,v0_1]) rfl fun a w b_1 s q=>?_
 refine sl_alloc zeroValue41 s q (by decide) rfl rfl fun a w b_2 s q=>?_
 refine zn<|zq<|zr<|zl q (r_fieldAddr underlying41 rfl sizeOf38 q rfl) fun a q=>zl q (r_load isAgg38 q rfl (s.cell z1 rfl)) fun a q=>?_
 obtain ⟨y_3,h_4,H⟩:=bs H
 refine sl_call call21 q (by decide) rfl rfl rfl (slices_Clone_api_Col_api_Col.calls a0.Cols (lentOf_sub [] _) s.sub (h0_0.mono (s.raLe0 hRA nil_not)) h_4) fun a v_ w hv_ q=>?_
 obtain ⟨R_5,v_8,cs_9,hv_,hr_,hl_6,hq_10⟩:=hv_
 have hv_:=hv_.symm
 subst hv_
 obtain ⟨s,hl_6⟩:=s.sp0.back hr_ hl_6
 have s:=s.un1
 have hRL:=hRL.trans hl_6
 have ho_11:=s.row_one z0
 refine zl q (r_buildC (ps:=[(0,v_8)]) (c:=[v_8,.slice none 0 0]) underlying41 zeroValue41 places41 q rfl (pc_cons (cells1 ho_11) pc_nil) rfl rfl) fun a q=>?_
 refine sl_alloc zeroValue41 s q (by decide) rfl rfl fun a w b_12 s q=>?_
 refine sl_storeA (vs:=[v_8,.slice none 0 0]) (c':=[v_8,.slice none 0 0]) sizeOf41 s q rfl rfl rfl rfl (all_cons (s.row_one z1) (zc zz)) (Nat.le_of_ble_eq_true rfl) rfl fun a w s q=>?_
 refine zn<|zq<|zq<|zr<|zl q (r_fieldAddr underlying41 rfl sizeOf39 q rfl) fun a q=>zl q (r_load isAgg39 q rfl (s.cell z3 rfl)) fun a q=>zl q (r_len_R underlying39 h0_1 q rfl) fun a q=>zm q rfl fun a q=>zn ?_
 refine wp_block ?_
 refine wp_loop_k (fun k_l0 a w=>∃ (x_79 : List (List api_Value)) (x_84 : Int) (R_85 : Hp) (v_80 : Value) (cs_81 : List Value),table_Canon.l0 a0 y_3 k_l0 x_79 x_84 = some r ∧ RLe [] w0 R_5 R_85 ∧ Reps (tySl ty_api_Value) R_85 cs_81 x_79 ∧ Apart R R_85 cs_81 ∧ Kn 29 a [(2,.pointer (some ⟨b_2,0,none⟩)),(3,.pointer (some ⟨b_12,0,none⟩)),(11,v0_1),(12,I6 (a0.Rows.length : Int)),(13,I6 x_84)] ∧ St [] w0 w R_85 [.cells b_2 [.slice none 0 0,.slice none 0 0] 41,.row 65 2 v_8 y_3.length cs_9,.row 31 1 v_80 x_79.length cs_81,.cells b_12 [v_8,v_80] 41]) (((a0.Rows.length : Int) - 0).toNat + 1) ?_ ?_
 have s:=s.row_nil 31 1
 have hq_144 : Reps (tySl ty_api_Value) R_5 [] ([] : List (List api_Value)):=Reps.nil _ _
 have s:=s.pk1
 have s:=s.pk1
 have s:=s.pk2
 have s:=s.pk3
 exact ⟨[],0,_,_,_,H,(RLe.refl _ _),hq_144,(Apart.nil _ _),q.sub (zc (zc (zc (zc (zc zz))))),s.trunc 4⟩
 rintro k_l0 a w ⟨x_79,x_84,R_85,v_80,cs_81,H,hl_86,hq_82,hap_83,q,s⟩
 rcases k_l0 with _ | k_l0
 cases H
 rw [table_Canon.l0.eq_2] at H
 have hRL:=hRL.trans hl_86
 refine zq<|zr<|zl q (r_ibin q rfl rfl rfl) fun a q=>zn<|zq ?_
 refine wp_cond_split (q.ev rfl) (fun (hb_145 : (decide (x_84 < (a0.Rows.length : Int))) = true)=>?_) fun hb_145=>?_
 rw [ifb_t hb_145] at H
 refine wp_skip<|zq ?_
 refine wp_block ?_
 refine zq<|zr ?_
 obtain ⟨y_146,h_147,H⟩:=bs H
 obtain ⟨b_148,o_149,c_150,cs_151,hv_152,hr_153,hc_154,h_1470,h_1471⟩:=h0_1.ix h_147
 obtain ⟨v_155,rfl,hs_156⟩:=hr_153
 refine zl q (r_indexAddr_R underlying39 sizeOf31 hv_152 h_1470 h_1471 q rfl rfl) fun a q=>zl q (r_load isAgg31 q rfl ((s.ra hRA nil_not).cell (hc_154 0 _ rfl))) fun a q=>za q rfl fun a q=>zn ?_
 refine parT_region (C:=fun w=>St [] w0 w R_85 [.cells b_2 [.slice none 0 0,.slice none 0 0] 41,.row 65 2 v_8 y_3.length cs_9,.row 31 1 v_80 x_79.length cs_81,.cells b_12 [v_8,v_80] 41]) 5 [(0,true),(1,true),(2,true),(3,false),(4,false)] mixed (by kernel_rfl) s (fun w s=>s) fun w s=>?_
 refine zp rfl q (fun w s=>r_fieldAddr underlying41 rfl sizeOf39 q rfl) fun a q=>zp rfl q (fun w s=>r_load isAgg39 q rfl (s.cell z3 rfl)) fun a q=>zp rfl q (fun w s=>r_move q rfl) fun a q=>?_
 refine spw (k:=3) rfl rfl s ?_
 obtain ⟨y_179,h_180,H⟩:=bs H
 refine sl_call call55 q (by decide) rfl rfl rfl (slices_Clone_api_Value_api_Value.calls y_146 (lentOf_sub [] _) s.sub (hs_156.mono (s.raLe0 hRA nil_not)) h_180) fun a v_ w hv_ q=>?_
 obtain ⟨R_181,v_184,cs_185,hv_,hr_,hl_182,hq_186⟩:=hv_
 have hv_:=hv_.symm
 subst hv_
 obtain ⟨s,hl_182⟩:=s.sp0.back hr_ hl_182
 have s:=s.un1
 have hRL:=hRL.trans hl_182
 refine parK_nil ((s.pk4.pk4.pk4.pk4.trunc 4).lower hl_182.le) ?_
 refine spw (k:=4) rfl rfl ((s.pk4.pk4.pk4.pk4.trunc 4).lower hl_182.le) ?_
 have ho_187:=s.row_one z0
 refine sl_buildSliceF (zc:=[.slice none 0 0]) (ps:=[(0,v_184)]) (c:=[v_184]) [[v_184]] underlying39 sizeOf31 zeroValue31 rfl (pc_cons (cells1 ho_187) pc_nil) rfl rfl (Nat.le_of_ble_eq_true rfl) rfl (zc zz) rfl s q (by decide) rfl fun a w b_188 s q=>?_
 refine parK_nil ((s.pk5.pk5.pk5.pk5.trunc 4).lower hl_182.le) ?_
 refine thenL_nil ?_
 have s:=s.pk4
 have s:=s.pk2
 obtain ⟨R_189,s,hl_191,hs_190,hn_192⟩:=s.fz_rowN hq_186 rfl rfl
 have hRL:=hRL.trans hl_191
 obtain ⟨y_193,h_194,H⟩:=bs H
 refine sl_append_LA (ty:=(tySl ty_api_Value)) (ys:=[y_179]) elT39 (by decide) rfl (hq_82.mono (hl_182.le.trans hl_191.le)) rfl (Reps.cons (show Ty.rep (tySl ty_api_Value) _ [v_184] y_179 from ⟨_,rfl,hs_190⟩) (Reps.nil _ _)) rfl h_194 s q (by decide) rfl rfl rfl fun a w v_195 cs_196 hcq_199 hq_197 s q=>?_
 have hap_200 : Apart R R_189 cs_196:=by rw [hcq_199]; exact (Apart.app (hap_83.mono hl_182.le) (hl_6.le.trans (hl_86.le.trans hl_182.le)) hl_191.le hn_192)
 refine zl q (r_fieldAddr underlying41 rfl sizeOf39 q rfl) fun a q=>?_
 have s:=s.pk3
 refine sl_store1 (c':=[v_8,v_195]) sizeOf39 s q rfl rfl rfl (s.row_one z1) (Nat.le_of_ble_eq_true rfl) rfl fun a w s q=>?_
 refine wpList_nil (NoP_nil ?_)
 refine zr<|zl q (r_ibin q rfl rfl rfl) fun a q=>zm q rfl fun a q=>zn ?_
 have s:=s.pk1
 have s:=s.pk3
 have s:=s.pk3
 exact ⟨_,Nat.lt_succ_self _,y_193,(IntKind.i64.wrap (x_84 + 1)),_,_,_,H,(hl_86.trans (hl_182.trans hl_191)),hq_197,hap_200,q.sub (zc (zc (zc (zc (zc zz))))),s⟩
 rw [ifb_f hb_145] at H
 refine wp_exit ?_
 refine zq<|zr<|zl q (r_fieldAddr underlying41 rfl sizeOf39 q rfl) fun a q=>zl q (r_load isAgg39 q rfl (s.cell z3 rfl)) fun a q=>?_
 obtain ⟨y_201,h_202,H⟩:=bs H
 have s:=s.pk2
 have hS1:=s.sp1
 refine sl_call call59 q (by decide) rfl rfl rfl (slices_SortFunc_api_Value_api_Value_f_table_order.calls x_79 hS1.lend hq_82 h_202) fun a v_ w hv_ q=>?_
 obtain ⟨R_203,cs_206,hv_,hr_,hl_204,hq_207,hp_208⟩:=hv_
 have hv_:=hv_.symm
 subst hv_
 obtain ⟨s,hl_204⟩:=hS1.back hr_ hl_204
 have s:=s.un1
 have hRL:=hRL.trans hl_204
 refine zn<|zq<|zr<|zl q (r_loadA (cs:=[v_8,v_80]) isAgg41 sizeOf41 rfl q rfl (s.cells_of (m:=2) z3 rfl)) fun a q=>?_
 have s:=s.pk1
 refine sl_storeA (vs:=[v_8,v_80]) (c':=[v_8,v_80]) sizeOf41 s q rfl rfl rfl rfl (all_cons (s.row_one z2) (all_cons (s.row_one z1) zz)) (Nat.le_of_ble_eq_true rfl) rfl fun a w s q=>?_
 refine zn ?_
 obtain rfl:=Option.some.inj H
 refine wp_ret ?_
 repeat first | refine zt ?_ | refine zb ?_ | refine zo ?_
 exact ret_1 results35 q (rv_cell (c:=[v_8,v_80]) isAgg41 sizeOf41 s z0 rfl q rfl) ⟨_,rfl,_,_,_,_,_,rfl,(s.pk1.pk2.trunc 2),hRL,(hq_10.mono (hl_86.le.trans hl_204.le)),hq_207,((Apart.perm hap_83 hp_208).mono hl_204.le)⟩
theorem leaf_Leaf_Scan.calls (a0 : leaf_Leaf) (a1 : ByteArray) (a2 : Int) (a3 : Int) {w0 : World} {R : Hp} {M : List Own} {b0 : Nat} {v0_0 : Value} {nb0_1 : Nat} {v0p1_0 : Value} {cs0p1_0 : List Value} {mb0p1_1 : Nat} {mb0_2 : Nat} {E0_2 : List (MB Int)} (hS0 : St M w0 w0 R [.cells b0 [v0_0,I6 a0.room,I6 a0.points,.pointer (some ⟨nb0_1,0,none⟩),.map (some mb0_2)] 70,.cells nb0_1 [I6 a0.dict.most,v0p1_0,.map (some mb0p1_1)] 102,.row 113 2 v0p1_0 a0.dict.l.length cs0p1_0,.mp mb0p1_1 (kvs Value.string (Value.int .i64) a0.dict.ids),mbo mb0_2 (kvs (Value.int .i64) id (mbp E0_2)) 111 90 2 E0_2]) (h0_0 : SlR ty_api_Schema R v0_0 a0.schemas) (h0p1_0 : Reps ty_streams_stream R cs0p1_0 a0.dict.l) (h0_2 : MBel ty_api_Sample runs_Run.l R E0_2 a0.runs) {r : api_Table × Int × leaf_Leaf} (H : leaf_Leaf_Scan a0 a1 a2 a3 = some r) : Calls prog 12 #[.pointer (some ⟨b0,0,none⟩),.string a1,I6 a2,I6 a3] w0 (Rets fun v w'=>∃ (R' : Hp) (u0 : Value) (cu0 : List Value) (u1 : Value) (cu1 : List Value) (u2 : Value) (B3 : Nat) (u4 : Value) (cu4 : List Value) (B5 : Nat) (B6 : Nat) (E6 : List (MB Int)),v = .tuple #[.agg #[u0,u1],I6 r.2.1] ∧ St M w0 w' R' [.row 65 2 u0 r.1.Cols.length cu0,.row 31 1 u1 r.1.Rows.length cu1,.cells b0 [u2,I6 r.2.2.room,I6 r.2.2.points,.pointer (some ⟨B3,0,none⟩),.map (some B6)] 70,.cells B3 [I6 r.2.2.dict.most,u4,.map (some B5)] 102,.row 113 2 u4 r.2.2.dict.l.length cu4,.mp B5 (kvs Value.string (Value.int .i64) r.2.2.dict.ids),mbo B6 (kvs (Value.int .i64) id (mbp E6)) 111 90 2 E6] ∧ RLe M w0 R R' ∧ Reps ty_api_Col R' cu0 r.1.Cols ∧ Reps (tySl ty_api_Value) R' cu1 r.1.Rows ∧ SlR ty_api_Schema R' u2 r.2.2.schemas ∧ Reps ty_streams_stream R' cu4 r.2.2.dict.l ∧ MBel ty_api_Sample runs_Run.l R' E6 r.2.2.runs):=by
 unfold leaf_Leaf_Scan at H
 refine enter (args:=[.pointer (some ⟨b0,0,none⟩),.string a1,I6 a2,I6 a3]) func12 rfl ntmps12 rfl fun a q=>?_
 have s:=hS0
 have hRL:=RLe.refl (M:=M) w0 R
 refine zq<|zr ?_
 refine sl_alloc zeroValue41 s q (by decide) rfl rfl fun a w b_1 s q=>?_
 refine za q rfl fun a q=>zn<|zq<|zr<|zm q rfl fun a q=>zl q (r_nilCheck q rfl) fun a q=>zl q (r_fieldAddr underlying70 rfl sizeOf28 q rfl) fun a q=>zl q (r_load isAgg28 q rfl (s.cell z1 rfl)) fun a q=>zm q rfl fun a q=>?_
 obtain ⟨y_2,h_3,H⟩:=bs H
 refine sl_call call29 q (by decide) rfl rfl rfl (schema_Find.calls a0.schemas a1 s.sub h0_0 h_3) fun a v_ w hv_ q=>?_
 obtain ⟨R_4,v_6,v_8,hv_,hr_,hl_5,hs_7,hs_9⟩:=hv_
 have hv_:=hv_.symm
 subst hv_
 obtain ⟨s,hl_5⟩:=s.sp0.back hr_ hl_5
 have s:=s.un0
 have hRL:=hRL.trans hl_5
 refine zm q rfl fun a q=>zl q (r_extract q rfl rfl) fun a q=>zl q (r_extract q rfl rfl) fun a q=>?_
 refine sl_alloc zeroValue49 s q (by decide) rfl rfl fun a w b_10 s q=>?_
 refine sl_storeA (vs:=[.string y_2.1.Name,v_6,v_8]) (c':=[.string y_2.1.Name,v_6,v_8]) sizeOf49 s q rfl rfl rfl rfl (zc (all_cons hs_7.one (all_cons hs_9.one zz))) (Nat.le_of_ble_eq_true rfl) rfl fun a w s q=>?_
 refine za q rfl fun a q=>zn<|zq<|zq<|zr<|zm q rfl fun a q=>zl q (r_un q rfl (u_not _)) fun a q=>zn ?_
 refine wp_cond_split (q.ev rfl) (fun (hb_11 : (!y_2.2) = true)=>?_) fun hb_11=>?_
 rw [ifb_t hb_11] at H
 refine zq<|zr<|zl q (r_buildC (ps:=[]) (c:=[.slice none 0 0,.slice none 0 0]) underlying41 zeroValue41 places41 q rfl pc_nil rfl rfl) fun a q=>?_
 have s:=s.pk1
 refine sl_storeA (vs:=[.slice none 0 0,.slice none 0 0]) (c':=[.slice none 0 0,.slice none 0 0]) sizeOf41 s q rfl rfl rfl rfl (zc (zc zz)) (Nat.le_of_ble_eq_true rfl) rfl fun a w s q=>?_
 refine za q rfl fun a q=>zn ?_
 have s:=s.row_nil 65 2
 have hq_13 : Reps ty_api_Col R_4 [] ([] : List api_Col):=Reps.nil _ _
 have s:=s.row_nil 31 1
 have hq_15 : Reps (tySl ty_api_Value) R_4 [] ([] : List (List api_Value)):=Reps.nil _ _
 obtain rfl:=Option.some.inj H
 refine wp_ret ?_
 repeat first | refine zt ?_ | refine zb ?_ | refine zo ?_
 exact ret_2 results12 q (rv_cell (c:=[(.slice none 0 0),(.slice none 0 0)]) isAgg41 sizeOf41 s z2 rfl q rfl) (rv_tmp q rfl) ⟨_,rfl,_,_,_,_,_,_,_,_,_,_,_,_,rfl,(s.pk8.pk8.pk8.pk8.pk8.pk5.pk6.trunc 7),hRL,hq_13,hq_15,(h0_0.mono hl_5.le),(h0p1_0.mono hl_5.le),(h0_2.mono hl_5.le)⟩
 rw [ifb_f hb_11] at H
 refine wp_skip<|zq<|zr<|zl q (r_loadA (cs:=[.string y_2.1.Name,v_6,v_8]) isAgg49 sizeOf49 rfl q rfl (s.cells_of (m:=3) z0 rfl)) fun a q=>?_
 obtain ⟨y_16,h_17,H⟩:=bs H
 refine sl_call call30 q (by decide) rfl rfl rfl (schema_Cols.calls y_2.1 s.sub hs_7 hs_9 h_17) fun a v_ w hv_ q=>?_
 obtain ⟨R_18,v_21,cs_22,hv_,hr_,hl_19,hq_23⟩:=hv_
 have hv_:=hv_.symm
 subst hv_
 obtain ⟨s,hl_19⟩:=s.sp0.back hr_ hl_19
 have s:=s.un1
 have hRL:=hRL.trans hl_19
 have ho_24:=s.row_one z0
 refine zl q (r_buildC (ps:=[(0,v_21)]) (c:=[v_21,.slice none 0 0]) underlying41 zeroValue41 places41 q rfl (pc_cons (cells1 ho_24) pc_nil) rfl rfl) fun a q=>?_
 refine sl_alloc zeroValue41 s q (by decide) rfl rfl fun a w b_25 s q=>?_
 refine sl_storeA (vs:=[v_21,.slice none 0 0]) (c':=[v_21,.slice none 0 0]) sizeOf41 s q rfl rfl rfl rfl (all_cons (s.row_one z1) (zc zz)) (Nat.le_of_ble_eq_true rfl) rfl fun a w s q=>?_
 refine zn<|zq<|zq<|zr<|zm q rfl fun a q=>zl q (r_nilCheck q rfl) fun a q=>zl q (r_fieldAddr underlying70 rfl sizeOf66 q rfl) fun a q=>zl q (r_load isAgg66 q rfl (s.cell z4 rfl)) fun a q=>zm q rfl fun a q=>?_
 obtain ⟨y_26,h_27,H⟩:=bs H
 refine sl_call call31 q (by decide) rfl rfl rfl (streams_Dict_Of.calls a0.dict a1 (lentOf_sub [] _) s.sub (s.lend_box0 z5) (s.lend_row0 z6 (h0p1_0.mono (hl_5.le.trans hl_19.le)) rfl rfl) (s.lend_map0 z7) h_27) fun a v_ w hv_ q=>?_
 obtain ⟨R_28,v_31,cs_32,hv_,hr_,hl_29,hq_33⟩:=hv_
 have hv_:=hv_.symm
 subst hv_
 obtain ⟨s,hl_29⟩:=s.sp0.back hr_ hl_29
 have s:=s.un1
 have hRL:=hRL.trans hl_29
 refine zl q (r_len_O underlying22 s z0 q rfl) fun a q=>zm q rfl fun a q=>zn ?_
 refine wp_block ?_
 refine wp_loop_k (fun k_l0 a w=>∃ (x_289 : List (List api_Value)) (x_293 : Int) (R_294 : Hp) (v_290 : Value) (cs_291 : List Value) (E_286 : List (MB Int)),leaf_Leaf_Scan.l0 a0 a2 a3 y_16 y_26 k_l0 x_289 x_293 = some r ∧ RLe M w0 R_28 R_294 ∧ Reps (tySl ty_api_Value) R_294 cs_291 x_289 ∧ MBel ty_api_Sample runs_Run.l R_294 E_286 a0.runs ∧ Kn 88 a [(0,.pointer (some ⟨b0,0,none⟩)),(2,I6 a2),(3,I6 a3),(8,.pointer (some ⟨b_1,0,none⟩)),(12,.pointer (some ⟨b_25,0,none⟩)),(40,v_31),(41,I6 (y_26.length : Int)),(42,I6 x_293)] ∧ St M w0 w R_294 [.row 113 2 v0p1_0 a0.dict.l.length cs0p1_0,.mp mb0p1_1 (kvs Value.string (Value.int .i64) a0.dict.ids),.cells nb0_1 [I6 a0.dict.most,v0p1_0,.map (some mb0p1_1)] 102,mbo mb0_2 (kvs (Value.int .i64) id (mbp E_286)) 111 90 2 E_286,.cells b0 [v0_0,I6 a0.room,I6 a0.points,.pointer (some ⟨nb0_1,0,none⟩),.map (some mb0_2)] 70,.cells b_1 [.slice none 0 0,.slice none 0 0] 41,.row 65 2 v_21 y_16.length cs_22,.row 31 1 v_290 x_289.length cs_291,.cells b_25 [v_21,v_290] 41,.row 3 1 v_31 y_26.length cs_32]) (((y_26.length : Int) - 0).toNat + 1) ?_ ?_
 have s:=s.row_nil 31 1
 have hq_538 : Reps (tySl ty_api_Value) R_28 [] ([] : List (List api_Value)):=Reps.nil _ _
 have s:=s.pk1
 have s:=s.pk2
 have s:=s.pk2
 have s:=s.pk3
 have s:=s.pk5
 have s:=s.pk6
 have s:=s.pk10
 have s:=s.pk8
 have s:=s.pk10
 have s:=s.pk10
 exact ⟨[],0,_,_,_,_,H,(RLe.refl _ _),hq_538,(h0_2.mono (hl_5.le.trans (hl_19.le.trans hl_29.le))),q.sub (zc (zc (zc (zc (zc (zc (zc (zc zz)))))))),s.trunc 10⟩
 rintro k_l0 a w ⟨x_289,x_293,R_294,v_290,cs_291,E_286,H,hl_295,hq_292,hm_287,q,s⟩
 rcases k_l0 with _ | k_l0
 cases H
 rw [leaf_Leaf_Scan.l0.eq_2] at H
 have hRL:=hRL.trans hl_295
 refine zq<|zr<|zl q (r_ibin q rfl rfl rfl) fun a q=>zn<|zq ?_
 refine wp_cond_split (q.ev rfl) (fun (hb_539 : (decide (x_293 < (y_26.length : Int))) = true)=>?_) fun hb_539=>?_
 rw [ifb_t hb_539] at H
 refine wp_skip<|zq ?_
 refine wp_block ?_
 refine zq<|zr ?_
 obtain ⟨y_540,h_541,H⟩:=bs H
 obtain ⟨b_543,c_544,cs_545,hv_542,hr_546,hc_547,h_5410,h_5411⟩:=s.row_ix (.tail _ z8) (hq_33.mono hl_295.le) rfl rfl h_541
 subst hr_546
 refine zl q (r_indexAddr_R underlying22 sizeOf3 hv_542 h_5410 h_5411 q rfl rfl) fun a q=>zl q (r_load isAgg3 q rfl (s.row_cell (.tail _ z8) hv_542 (hc_547 0 _ rfl))) fun a q=>za q rfl fun a q=>zn<|zq<|zr<|zm q rfl fun a q=>zl q (r_nilCheck q rfl) fun a q=>zl q (r_fieldAddr underlying70 rfl sizeOf66 q rfl) fun a q=>zl q (r_load isAgg66 q rfl (s.cell z4 rfl)) fun a q=>zm q rfl fun a q=>?_
 obtain ⟨y_548,h_549,H⟩:=bs H
 refine sl_call call32 q (by decide) rfl rfl rfl (streams_Dict_Keys.calls a0.dict y_540 (lentOf_sub [] _) s.sub (s.lend_box0 z2) (s.lend_row0 z0 (h0p1_0.mono (hl_5.le.trans (hl_19.le.trans (hl_29.le.trans hl_295.le)))) rfl rfl) (s.lend_map0 z1) h_549) fun a v_ w hv_ q=>?_
 obtain ⟨R_550,v_553,cs_554,hv_,hr_,hl_551,hq_555⟩:=hv_
 have hv_:=hv_.symm
 subst hv_
 obtain ⟨s,hl_551⟩:=s.sp0.back hr_ hl_551
 have s:=s.un1
 have hRL:=hRL.trans hl_551
 refine zm q rfl fun a q=>zl q (r_extract q rfl rfl) fun a q=>zl q (r_extract q rfl rfl) fun a q=>zl q (r_extract q rfl rfl) fun a q=>za q rfl fun a q=>za q rfl fun a q=>za q rfl fun a q=>zn<|zq<|zr<|zm q rfl fun a q=>zl q (r_nilCheck q rfl) fun a q=>zl q (r_fieldAddr underlying70 rfl sizeOf68 q rfl) fun a q=>zl q (r_load isAgg68 q rfl (s.cell z5 rfl)) fun a q=>zm q rfl fun a q=>zl q (r_lookup_B (x:=y_540) underlying68 underlying3 (key_int .i64) zeroValue75 s z4 q rfl rfl) fun a q=>zm q rfl fun a q=>zm q rfl fun a q=>?_
 obtain ⟨y_556,h_557,H⟩:=bs H
 have s:=s.pk4
 obtain ⟨b_558,v_559,cs_560,s,hq_561,hk_562⟩:=St.btake (hm_287.mono hl_551.le) h_557 s
 rw [bhd_of hk_562] at q
 have s : St M w0 w R_550 [.cells b_558 [v_559] 111,.row 90 2 v_559 y_556.l.length cs_560,mbo mb0_2 (kvs (Value.int .i64) id (mbp E_286)) 111 90 2 (bdel E_286 y_540),.row 58 11 v_553 y_548.2.1.length cs_554,.row 113 2 v0p1_0 a0.dict.l.length cs0p1_0,.mp mb0p1_1 (kvs Value.string (Value.int .i64) a0.dict.ids),.cells nb0_1 [I6 a0.dict.most,v0p1_0,.map (some mb0p1_1)] 102,.cells b0 [v0_0,I6 a0.room,I6 a0.points,.pointer (some ⟨nb0_1,0,none⟩),.map (some mb0_2)] 70,.cells b_1 [.slice none 0 0,.slice none 0 0] 41,.row 65 2 v_21 y_16.length cs_22,.row 31 1 v_290 x_289.length cs_291,.cells b_25 [v_21,v_290] 41,.row 3 1 v_31 y_26.length cs_32]:=s
 obtain ⟨y_564,h_565,H⟩:=bs H
 refine sl_call call33 q (by decide) rfl rfl rfl (runs_Run_Range.calls y_556 a2 a3 (lentOf_sub [] _) s.sub (s.lend_box0 z0) (s.lend_row0 z1 hq_561 rfl rfl) h_565) fun a v_ w hv_ q=>?_
 obtain ⟨R_566,v_569,cs_570,hv_,hr_,hl_567,hq_571,hap_572⟩:=hv_
 have hv_:=hv_.symm
 subst hv_
 obtain ⟨s,hl_567⟩:=s.sp0.back hr_ hl_567
 have s:=s.un1
 have hRL:=hRL.trans hl_567
 have s:=s.pk3
 have s:=s.pk3
 have s:=s.pk3
 obtain ⟨E_573,s,hm_574⟩:=St.bput (y:=y_556) (hm_287.mono (hl_551.le.trans hl_567.le)) hk_562 (hq_561.mono hl_567.le) rfl s
 rw [mset_same h_557] at hm_574
 have s : St M w0 w R_566 [mbo mb0_2 (kvs (Value.int .i64) id (mbp E_573)) 111 90 2 E_573,.row 90 2 v_569 y_564.length cs_570,.row 58 11 v_553 y_548.2.1.length cs_554,.row 113 2 v0p1_0 a0.dict.l.length cs0p1_0,.mp mb0p1_1 (kvs Value.string (Value.int .i64) a0.dict.ids),.cells nb0_1 [I6 a0.dict.most,v0p1_0,.map (some mb0p1_1)] 102,.cells b0 [v0_0,I6 a0.room,I6 a0.points,.pointer (some ⟨nb0_1,0,none⟩),.map (some mb0_2)] 70,.cells b_1 [.slice none 0 0,.slice none 0 0] 41,.row 65 2 v_21 y_16.length cs_22,.row 31 1 v_290 x_289.length cs_291,.cells b_25 [v_21,v_290] 41,.row 3 1 v_31 y_26.length cs_32]:=s
 refine zl q (r_len_O underlying87 s z1 q rfl) fun a q=>zm q rfl fun a q=>zn ?_
 refine wp_block ?_
 refine wp_loop_k (fun k_l1 a w=>∃ (x_648 : List (List api_Value)) (x_654 : Int) (R_655 : Hp) (v_652 : Value) (v_649 : Value) (cs_650 : List Value),leaf_Leaf_Scan.l1 (leaf_Leaf_Scan.l0 a0 a2 a3 y_16 y_26 k_l0) y_26 x_293 y_548 y_564 k_l1 x_648 x_654 = some r ∧ RLe M w0 R_566 R_655 ∧ SlR ty_api_Value R_655 v_652 y_548.2.1 ∧ Reps (tySl ty_api_Value) R_655 cs_650 x_648 ∧ Kn 88 a [(0,.pointer (some ⟨b0,0,none⟩)),(2,I6 a2),(3,I6 a3),(8,.pointer (some ⟨b_1,0,none⟩)),(12,.pointer (some ⟨b_25,0,none⟩)),(16,v_652),(40,v_31),(41,I6 (y_26.length : Int)),(42,I6 x_293),(64,v_569),(65,I6 (y_564.length : Int)),(66,I6 x_654)] ∧ St M w0 w R_655 [.row 113 2 v0p1_0 a0.dict.l.length cs0p1_0,.mp mb0p1_1 (kvs Value.string (Value.int .i64) a0.dict.ids),.cells nb0_1 [I6 a0.dict.most,v0p1_0,.map (some mb0p1_1)] 102,mbo mb0_2 (kvs (Value.int .i64) id (mbp E_573)) 111 90 2 E_573,.cells b0 [v0_0,I6 a0.room,I6 a0.points,.pointer (some ⟨nb0_1,0,none⟩),.map (some mb0_2)] 70,.cells b_1 [.slice none 0 0,.slice none 0 0] 41,.row 65 2 v_21 y_16.length cs_22,.row 31 1 v_649 x_648.length cs_650,.cells b_25 [v_21,v_649] 41,.row 3 1 v_31 y_26.length cs_32,.row 90 2 v_569 y_564.length cs_570]) (((y_564.length : Int) - 0).toNat + 1) ?_ ?_
 have s:=s.pk2
 obtain ⟨R_717,s,hl_719,hs_718⟩:=s.fz_row (hq_555.mono hl_567.le) rfl rfl
 have hRL:=hRL.trans hl_719
 have s:=s.pk1
 have s:=s.pk10
 have s:=s.pk10
 have s:=s.pk10
 have s:=s.pk10
 have s:=s.pk10
 have s:=s.pk10
 have s:=s.pk7
 have s:=s.pk10
 have s:=s.pk10
 have s:=s.pk10
 exact ⟨x_289,0,_,v_553,_,_,H,hl_719,hs_718,(hq_292.mono (hl_551.le.trans (hl_567.le.trans hl_719.le))),q.sub (zc (zc (zc (zc (zc (zc (zc (zc (zc (zc (zc (zc zz)))))))))))),s⟩
 rintro k_l1 a w ⟨x_648,x_654,R_655,v_652,v_649,cs_650,H,hl_656,hs_653,hq_651,q,s⟩
 rcases k_l1 with _ | k_l1
 cases H
 rw [leaf_Leaf_Scan.l1.eq_2] at H
 have hRL:=hRL.trans hl_656
 refine zq<|zr<|zl q (r_ibin q rfl rfl rfl) fun a q=>zn<|zq ?_
 refine wp_cond_split (q.ev rfl) (fun (hb_720 : (decide (x_654 < (y_564.length : Int))) = true)=>?_) fun hb_720=>?_
 rw [ifb_t hb_720] at H
 refine wp_skip<|zq ?_
 refine wp_block ?_
 refine zq<|zr ?_
 obtain ⟨y_721,h_722,H⟩:=bs H
 obtain ⟨b_724,c_725,cs_726,hv_723,hr_727,hc_728,h_7220,h_7221⟩:=s.row_ix (.tail _ (.tail _ z8)) (hq_571.mono hl_656.le) rfl rfl h_722
 obtain ⟨v_729,rfl,hs_730⟩:=hr_727
 refine zl q (r_indexAddr_R underlying87 sizeOf90 hv_723 h_7220 h_7221 q rfl rfl) fun a q=>zl q (r_loadA (cs:=[I6 y_721.Time,v_729]) isAgg90 sizeOf90 rfl q rfl (fun j v hv=>by have:=s.row_cell (.tail _ (.tail _ z8)) hv_723 (hc_728 j v hv); simpa [Nat.add_assoc] using this)) fun a q=>?_
 refine sl_alloc zeroValue90 s q (by decide) rfl rfl fun a w b_731 s q=>?_
 refine sl_storeA (vs:=[I6 y_721.Time,v_729]) (c':=[I6 y_721.Time,v_729]) sizeOf90 s q rfl rfl rfl rfl (zc (all_cons hs_730.one zz)) (Nat.le_of_ble_eq_true rfl) rfl fun a w s q=>?_
 refine zn ?_
 refine parT_region (C:=fun w=>St M w0 w R_655 [.cells b_731 [I6 y_721.Time,v_729] 90,.row 113 2 v0p1_0 a0.dict.l.length cs0p1_0,.mp mb0p1_1 (kvs Value.string (Value.int .i64) a0.dict.ids),.cells nb0_1 [I6 a0.dict.most,v0p1_0,.map (some mb0p1_1)] 102,mbo mb0_2 (kvs (Value.int .i64) id (mbp E_573)) 111 90 2 E_573,.cells b0 [v0_0,I6 a0.room,I6 a0.points,.pointer (some ⟨nb0_1,0,none⟩),.map (some mb0_2)] 70,.cells b_1 [.slice none 0 0,.slice none 0 0] 41,.row 65 2 v_21 y_16.length cs_22,.row 31 1 v_649 x_648.length cs_650,.cells b_25 [v_21,v_649] 41,.row 3 1 v_31 y_26.length cs_32,.row 90 2 v_569 y_564.length cs_570]) 12 [(0,true),(1,true),(2,true),(3,true),(4,true),(6,true),(7,true),(8,true),(5,false),(9,false),(10,false),(11,false)] mixed (by kernel_rfl) s (fun w s=>s) fun w s=>?_
 refine zp rfl q (fun w s=>r_fieldAddr underlying41 rfl sizeOf39 q rfl) fun a q=>zp rfl q (fun w s=>r_load isAgg39 q rfl (s.cell (.tail _ z8) rfl)) fun a q=>zp rfl q (fun w s=>r_fieldAddr underlying90 rfl sizeOf3 q rfl) fun a q=>zp rfl q (fun w s=>r_load isAgg3 q rfl (s.cell z0 rfl)) fun a q=>zp rfl q (fun w s=>r_buildC (ps:=[(0,I6 1),(1,I6 y_721.Time)]) (c:=[I6 1,I6 y_721.Time,.string (⟨#[]⟩ : ByteArray),I6 0,I6 0,I6 0,I6 0,I6 0,I6 0,I6 0,I6 0]) underlying58 zeroValue58 places58 q rfl (pc_cons rfl (pc_cons rfl pc_nil)) rfl rfl) fun a q=>zp rfl q (fun w s=>r_move q rfl) fun a q=>?_
 refine zp rfl q (fun w s=>r_fieldAddr underlying90 rfl sizeOf31 q rfl) fun a q=>zp rfl q (fun w s=>r_load isAgg31 q rfl (s.cell z0 rfl)) fun a q=>?_
 refine spw (k:=5) rfl rfl s ?_
 refine sl_buildSliceF (zc:=[I6 0,I6 0,.string (⟨#[]⟩ : ByteArray),I6 0,I6 0,I6 0,I6 0,I6 0,I6 0,I6 0,I6 0]) (ps:=[(0,.agg #[I6 1,I6 y_721.Time,.string (⟨#[]⟩ : ByteArray),I6 0,I6 0,I6 0,I6 0,I6 0,I6 0,I6 0,I6 0])]) (c:=[I6 1,I6 y_721.Time,.string (⟨#[]⟩ : ByteArray),I6 0,I6 0,I6 0,I6 0,I6 0,I6 0,I6 0,I6 0]) [[I6 1,I6 y_721.Time,.string (⟨#[]⟩ : ByteArray),I6 0,I6 0,I6 0,I6 0,I6 0,I6 0,I6 0,I6 0]] underlying31 sizeOf58 zeroValue58 rfl (pc_cons rfl pc_nil) rfl rfl (Nat.le_of_ble_eq_true rfl) rfl (zc zz) rfl s q (by decide) rfl fun a w b_756 s q=>?_
 refine parK_nil (s.pk12.pk12.pk12.pk12.pk12.pk12.pk12.pk12.pk12.pk12.pk12.pk12.trunc 12) ?_
 refine spw (k:=9) rfl rfl (s.pk12.pk12.pk12.pk12.pk12.pk12.pk12.pk12.pk12.pk12.pk12.pk12.trunc 12) ?_
 refine sl_buildSliceF (zc:=[.slice none 0 0]) (ps:=[(0,.slice (some ⟨b_756,0,none⟩) 1 1),(1,v_652),(2,v_729)]) (c:=[.slice (some ⟨b_756,0,none⟩) 1 1,v_652,v_729]) [[.slice (some ⟨b_756,0,none⟩) 1 1],[v_652],[v_729]] underlying39 sizeOf31 zeroValue31 rfl (pc_cons rfl (pc_cons (cells1 hs_653.one) (pc_cons (cells1 hs_730.one) pc_nil))) rfl rfl (Nat.le_of_ble_eq_true rfl) rfl (zc (zc (zc zz))) rfl s q (by decide) rfl fun a w b_757 s q=>?_
 refine parK_nil (s.pk13.pk13.pk13.pk13.pk13.pk13.pk13.pk13.pk13.pk13.pk13.pk13.trunc 12) ?_
 refine spw (k:=10) rfl rfl (s.pk13.pk13.pk13.pk13.pk13.pk13.pk13.pk13.pk13.pk13.pk13.pk13.trunc 12) ?_
 have s:=s.pk1
 obtain ⟨R_758,s,hl_760,hs_759⟩:=s.fz_lit (ty:=ty_api_Value) (xs:=[(⟨1,y_721.Time,(⟨#[]⟩ : ByteArray),(⟨0,0,0,0,0,0,0,0⟩ : Arr8)⟩ : api_Value)]) (Reps.cons (show Ty.rep ty_api_Value _ [I6 1,I6 y_721.Time,.string (⟨#[]⟩ : ByteArray),I6 0,I6 0,I6 0,I6 0,I6 0,I6 0,I6 0,I6 0] (⟨1,y_721.Time,(⟨#[]⟩ : ByteArray),(⟨0,0,0,0,0,0,0,0⟩ : Arr8)⟩ : api_Value) from rfl) (Reps.nil _ _)) rfl
 have hRL:=hRL.trans hl_760
 obtain ⟨y_761,h_762,H⟩:=bs H
 refine sl_call call34 q (by decide) rfl rfl rfl (slices_Concat_api_Value_api_Value.calls [[(⟨1,y_721.Time,(⟨#[]⟩ : ByteArray),(⟨0,0,0,0,0,0,0,0⟩ : Arr8)⟩ : api_Value)],y_548.2.1,y_721.Vals] (lentOf_sub [] _) s.sub (s.lend_lit0 (ty:=(tySl ty_api_Value)) (xs:=[[(⟨1,y_721.Time,(⟨#[]⟩ : ByteArray),(⟨0,0,0,0,0,0,0,0⟩ : Arr8)⟩ : api_Value)],y_548.2.1,y_721.Vals]) z0 (Reps.cons (show Ty.rep (tySl ty_api_Value) _ [(.slice (some ⟨b_756,0,none⟩) 1 1)] [(⟨1,y_721.Time,(⟨#[]⟩ : ByteArray),(⟨0,0,0,0,0,0,0,0⟩ : Arr8)⟩ : api_Value)] from ⟨_,rfl,hs_759⟩) (Reps.cons (show Ty.rep (tySl ty_api_Value) _ [v_652] y_548.2.1 from ⟨_,rfl,(hs_653.mono hl_760.le)⟩) (Reps.cons (show Ty.rep (tySl ty_api_Value) _ [v_729] y_721.Vals from ⟨_,rfl,(hs_730.mono hl_760.le)⟩) (Reps.nil _ _)))) rfl) h_762) fun a v_ w hv_ q=>?_
 obtain ⟨R_763,v_766,cs_767,hv_,hr_,hl_764,hq_768⟩:=hv_
 have hv_:=hv_.symm
 subst hv_
 obtain ⟨s,hl_764⟩:=s.sp0.back hr_ hl_764
 have s:=s.un1
 have hRL:=hRL.trans hl_764
 refine parK_nil ((s.pk13.pk13.pk13.pk13.pk13.pk13.pk13.pk13.pk13.pk13.pk13.pk13.trunc 12).lower (hl_760.le.trans hl_764.le)) ?_
 refine spw (k:=11) rfl rfl ((s.pk13.pk13.pk13.pk13.pk13.pk13.pk13.pk13.pk13.pk13.pk13.pk13.trunc 12).lower (hl_760.le.trans hl_764.le)) ?_
 have ho_769:=s.row_one z0
 refine sl_buildSliceF (zc:=[.slice none 0 0]) (ps:=[(0,v_766)]) (c:=[v_766]) [[v_766]] underlying39 sizeOf31 zeroValue31 rfl (pc_cons (cells1 ho_769) pc_nil) rfl rfl (Nat.le_of_ble_eq_true rfl) rfl (zc zz) rfl s q (by decide) rfl fun a w b_770 s q=>?_
 refine parK_nil ((s.pk14.pk14.pk14.pk14.pk14.pk14.pk14.pk14.pk14.pk14.pk14.pk14.trunc 12).lower (hl_760.le.trans hl_764.le)) ?_
 refine thenL_nil ?_
 have s:=s.pk11
 have s:=s.pk2
 obtain ⟨R_771,s,hl_773,hs_772⟩:=s.fz_row hq_768 rfl rfl
 have hRL:=hRL.trans hl_773
 obtain ⟨y_774,h_775,H⟩:=bs H
 refine sl_append_L (ty:=(tySl ty_api_Value)) (ys:=[y_761]) elT39 (by decide) rfl (hq_651.mono (hl_760.le.trans (hl_764.le.trans hl_773.le))) rfl (Reps.cons (show Ty.rep (tySl ty_api_Value) _ [v_766] y_761 from ⟨_,rfl,hs_772⟩) (Reps.nil _ _)) rfl h_775 s q (by decide) rfl rfl rfl fun a w v_776 cs_777 hq_778 s q=>?_
 refine zl q (r_fieldAddr underlying41 rfl sizeOf39 q rfl) fun a q=>?_
 have s:=s.pk10
 refine sl_store1 (c':=[v_21,v_776]) sizeOf39 s q rfl rfl rfl (s.row_one z1) (Nat.le_of_ble_eq_true rfl) rfl fun a w s q=>?_
 refine wpList_nil (NoP_nil ?_)
 refine zr<|zl q (r_ibin q rfl rfl rfl) fun a q=>zm q rfl fun a q=>zn ?_
 have s:=s.pk12
 have s:=s.pk12
 have s:=s.pk2
 have s:=s.pk3
 have s:=s.pk12
 have s:=s.pk12
 have s:=s.pk12
 have s:=s.pk12
 have s:=s.pk12
 have s:=s.pk12
 have s:=s.pk12
 exact ⟨_,Nat.lt_succ_self _,y_774,(IntKind.i64.wrap (x_654 + 1)),_,v_652,_,_,H,(hl_656.trans (hl_760.trans (hl_764.trans hl_773))),(hs_653.mono (hl_760.le.trans (hl_764.le.trans hl_773.le))),hq_778,q.sub (zc (zc (zc (zc (zc (zc (zc (zc (zc (zc (zc (zc zz)))))))))))),s.trunc 11⟩
 rw [ifb_f hb_720] at H
 refine wp_exit ?_
 refine zr<|zl q (r_ibin q rfl rfl rfl) fun a q=>zm q rfl fun a q=>zn ?_
 have s:=s.pk9
 have s:=s.pk9
 have s:=s.pk9
 have s:=s.pk9
 have s:=s.pk9
 have s:=s.pk9
 have s:=s.pk9
 have s:=s.pk9
 have s:=s.pk9
 have s:=s.pk9
 exact ⟨_,Nat.lt_succ_self _,x_648,(IntKind.i64.wrap (x_293 + 1)),_,_,_,_,H,(hl_295.trans (hl_551.trans (hl_567.trans hl_656))),hq_651,(hm_574.mono hl_656.le),q.sub (zc (zc (zc (zc (zc (zc (zc (zc zz)))))))),s.trunc 10⟩
 rw [ifb_f hb_539] at H
 refine wp_exit ?_
 refine zq<|zr<|zl q (r_loadA (cs:=[v_21,v_290]) isAgg41 sizeOf41 rfl q rfl (s.cells_of (m:=2) z8 rfl)) fun a q=>?_
 obtain ⟨y_780,h_781,H⟩:=bs H
 refine sl_call call35 q (by decide) rfl rfl rfl (table_Canon.calls (⟨y_16,x_289⟩ : api_Table) (lentOf_sub [] _) s.sub (s.lend_row0 z6 (hq_23.mono (hl_29.le.trans hl_295.le)) rfl rfl) (s.lend_row0 z7 hq_292 rfl rfl) h_781) fun a v_ w hv_ q=>?_
 obtain ⟨R_782,v_785,cs_786,v_789,cs_790,hv_,hr_,hl_783,hq_787,hq_791,hap_792⟩:=hv_
 have hv_:=hv_.symm
 subst hv_
 obtain ⟨s,hl_783⟩:=s.sp0.back hr_ hl_783
 have s:=s.un2
 have hRL:=hRL.trans hl_783
 have s:=s.pk7
 refine sl_storeA (vs:=[v_785,v_789]) (c':=[v_785,v_789]) sizeOf41 s q rfl rfl rfl rfl (all_cons (s.row_one z1) (all_cons (s.row_one z2) zz)) (Nat.le_of_ble_eq_true rfl) rfl fun a w s q=>?_
 refine za q rfl fun a q=>zn ?_
 obtain rfl:=Option.some.inj H
 refine wp_ret ?_
 repeat first | refine zt ?_ | refine zb ?_ | refine zo ?_
 exact ret_2 results12 q (rv_cell (c:=[v_785,v_789]) isAgg41 sizeOf41 s z0 rfl q rfl) (rv_tmp q rfl) ⟨_,rfl,_,_,_,_,_,_,_,_,_,_,_,_,rfl,(s.pk6.pk5.pk5.pk6.pk7.pk7.pk7.trunc 7),hRL,hq_787,hq_791,(h0_0.mono (hl_5.le.trans (hl_19.le.trans (hl_29.le.trans (hl_295.le.trans hl_783.le))))),(h0p1_0.mono (hl_5.le.trans (hl_19.le.trans (hl_29.le.trans (hl_295.le.trans hl_783.le))))),(hm_287.mono hl_783.le)⟩
theorem leaf_Leaf_Points.calls (a0 : leaf_Leaf) {w0 : World} {R : Hp} {M : List Own} {b0 : Nat} {v0_0 : Value} {nb0_1 : Nat} {v0p1_0 : Value} {cs0p1_0 : List Value} {mb0p1_1 : Nat} {mb0_2 : Nat} {E0_2 : List (MB Int)} (hS0 : St M w0 w0 R [.cells b0 [v0_0,I6 a0.room,I6 a0.points,.pointer (some ⟨nb0_1,0,none⟩),.map (some mb0_2)] 70,.cells nb0_1 [I6 a0.dict.most,v0p1_0,.map (some mb0p1_1)] 102,.row 113 2 v0p1_0 a0.dict.l.length cs0p1_0,.mp mb0p1_1 (kvs Value.string (Value.int .i64) a0.dict.ids),mbo mb0_2 (kvs (Value.int .i64) id (mbp E0_2)) 111 90 2 E0_2]) (h0_0 : SlR ty_api_Schema R v0_0 a0.schemas) (h0p1_0 : Reps ty_streams_stream R cs0p1_0 a0.dict.l) (h0_2 : MBel ty_api_Sample runs_Run.l R E0_2 a0.runs) {r : Int × leaf_Leaf} (H : leaf_Leaf_Points a0 = some r) : Calls prog 14 #[.pointer (some ⟨b0,0,none⟩)] w0 (Rets fun v w'=>∃ (R' : Hp) (u0 : Value) (B1 : Nat) (u2 : Value) (cu2 : List Value) (B3 : Nat) (B4 : Nat) (E4 : List (MB Int)),v = I6 r.1 ∧ St M w0 w' R' [.cells b0 [u0,I6 r.2.room,I6 r.2.points,.pointer (some ⟨B1,0,none⟩),.map (some B4)] 70,.cells B1 [I6 r.2.dict.most,u2,.map (some B3)] 102,.row 113 2 u2 r.2.dict.l.length cu2,.mp B3 (kvs Value.string (Value.int .i64) r.2.dict.ids),mbo B4 (kvs (Value.int .i64) id (mbp E4)) 111 90 2 E4] ∧ RLe M w0 R R' ∧ SlR ty_api_Schema R' u0 r.2.schemas ∧ Reps ty_streams_stream R' cu2 r.2.dict.l ∧ MBel ty_api_Sample runs_Run.l R' E4 r.2.runs):=by
 unfold leaf_Leaf_Points at H
 refine enter (args:=[.pointer (some ⟨b0,0,none⟩)]) func14 rfl ntmps14 rfl fun a q=>?_
 have s:=hS0
 have hRL:=RLe.refl (M:=M) w0 R
 refine zq<|zr<|za q rfl fun a q=>zn<|zq<|zr<|zm q rfl fun a q=>zl q (r_nilCheck q rfl) fun a q=>zl q (r_fieldAddr underlying70 rfl sizeOf3 q rfl) fun a q=>zl q (r_load isAgg3 q rfl (s.cell z0 rfl)) fun a q=>za q rfl fun a q=>zn ?_
 obtain rfl:=Option.some.inj H
 refine wp_ret ?_
 repeat first | refine zt ?_ | refine zb ?_ | refine zo ?_
 exact ret_1 results14 q (rv_tmp q rfl) ⟨_,rfl,_,_,_,_,_,_,_,_,rfl,s,hRL,h0_0,h0p1_0,h0_2⟩
theorem law08_shown.calls {w0 : World} {RA : Hp} (hRA : RA.sub w0) (hG : GF RA) {r : Bool} (H : law08_shown  = some r) : CallsV prog 7 #[] w0 (.bool r):=by
 unfold law08_shown at H
 refine enter (args:=[]) func7 rfl ntmps7 rfl fun a q=>?_
 have s:=St.init (R:=fun _=>none) (w:=w0) (fun _ _ h=>by cases h)
 have hRL:=RLe.refl (M:=[]) w0 (fun _=>none)
 refine zq<|zr<|za q rfl fun a q=>zn<|zq<|zr ?_
 obtain ⟨y_1,h_2,H⟩:=bs H
 refine sl_call call9 q (by decide) rfl rfl rfl (law08_load.calls s.sub h_2) fun a v_ w hv_ q=>?_
 obtain ⟨R_3,v_6,cs_7,hv_,hr_,hl_4,hq_8⟩:=hv_
 have hv_:=hv_.symm
 subst hv_
 obtain ⟨s,hl_4⟩:=s.sp0.back hr_ hl_4
 have s:=s.un1
 have hRL:=hRL.trans hl_4
 obtain ⟨R_9,s,hl_11,hs_10⟩:=s.fz_row hq_8 rfl rfl
 have hRL:=hRL.trans hl_11
 obtain ⟨y_12,h_13,H⟩:=bs H
 refine sl_call call8 q (by decide) rfl rfl rfl (leaf_New.calls y_1 2 (lentOf_sub [] _) s.sub hs_10 (GF.mono (s.raLe0 hRA nil_not) hG) h_13) fun a v_ w hv_ q=>?_
 rcases hv_ with ⟨h_29,R_31,hv_,hr_,hl_32⟩ | ⟨y_16,h_30,R_14,b_17,v_18,b_20,v_22,cs_23,mb_25,mb_26,E_27,hv_,hr_,hl_15,hs_19,hq_24,hm_28⟩
 rw [oel_none h_29] at H
 have hv_:=hv_.symm
 subst hv_
 obtain ⟨s,hl_32⟩:=s.sp0.back hr_ hl_32
 have s:=s.un0
 have hRL:=hRL.trans hl_32
 refine zm q rfl fun a q=>zl q (r_extract q rfl rfl) fun a q=>zl q (r_extract q rfl rfl) fun a q=>za q rfl fun a q=>za q rfl fun a q=>zn<|zq<|zr ?_
 obtain ⟨y_33,h_34,H⟩:=bs H
 refine sl_call call8 q (by decide) rfl rfl rfl (leaf_New.calls ([] : List api_Schema) 2 (lentOf_sub [] _) s.sub (SlR.nil ty_api_Schema _) (GF.mono (s.raLe0 hRA nil_not) hG) h_34) fun a v_ w hv_ q=>?_
 rcases hv_ with ⟨h_50,R_52,hv_,hr_,hl_53⟩ | ⟨y_37,h_51,R_35,b_38,v_39,b_41,v_43,cs_44,mb_46,mb_47,E_48,hv_,hr_,hl_36,hs_40,hq_45,hm_49⟩
 rw [oel_none h_50] at H
 have hv_:=hv_.symm
 subst hv_
 obtain ⟨s,hl_53⟩:=s.sp0.back hr_ hl_53
 have s:=s.un0
 have hRL:=hRL.trans hl_53
 refine zm q rfl fun a q=>zl q (r_extract q rfl rfl) fun a q=>zl q (r_extract q rfl rfl) fun a q=>za q rfl fun a q=>za q rfl fun a q=>zn<|zq<|zq<|zr<|zm q rfl fun a q=>zl q (r_pnn underlying24 q rfl rfl) fun a q=>zm q rfl fun a q=>zs q fun a q=>zs q fun a q=>zl q (r_pick q rfl rfl rfl) fun a q=>zm q rfl fun a q=>zs q fun a q=>zs q fun a q=>zl q (r_pick q rfl rfl rfl) fun a q=>zn ?_
 refine wp_cond_true (q.ev rfl) ?_
 refine zq<|zr<|za q rfl fun a q=>zn ?_
 obtain rfl:=Option.some.inj H
 refine wp_ret ?_
 repeat first | refine zt ?_ | refine zb ?_ | refine zo ?_
 exact ret_1 results7 q (rv_tmp q rfl) ⟨rfl,s.bel⟩
 rw [oel_some h_51] at H
 have hv_:=hv_.symm
 subst hv_
 obtain ⟨s,hl_36⟩:=s.sp0.back hr_ hl_36
 have s:=s.un5
 have hRL:=hRL.trans hl_36
 refine zm q rfl fun a q=>zl q (r_extract q rfl rfl) fun a q=>zl q (r_extract q rfl rfl) fun a q=>za q rfl fun a q=>za q rfl fun a q=>zn<|zq<|zq<|zr<|zm q rfl fun a q=>zl q (r_pnn underlying24 q rfl rfl) fun a q=>zm q rfl fun a q=>zs q fun a q=>zs q fun a q=>zl q (r_pick q rfl rfl rfl) fun a q=>zm q rfl fun a q=>zs q fun a q=>zs q fun a q=>zl q (r_pick q rfl rfl rfl) fun a q=>zn ?_
 refine wp_cond_true (q.ev rfl) ?_
 refine zq<|zr<|za q rfl fun a q=>zn ?_
 obtain rfl:=Option.some.inj H
 refine wp_ret ?_
 repeat first | refine zt ?_ | refine zb ?_ | refine zo ?_
 exact ret_1 results7 q (rv_tmp q rfl) ⟨rfl,s.bel⟩
 rw [oel_some h_30] at H
 have hv_:=hv_.symm
 subst hv_
 obtain ⟨s,hl_15⟩:=s.sp0.back hr_ hl_15
 have s:=s.un5
 have hRL:=hRL.trans hl_15
 refine zm q rfl fun a q=>zl q (r_extract q rfl rfl) fun a q=>zl q (r_extract q rfl rfl) fun a q=>za q rfl fun a q=>za q rfl fun a q=>zn<|zq<|zr ?_
 obtain ⟨y_54,h_55,H⟩:=bs H
 refine sl_call call8 q (by decide) rfl rfl rfl (leaf_New.calls ([] : List api_Schema) 2 (lentOf_sub [] _) s.sub (SlR.nil ty_api_Schema _) (GF.mono (s.raLe0 hRA nil_not) hG) h_55) fun a v_ w hv_ q=>?_
 rcases hv_ with ⟨h_71,R_73,hv_,hr_,hl_74⟩ | ⟨y_58,h_72,R_56,b_59,v_60,b_62,v_64,cs_65,mb_67,mb_68,E_69,hv_,hr_,hl_57,hs_61,hq_66,hm_70⟩
 rw [oel_none h_71] at H
 have hv_:=hv_.symm
 subst hv_
 obtain ⟨s,hl_74⟩:=s.sp0.back hr_ hl_74
 have s:=s.un0
 have hRL:=hRL.trans hl_74
 refine zm q rfl fun a q=>zl q (r_extract q rfl rfl) fun a q=>zl q (r_extract q rfl rfl) fun a q=>za q rfl fun a q=>za q rfl fun a q=>zn<|zq<|zq ?_
 refine wp_mid (fun a w=>∃ (x_76 : Bool),law08_shown.j0 y_16 x_76 = some r ∧ Kn 154 a [(1,.pointer (some ⟨b_17,0,none⟩)),(37,.bool x_76)] ∧ St [] w0 w R_73 [.row 113 2 v_22 y_16.dict.l.length cs_23,.mp mb_25 (kvs Value.string (Value.int .i64) y_16.dict.ids),.cells b_20 [I6 y_16.dict.most,v_22,.map (some mb_25)] 102,mbo mb_26 (kvs (Value.int .i64) id (mbp E_27)) 111 90 2 E_27,.cells b_17 [v_18,I6 y_16.room,I6 y_16.points,.pointer (some ⟨b_20,0,none⟩),.map (some mb_26)] 70]) ?_ ?_
 refine zr<|zm q rfl fun a q=>zl q (r_peq underlying24 q rfl rfl) fun a q=>zm q rfl fun a q=>zm q rfl fun a q=>zl q (r_ibin q rfl rfl rfl) fun a q=>zl q (r_pick q rfl rfl rfl) fun a q=>zm q rfl fun a q=>?_
 rcases or_b (y_12.2 != 0) with hb_78 | hb_78
 rw [ifb_t hb_78] at H
 refine zsw q (wft hb_78) fun a q=>zsw q (wft hb_78) fun a q=>zl q (r_pick_t hb_78 q rfl rfl) fun a q=>zn ?_
 have s:=s.pk4
 have s:=s.pk2
 have s:=s.pk4
 have s:=s.pk4
 exact ⟨true,H,q.sub (zc (zc zz)),s⟩
 rw [ifb_f hb_78] at H
 refine zw q (wff hb_78) (r_move q rfl) fun a q=>zw q (wff hb_78) (r_ibin q rfl rfl rfl) fun a q=>zl q (r_pick_f hb_78 q rfl rfl) fun a q=>zn ?_
 have s:=s.pk4
 have s:=s.pk2
 have s:=s.pk4
 have s:=s.pk4
 exact ⟨(y_54.2 != 50),H,q.sub (zc (zc zz)),s⟩
 rintro a w ⟨x_76,H,q,s⟩
 unfold law08_shown.j0 at H
 refine wp_cond_split (q.ev rfl) (fun (hb_79 : x_76 = true)=>?_) fun hb_79=>?_
 rw [ifb_t hb_79] at H
 refine zq<|zr<|za q rfl fun a q=>zn ?_
 obtain rfl:=Option.some.inj H
 refine wp_ret ?_
 repeat first | refine zt ?_ | refine zb ?_ | refine zo ?_
 exact ret_1 results7 q (rv_tmp q rfl) ⟨rfl,s.bel⟩
 rw [ifb_f hb_79] at H
 refine wp_skip<|zq<|zr<|zm q rfl fun a q=>?_
 obtain ⟨y_80,h_81,H⟩:=bs H
 refine sl_call call10 q (by decide) rfl rfl rfl (law08_point.calls (⟨#[97]⟩ : ByteArray) 5 7 s.sub h_81) fun a v_ w hv_ q=>?_
 obtain ⟨R_82,v_85,cs_86,v_89,cs_90,hv_,hr_,hl_83,hq_87,hq_91⟩:=hv_
 have hv_:=hv_.symm
 subst hv_
 obtain ⟨s,hl_83⟩:=s.sp0.back hr_ hl_83
 have s:=s.un2
 have hRL:=hRL.trans hl_83
 obtain ⟨y_92,h_93,H⟩:=bs H
 have s:=s.pk5
 have s:=s.pk4
 have s:=s.pk4
 have s:=s.pk5
 have s:=s.pk6
 have hS1:=s.sp5
 refine sl_call call11 q (by decide) rfl rfl rfl (leaf_Leaf_Write.calls y_16 y_80 (lentOf_sub _ _) lentOf_not hS1.lend (hs_19.mono (hl_74.le.trans hl_83.le)) (hq_24.mono (hl_74.le.trans hl_83.le)) (hm_28.mono (hl_74.le.trans hl_83.le)) (hS1.lend_row z0 hq_87 rfl rfl) (hS1.lend_row z1 hq_91 rfl rfl) (GF.mono (hS1.raLe hRA nil_not) hG) h_93) fun a v_ w hv_ q=>?_
 obtain ⟨R_94,v_96,b_98,v_100,cs_101,mb_103,mb_104,E_105,hv_,hr_,hl_95,hs_97,hq_102,hm_106⟩:=hv_
 have hv_:=hv_.symm
 subst hv_
 obtain ⟨s,hl_95⟩:=hS1.back hr_ hl_95
 have s:=s.un5
 have hRL:=hRL.trans hl_95
 refine zm q rfl fun a q=>zl q (r_extract q rfl rfl) fun a q=>zl q (r_extract q rfl rfl) fun a q=>za q rfl fun a q=>za q rfl fun a q=>zn<|zq<|zr<|zm q rfl fun a q=>?_
 obtain ⟨y_107,h_108,H⟩:=bs H
 refine sl_call call10 q (by decide) rfl rfl rfl (law08_point.calls (⟨#[97]⟩ : ByteArray) 5 8 s.sub h_108) fun a v_ w hv_ q=>?_
 obtain ⟨R_109,v_112,cs_113,v_116,cs_117,hv_,hr_,hl_110,hq_114,hq_118⟩:=hv_
 have hv_:=hv_.symm
 subst hv_
 obtain ⟨s,hl_110⟩:=s.sp0.back hr_ hl_110
 have s:=s.un2
 have hRL:=hRL.trans hl_110
 obtain ⟨y_119,h_120,H⟩:=bs H
 have s:=s.pk6
 have s:=s.pk6
 have s:=s.pk6
 have s:=s.pk6
 have s:=s.pk6
 have hS1:=s.sp5
 refine sl_call call11 q (by decide) rfl rfl rfl (leaf_Leaf_Write.calls y_92.2.2 y_107 (lentOf_sub _ _) lentOf_not hS1.lend (hs_97.mono hl_110.le) (hq_102.mono hl_110.le) (hm_106.mono hl_110.le) (hS1.lend_row z0 hq_114 rfl rfl) (hS1.lend_row z1 hq_118 rfl rfl) (GF.mono (hS1.raLe hRA nil_not) hG) h_120) fun a v_ w hv_ q=>?_
 obtain ⟨R_121,v_123,b_125,v_127,cs_128,mb_130,mb_131,E_132,hv_,hr_,hl_122,hs_124,hq_129,hm_133⟩:=hv_
 have hv_:=hv_.symm
 subst hv_
 obtain ⟨s,hl_122⟩:=hS1.back hr_ hl_122
 have s:=s.un5
 have hRL:=hRL.trans hl_122
 refine zm q rfl fun a q=>zl q (r_extract q rfl rfl) fun a q=>zl q (r_extract q rfl rfl) fun a q=>za q rfl fun a q=>za q rfl fun a q=>zn<|zq<|zr<|zm q rfl fun a q=>?_
 obtain ⟨y_134,h_135,H⟩:=bs H
 refine sl_call call10 q (by decide) rfl rfl rfl (law08_point.calls (⟨#[98]⟩ : ByteArray) 3 1 s.sub h_135) fun a v_ w hv_ q=>?_
 obtain ⟨R_136,v_139,cs_140,v_143,cs_144,hv_,hr_,hl_137,hq_141,hq_145⟩:=hv_
 have hv_:=hv_.symm
 subst hv_
 obtain ⟨s,hl_137⟩:=s.sp0.back hr_ hl_137
 have s:=s.un2
 have hRL:=hRL.trans hl_137
 obtain ⟨y_146,h_147,H⟩:=bs H
 have s:=s.pk6
 have s:=s.pk6
 have s:=s.pk6
 have s:=s.pk6
 have s:=s.pk6
 have hS1:=s.sp5
 refine sl_call call11 q (by decide) rfl rfl rfl (leaf_Leaf_Write.calls y_119.2.2 y_134 (lentOf_sub _ _) lentOf_not hS1.lend (hs_124.mono hl_137.le) (hq_129.mono hl_137.le) (hm_133.mono hl_137.le) (hS1.lend_row z0 hq_141 rfl rfl) (hS1.lend_row z1 hq_145 rfl rfl) (GF.mono (hS1.raLe hRA nil_not) hG) h_147) fun a v_ w hv_ q=>?_
 obtain ⟨R_148,v_150,b_152,v_154,cs_155,mb_157,mb_158,E_159,hv_,hr_,hl_149,hs_151,hq_156,hm_160⟩:=hv_
 have hv_:=hv_.symm
 subst hv_
 obtain ⟨s,hl_149⟩:=hS1.back hr_ hl_149
 have s:=s.un5
 have hRL:=hRL.trans hl_149
 refine zm q rfl fun a q=>zl q (r_extract q rfl rfl) fun a q=>zl q (r_extract q rfl rfl) fun a q=>za q rfl fun a q=>za q rfl fun a q=>zn<|zq<|zr<|zm q rfl fun a q=>?_
 obtain ⟨y_161,h_162,H⟩:=bs H
 refine sl_call call10 q (by decide) rfl rfl rfl (law08_point.calls (⟨#[99]⟩ : ByteArray) 1 1 s.sub h_162) fun a v_ w hv_ q=>?_
 obtain ⟨R_163,v_166,cs_167,v_170,cs_171,hv_,hr_,hl_164,hq_168,hq_172⟩:=hv_
 have hv_:=hv_.symm
 subst hv_
 obtain ⟨s,hl_164⟩:=s.sp0.back hr_ hl_164
 have s:=s.un2
 have hRL:=hRL.trans hl_164
 obtain ⟨y_173,h_174,H⟩:=bs H
 have s:=s.pk6
 have s:=s.pk6
 have s:=s.pk6
 have s:=s.pk6
 have s:=s.pk6
 have hS1:=s.sp5
 refine sl_call call11 q (by decide) rfl rfl rfl (leaf_Leaf_Write.calls y_146.2.2 y_161 (lentOf_sub _ _) lentOf_not hS1.lend (hs_151.mono hl_164.le) (hq_156.mono hl_164.le) (hm_160.mono hl_164.le) (hS1.lend_row z0 hq_168 rfl rfl) (hS1.lend_row z1 hq_172 rfl rfl) (GF.mono (hS1.raLe hRA nil_not) hG) h_174) fun a v_ w hv_ q=>?_
 obtain ⟨R_175,v_177,b_179,v_181,cs_182,mb_184,mb_185,E_186,hv_,hr_,hl_176,hs_178,hq_183,hm_187⟩:=hv_
 have hv_:=hv_.symm
 subst hv_
 obtain ⟨s,hl_176⟩:=hS1.back hr_ hl_176
 have s:=s.un5
 have hRL:=hRL.trans hl_176
 refine zm q rfl fun a q=>zl q (r_extract q rfl rfl) fun a q=>zl q (r_extract q rfl rfl) fun a q=>za q rfl fun a q=>za q rfl fun a q=>zn<|zq<|zr<|zm q rfl fun a q=>?_
 obtain ⟨y_188,h_189,H⟩:=bs H
 have s:=s.pk4
 have s:=s.pk4
 have s:=s.pk4
 have s:=s.pk4
 have s:=s.pk4
 have hS1:=s.sp5
 refine sl_call call12 q (by decide) rfl rfl rfl (leaf_Leaf_Scan.calls y_173.2.2 (⟨#[108,111,97,100]⟩ : ByteArray) 0 9 hS1.lend hs_178 hq_183 hm_187 h_189) fun a v_ w hv_ q=>?_
 obtain ⟨R_190,v_193,cs_194,v_197,cs_198,v_200,b_202,v_204,cs_205,mb_207,mb_208,E_209,hv_,hr_,hl_191,hq_195,hq_199,hs_201,hq_206,hm_210⟩:=hv_
 have hv_:=hv_.symm
 subst hv_
 obtain ⟨s,hl_191⟩:=hS1.back hr_ hl_191
 have s:=s.un7
 have hRL:=hRL.trans hl_191
 refine zm q rfl fun a q=>zl q (r_extract q rfl rfl) fun a q=>zl q (r_extract q rfl rfl) fun a q=>?_
 refine sl_alloc zeroValue41 s q (by decide) rfl rfl fun a w b_211 s q=>?_
 refine sl_storeA (vs:=[v_193,v_197]) (c':=[v_193,v_197]) sizeOf41 s q rfl rfl rfl rfl (all_cons (s.row_one z1) (all_cons (s.row_one z2) zz)) (Nat.le_of_ble_eq_true rfl) rfl fun a w s q=>?_
 refine za q rfl fun a q=>zn<|zq<|zr<|zm q rfl fun a q=>?_
 obtain ⟨y_212,h_213,H⟩:=bs H
 have s:=s.pk7
 have s:=s.pk7
 have s:=s.pk7
 have s:=s.pk7
 have s:=s.pk7
 have hS1:=s.sp5
 refine sl_call call12 q (by decide) rfl rfl rfl (leaf_Leaf_Scan.calls y_188.2.2 (⟨#[108,111,97,100]⟩ : ByteArray) 4 9 hS1.lend hs_201 hq_206 hm_210 h_213) fun a v_ w hv_ q=>?_
 obtain ⟨R_214,v_217,cs_218,v_221,cs_222,v_224,b_226,v_228,cs_229,mb_231,mb_232,E_233,hv_,hr_,hl_215,hq_219,hq_223,hs_225,hq_230,hm_234⟩:=hv_
 have hv_:=hv_.symm
 subst hv_
 obtain ⟨s,hl_215⟩:=hS1.back hr_ hl_215
 have s:=s.un7
 have hRL:=hRL.trans hl_215
 refine zm q rfl fun a q=>zl q (r_extract q rfl rfl) fun a q=>zl q (r_extract q rfl rfl) fun a q=>?_
 refine sl_alloc zeroValue41 s q (by decide) rfl rfl fun a w b_235 s q=>?_
 refine sl_storeA (vs:=[v_217,v_221]) (c':=[v_217,v_221]) sizeOf41 s q rfl rfl rfl rfl (all_cons (s.row_one z1) (all_cons (s.row_one z2) zz)) (Nat.le_of_ble_eq_true rfl) rfl fun a w s q=>?_
 refine za q rfl fun a q=>zn<|zq<|zr<|zm q rfl fun a q=>?_
 obtain ⟨y_236,h_237,H⟩:=bs H
 have s:=s.pk7
 have s:=s.pk7
 have s:=s.pk7
 have s:=s.pk7
 have s:=s.pk7
 have hS1:=s.sp5
 refine sl_call call12 q (by decide) rfl rfl rfl (leaf_Leaf_Scan.calls y_212.2.2 (⟨#[120]⟩ : ByteArray) 0 9 hS1.lend hs_225 hq_230 hm_234 h_237) fun a v_ w hv_ q=>?_
 obtain ⟨R_238,v_241,cs_242,v_245,cs_246,v_248,b_250,v_252,cs_253,mb_255,mb_256,E_257,hv_,hr_,hl_239,hq_243,hq_247,hs_249,hq_254,hm_258⟩:=hv_
 have hv_:=hv_.symm
 subst hv_
 obtain ⟨s,hl_239⟩:=hS1.back hr_ hl_239
 have s:=s.un7
 have hRL:=hRL.trans hl_239
 refine zm q rfl fun a q=>zl q (r_extract q rfl rfl) fun a q=>zl q (r_extract q rfl rfl) fun a q=>?_
 refine sl_alloc zeroValue41 s q (by decide) rfl rfl fun a w b_259 s q=>?_
 refine sl_storeA (vs:=[v_241,v_245]) (c':=[v_241,v_245]) sizeOf41 s q rfl rfl rfl rfl (all_cons (s.row_one z1) (all_cons (s.row_one z2) zz)) (Nat.le_of_ble_eq_true rfl) rfl fun a w s q=>?_
 refine za q rfl fun a q=>zn<|zq<|zr<|zm q rfl fun a q=>zm q rfl fun a q=>?_
 rcases or_b y_92.1 with hb_260 | hb_260
 rw [ifb_t hb_260] at H
 refine zw q (wtt hb_260) (r_move q rfl) fun a q=>zw q (wtt hb_260) (r_ibin q rfl rfl rfl) fun a q=>zl q (r_pick_t hb_260 q rfl rfl) fun a q=>zm q rfl fun a q=>?_
 rcases or_b (y_92.2.1 == 0) with hb_261 | hb_261
 rw [ifb_t hb_261] at H
 refine zw q (wtt hb_261) (r_move q rfl) fun a q=>zw q (wtt hb_261) (r_un q rfl (u_not _)) fun a q=>zl q (r_pick_t hb_261 q rfl rfl) fun a q=>zm q rfl fun a q=>?_
 rcases or_b (!y_119.1) with hb_262 | hb_262
 rw [ifb_t hb_262] at H
 refine zw q (wtt hb_262) (r_move q rfl) fun a q=>zw q (wtt hb_262) (r_ibin q rfl rfl rfl) fun a q=>zl q (r_pick_t hb_262 q rfl rfl) fun a q=>zm q rfl fun a q=>?_
 rcases or_b (y_119.2.1 == 0) with hb_263 | hb_263
 rw [ifb_t hb_263] at H
 refine zw q (wtt hb_263) (r_move q rfl) fun a q=>zl q (r_pick_t hb_263 q rfl rfl) fun a q=>zm q rfl fun a q=>?_
 rcases or_b y_146.1 with hb_264 | hb_264
 rw [ifb_t hb_264] at H
 refine zw q (wtt hb_264) (r_move q rfl) fun a q=>zw q (wtt hb_264) (r_ibin q rfl rfl rfl) fun a q=>zl q (r_pick_t hb_264 q rfl rfl) fun a q=>zm q rfl fun a q=>?_
 rcases or_b (y_146.2.1 == 0) with hb_265 | hb_265
 rw [ifb_t hb_265] at H
 refine zw q (wtt hb_265) (r_move q rfl) fun a q=>zw q (wtt hb_265) (r_un q rfl (u_not _)) fun a q=>zl q (r_pick_t hb_265 q rfl rfl) fun a q=>zm q rfl fun a q=>?_
 rcases or_b (!y_173.1) with hb_266 | hb_266
 rw [ifb_t hb_266] at H
 refine zw q (wtt hb_266) (r_move q rfl) fun a q=>zw q (wtt hb_266) (r_ibin q rfl rfl rfl) fun a q=>zl q (r_pick_t hb_266 q rfl rfl) fun a q=>zm q rfl fun a q=>?_
 rcases or_b (y_173.2.1 == 80) with hb_267 | hb_267
 rw [ifb_t hb_267] at H
 refine zw q (wtt hb_267) (r_move q rfl) fun a q=>zw q (wtt hb_267) (r_ibin q rfl rfl rfl) fun a q=>zl q (r_pick_t hb_267 q rfl rfl) fun a q=>zm q rfl fun a q=>?_
 rcases or_b (y_188.2.1 == 0) with hb_268 | hb_268
 rw [ifb_t hb_268] at H
 refine zw q (wtt hb_268) (r_fieldAddr underlying41 rfl sizeOf39 q rfl) fun a q=>zw q (wtt hb_268) (r_load isAgg39 q rfl (s.cell (.tail _ (.tail _ (.tail _ z8))) rfl)) fun a q=>zw q (wtt hb_268) (r_len_O underlying39 s (.tail _ (.tail _ (.tail _ (.tail _ (.tail _ z8))))) q rfl) fun a q=>zw q (wtt hb_268) (r_ibin q rfl rfl rfl) fun a q=>zl q (r_pick_t hb_268 q rfl rfl) fun a q=>zm q rfl fun a q=>?_
 rcases or_b ((y_188.1.Rows.length : Int) == 2) with hb_269 | hb_269
 rw [ifb_t hb_269] at H
 refine zw q (wtt hb_269) (r_fieldAddr underlying41 rfl sizeOf39 q rfl) fun a q=>zw q (wtt hb_269) (r_load isAgg39 q rfl (s.cell (.tail _ (.tail _ (.tail _ z8))) rfl)) fun a q=>?_
 obtain ⟨y_270,h_271,H⟩:=bs H
 obtain ⟨b_273,c_274,cs_275,hv_272,hr_276,hc_277,h_2710,h_2711⟩:=s.row_ix (.tail _ (.tail _ (.tail _ (.tail _ (.tail _ z8))))) (hq_199.mono (hl_215.le.trans hl_239.le)) rfl rfl h_271
 obtain ⟨v_278,rfl,hs_279⟩:=hr_276
 refine zw q (wtt hb_269) (r_indexAddr_R underlying39 sizeOf31 hv_272 h_2710 h_2711 q rfl rfl) fun a q=>zw q (wtt hb_269) (r_load isAgg31 q rfl (s.row_cell (.tail _ (.tail _ (.tail _ (.tail _ (.tail _ z8))))) hv_272 (hc_277 0 _ rfl))) fun a q=>?_
 obtain ⟨y_280,h_281,H⟩:=bs H
 obtain ⟨b_282,o_283,c_284,cs_285,hv_286,hr_287,hc_288,h_2810,h_2811⟩:=hs_279.ix h_281
 subst hr_287
 refine zw q (wtt hb_269) (r_indexAddr_R underlying31 sizeOf58 hv_286 h_2810 h_2811 q rfl rfl) fun a q=>zw q (wtt hb_269) (r_fieldAddr underlying58 rfl sizeOf3 q rfl) fun a q=>zw q (wtt hb_269) (r_load isAgg3 q rfl (s.sub.cell (hc_288 1 _ rfl))) fun a q=>zw q (wtt hb_269) (r_ibin q rfl rfl rfl) fun a q=>zl q (r_pick_t hb_269 q rfl rfl) fun a q=>zm q rfl fun a q=>?_
 rcases or_b (y_280.N == 3) with hb_289 | hb_289
 rw [ifb_t hb_289] at H
 refine zw q (wtt hb_289) (r_fieldAddr underlying41 rfl sizeOf39 q rfl) fun a q=>zw q (wtt hb_289) (r_load isAgg39 q rfl (s.cell (.tail _ (.tail _ (.tail _ z8))) rfl)) fun a q=>?_
 obtain ⟨y_290,h_291,H⟩:=bs H
 obtain ⟨b_293,c_294,cs_295,hv_292,hr_296,hc_297,h_2910,h_2911⟩:=s.row_ix (.tail _ (.tail _ (.tail _ (.tail _ (.tail _ z8))))) (hq_199.mono (hl_215.le.trans hl_239.le)) rfl rfl h_291
 obtain ⟨v_298,rfl,hs_299⟩:=hr_296
 refine zw q (wtt hb_289) (r_indexAddr_R underlying39 sizeOf31 hv_292 h_2910 h_2911 q rfl rfl) fun a q=>zw q (wtt hb_289) (r_load isAgg31 q rfl (s.row_cell (.tail _ (.tail _ (.tail _ (.tail _ (.tail _ z8))))) hv_292 (hc_297 0 _ rfl))) fun a q=>?_
 obtain ⟨y_300,h_301,H⟩:=bs H
 obtain ⟨b_302,o_303,c_304,cs_305,hv_306,hr_307,hc_308,h_3010,h_3011⟩:=hs_299.ix h_301
 subst hr_307
 refine zw q (wtt hb_289) (r_indexAddr_R underlying31 sizeOf58 hv_306 h_3010 h_3011 q rfl rfl) fun a q=>zw q (wtt hb_289) (r_fieldAddr underlying58 rfl sizeOf3 q rfl) fun a q=>zw q (wtt hb_289) (r_load isAgg3 q rfl (s.sub.cell (hc_308 1 _ rfl))) fun a q=>zw q (wtt hb_289) (r_ibin q rfl rfl rfl) fun a q=>zl q (r_pick_t hb_289 q rfl rfl) fun a q=>zm q rfl fun a q=>?_
 rcases or_b (y_300.N == 7) with hb_309 | hb_309
 rw [ifb_t hb_309] at H
 refine zw q (wtt hb_309) (r_move q rfl) fun a q=>zw q (wtt hb_309) (r_ibin q rfl rfl rfl) fun a q=>zl q (r_pick_t hb_309 q rfl rfl) fun a q=>zm q rfl fun a q=>?_
 rcases or_b (y_212.2.1 == 0) with hb_310 | hb_310
 rw [ifb_t hb_310] at H
 refine zw q (wtt hb_310) (r_fieldAddr underlying41 rfl sizeOf39 q rfl) fun a q=>zw q (wtt hb_310) (r_load isAgg39 q rfl (s.cell z8 rfl)) fun a q=>zw q (wtt hb_310) (r_len_O underlying39 s (.tail _ (.tail _ z8)) q rfl) fun a q=>zw q (wtt hb_310) (r_ibin q rfl rfl rfl) fun a q=>zl q (r_pick_t hb_310 q rfl rfl) fun a q=>zm q rfl fun a q=>?_
 rcases or_b ((y_212.1.Rows.length : Int) == 1) with hb_311 | hb_311
 rw [ifb_t hb_311] at H
 refine zw q (wtt hb_311) (r_move q rfl) fun a q=>zw q (wtt hb_311) (r_ibin q rfl rfl rfl) fun a q=>zl q (r_pick_t hb_311 q rfl rfl) fun a q=>zm q rfl fun a q=>?_
 rcases or_b (y_236.2.1 == 50) with hb_312 | hb_312
 rw [ifb_t hb_312] at H
 refine zw q (wtt hb_312) (r_move q rfl) fun a q=>?_
 obtain ⟨y_313,h_314,H⟩:=bs H
 have s:=s.pk7
 have s:=s.pk7
 have s:=s.pk7
 have s:=s.pk7
 have s:=s.pk7
 have hS1:=s.sp5
 refine sl_call call14 q (by decide) (wtt hb_312) rfl rfl (leaf_Leaf_Points.calls y_236.2.2 hS1.lend hs_249 hq_254 hm_258 h_314) fun a v_ w hv_ q=>?_
 obtain ⟨R_315,v_317,b_319,v_321,cs_322,mb_324,mb_325,E_326,hv_,hr_,hl_316,hs_318,hq_323,hm_327⟩:=hv_
 have hv_:=hv_.symm
 subst hv_
 obtain ⟨s,hl_316⟩:=hS1.back hr_ hl_316
 have s:=s.un5
 have hRL:=hRL.trans hl_316
 refine zw q (wtt hb_312) (r_ibin q rfl rfl rfl) fun a q=>zl q (r_pick_t hb_312 q rfl rfl) fun a q=>za q rfl fun a q=>zn ?_
 obtain rfl:=Option.some.inj H
 refine wp_ret ?_
 repeat first | refine zt ?_ | refine zb ?_ | refine zo ?_
 exact ret_1 results7 q (rv_tmp q rfl) ⟨rfl,s.bel⟩
 rw [ifb_f hb_312] at H
 refine zsw q (wtf hb_312) fun a q=>zsw q (wtf hb_312) fun a q=>zsw q (wtf hb_312) fun a q=>zl q (r_pick_f hb_312 q rfl rfl) fun a q=>za q rfl fun a q=>zn ?_
 obtain rfl:=Option.some.inj H
 refine wp_ret ?_
 repeat first | refine zt ?_ | refine zb ?_ | refine zo ?_
 exact ret_1 results7 q (rv_tmp q rfl) ⟨rfl,s.bel⟩
 rw [ifb_f hb_311] at H
 refine zsw q (wtf hb_311) fun a q=>zsw q (wtf hb_311) fun a q=>zl q (r_pick_f hb_311 q rfl rfl) fun a q=>zm q rfl fun a q=>zs q fun a q=>zs q fun a q=>zs q fun a q=>zl q (r_pick q rfl rfl rfl) fun a q=>za q rfl fun a q=>zn ?_
 obtain rfl:=Option.some.inj H
 refine wp_ret ?_
 repeat first | refine zt ?_ | refine zb ?_ | refine zo ?_
 exact ret_1 results7 q (rv_tmp q rfl) ⟨rfl,s.bel⟩
 rw [ifb_f hb_310] at H
 refine zsw q (wtf hb_310) fun a q=>zsw q (wtf hb_310) fun a q=>zsw q (wtf hb_310) fun a q=>zsw q (wtf hb_310) fun a q=>zl q (r_pick_f hb_310 q rfl rfl) fun a q=>zm q rfl fun a q=>zs q fun a q=>zs q fun a q=>zl q (r_pick q rfl rfl rfl) fun a q=>zm q rfl fun a q=>zs q fun a q=>zs q fun a q=>zs q fun a q=>zl q (r_pick q rfl rfl rfl) fun a q=>za q rfl fun a q=>zn ?_
 obtain rfl:=Option.some.inj H
 refine wp_ret ?_
 repeat first | refine zt ?_ | refine zb ?_ | refine zo ?_
 exact ret_1 results7 q (rv_tmp q rfl) ⟨rfl,s.bel⟩
 rw [ifb_f hb_309] at H
 refine zsw q (wtf hb_309) fun a q=>zsw q (wtf hb_309) fun a q=>zl q (r_pick_f hb_309 q rfl rfl) fun a q=>zm q rfl fun a q=>zs q fun a q=>zs q fun a q=>zs q fun a q=>zs q fun a q=>zl q (r_pick q rfl rfl rfl) fun a q=>zm q rfl fun a q=>zs q fun a q=>zs q fun a q=>zl q (r_pick q rfl rfl rfl) fun a q=>zm q rfl fun a q=>zs q fun a q=>zs q fun a q=>zs q fun a q=>zl q (r_pick q rfl rfl rfl) fun a q=>za q rfl fun a q=>zn ?_
 obtain rfl:=Option.some.inj H
 refine wp_ret ?_
 repeat first | refine zt ?_ | refine zb ?_ | refine zo ?_
 exact ret_1 results7 q (rv_tmp q rfl) ⟨rfl,s.bel⟩
 rw [ifb_f hb_289] at H
 refine zsw q (wtf hb_289) fun a q=>zsw q (wtf hb_289) fun a q=>zsw q (wtf hb_289) fun a q=>zsw q (wtf hb_289) fun a q=>zsw q (wtf hb_289) fun a q=>zsw q (wtf hb_289) fun a q=>zsw q (wtf hb_289) fun a q=>zsw q (wtf hb_289) fun a q=>zl q (r_pick_f hb_289 q rfl rfl) fun a q=>zm q rfl fun a q=>zs q fun a q=>zs q fun a q=>zl q (r_pick q rfl rfl rfl) fun a q=>zm q rfl fun a q=>zs q fun a q=>zs q fun a q=>zs q fun a q=>zs q fun a q=>zl q (r_pick q rfl rfl rfl) fun a q=>zm q rfl fun a q=>zs q fun a q=>zs q fun a q=>zl q (r_pick q rfl rfl rfl) fun a q=>zm q rfl fun a q=>zs q fun a q=>zs q fun a q=>zs q fun a q=>zl q (r_pick q rfl rfl rfl) fun a q=>za q rfl fun a q=>zn ?_
 obtain rfl:=Option.some.inj H
 refine wp_ret ?_
 repeat first | refine zt ?_ | refine zb ?_ | refine zo ?_
 exact ret_1 results7 q (rv_tmp q rfl) ⟨rfl,s.bel⟩
 rw [ifb_f hb_269] at H
 refine zsw q (wtf hb_269) fun a q=>zsw q (wtf hb_269) fun a q=>zsw q (wtf hb_269) fun a q=>zsw q (wtf hb_269) fun a q=>zsw q (wtf hb_269) fun a q=>zsw q (wtf hb_269) fun a q=>zsw q (wtf hb_269) fun a q=>zsw q (wtf hb_269) fun a q=>zl q (r_pick_f hb_269 q rfl rfl) fun a q=>zm q rfl fun a q=>zs q fun a q=>zs q fun a q=>zs q fun a q=>zs q fun a q=>zs q fun a q=>zs q fun a q=>zs q fun a q=>zs q fun a q=>zl q (r_pick q rfl rfl rfl) fun a q=>zm q rfl fun a q=>zs q fun a q=>zs q fun a q=>zl q (r_pick q rfl rfl rfl) fun a q=>zm q rfl fun a q=>zs q fun a q=>zs q fun a q=>zs q fun a q=>zs q fun a q=>zl q (r_pick q rfl rfl rfl) fun a q=>zm q rfl fun a q=>zs q fun a q=>zs q fun a q=>zl q (r_pick q rfl rfl rfl) fun a q=>zm q rfl fun a q=>?_
 refine zs q fun a q=>zs q fun a q=>zs q fun a q=>zl q (r_pick q rfl rfl rfl) fun a q=>za q rfl fun a q=>zn ?_
 obtain rfl:=Option.some.inj H
 refine wp_ret ?_
 repeat first | refine zt ?_ | refine zb ?_ | refine zo ?_
 exact ret_1 results7 q (rv_tmp q rfl) ⟨rfl,s.bel⟩
 rw [ifb_f hb_268] at H
 refine zsw q (wtf hb_268) fun a q=>zsw q (wtf hb_268) fun a q=>zsw q (wtf hb_268) fun a q=>zsw q (wtf hb_268) fun a q=>zl q (r_pick_f hb_268 q rfl rfl) fun a q=>zm q rfl fun a q=>zs q fun a q=>zs q fun a q=>zs q fun a q=>zs q fun a q=>zs q fun a q=>zs q fun a q=>zs q fun a q=>zs q fun a q=>zl q (r_pick q rfl rfl rfl) fun a q=>zm q rfl fun a q=>zs q fun a q=>zs q fun a q=>zs q fun a q=>zs q fun a q=>zs q fun a q=>zs q fun a q=>zs q fun a q=>zs q fun a q=>zl q (r_pick q rfl rfl rfl) fun a q=>zm q rfl fun a q=>zs q fun a q=>zs q fun a q=>zl q (r_pick q rfl rfl rfl) fun a q=>zm q rfl fun a q=>zs q fun a q=>zs q fun a q=>zs q fun a q=>zs q fun a q=>zl q (r_pick q rfl rfl rfl) fun a q=>zm q rfl fun a q=>zs q fun a q=>?_
 refine zs q fun a q=>zl q (r_pick q rfl rfl rfl) fun a q=>zm q rfl fun a q=>zs q fun a q=>zs q fun a q=>zs q fun a q=>zl q (r_pick q rfl rfl rfl) fun a q=>za q rfl fun a q=>zn ?_
 obtain rfl:=Option.some.inj H
 refine wp_ret ?_
 repeat first | refine zt ?_ | refine zb ?_ | refine zo ?_
 exact ret_1 results7 q (rv_tmp q rfl) ⟨rfl,s.bel⟩
 rw [ifb_f hb_267] at H
 refine zsw q (wtf hb_267) fun a q=>zsw q (wtf hb_267) fun a q=>zl q (r_pick_f hb_267 q rfl rfl) fun a q=>zm q rfl fun a q=>zs q fun a q=>zs q fun a q=>zs q fun a q=>zs q fun a q=>zl q (r_pick q rfl rfl rfl) fun a q=>zm q rfl fun a q=>zs q fun a q=>zs q fun a q=>zs q fun a q=>zs q fun a q=>zs q fun a q=>zs q fun a q=>zs q fun a q=>zs q fun a q=>zl q (r_pick q rfl rfl rfl) fun a q=>zm q rfl fun a q=>zs q fun a q=>zs q fun a q=>zs q fun a q=>zs q fun a q=>zs q fun a q=>zs q fun a q=>zs q fun a q=>zs q fun a q=>zl q (r_pick q rfl rfl rfl) fun a q=>zm q rfl fun a q=>zs q fun a q=>zs q fun a q=>zl q (r_pick q rfl rfl rfl) fun a q=>zm q rfl fun a q=>zs q fun a q=>zs q fun a q=>zs q fun a q=>zs q fun a q=>?_
 refine zl q (r_pick q rfl rfl rfl) fun a q=>zm q rfl fun a q=>zs q fun a q=>zs q fun a q=>zl q (r_pick q rfl rfl rfl) fun a q=>zm q rfl fun a q=>zs q fun a q=>zs q fun a q=>zs q fun a q=>zl q (r_pick q rfl rfl rfl) fun a q=>za q rfl fun a q=>zn ?_
 obtain rfl:=Option.some.inj H
 refine wp_ret ?_
 repeat first | refine zt ?_ | refine zb ?_ | refine zo ?_
 exact ret_1 results7 q (rv_tmp q rfl) ⟨rfl,s.bel⟩
 rw [ifb_f hb_266] at H
 refine zsw q (wtf hb_266) fun a q=>zsw q (wtf hb_266) fun a q=>zl q (r_pick_f hb_266 q rfl rfl) fun a q=>zm q rfl fun a q=>zs q fun a q=>zs q fun a q=>zl q (r_pick q rfl rfl rfl) fun a q=>zm q rfl fun a q=>zs q fun a q=>zs q fun a q=>zs q fun a q=>zs q fun a q=>zl q (r_pick q rfl rfl rfl) fun a q=>zm q rfl fun a q=>zs q fun a q=>zs q fun a q=>zs q fun a q=>zs q fun a q=>zs q fun a q=>zs q fun a q=>zs q fun a q=>zs q fun a q=>zl q (r_pick q rfl rfl rfl) fun a q=>zm q rfl fun a q=>zs q fun a q=>zs q fun a q=>zs q fun a q=>zs q fun a q=>zs q fun a q=>zs q fun a q=>zs q fun a q=>zs q fun a q=>zl q (r_pick q rfl rfl rfl) fun a q=>zm q rfl fun a q=>zs q fun a q=>zs q fun a q=>zl q (r_pick q rfl rfl rfl) fun a q=>?_
 refine zm q rfl fun a q=>zs q fun a q=>zs q fun a q=>zs q fun a q=>zs q fun a q=>zl q (r_pick q rfl rfl rfl) fun a q=>zm q rfl fun a q=>zs q fun a q=>zs q fun a q=>zl q (r_pick q rfl rfl rfl) fun a q=>zm q rfl fun a q=>zs q fun a q=>zs q fun a q=>zs q fun a q=>zl q (r_pick q rfl rfl rfl) fun a q=>za q rfl fun a q=>zn ?_
 obtain rfl:=Option.some.inj H
 refine wp_ret ?_
 repeat first | refine zt ?_ | refine zb ?_ | refine zo ?_
 exact ret_1 results7 q (rv_tmp q rfl) ⟨rfl,s.bel⟩
 rw [ifb_f hb_265] at H
 refine zsw q (wtf hb_265) fun a q=>zsw q (wtf hb_265) fun a q=>zl q (r_pick_f hb_265 q rfl rfl) fun a q=>zm q rfl fun a q=>zs q fun a q=>zs q fun a q=>zl q (r_pick q rfl rfl rfl) fun a q=>zm q rfl fun a q=>zs q fun a q=>zs q fun a q=>zl q (r_pick q rfl rfl rfl) fun a q=>zm q rfl fun a q=>zs q fun a q=>zs q fun a q=>zs q fun a q=>zs q fun a q=>zl q (r_pick q rfl rfl rfl) fun a q=>zm q rfl fun a q=>zs q fun a q=>zs q fun a q=>zs q fun a q=>zs q fun a q=>zs q fun a q=>zs q fun a q=>zs q fun a q=>zs q fun a q=>zl q (r_pick q rfl rfl rfl) fun a q=>zm q rfl fun a q=>zs q fun a q=>zs q fun a q=>zs q fun a q=>zs q fun a q=>zs q fun a q=>zs q fun a q=>zs q fun a q=>zs q fun a q=>zl q (r_pick q rfl rfl rfl) fun a q=>?_
 refine zm q rfl fun a q=>zs q fun a q=>zs q fun a q=>zl q (r_pick q rfl rfl rfl) fun a q=>zm q rfl fun a q=>zs q fun a q=>zs q fun a q=>zs q fun a q=>zs q fun a q=>zl q (r_pick q rfl rfl rfl) fun a q=>zm q rfl fun a q=>zs q fun a q=>zs q fun a q=>zl q (r_pick q rfl rfl rfl) fun a q=>zm q rfl fun a q=>zs q fun a q=>zs q fun a q=>zs q fun a q=>zl q (r_pick q rfl rfl rfl) fun a q=>za q rfl fun a q=>zn ?_
 obtain rfl:=Option.some.inj H
 refine wp_ret ?_
 repeat first | refine zt ?_ | refine zb ?_ | refine zo ?_
 exact ret_1 results7 q (rv_tmp q rfl) ⟨rfl,s.bel⟩
 rw [ifb_f hb_264] at H
 refine zsw q (wtf hb_264) fun a q=>zsw q (wtf hb_264) fun a q=>zl q (r_pick_f hb_264 q rfl rfl) fun a q=>zm q rfl fun a q=>zs q fun a q=>zs q fun a q=>zl q (r_pick q rfl rfl rfl) fun a q=>zm q rfl fun a q=>zs q fun a q=>zs q fun a q=>zl q (r_pick q rfl rfl rfl) fun a q=>zm q rfl fun a q=>zs q fun a q=>zs q fun a q=>zl q (r_pick q rfl rfl rfl) fun a q=>zm q rfl fun a q=>zs q fun a q=>zs q fun a q=>zs q fun a q=>zs q fun a q=>zl q (r_pick q rfl rfl rfl) fun a q=>zm q rfl fun a q=>zs q fun a q=>zs q fun a q=>zs q fun a q=>zs q fun a q=>zs q fun a q=>zs q fun a q=>zs q fun a q=>zs q fun a q=>zl q (r_pick q rfl rfl rfl) fun a q=>zm q rfl fun a q=>zs q fun a q=>zs q fun a q=>zs q fun a q=>zs q fun a q=>zs q fun a q=>?_
 refine zs q fun a q=>zs q fun a q=>zs q fun a q=>zl q (r_pick q rfl rfl rfl) fun a q=>zm q rfl fun a q=>zs q fun a q=>zs q fun a q=>zl q (r_pick q rfl rfl rfl) fun a q=>zm q rfl fun a q=>zs q fun a q=>zs q fun a q=>zs q fun a q=>zs q fun a q=>zl q (r_pick q rfl rfl rfl) fun a q=>zm q rfl fun a q=>zs q fun a q=>zs q fun a q=>zl q (r_pick q rfl rfl rfl) fun a q=>zm q rfl fun a q=>zs q fun a q=>zs q fun a q=>zs q fun a q=>zl q (r_pick q rfl rfl rfl) fun a q=>za q rfl fun a q=>zn ?_
 obtain rfl:=Option.some.inj H
 refine wp_ret ?_
 repeat first | refine zt ?_ | refine zb ?_ | refine zo ?_
 exact ret_1 results7 q (rv_tmp q rfl) ⟨rfl,s.bel⟩
 rw [ifb_f hb_263] at H
 refine zsw q (wtf hb_263) fun a q=>zl q (r_pick_f hb_263 q rfl rfl) fun a q=>zm q rfl fun a q=>zs q fun a q=>zs q fun a q=>zl q (r_pick q rfl rfl rfl) fun a q=>zm q rfl fun a q=>zs q fun a q=>zs q fun a q=>zl q (r_pick q rfl rfl rfl) fun a q=>zm q rfl fun a q=>zs q fun a q=>zs q fun a q=>zl q (r_pick q rfl rfl rfl) fun a q=>zm q rfl fun a q=>zs q fun a q=>zs q fun a q=>zl q (r_pick q rfl rfl rfl) fun a q=>zm q rfl fun a q=>zs q fun a q=>zs q fun a q=>zs q fun a q=>zs q fun a q=>zl q (r_pick q rfl rfl rfl) fun a q=>zm q rfl fun a q=>zs q fun a q=>zs q fun a q=>zs q fun a q=>zs q fun a q=>zs q fun a q=>zs q fun a q=>zs q fun a q=>zs q fun a q=>zl q (r_pick q rfl rfl rfl) fun a q=>zm q rfl fun a q=>zs q fun a q=>zs q fun a q=>?_
 refine zs q fun a q=>zs q fun a q=>zs q fun a q=>zs q fun a q=>zs q fun a q=>zs q fun a q=>zl q (r_pick q rfl rfl rfl) fun a q=>zm q rfl fun a q=>zs q fun a q=>zs q fun a q=>zl q (r_pick q rfl rfl rfl) fun a q=>zm q rfl fun a q=>zs q fun a q=>zs q fun a q=>zs q fun a q=>zs q fun a q=>zl q (r_pick q rfl rfl rfl) fun a q=>zm q rfl fun a q=>zs q fun a q=>zs q fun a q=>zl q (r_pick q rfl rfl rfl) fun a q=>zm q rfl fun a q=>zs q fun a q=>zs q fun a q=>zs q fun a q=>zl q (r_pick q rfl rfl rfl) fun a q=>za q rfl fun a q=>zn ?_
 obtain rfl:=Option.some.inj H
 refine wp_ret ?_
 repeat first | refine zt ?_ | refine zb ?_ | refine zo ?_
 exact ret_1 results7 q (rv_tmp q rfl) ⟨rfl,s.bel⟩
 rw [ifb_f hb_262] at H
 refine zsw q (wtf hb_262) fun a q=>zsw q (wtf hb_262) fun a q=>zl q (r_pick_f hb_262 q rfl rfl) fun a q=>zm q rfl fun a q=>zs q fun a q=>zl q (r_pick q rfl rfl rfl) fun a q=>zm q rfl fun a q=>zs q fun a q=>zs q fun a q=>zl q (r_pick q rfl rfl rfl) fun a q=>zm q rfl fun a q=>zs q fun a q=>zs q fun a q=>zl q (r_pick q rfl rfl rfl) fun a q=>zm q rfl fun a q=>zs q fun a q=>zs q fun a q=>zl q (r_pick q rfl rfl rfl) fun a q=>zm q rfl fun a q=>zs q fun a q=>zs q fun a q=>zl q (r_pick q rfl rfl rfl) fun a q=>zm q rfl fun a q=>zs q fun a q=>zs q fun a q=>zs q fun a q=>zs q fun a q=>zl q (r_pick q rfl rfl rfl) fun a q=>zm q rfl fun a q=>zs q fun a q=>zs q fun a q=>zs q fun a q=>zs q fun a q=>zs q fun a q=>zs q fun a q=>zs q fun a q=>?_
 refine zs q fun a q=>zl q (r_pick q rfl rfl rfl) fun a q=>zm q rfl fun a q=>zs q fun a q=>zs q fun a q=>zs q fun a q=>zs q fun a q=>zs q fun a q=>zs q fun a q=>zs q fun a q=>zs q fun a q=>zl q (r_pick q rfl rfl rfl) fun a q=>zm q rfl fun a q=>zs q fun a q=>zs q fun a q=>zl q (r_pick q rfl rfl rfl) fun a q=>zm q rfl fun a q=>zs q fun a q=>zs q fun a q=>zs q fun a q=>zs q fun a q=>zl q (r_pick q rfl rfl rfl) fun a q=>zm q rfl fun a q=>zs q fun a q=>zs q fun a q=>zl q (r_pick q rfl rfl rfl) fun a q=>zm q rfl fun a q=>zs q fun a q=>zs q fun a q=>zs q fun a q=>zl q (r_pick q rfl rfl rfl) fun a q=>za q rfl fun a q=>zn ?_
 obtain rfl:=Option.some.inj H
 refine wp_ret ?_
 repeat first | refine zt ?_ | refine zb ?_ | refine zo ?_
 exact ret_1 results7 q (rv_tmp q rfl) ⟨rfl,s.bel⟩
 rw [ifb_f hb_261] at H
 refine zsw q (wtf hb_261) fun a q=>zsw q (wtf hb_261) fun a q=>zl q (r_pick_f hb_261 q rfl rfl) fun a q=>zm q rfl fun a q=>zs q fun a q=>zs q fun a q=>zl q (r_pick q rfl rfl rfl) fun a q=>zm q rfl fun a q=>zs q fun a q=>zl q (r_pick q rfl rfl rfl) fun a q=>zm q rfl fun a q=>zs q fun a q=>zs q fun a q=>zl q (r_pick q rfl rfl rfl) fun a q=>zm q rfl fun a q=>zs q fun a q=>zs q fun a q=>zl q (r_pick q rfl rfl rfl) fun a q=>zm q rfl fun a q=>zs q fun a q=>zs q fun a q=>zl q (r_pick q rfl rfl rfl) fun a q=>zm q rfl fun a q=>zs q fun a q=>zs q fun a q=>zl q (r_pick q rfl rfl rfl) fun a q=>zm q rfl fun a q=>zs q fun a q=>zs q fun a q=>zs q fun a q=>zs q fun a q=>zl q (r_pick q rfl rfl rfl) fun a q=>zm q rfl fun a q=>zs q fun a q=>?_
 refine zs q fun a q=>zs q fun a q=>zs q fun a q=>zs q fun a q=>zs q fun a q=>zs q fun a q=>zs q fun a q=>zl q (r_pick q rfl rfl rfl) fun a q=>zm q rfl fun a q=>zs q fun a q=>zs q fun a q=>zs q fun a q=>zs q fun a q=>zs q fun a q=>zs q fun a q=>zs q fun a q=>zs q fun a q=>zl q (r_pick q rfl rfl rfl) fun a q=>zm q rfl fun a q=>zs q fun a q=>zs q fun a q=>zl q (r_pick q rfl rfl rfl) fun a q=>zm q rfl fun a q=>zs q fun a q=>zs q fun a q=>zs q fun a q=>zs q fun a q=>zl q (r_pick q rfl rfl rfl) fun a q=>zm q rfl fun a q=>zs q fun a q=>zs q fun a q=>zl q (r_pick q rfl rfl rfl) fun a q=>zm q rfl fun a q=>zs q fun a q=>zs q fun a q=>zs q fun a q=>zl q (r_pick q rfl rfl rfl) fun a q=>za q rfl fun a q=>zn ?_
 obtain rfl:=Option.some.inj H
 refine wp_ret ?_
 repeat first | refine zt ?_ | refine zb ?_ | refine zo ?_
 exact ret_1 results7 q (rv_tmp q rfl) ⟨rfl,s.bel⟩
 rw [ifb_f hb_260] at H
 refine zsw q (wtf hb_260) fun a q=>zsw q (wtf hb_260) fun a q=>zl q (r_pick_f hb_260 q rfl rfl) fun a q=>zm q rfl fun a q=>zs q fun a q=>zs q fun a q=>zl q (r_pick q rfl rfl rfl) fun a q=>zm q rfl fun a q=>zs q fun a q=>zs q fun a q=>zl q (r_pick q rfl rfl rfl) fun a q=>zm q rfl fun a q=>zs q fun a q=>zl q (r_pick q rfl rfl rfl) fun a q=>zm q rfl fun a q=>zs q fun a q=>zs q fun a q=>zl q (r_pick q rfl rfl rfl) fun a q=>zm q rfl fun a q=>zs q fun a q=>zs q fun a q=>zl q (r_pick q rfl rfl rfl) fun a q=>zm q rfl fun a q=>zs q fun a q=>zs q fun a q=>zl q (r_pick q rfl rfl rfl) fun a q=>zm q rfl fun a q=>zs q fun a q=>zs q fun a q=>zl q (r_pick q rfl rfl rfl) fun a q=>zm q rfl fun a q=>zs q fun a q=>zs q fun a q=>zs q fun a q=>?_
 refine zs q fun a q=>zl q (r_pick q rfl rfl rfl) fun a q=>zm q rfl fun a q=>zs q fun a q=>zs q fun a q=>zs q fun a q=>zs q fun a q=>zs q fun a q=>zs q fun a q=>zs q fun a q=>zs q fun a q=>zl q (r_pick q rfl rfl rfl) fun a q=>zm q rfl fun a q=>zs q fun a q=>zs q fun a q=>zs q fun a q=>zs q fun a q=>zs q fun a q=>zs q fun a q=>zs q fun a q=>zs q fun a q=>zl q (r_pick q rfl rfl rfl) fun a q=>zm q rfl fun a q=>zs q fun a q=>zs q fun a q=>zl q (r_pick q rfl rfl rfl) fun a q=>zm q rfl fun a q=>zs q fun a q=>zs q fun a q=>zs q fun a q=>zs q fun a q=>zl q (r_pick q rfl rfl rfl) fun a q=>zm q rfl fun a q=>zs q fun a q=>zs q fun a q=>zl q (r_pick q rfl rfl rfl) fun a q=>zm q rfl fun a q=>zs q fun a q=>zs q fun a q=>?_
 refine zs q fun a q=>zl q (r_pick q rfl rfl rfl) fun a q=>za q rfl fun a q=>zn ?_
 obtain rfl:=Option.some.inj H
 refine wp_ret ?_
 repeat first | refine zt ?_ | refine zb ?_ | refine zo ?_
 exact ret_1 results7 q (rv_tmp q rfl) ⟨rfl,s.bel⟩
 rw [oel_some h_72] at H
 have hv_:=hv_.symm
 subst hv_
 obtain ⟨s,hl_57⟩:=s.sp0.back hr_ hl_57
 have s:=s.un5
 have hRL:=hRL.trans hl_57
 refine zm q rfl fun a q=>zl q (r_extract q rfl rfl) fun a q=>zl q (r_extract q rfl rfl) fun a q=>za q rfl fun a q=>za q rfl fun a q=>zn<|zq<|zq ?_
 refine wp_mid (fun a w=>∃ (x_329 : Bool),law08_shown.j1 y_16 x_329 = some r ∧ Kn 154 a [(1,.pointer (some ⟨b_17,0,none⟩)),(37,.bool x_329)] ∧ St [] w0 w R_56 [.row 113 2 v_22 y_16.dict.l.length cs_23,.mp mb_25 (kvs Value.string (Value.int .i64) y_16.dict.ids),.cells b_20 [I6 y_16.dict.most,v_22,.map (some mb_25)] 102,mbo mb_26 (kvs (Value.int .i64) id (mbp E_27)) 111 90 2 E_27,.cells b_17 [v_18,I6 y_16.room,I6 y_16.points,.pointer (some ⟨b_20,0,none⟩),.map (some mb_26)] 70]) ?_ ?_
 refine zr<|zm q rfl fun a q=>zl q (r_peq underlying24 q rfl rfl) fun a q=>zm q rfl fun a q=>zm q rfl fun a q=>zl q (r_ibin q rfl rfl rfl) fun a q=>zl q (r_pick q rfl rfl rfl) fun a q=>zm q rfl fun a q=>?_
 rcases or_b (y_12.2 != 0) with hb_331 | hb_331
 rw [ifb_t hb_331] at H
 refine zsw q (wft hb_331) fun a q=>zsw q (wft hb_331) fun a q=>zl q (r_pick_t hb_331 q rfl rfl) fun a q=>zn ?_
 have s:=s.pk5
 have s:=s.pk9
 have s:=s.pk7
 have s:=s.pk9
 have s:=s.pk9
 exact ⟨true,H,q.sub (zc (zc zz)),s.trunc 5⟩
 rw [ifb_f hb_331] at H
 refine zw q (wff hb_331) (r_move q rfl) fun a q=>zw q (wff hb_331) (r_ibin q rfl rfl rfl) fun a q=>zl q (r_pick_f hb_331 q rfl rfl) fun a q=>zn ?_
 have s:=s.pk5
 have s:=s.pk9
 have s:=s.pk7
 have s:=s.pk9
 have s:=s.pk9
 exact ⟨(y_54.2 != 50),H,q.sub (zc (zc zz)),s.trunc 5⟩
 rintro a w ⟨x_329,H,q,s⟩
 unfold law08_shown.j1 at H
 refine wp_cond_split (q.ev rfl) (fun (hb_332 : x_329 = true)=>?_) fun hb_332=>?_
 rw [ifb_t hb_332] at H
 refine zq<|zr<|za q rfl fun a q=>zn ?_
 obtain rfl:=Option.some.inj H
 refine wp_ret ?_
 repeat first | refine zt ?_ | refine zb ?_ | refine zo ?_
 exact ret_1 results7 q (rv_tmp q rfl) ⟨rfl,s.bel⟩
 rw [ifb_f hb_332] at H
 refine wp_skip<|zq<|zr<|zm q rfl fun a q=>?_
 obtain ⟨y_333,h_334,H⟩:=bs H
 refine sl_call call10 q (by decide) rfl rfl rfl (law08_point.calls (⟨#[97]⟩ : ByteArray) 5 7 s.sub h_334) fun a v_ w hv_ q=>?_
 obtain ⟨R_335,v_338,cs_339,v_342,cs_343,hv_,hr_,hl_336,hq_340,hq_344⟩:=hv_
 have hv_:=hv_.symm
 subst hv_
 obtain ⟨s,hl_336⟩:=s.sp0.back hr_ hl_336
 have s:=s.un2
 have hRL:=hRL.trans hl_336
 obtain ⟨y_345,h_346,H⟩:=bs H
 have s:=s.pk5
 have s:=s.pk4
 have s:=s.pk4
 have s:=s.pk5
 have s:=s.pk6
 have hS1:=s.sp5
 refine sl_call call11 q (by decide) rfl rfl rfl (leaf_Leaf_Write.calls y_16 y_333 (lentOf_sub _ _) lentOf_not hS1.lend (hs_19.mono (hl_57.le.trans hl_336.le)) (hq_24.mono (hl_57.le.trans hl_336.le)) (hm_28.mono (hl_57.le.trans hl_336.le)) (hS1.lend_row z0 hq_340 rfl rfl) (hS1.lend_row z1 hq_344 rfl rfl) (GF.mono (hS1.raLe hRA nil_not) hG) h_346) fun a v_ w hv_ q=>?_
 obtain ⟨R_347,v_349,b_351,v_353,cs_354,mb_356,mb_357,E_358,hv_,hr_,hl_348,hs_350,hq_355,hm_359⟩:=hv_
 have hv_:=hv_.symm
 subst hv_
 obtain ⟨s,hl_348⟩:=hS1.back hr_ hl_348
 have s:=s.un5
 have hRL:=hRL.trans hl_348
 refine zm q rfl fun a q=>zl q (r_extract q rfl rfl) fun a q=>zl q (r_extract q rfl rfl) fun a q=>za q rfl fun a q=>za q rfl fun a q=>zn<|zq<|zr<|zm q rfl fun a q=>?_
 obtain ⟨y_360,h_361,H⟩:=bs H
 refine sl_call call10 q (by decide) rfl rfl rfl (law08_point.calls (⟨#[97]⟩ : ByteArray) 5 8 s.sub h_361) fun a v_ w hv_ q=>?_
 obtain ⟨R_362,v_365,cs_366,v_369,cs_370,hv_,hr_,hl_363,hq_367,hq_371⟩:=hv_
 have hv_:=hv_.symm
 subst hv_
 obtain ⟨s,hl_363⟩:=s.sp0.back hr_ hl_363
 have s:=s.un2
 have hRL:=hRL.trans hl_363
 obtain ⟨y_372,h_373,H⟩:=bs H
 have s:=s.pk6
 have s:=s.pk6
 have s:=s.pk6
 have s:=s.pk6
 have s:=s.pk6
 have hS1:=s.sp5
 refine sl_call call11 q (by decide) rfl rfl rfl (leaf_Leaf_Write.calls y_345.2.2 y_360 (lentOf_sub _ _) lentOf_not hS1.lend (hs_350.mono hl_363.le) (hq_355.mono hl_363.le) (hm_359.mono hl_363.le) (hS1.lend_row z0 hq_367 rfl rfl) (hS1.lend_row z1 hq_371 rfl rfl) (GF.mono (hS1.raLe hRA nil_not) hG) h_373) fun a v_ w hv_ q=>?_
 obtain ⟨R_374,v_376,b_378,v_380,cs_381,mb_383,mb_384,E_385,hv_,hr_,hl_375,hs_377,hq_382,hm_386⟩:=hv_
 have hv_:=hv_.symm
 subst hv_
 obtain ⟨s,hl_375⟩:=hS1.back hr_ hl_375
 have s:=s.un5
 have hRL:=hRL.trans hl_375
 refine zm q rfl fun a q=>zl q (r_extract q rfl rfl) fun a q=>zl q (r_extract q rfl rfl) fun a q=>za q rfl fun a q=>za q rfl fun a q=>zn<|zq<|zr<|zm q rfl fun a q=>?_
 obtain ⟨y_387,h_388,H⟩:=bs H
 refine sl_call call10 q (by decide) rfl rfl rfl (law08_point.calls (⟨#[98]⟩ : ByteArray) 3 1 s.sub h_388) fun a v_ w hv_ q=>?_
 obtain ⟨R_389,v_392,cs_393,v_396,cs_397,hv_,hr_,hl_390,hq_394,hq_398⟩:=hv_
 have hv_:=hv_.symm
 subst hv_
 obtain ⟨s,hl_390⟩:=s.sp0.back hr_ hl_390
 have s:=s.un2
 have hRL:=hRL.trans hl_390
 obtain ⟨y_399,h_400,H⟩:=bs H
 have s:=s.pk6
 have s:=s.pk6
 have s:=s.pk6
 have s:=s.pk6
 have s:=s.pk6
 have hS1:=s.sp5
 refine sl_call call11 q (by decide) rfl rfl rfl (leaf_Leaf_Write.calls y_372.2.2 y_387 (lentOf_sub _ _) lentOf_not hS1.lend (hs_377.mono hl_390.le) (hq_382.mono hl_390.le) (hm_386.mono hl_390.le) (hS1.lend_row z0 hq_394 rfl rfl) (hS1.lend_row z1 hq_398 rfl rfl) (GF.mono (hS1.raLe hRA nil_not) hG) h_400) fun a v_ w hv_ q=>?_
 obtain ⟨R_401,v_403,b_405,v_407,cs_408,mb_410,mb_411,E_412,hv_,hr_,hl_402,hs_404,hq_409,hm_413⟩:=hv_
 have hv_:=hv_.symm
 subst hv_
 obtain ⟨s,hl_402⟩:=hS1.back hr_ hl_402
 have s:=s.un5
 have hRL:=hRL.trans hl_402
 refine zm q rfl fun a q=>zl q (r_extract q rfl rfl) fun a q=>zl q (r_extract q rfl rfl) fun a q=>za q rfl fun a q=>za q rfl fun a q=>zn<|zq<|zr<|zm q rfl fun a q=>?_
 obtain ⟨y_414,h_415,H⟩:=bs H
 refine sl_call call10 q (by decide) rfl rfl rfl (law08_point.calls (⟨#[99]⟩ : ByteArray) 1 1 s.sub h_415) fun a v_ w hv_ q=>?_
 obtain ⟨R_416,v_419,cs_420,v_423,cs_424,hv_,hr_,hl_417,hq_421,hq_425⟩:=hv_
 have hv_:=hv_.symm
 subst hv_
 obtain ⟨s,hl_417⟩:=s.sp0.back hr_ hl_417
 have s:=s.un2
 have hRL:=hRL.trans hl_417
 obtain ⟨y_426,h_427,H⟩:=bs H
 have s:=s.pk6
 have s:=s.pk6
 have s:=s.pk6
 have s:=s.pk6
 have s:=s.pk6
 have hS1:=s.sp5
 refine sl_call call11 q (by decide) rfl rfl rfl (leaf_Leaf_Write.calls y_399.2.2 y_414 (lentOf_sub _ _) lentOf_not hS1.lend (hs_404.mono hl_417.le) (hq_409.mono hl_417.le) (hm_413.mono hl_417.le) (hS1.lend_row z0 hq_421 rfl rfl) (hS1.lend_row z1 hq_425 rfl rfl) (GF.mono (hS1.raLe hRA nil_not) hG) h_427) fun a v_ w hv_ q=>?_
 obtain ⟨R_428,v_430,b_432,v_434,cs_435,mb_437,mb_438,E_439,hv_,hr_,hl_429,hs_431,hq_436,hm_440⟩:=hv_
 have hv_:=hv_.symm
 subst hv_
 obtain ⟨s,hl_429⟩:=hS1.back hr_ hl_429
 have s:=s.un5
 have hRL:=hRL.trans hl_429
 refine zm q rfl fun a q=>zl q (r_extract q rfl rfl) fun a q=>zl q (r_extract q rfl rfl) fun a q=>za q rfl fun a q=>za q rfl fun a q=>zn<|zq<|zr<|zm q rfl fun a q=>?_
 obtain ⟨y_441,h_442,H⟩:=bs H
 have s:=s.pk4
 have s:=s.pk4
 have s:=s.pk4
 have s:=s.pk4
 have s:=s.pk4
 have hS1:=s.sp5
 refine sl_call call12 q (by decide) rfl rfl rfl (leaf_Leaf_Scan.calls y_426.2.2 (⟨#[108,111,97,100]⟩ : ByteArray) 0 9 hS1.lend hs_431 hq_436 hm_440 h_442) fun a v_ w hv_ q=>?_
 obtain ⟨R_443,v_446,cs_447,v_450,cs_451,v_453,b_455,v_457,cs_458,mb_460,mb_461,E_462,hv_,hr_,hl_444,hq_448,hq_452,hs_454,hq_459,hm_463⟩:=hv_
 have hv_:=hv_.symm
 subst hv_
 obtain ⟨s,hl_444⟩:=hS1.back hr_ hl_444
 have s:=s.un7
 have hRL:=hRL.trans hl_444
 refine zm q rfl fun a q=>zl q (r_extract q rfl rfl) fun a q=>zl q (r_extract q rfl rfl) fun a q=>?_
 refine sl_alloc zeroValue41 s q (by decide) rfl rfl fun a w b_464 s q=>?_
 refine sl_storeA (vs:=[v_446,v_450]) (c':=[v_446,v_450]) sizeOf41 s q rfl rfl rfl rfl (all_cons (s.row_one z1) (all_cons (s.row_one z2) zz)) (Nat.le_of_ble_eq_true rfl) rfl fun a w s q=>?_
 refine za q rfl fun a q=>zn<|zq<|zr<|zm q rfl fun a q=>?_
 obtain ⟨y_465,h_466,H⟩:=bs H
 have s:=s.pk7
 have s:=s.pk7
 have s:=s.pk7
 have s:=s.pk7
 have s:=s.pk7
 have hS1:=s.sp5
 refine sl_call call12 q (by decide) rfl rfl rfl (leaf_Leaf_Scan.calls y_441.2.2 (⟨#[108,111,97,100]⟩ : ByteArray) 4 9 hS1.lend hs_454 hq_459 hm_463 h_466) fun a v_ w hv_ q=>?_
 obtain ⟨R_467,v_470,cs_471,v_474,cs_475,v_477,b_479,v_481,cs_482,mb_484,mb_485,E_486,hv_,hr_,hl_468,hq_472,hq_476,hs_478,hq_483,hm_487⟩:=hv_
 have hv_:=hv_.symm
 subst hv_
 obtain ⟨s,hl_468⟩:=hS1.back hr_ hl_468
 have s:=s.un7
 have hRL:=hRL.trans hl_468
 refine zm q rfl fun a q=>zl q (r_extract q rfl rfl) fun a q=>zl q (r_extract q rfl rfl) fun a q=>?_
 refine sl_alloc zeroValue41 s q (by decide) rfl rfl fun a w b_488 s q=>?_
 refine sl_storeA (vs:=[v_470,v_474]) (c':=[v_470,v_474]) sizeOf41 s q rfl rfl rfl rfl (all_cons (s.row_one z1) (all_cons (s.row_one z2) zz)) (Nat.le_of_ble_eq_true rfl) rfl fun a w s q=>?_
 refine za q rfl fun a q=>zn<|zq<|zr<|zm q rfl fun a q=>?_
 obtain ⟨y_489,h_490,H⟩:=bs H
 have s:=s.pk7
 have s:=s.pk7
 have s:=s.pk7
 have s:=s.pk7
 have s:=s.pk7
 have hS1:=s.sp5
 refine sl_call call12 q (by decide) rfl rfl rfl (leaf_Leaf_Scan.calls y_465.2.2 (⟨#[120]⟩ : ByteArray) 0 9 hS1.lend hs_478 hq_483 hm_487 h_490) fun a v_ w hv_ q=>?_
 obtain ⟨R_491,v_494,cs_495,v_498,cs_499,v_501,b_503,v_505,cs_506,mb_508,mb_509,E_510,hv_,hr_,hl_492,hq_496,hq_500,hs_502,hq_507,hm_511⟩:=hv_
 have hv_:=hv_.symm
 subst hv_
 obtain ⟨s,hl_492⟩:=hS1.back hr_ hl_492
 have s:=s.un7
 have hRL:=hRL.trans hl_492
 refine zm q rfl fun a q=>zl q (r_extract q rfl rfl) fun a q=>zl q (r_extract q rfl rfl) fun a q=>?_
 refine sl_alloc zeroValue41 s q (by decide) rfl rfl fun a w b_512 s q=>?_
 refine sl_storeA (vs:=[v_494,v_498]) (c':=[v_494,v_498]) sizeOf41 s q rfl rfl rfl rfl (all_cons (s.row_one z1) (all_cons (s.row_one z2) zz)) (Nat.le_of_ble_eq_true rfl) rfl fun a w s q=>?_
 refine za q rfl fun a q=>zn<|zq<|zr<|zm q rfl fun a q=>zm q rfl fun a q=>?_
 rcases or_b y_345.1 with hb_513 | hb_513
 rw [ifb_t hb_513] at H
 refine zw q (wtt hb_513) (r_move q rfl) fun a q=>zw q (wtt hb_513) (r_ibin q rfl rfl rfl) fun a q=>zl q (r_pick_t hb_513 q rfl rfl) fun a q=>zm q rfl fun a q=>?_
 rcases or_b (y_345.2.1 == 0) with hb_514 | hb_514
 rw [ifb_t hb_514] at H
 refine zw q (wtt hb_514) (r_move q rfl) fun a q=>zw q (wtt hb_514) (r_un q rfl (u_not _)) fun a q=>zl q (r_pick_t hb_514 q rfl rfl) fun a q=>zm q rfl fun a q=>?_
 rcases or_b (!y_372.1) with hb_515 | hb_515
 rw [ifb_t hb_515] at H
 refine zw q (wtt hb_515) (r_move q rfl) fun a q=>zw q (wtt hb_515) (r_ibin q rfl rfl rfl) fun a q=>zl q (r_pick_t hb_515 q rfl rfl) fun a q=>zm q rfl fun a q=>?_
 rcases or_b (y_372.2.1 == 0) with hb_516 | hb_516
 rw [ifb_t hb_516] at H
 refine zw q (wtt hb_516) (r_move q rfl) fun a q=>zl q (r_pick_t hb_516 q rfl rfl) fun a q=>zm q rfl fun a q=>?_
 rcases or_b y_399.1 with hb_517 | hb_517
 rw [ifb_t hb_517] at H
 refine zw q (wtt hb_517) (r_move q rfl) fun a q=>zw q (wtt hb_517) (r_ibin q rfl rfl rfl) fun a q=>zl q (r_pick_t hb_517 q rfl rfl) fun a q=>zm q rfl fun a q=>?_
 rcases or_b (y_399.2.1 == 0) with hb_518 | hb_518
 rw [ifb_t hb_518] at H
 refine zw q (wtt hb_518) (r_move q rfl) fun a q=>zw q (wtt hb_518) (r_un q rfl (u_not _)) fun a q=>zl q (r_pick_t hb_518 q rfl rfl) fun a q=>zm q rfl fun a q=>?_
 rcases or_b (!y_426.1) with hb_519 | hb_519
 rw [ifb_t hb_519] at H
 refine zw q (wtt hb_519) (r_move q rfl) fun a q=>zw q (wtt hb_519) (r_ibin q rfl rfl rfl) fun a q=>zl q (r_pick_t hb_519 q rfl rfl) fun a q=>zm q rfl fun a q=>?_
 rcases or_b (y_426.2.1 == 80) with hb_520 | hb_520
 rw [ifb_t hb_520] at H
 refine zw q (wtt hb_520) (r_move q rfl) fun a q=>zw q (wtt hb_520) (r_ibin q rfl rfl rfl) fun a q=>zl q (r_pick_t hb_520 q rfl rfl) fun a q=>zm q rfl fun a q=>?_
 rcases or_b (y_441.2.1 == 0) with hb_521 | hb_521
 rw [ifb_t hb_521] at H
 refine zw q (wtt hb_521) (r_fieldAddr underlying41 rfl sizeOf39 q rfl) fun a q=>zw q (wtt hb_521) (r_load isAgg39 q rfl (s.cell (.tail _ (.tail _ (.tail _ z8))) rfl)) fun a q=>zw q (wtt hb_521) (r_len_O underlying39 s (.tail _ (.tail _ (.tail _ (.tail _ (.tail _ z8))))) q rfl) fun a q=>zw q (wtt hb_521) (r_ibin q rfl rfl rfl) fun a q=>zl q (r_pick_t hb_521 q rfl rfl) fun a q=>zm q rfl fun a q=>?_
 rcases or_b ((y_441.1.Rows.length : Int) == 2) with hb_522 | hb_522
 rw [ifb_t hb_522] at H
 refine zw q (wtt hb_522) (r_fieldAddr underlying41 rfl sizeOf39 q rfl) fun a q=>zw q (wtt hb_522) (r_load isAgg39 q rfl (s.cell (.tail _ (.tail _ (.tail _ z8))) rfl)) fun a q=>?_
 obtain ⟨y_523,h_524,H⟩:=bs H
 obtain ⟨b_526,c_527,cs_528,hv_525,hr_529,hc_530,h_5240,h_5241⟩:=s.row_ix (.tail _ (.tail _ (.tail _ (.tail _ (.tail _ z8))))) (hq_452.mono (hl_468.le.trans hl_492.le)) rfl rfl h_524
 obtain ⟨v_531,rfl,hs_532⟩:=hr_529
 refine zw q (wtt hb_522) (r_indexAddr_R underlying39 sizeOf31 hv_525 h_5240 h_5241 q rfl rfl) fun a q=>zw q (wtt hb_522) (r_load isAgg31 q rfl (s.row_cell (.tail _ (.tail _ (.tail _ (.tail _ (.tail _ z8))))) hv_525 (hc_530 0 _ rfl))) fun a q=>?_
 obtain ⟨y_533,h_534,H⟩:=bs H
 obtain ⟨b_535,o_536,c_537,cs_538,hv_539,hr_540,hc_541,h_5340,h_5341⟩:=hs_532.ix h_534
 subst hr_540
 refine zw q (wtt hb_522) (r_indexAddr_R underlying31 sizeOf58 hv_539 h_5340 h_5341 q rfl rfl) fun a q=>zw q (wtt hb_522) (r_fieldAddr underlying58 rfl sizeOf3 q rfl) fun a q=>zw q (wtt hb_522) (r_load isAgg3 q rfl (s.sub.cell (hc_541 1 _ rfl))) fun a q=>zw q (wtt hb_522) (r_ibin q rfl rfl rfl) fun a q=>zl q (r_pick_t hb_522 q rfl rfl) fun a q=>zm q rfl fun a q=>?_
 rcases or_b (y_533.N == 3) with hb_542 | hb_542
 rw [ifb_t hb_542] at H
 refine zw q (wtt hb_542) (r_fieldAddr underlying41 rfl sizeOf39 q rfl) fun a q=>zw q (wtt hb_542) (r_load isAgg39 q rfl (s.cell (.tail _ (.tail _ (.tail _ z8))) rfl)) fun a q=>?_
 obtain ⟨y_543,h_544,H⟩:=bs H
 obtain ⟨b_546,c_547,cs_548,hv_545,hr_549,hc_550,h_5440,h_5441⟩:=s.row_ix (.tail _ (.tail _ (.tail _ (.tail _ (.tail _ z8))))) (hq_452.mono (hl_468.le.trans hl_492.le)) rfl rfl h_544
 obtain ⟨v_551,rfl,hs_552⟩:=hr_549
 refine zw q (wtt hb_542) (r_indexAddr_R underlying39 sizeOf31 hv_545 h_5440 h_5441 q rfl rfl) fun a q=>zw q (wtt hb_542) (r_load isAgg31 q rfl (s.row_cell (.tail _ (.tail _ (.tail _ (.tail _ (.tail _ z8))))) hv_545 (hc_550 0 _ rfl))) fun a q=>?_
 obtain ⟨y_553,h_554,H⟩:=bs H
 obtain ⟨b_555,o_556,c_557,cs_558,hv_559,hr_560,hc_561,h_5540,h_5541⟩:=hs_552.ix h_554
 subst hr_560
 refine zw q (wtt hb_542) (r_indexAddr_R underlying31 sizeOf58 hv_559 h_5540 h_5541 q rfl rfl) fun a q=>zw q (wtt hb_542) (r_fieldAddr underlying58 rfl sizeOf3 q rfl) fun a q=>zw q (wtt hb_542) (r_load isAgg3 q rfl (s.sub.cell (hc_561 1 _ rfl))) fun a q=>zw q (wtt hb_542) (r_ibin q rfl rfl rfl) fun a q=>zl q (r_pick_t hb_542 q rfl rfl) fun a q=>zm q rfl fun a q=>?_
 rcases or_b (y_553.N == 7) with hb_562 | hb_562
 rw [ifb_t hb_562] at H
 refine zw q (wtt hb_562) (r_move q rfl) fun a q=>zw q (wtt hb_562) (r_ibin q rfl rfl rfl) fun a q=>zl q (r_pick_t hb_562 q rfl rfl) fun a q=>zm q rfl fun a q=>?_
 rcases or_b (y_465.2.1 == 0) with hb_563 | hb_563
 rw [ifb_t hb_563] at H
 refine zw q (wtt hb_563) (r_fieldAddr underlying41 rfl sizeOf39 q rfl) fun a q=>zw q (wtt hb_563) (r_load isAgg39 q rfl (s.cell z8 rfl)) fun a q=>zw q (wtt hb_563) (r_len_O underlying39 s (.tail _ (.tail _ z8)) q rfl) fun a q=>zw q (wtt hb_563) (r_ibin q rfl rfl rfl) fun a q=>zl q (r_pick_t hb_563 q rfl rfl) fun a q=>zm q rfl fun a q=>?_
 rcases or_b ((y_465.1.Rows.length : Int) == 1) with hb_564 | hb_564
 rw [ifb_t hb_564] at H
 refine zw q (wtt hb_564) (r_move q rfl) fun a q=>zw q (wtt hb_564) (r_ibin q rfl rfl rfl) fun a q=>zl q (r_pick_t hb_564 q rfl rfl) fun a q=>zm q rfl fun a q=>?_
 rcases or_b (y_489.2.1 == 50) with hb_565 | hb_565
 rw [ifb_t hb_565] at H
 refine zw q (wtt hb_565) (r_move q rfl) fun a q=>?_
 obtain ⟨y_566,h_567,H⟩:=bs H
 have s:=s.pk7
 have s:=s.pk7
 have s:=s.pk7
 have s:=s.pk7
 have s:=s.pk7
 have hS1:=s.sp5
 refine sl_call call14 q (by decide) (wtt hb_565) rfl rfl (leaf_Leaf_Points.calls y_489.2.2 hS1.lend hs_502 hq_507 hm_511 h_567) fun a v_ w hv_ q=>?_
 obtain ⟨R_568,v_570,b_572,v_574,cs_575,mb_577,mb_578,E_579,hv_,hr_,hl_569,hs_571,hq_576,hm_580⟩:=hv_
 have hv_:=hv_.symm
 subst hv_
 obtain ⟨s,hl_569⟩:=hS1.back hr_ hl_569
 have s:=s.un5
 have hRL:=hRL.trans hl_569
 refine zw q (wtt hb_565) (r_ibin q rfl rfl rfl) fun a q=>zl q (r_pick_t hb_565 q rfl rfl) fun a q=>za q rfl fun a q=>zn ?_
 obtain rfl:=Option.some.inj H
 refine wp_ret ?_
 repeat first | refine zt ?_ | refine zb ?_ | refine zo ?_
 exact ret_1 results7 q (rv_tmp q rfl) ⟨rfl,s.bel⟩
 rw [ifb_f hb_565] at H
 refine zsw q (wtf hb_565) fun a q=>zsw q (wtf hb_565) fun a q=>zsw q (wtf hb_565) fun a q=>zl q (r_pick_f hb_565 q rfl rfl) fun a q=>za q rfl fun a q=>zn ?_
 obtain rfl:=Option.some.inj H
 refine wp_ret ?_
 repeat first | refine zt ?_ | refine zb ?_ | refine zo ?_
 exact ret_1 results7 q (rv_tmp q rfl) ⟨rfl,s.bel⟩
 rw [ifb_f hb_564] at H
 refine zsw q (wtf hb_564) fun a q=>zsw q (wtf hb_564) fun a q=>zl q (r_pick_f hb_564 q rfl rfl) fun a q=>zm q rfl fun a q=>zs q fun a q=>zs q fun a q=>zs q fun a q=>zl q (r_pick q rfl rfl rfl) fun a q=>za q rfl fun a q=>zn ?_
 obtain rfl:=Option.some.inj H
 refine wp_ret ?_
 repeat first | refine zt ?_ | refine zb ?_ | refine zo ?_
 exact ret_1 results7 q (rv_tmp q rfl) ⟨rfl,s.bel⟩
 rw [ifb_f hb_563] at H
 refine zsw q (wtf hb_563) fun a q=>zsw q (wtf hb_563) fun a q=>zsw q (wtf hb_563) fun a q=>zsw q (wtf hb_563) fun a q=>zl q (r_pick_f hb_563 q rfl rfl) fun a q=>zm q rfl fun a q=>zs q fun a q=>zs q fun a q=>zl q (r_pick q rfl rfl rfl) fun a q=>zm q rfl fun a q=>zs q fun a q=>zs q fun a q=>zs q fun a q=>zl q (r_pick q rfl rfl rfl) fun a q=>za q rfl fun a q=>zn ?_
 obtain rfl:=Option.some.inj H
 refine wp_ret ?_
 repeat first | refine zt ?_ | refine zb ?_ | refine zo ?_
 exact ret_1 results7 q (rv_tmp q rfl) ⟨rfl,s.bel⟩
 rw [ifb_f hb_562] at H
 refine zsw q (wtf hb_562) fun a q=>zsw q (wtf hb_562) fun a q=>zl q (r_pick_f hb_562 q rfl rfl) fun a q=>zm q rfl fun a q=>zs q fun a q=>zs q fun a q=>zs q fun a q=>zs q fun a q=>zl q (r_pick q rfl rfl rfl) fun a q=>zm q rfl fun a q=>zs q fun a q=>zs q fun a q=>zl q (r_pick q rfl rfl rfl) fun a q=>zm q rfl fun a q=>zs q fun a q=>zs q fun a q=>zs q fun a q=>zl q (r_pick q rfl rfl rfl) fun a q=>za q rfl fun a q=>zn ?_
 obtain rfl:=Option.some.inj H
 refine wp_ret ?_
 repeat first | refine zt ?_ | refine zb ?_ | refine zo ?_
 exact ret_1 results7 q (rv_tmp q rfl) ⟨rfl,s.bel⟩
 rw [ifb_f hb_542] at H
 refine zsw q (wtf hb_542) fun a q=>zsw q (wtf hb_542) fun a q=>zsw q (wtf hb_542) fun a q=>zsw q (wtf hb_542) fun a q=>zsw q (wtf hb_542) fun a q=>zsw q (wtf hb_542) fun a q=>zsw q (wtf hb_542) fun a q=>zsw q (wtf hb_542) fun a q=>zl q (r_pick_f hb_542 q rfl rfl) fun a q=>zm q rfl fun a q=>zs q fun a q=>zs q fun a q=>zl q (r_pick q rfl rfl rfl) fun a q=>zm q rfl fun a q=>zs q fun a q=>zs q fun a q=>zs q fun a q=>zs q fun a q=>zl q (r_pick q rfl rfl rfl) fun a q=>zm q rfl fun a q=>zs q fun a q=>zs q fun a q=>zl q (r_pick q rfl rfl rfl) fun a q=>zm q rfl fun a q=>zs q fun a q=>zs q fun a q=>zs q fun a q=>zl q (r_pick q rfl rfl rfl) fun a q=>za q rfl fun a q=>zn ?_
 obtain rfl:=Option.some.inj H
 refine wp_ret ?_
 repeat first | refine zt ?_ | refine zb ?_ | refine zo ?_
 exact ret_1 results7 q (rv_tmp q rfl) ⟨rfl,s.bel⟩
 rw [ifb_f hb_522] at H
 refine zsw q (wtf hb_522) fun a q=>zsw q (wtf hb_522) fun a q=>zsw q (wtf hb_522) fun a q=>zsw q (wtf hb_522) fun a q=>zsw q (wtf hb_522) fun a q=>zsw q (wtf hb_522) fun a q=>zsw q (wtf hb_522) fun a q=>zsw q (wtf hb_522) fun a q=>zl q (r_pick_f hb_522 q rfl rfl) fun a q=>zm q rfl fun a q=>zs q fun a q=>zs q fun a q=>zs q fun a q=>zs q fun a q=>zs q fun a q=>zs q fun a q=>zs q fun a q=>zs q fun a q=>zl q (r_pick q rfl rfl rfl) fun a q=>zm q rfl fun a q=>zs q fun a q=>zs q fun a q=>zl q (r_pick q rfl rfl rfl) fun a q=>zm q rfl fun a q=>zs q fun a q=>zs q fun a q=>zs q fun a q=>zs q fun a q=>zl q (r_pick q rfl rfl rfl) fun a q=>zm q rfl fun a q=>zs q fun a q=>zs q fun a q=>zl q (r_pick q rfl rfl rfl) fun a q=>zm q rfl fun a q=>?_
 refine zs q fun a q=>zs q fun a q=>zs q fun a q=>zl q (r_pick q rfl rfl rfl) fun a q=>za q rfl fun a q=>zn ?_
 obtain rfl:=Option.some.inj H
 refine wp_ret ?_
 repeat first | refine zt ?_ | refine zb ?_ | refine zo ?_
 exact ret_1 results7 q (rv_tmp q rfl) ⟨rfl,s.bel⟩
 rw [ifb_f hb_521] at H
 refine zsw q (wtf hb_521) fun a q=>zsw q (wtf hb_521) fun a q=>zsw q (wtf hb_521) fun a q=>zsw q (wtf hb_521) fun a q=>zl q (r_pick_f hb_521 q rfl rfl) fun a q=>zm q rfl fun a q=>zs q fun a q=>zs q fun a q=>zs q fun a q=>zs q fun a q=>zs q fun a q=>zs q fun a q=>zs q fun a q=>zs q fun a q=>zl q (r_pick q rfl rfl rfl) fun a q=>zm q rfl fun a q=>zs q fun a q=>zs q fun a q=>zs q fun a q=>zs q fun a q=>zs q fun a q=>zs q fun a q=>zs q fun a q=>zs q fun a q=>zl q (r_pick q rfl rfl rfl) fun a q=>zm q rfl fun a q=>zs q fun a q=>zs q fun a q=>zl q (r_pick q rfl rfl rfl) fun a q=>zm q rfl fun a q=>zs q fun a q=>zs q fun a q=>zs q fun a q=>zs q fun a q=>zl q (r_pick q rfl rfl rfl) fun a q=>zm q rfl fun a q=>zs q fun a q=>?_
 refine zs q fun a q=>zl q (r_pick q rfl rfl rfl) fun a q=>zm q rfl fun a q=>zs q fun a q=>zs q fun a q=>zs q fun a q=>zl q (r_pick q rfl rfl rfl) fun a q=>za q rfl fun a q=>zn ?_
 obtain rfl:=Option.some.inj H
 refine wp_ret ?_
 repeat first | refine zt ?_ | refine zb ?_ | refine zo ?_
 exact ret_1 results7 q (rv_tmp q rfl) ⟨rfl,s.bel⟩
 rw [ifb_f hb_520] at H
 refine zsw q (wtf hb_520) fun a q=>zsw q (wtf hb_520) fun a q=>zl q (r_pick_f hb_520 q rfl rfl) fun a q=>zm q rfl fun a q=>zs q fun a q=>zs q fun a q=>zs q fun a q=>zs q fun a q=>zl q (r_pick q rfl rfl rfl) fun a q=>zm q rfl fun a q=>zs q fun a q=>zs q fun a q=>zs q fun a q=>zs q fun a q=>zs q fun a q=>zs q fun a q=>zs q fun a q=>zs q fun a q=>zl q (r_pick q rfl rfl rfl) fun a q=>zm q rfl fun a q=>zs q fun a q=>zs q fun a q=>zs q fun a q=>zs q fun a q=>zs q fun a q=>zs q fun a q=>zs q fun a q=>zs q fun a q=>zl q (r_pick q rfl rfl rfl) fun a q=>zm q rfl fun a q=>zs q fun a q=>zs q fun a q=>zl q (r_pick q rfl rfl rfl) fun a q=>zm q rfl fun a q=>zs q fun a q=>zs q fun a q=>zs q fun a q=>zs q fun a q=>?_
 refine zl q (r_pick q rfl rfl rfl) fun a q=>zm q rfl fun a q=>zs q fun a q=>zs q fun a q=>zl q (r_pick q rfl rfl rfl) fun a q=>zm q rfl fun a q=>zs q fun a q=>zs q fun a q=>zs q fun a q=>zl q (r_pick q rfl rfl rfl) fun a q=>za q rfl fun a q=>zn ?_
 obtain rfl:=Option.some.inj H
 refine wp_ret ?_
 repeat first | refine zt ?_ | refine zb ?_ | refine zo ?_
 exact ret_1 results7 q (rv_tmp q rfl) ⟨rfl,s.bel⟩
 rw [ifb_f hb_519] at H
 refine zsw q (wtf hb_519) fun a q=>zsw q (wtf hb_519) fun a q=>zl q (r_pick_f hb_519 q rfl rfl) fun a q=>zm q rfl fun a q=>zs q fun a q=>zs q fun a q=>zl q (r_pick q rfl rfl rfl) fun a q=>zm q rfl fun a q=>zs q fun a q=>zs q fun a q=>zs q fun a q=>zs q fun a q=>zl q (r_pick q rfl rfl rfl) fun a q=>zm q rfl fun a q=>zs q fun a q=>zs q fun a q=>zs q fun a q=>zs q fun a q=>zs q fun a q=>zs q fun a q=>zs q fun a q=>zs q fun a q=>zl q (r_pick q rfl rfl rfl) fun a q=>zm q rfl fun a q=>zs q fun a q=>zs q fun a q=>zs q fun a q=>zs q fun a q=>zs q fun a q=>zs q fun a q=>zs q fun a q=>zs q fun a q=>zl q (r_pick q rfl rfl rfl) fun a q=>zm q rfl fun a q=>zs q fun a q=>zs q fun a q=>zl q (r_pick q rfl rfl rfl) fun a q=>?_
 refine zm q rfl fun a q=>zs q fun a q=>zs q fun a q=>zs q fun a q=>zs q fun a q=>zl q (r_pick q rfl rfl rfl) fun a q=>zm q rfl fun a q=>zs q fun a q=>zs q fun a q=>zl q (r_pick q rfl rfl rfl) fun a q=>zm q rfl fun a q=>zs q fun a q=>zs q fun a q=>zs q fun a q=>zl q (r_pick q rfl rfl rfl) fun a q=>za q rfl fun a q=>zn ?_
 obtain rfl:=Option.some.inj H
 refine wp_ret ?_
 repeat first | refine zt ?_ | refine zb ?_ | refine zo ?_
 exact ret_1 results7 q (rv_tmp q rfl) ⟨rfl,s.bel⟩
 rw [ifb_f hb_518] at H
 refine zsw q (wtf hb_518) fun a q=>zsw q (wtf hb_518) fun a q=>zl q (r_pick_f hb_518 q rfl rfl) fun a q=>zm q rfl fun a q=>zs q fun a q=>zs q fun a q=>zl q (r_pick q rfl rfl rfl) fun a q=>zm q rfl fun a q=>zs q fun a q=>zs q fun a q=>zl q (r_pick q rfl rfl rfl) fun a q=>zm q rfl fun a q=>zs q fun a q=>zs q fun a q=>zs q fun a q=>zs q fun a q=>zl q (r_pick q rfl rfl rfl) fun a q=>zm q rfl fun a q=>zs q fun a q=>zs q fun a q=>zs q fun a q=>zs q fun a q=>zs q fun a q=>zs q fun a q=>zs q fun a q=>zs q fun a q=>zl q (r_pick q rfl rfl rfl) fun a q=>zm q rfl fun a q=>zs q fun a q=>zs q fun a q=>zs q fun a q=>zs q fun a q=>zs q fun a q=>zs q fun a q=>zs q fun a q=>zs q fun a q=>zl q (r_pick q rfl rfl rfl) fun a q=>?_
 refine zm q rfl fun a q=>zs q fun a q=>zs q fun a q=>zl q (r_pick q rfl rfl rfl) fun a q=>zm q rfl fun a q=>zs q fun a q=>zs q fun a q=>zs q fun a q=>zs q fun a q=>zl q (r_pick q rfl rfl rfl) fun a q=>zm q rfl fun a q=>zs q fun a q=>zs q fun a q=>zl q (r_pick q rfl rfl rfl) fun a q=>zm q rfl fun a q=>zs q fun a q=>zs q fun a q=>zs q fun a q=>zl q (r_pick q rfl rfl rfl) fun a q=>za q rfl fun a q=>zn ?_
 obtain rfl:=Option.some.inj H
 refine wp_ret ?_
 repeat first | refine zt ?_ | refine zb ?_ | refine zo ?_
 exact ret_1 results7 q (rv_tmp q rfl) ⟨rfl,s.bel⟩
 rw [ifb_f hb_517] at H
 refine zsw q (wtf hb_517) fun a q=>zsw q (wtf hb_517) fun a q=>zl q (r_pick_f hb_517 q rfl rfl) fun a q=>zm q rfl fun a q=>zs q fun a q=>zs q fun a q=>zl q (r_pick q rfl rfl rfl) fun a q=>zm q rfl fun a q=>zs q fun a q=>zs q fun a q=>zl q (r_pick q rfl rfl rfl) fun a q=>zm q rfl fun a q=>zs q fun a q=>zs q fun a q=>zl q (r_pick q rfl rfl rfl) fun a q=>zm q rfl fun a q=>zs q fun a q=>zs q fun a q=>zs q fun a q=>zs q fun a q=>zl q (r_pick q rfl rfl rfl) fun a q=>zm q rfl fun a q=>zs q fun a q=>zs q fun a q=>zs q fun a q=>zs q fun a q=>zs q fun a q=>zs q fun a q=>zs q fun a q=>zs q fun a q=>zl q (r_pick q rfl rfl rfl) fun a q=>zm q rfl fun a q=>zs q fun a q=>zs q fun a q=>zs q fun a q=>zs q fun a q=>zs q fun a q=>?_
 refine zs q fun a q=>zs q fun a q=>zs q fun a q=>zl q (r_pick q rfl rfl rfl) fun a q=>zm q rfl fun a q=>zs q fun a q=>zs q fun a q=>zl q (r_pick q rfl rfl rfl) fun a q=>zm q rfl fun a q=>zs q fun a q=>zs q fun a q=>zs q fun a q=>zs q fun a q=>zl q (r_pick q rfl rfl rfl) fun a q=>zm q rfl fun a q=>zs q fun a q=>zs q fun a q=>zl q (r_pick q rfl rfl rfl) fun a q=>zm q rfl fun a q=>zs q fun a q=>zs q fun a q=>zs q fun a q=>zl q (r_pick q rfl rfl rfl) fun a q=>za q rfl fun a q=>zn ?_
 obtain rfl:=Option.some.inj H
 refine wp_ret ?_
 repeat first | refine zt ?_ | refine zb ?_ | refine zo ?_
 exact ret_1 results7 q (rv_tmp q rfl) ⟨rfl,s.bel⟩
 rw [ifb_f hb_516] at H
 refine zsw q (wtf hb_516) fun a q=>zl q (r_pick_f hb_516 q rfl rfl) fun a q=>zm q rfl fun a q=>zs q fun a q=>zs q fun a q=>zl q (r_pick q rfl rfl rfl) fun a q=>zm q rfl fun a q=>zs q fun a q=>zs q fun a q=>zl q (r_pick q rfl rfl rfl) fun a q=>zm q rfl fun a q=>zs q fun a q=>zs q fun a q=>zl q (r_pick q rfl rfl rfl) fun a q=>zm q rfl fun a q=>zs q fun a q=>zs q fun a q=>zl q (r_pick q rfl rfl rfl) fun a q=>zm q rfl fun a q=>zs q fun a q=>zs q fun a q=>zs q fun a q=>zs q fun a q=>zl q (r_pick q rfl rfl rfl) fun a q=>zm q rfl fun a q=>zs q fun a q=>zs q fun a q=>zs q fun a q=>zs q fun a q=>zs q fun a q=>zs q fun a q=>zs q fun a q=>zs q fun a q=>zl q (r_pick q rfl rfl rfl) fun a q=>zm q rfl fun a q=>zs q fun a q=>zs q fun a q=>?_
 refine zs q fun a q=>zs q fun a q=>zs q fun a q=>zs q fun a q=>zs q fun a q=>zs q fun a q=>zl q (r_pick q rfl rfl rfl) fun a q=>zm q rfl fun a q=>zs q fun a q=>zs q fun a q=>zl q (r_pick q rfl rfl rfl) fun a q=>zm q rfl fun a q=>zs q fun a q=>zs q fun a q=>zs q fun a q=>zs q fun a q=>zl q (r_pick q rfl rfl rfl) fun a q=>zm q rfl fun a q=>zs q fun a q=>zs q fun a q=>zl q (r_pick q rfl rfl rfl) fun a q=>zm q rfl fun a q=>zs q fun a q=>zs q fun a q=>zs q fun a q=>zl q (r_pick q rfl rfl rfl) fun a q=>za q rfl fun a q=>zn ?_
 obtain rfl:=Option.some.inj H
 refine wp_ret ?_
 repeat first | refine zt ?_ | refine zb ?_ | refine zo ?_
 exact ret_1 results7 q (rv_tmp q rfl) ⟨rfl,s.bel⟩
 rw [ifb_f hb_515] at H
 refine zsw q (wtf hb_515) fun a q=>zsw q (wtf hb_515) fun a q=>zl q (r_pick_f hb_515 q rfl rfl) fun a q=>zm q rfl fun a q=>zs q fun a q=>zl q (r_pick q rfl rfl rfl) fun a q=>zm q rfl fun a q=>zs q fun a q=>zs q fun a q=>zl q (r_pick q rfl rfl rfl) fun a q=>zm q rfl fun a q=>zs q fun a q=>zs q fun a q=>zl q (r_pick q rfl rfl rfl) fun a q=>zm q rfl fun a q=>zs q fun a q=>zs q fun a q=>zl q (r_pick q rfl rfl rfl) fun a q=>zm q rfl fun a q=>zs q fun a q=>zs q fun a q=>zl q (r_pick q rfl rfl rfl) fun a q=>zm q rfl fun a q=>zs q fun a q=>zs q fun a q=>zs q fun a q=>zs q fun a q=>zl q (r_pick q rfl rfl rfl) fun a q=>zm q rfl fun a q=>zs q fun a q=>zs q fun a q=>zs q fun a q=>zs q fun a q=>zs q fun a q=>zs q fun a q=>zs q fun a q=>?_
 refine zs q fun a q=>zl q (r_pick q rfl rfl rfl) fun a q=>zm q rfl fun a q=>zs q fun a q=>zs q fun a q=>zs q fun a q=>zs q fun a q=>zs q fun a q=>zs q fun a q=>zs q fun a q=>zs q fun a q=>zl q (r_pick q rfl rfl rfl) fun a q=>zm q rfl fun a q=>zs q fun a q=>zs q fun a q=>zl q (r_pick q rfl rfl rfl) fun a q=>zm q rfl fun a q=>zs q fun a q=>zs q fun a q=>zs q fun a q=>zs q fun a q=>zl q (r_pick q rfl rfl rfl) fun a q=>zm q rfl fun a q=>zs q fun a q=>zs q fun a q=>zl q (r_pick q rfl rfl rfl) fun a q=>zm q rfl fun a q=>zs q fun a q=>zs q fun a q=>zs q fun a q=>zl q (r_pick q rfl rfl rfl) fun a q=>za q rfl fun a q=>zn ?_
 obtain rfl:=Option.some.inj H
 refine wp_ret ?_
 repeat first | refine zt ?_ | refine zb ?_ | refine zo ?_
 exact ret_1 results7 q (rv_tmp q rfl) ⟨rfl,s.bel⟩
 rw [ifb_f hb_514] at H
 refine zsw q (wtf hb_514) fun a q=>zsw q (wtf hb_514) fun a q=>zl q (r_pick_f hb_514 q rfl rfl) fun a q=>zm q rfl fun a q=>zs q fun a q=>zs q fun a q=>zl q (r_pick q rfl rfl rfl) fun a q=>zm q rfl fun a q=>zs q fun a q=>zl q (r_pick q rfl rfl rfl) fun a q=>zm q rfl fun a q=>zs q fun a q=>zs q fun a q=>zl q (r_pick q rfl rfl rfl) fun a q=>zm q rfl fun a q=>zs q fun a q=>zs q fun a q=>zl q (r_pick q rfl rfl rfl) fun a q=>zm q rfl fun a q=>zs q fun a q=>zs q fun a q=>zl q (r_pick q rfl rfl rfl) fun a q=>zm q rfl fun a q=>zs q fun a q=>zs q fun a q=>zl q (r_pick q rfl rfl rfl) fun a q=>zm q rfl fun a q=>zs q fun a q=>zs q fun a q=>zs q fun a q=>zs q fun a q=>zl q (r_pick q rfl rfl rfl) fun a q=>zm q rfl fun a q=>zs q fun a q=>?_
 refine zs q fun a q=>zs q fun a q=>zs q fun a q=>zs q fun a q=>zs q fun a q=>zs q fun a q=>zs q fun a q=>zl q (r_pick q rfl rfl rfl) fun a q=>zm q rfl fun a q=>zs q fun a q=>zs q fun a q=>zs q fun a q=>zs q fun a q=>zs q fun a q=>zs q fun a q=>zs q fun a q=>zs q fun a q=>zl q (r_pick q rfl rfl rfl) fun a q=>zm q rfl fun a q=>zs q fun a q=>zs q fun a q=>zl q (r_pick q rfl rfl rfl) fun a q=>zm q rfl fun a q=>zs q fun a q=>zs q fun a q=>zs q fun a q=>zs q fun a q=>zl q (r_pick q rfl rfl rfl) fun a q=>zm q rfl fun a q=>zs q fun a q=>zs q fun a q=>zl q (r_pick q rfl rfl rfl) fun a q=>zm q rfl fun a q=>zs q fun a q=>zs q fun a q=>zs q fun a q=>zl q (r_pick q rfl rfl rfl) fun a q=>za q rfl fun a q=>zn ?_
 obtain rfl:=Option.some.inj H
 refine wp_ret ?_
 repeat first | refine zt ?_ | refine zb ?_ | refine zo ?_
 exact ret_1 results7 q (rv_tmp q rfl) ⟨rfl,s.bel⟩
 rw [ifb_f hb_513] at H
 refine zsw q (wtf hb_513) fun a q=>zsw q (wtf hb_513) fun a q=>zl q (r_pick_f hb_513 q rfl rfl) fun a q=>zm q rfl fun a q=>zs q fun a q=>zs q fun a q=>zl q (r_pick q rfl rfl rfl) fun a q=>zm q rfl fun a q=>zs q fun a q=>zs q fun a q=>zl q (r_pick q rfl rfl rfl) fun a q=>zm q rfl fun a q=>zs q fun a q=>zl q (r_pick q rfl rfl rfl) fun a q=>zm q rfl fun a q=>zs q fun a q=>zs q fun a q=>zl q (r_pick q rfl rfl rfl) fun a q=>zm q rfl fun a q=>zs q fun a q=>zs q fun a q=>zl q (r_pick q rfl rfl rfl) fun a q=>zm q rfl fun a q=>zs q fun a q=>zs q fun a q=>zl q (r_pick q rfl rfl rfl) fun a q=>zm q rfl fun a q=>zs q fun a q=>zs q fun a q=>zl q (r_pick q rfl rfl rfl) fun a q=>zm q rfl fun a q=>zs q fun a q=>zs q fun a q=>zs q fun a q=>?_
 refine zs q fun a q=>zl q (r_pick q rfl rfl rfl) fun a q=>zm q rfl fun a q=>zs q fun a q=>zs q fun a q=>zs q fun a q=>zs q fun a q=>zs q fun a q=>zs q fun a q=>zs q fun a q=>zs q fun a q=>zl q (r_pick q rfl rfl rfl) fun a q=>zm q rfl fun a q=>zs q fun a q=>zs q fun a q=>zs q fun a q=>zs q fun a q=>zs q fun a q=>zs q fun a q=>zs q fun a q=>zs q fun a q=>zl q (r_pick q rfl rfl rfl) fun a q=>zm q rfl fun a q=>zs q fun a q=>zs q fun a q=>zl q (r_pick q rfl rfl rfl) fun a q=>zm q rfl fun a q=>zs q fun a q=>zs q fun a q=>zs q fun a q=>zs q fun a q=>zl q (r_pick q rfl rfl rfl) fun a q=>zm q rfl fun a q=>zs q fun a q=>zs q fun a q=>zl q (r_pick q rfl rfl rfl) fun a q=>zm q rfl fun a q=>zs q fun a q=>zs q fun a q=>?_
 refine zs q fun a q=>zl q (r_pick q rfl rfl rfl) fun a q=>za q rfl fun a q=>zn ?_
 obtain rfl:=Option.some.inj H
 refine wp_ret ?_
 repeat first | refine zt ?_ | refine zb ?_ | refine zo ?_
 exact ret_1 results7 q (rv_tmp q rfl) ⟨rfl,s.bel⟩
end Go.Proofs.YtchgiggipimigaaGreatDoor.M
end
section
namespace Go.Proofs.YtchgiggipimigaaGreatDoor.M
open Go Go.Eng Go.Proofs Go.RowKit
set_option linter.unusedVariables false
set_option linter.unusedSimpArgs false
open Go.Proofs.Tryz
set_option maxHeartbeats 4000000
set_option maxRecDepth 100000
theorem law08_LeafRoom.calls (a0 : Int) (a1 : List api_Point) {w0 : World} {R : Hp} {RA : Hp} {v1_0 : Value} (hRA : RA.sub w0) (hR : R.sub w0) (h1_0 : SlR ty_api_Point R v1_0 a1) (hG : GF RA) (H : law08_LeafRoom a0 a1 = some true) : CallsV prog 4 #[I6 a0,v1_0] w0 (.bool true):=by
 unfold law08_LeafRoom at H
 refine enter (args:=[I6 a0,v1_0]) func4 rfl ntmps4 rfl fun a q=>?_
 have s:=St.init hR
 have hRL:=RLe.refl (M:=[]) w0 R
 refine zq<|zr<|za q rfl fun a q=>zn<|zq<|zr ?_
 obtain ⟨y_1,h_2,H⟩:=bs H
 refine sl_callV call7 s q (by decide) rfl rfl rfl (law08_shown.calls (lentOf_sub [] _) (GF.mono (s.raLe0 hRA nil_not) hG) h_2) fun a w s q=>?_
 refine za q rfl fun a q=>zn<|zq<|zr ?_
 obtain ⟨y_3,h_4,H⟩:=bs H
 refine sl_call call9 q (by decide) rfl rfl rfl (law08_load.calls s.sub h_4) fun a v_ w hv_ q=>?_
 obtain ⟨R_5,v_8,cs_9,hv_,hr_,hl_6,hq_10⟩:=hv_
 have hv_:=hv_.symm
 subst hv_
 obtain ⟨s,hl_6⟩:=s.sp0.back hr_ hl_6
 have s:=s.un1
 have hRL:=hRL.trans hl_6
 refine zm q rfl fun a q=>?_
 obtain ⟨R_11,s,hl_13,hs_12⟩:=s.fz_row hq_10 rfl rfl
 have hRL:=hRL.trans hl_13
 obtain ⟨y_14,h_15,H⟩:=bs H
 refine sl_call call8 q (by decide) rfl rfl rfl (leaf_New.calls y_3 a0 (lentOf_sub [] _) s.sub hs_12 (GF.mono (s.raLe0 hRA nil_not) hG) h_15) fun a v_ w hv_ q=>?_
 rcases hv_ with ⟨h_31,R_33,hv_,hr_,hl_34⟩ | ⟨y_18,h_32,R_16,b_19,v_20,b_22,v_24,cs_25,mb_27,mb_28,E_29,hv_,hr_,hl_17,hs_21,hq_26,hm_30⟩
 rw [oel_none h_31] at H
 have hv_:=hv_.symm
 subst hv_
 obtain ⟨s,hl_34⟩:=s.sp0.back hr_ hl_34
 have s:=s.un0
 have hRL:=hRL.trans hl_34
 refine zm q rfl fun a q=>zl q (r_extract q rfl rfl) fun a q=>zl q (r_extract q rfl rfl) fun a q=>za q rfl fun a q=>za q rfl fun a q=>zn<|zq<|zq ?_
 refine wp_mid (fun a w=>law08_LeafRoom.j0  = some true ∧ Kn 113 a [(0,I6 a0),(1,v1_0),(6,.pointer none),(31,.bool true)] ∧ St [] w0 w R_33 []) ?_ ?_
 refine zr<|zm q rfl fun a q=>zl q (r_un q rfl (u_not _)) fun a q=>zm q rfl fun a q=>?_
 rcases or_b (!y_1) with hb_37 | hb_37
 rw [ifb_t hb_37] at H
 refine zsw q (wft hb_37) fun a q=>zsw q (wft hb_37) fun a q=>zl q (r_pick_t hb_37 q rfl rfl) fun a q=>zm q rfl fun a q=>zs q fun a q=>zs q fun a q=>zl q (r_pick q rfl rfl rfl) fun a q=>zn ?_
 exact ⟨H,q.sub (zc (zc (zc (zc zz)))),s⟩
 rw [ifb_f hb_37] at H
 refine zw q (wff hb_37) (r_move q rfl) fun a q=>zw q (wff hb_37) (r_pnn underlying24 q rfl rfl) fun a q=>zl q (r_pick_f hb_37 q rfl rfl) fun a q=>zm q rfl fun a q=>zs q fun a q=>zs q fun a q=>zl q (r_pick q rfl rfl rfl) fun a q=>zn ?_
 exact ⟨H,q.sub (zc (zc (zc (zc zz)))),s⟩
 rintro a w ⟨H,q,s⟩
 unfold law08_LeafRoom.j0 at H
 refine wp_cond_true (q.ev rfl) ?_
 refine zq<|zr<|za q rfl fun a q=>zn ?_
 exact absurd (Option.some.inj H) (by decide)
 rw [oel_some h_32] at H
 have hv_:=hv_.symm
 subst hv_
 obtain ⟨s,hl_17⟩:=s.sp0.back hr_ hl_17
 have s:=s.un5
 have hRL:=hRL.trans hl_17
 refine zm q rfl fun a q=>zl q (r_extract q rfl rfl) fun a q=>zl q (r_extract q rfl rfl) fun a q=>za q rfl fun a q=>za q rfl fun a q=>zn<|zq<|zq ?_
 refine wp_mid (fun a w=>∃ (x_39 : Bool),law08_LeafRoom.j1 a0 a1 y_18 x_39 = some true ∧ Kn 113 a [(0,I6 a0),(1,v1_0),(6,.pointer (some ⟨b_19,0,none⟩)),(31,.bool x_39)] ∧ St [] w0 w R_16 [.row 113 2 v_24 y_18.dict.l.length cs_25,.mp mb_27 (kvs Value.string (Value.int .i64) y_18.dict.ids),.cells b_22 [I6 y_18.dict.most,v_24,.map (some mb_27)] 102,mbo mb_28 (kvs (Value.int .i64) id (mbp E_29)) 111 90 2 E_29,.cells b_19 [v_20,I6 y_18.room,I6 y_18.points,.pointer (some ⟨b_22,0,none⟩),.map (some mb_28)] 70]) ?_ ?_
 refine zr<|zm q rfl fun a q=>zl q (r_un q rfl (u_not _)) fun a q=>zm q rfl fun a q=>?_
 rcases or_b (!y_1) with hb_41 | hb_41
 rw [ifb_t hb_41] at H
 refine zsw q (wft hb_41) fun a q=>zsw q (wft hb_41) fun a q=>zl q (r_pick_t hb_41 q rfl rfl) fun a q=>zm q rfl fun a q=>zs q fun a q=>zs q fun a q=>zl q (r_pick q rfl rfl rfl) fun a q=>zn ?_
 have s:=s.pk4
 have s:=s.pk2
 have s:=s.pk4
 have s:=s.pk4
 exact ⟨true,H,q.sub (zc (zc (zc (zc zz)))),s⟩
 rw [ifb_f hb_41] at H
 refine zw q (wff hb_41) (r_move q rfl) fun a q=>zw q (wff hb_41) (r_peq underlying24 q rfl rfl) fun a q=>zl q (r_pick_f hb_41 q rfl rfl) fun a q=>zm q rfl fun a q=>zm q rfl fun a q=>zl q (r_ibin q rfl rfl rfl) fun a q=>zl q (r_pick q rfl rfl rfl) fun a q=>zn ?_
 have s:=s.pk4
 have s:=s.pk2
 have s:=s.pk4
 have s:=s.pk4
 exact ⟨(y_14.2 != 0),H,q.sub (zc (zc (zc (zc zz)))),s⟩
 rintro a w ⟨x_39,H,q,s⟩
 unfold law08_LeafRoom.j1 at H
 refine wp_cond_split (q.ev rfl) (fun (hb_42 : x_39 = true)=>?_) fun hb_42=>?_
 rw [ifb_t hb_42] at H
 refine zq<|zr<|za q rfl fun a q=>zn ?_
 exact absurd (Option.some.inj H) (by decide)
 rw [ifb_f hb_42] at H
 refine wp_skip<|zq<|zq<|zr<|za q rfl fun a q=>zn ?_
 refine wp_block ?_
 refine wp_loop_k (fun k_l2 a w=>∃ (x_367 : List api_Schema) (x_368 : Int) (x_369 : Int) (x_371 : Int) (x_373 : List streams_stream) (x_378 : List (ByteArray × Int)) (x_380 : List (Int × runs_Run)) (x_383 : Int) (R_384 : Hp) (v_365 : Value) (v_374 : Value) (cs_375 : List Value) (E_381 : List (MB Int)) (b_377 : Nat) (b_370 : Nat) (b_379 : Nat),law08_LeafRoom.l2 a0 a1 k_l2 x_367 x_368 x_369 x_371 x_373 x_378 x_380 x_383 = some true ∧ RLe [] w0 R_16 R_384 ∧ SlR ty_api_Schema R_384 v_365 x_367 ∧ Reps ty_streams_stream R_384 cs_375 x_373 ∧ MBel ty_api_Sample runs_Run.l R_384 E_381 x_380 ∧ Kn 113 a [(0,I6 a0),(1,v1_0),(6,.pointer (some ⟨b_19,0,none⟩)),(8,I6 x_383)] ∧ St [] w0 w R_384 [.row 113 2 v_374 x_373.length cs_375,.mp b_377 (kvs Value.string (Value.int .i64) x_378),.cells b_370 [I6 x_371,v_374,.map (some b_377)] 102,mbo b_379 (kvs (Value.int .i64) id (mbp E_381)) 111 90 2 E_381,.cells b_19 [v_365,I6 x_368,I6 x_369,.pointer (some ⟨b_370,0,none⟩),.map (some b_379)] 70]) (((a1.length : Int) - 0).toNat + 1) ?_ ?_
 have s:=s.pk4
 have s:=s.pk4
 have s:=s.pk4
 have s:=s.pk4
 have s:=s.pk4
 exact ⟨y_18.schemas,y_18.room,y_18.points,y_18.dict.most,y_18.dict.l,y_18.dict.ids,y_18.runs,0,_,v_20,_,_,_,_,_,_,H,(RLe.refl _ _),hs_21,hq_26,hm_30,q.sub (zc (zc (zc (zc zz)))),s⟩
 rintro k_l2 a w ⟨x_367,x_368,x_369,x_371,x_373,x_378,x_380,x_383,R_384,v_365,v_374,cs_375,E_381,b_377,b_370,b_379,H,hl_385,hs_366,hq_376,hm_382,q,s⟩
 rcases k_l2 with _ | k_l2
 cases H
 rw [law08_LeafRoom.l2.eq_2] at H
 have hRL:=hRL.trans hl_385
 refine zq<|zq ?_
 refine wp_mid (fun a w=>∃ (x_709 : Bool),law08_LeafRoom.j3 (law08_LeafRoom.l2 a0 a1 k_l2) a0 a1 x_367 x_368 x_369 x_371 x_373 x_378 x_380 x_383 x_709 = some true ∧ Kn 113 a [(0,I6 a0),(1,v1_0),(6,.pointer (some ⟨b_19,0,none⟩)),(8,I6 x_383),(39,.bool x_709)] ∧ St [] w0 w R_384 [.row 113 2 v_374 x_373.length cs_375,.mp b_377 (kvs Value.string (Value.int .i64) x_378),.cells b_370 [I6 x_371,v_374,.map (some b_377)] 102,mbo b_379 (kvs (Value.int .i64) id (mbp E_381)) 111 90 2 E_381,.cells b_19 [v_365,I6 x_368,I6 x_369,.pointer (some ⟨b_370,0,none⟩),.map (some b_379)] 70]) ?_ ?_
 refine zr<|zm q rfl fun a q=>zm q rfl fun a q=>zl q (r_len_R underlying30 h1_0 q rfl) fun a q=>zl q (r_ibin q rfl rfl rfl) fun a q=>zm q rfl fun a q=>?_
 rcases or_b (decide (x_383 < (a1.length : Int))) with hb_711 | hb_711
 rw [ifb_t hb_711] at H
 refine zw q (wtt hb_711) (r_move q rfl) fun a q=>zw q (wtt hb_711) (r_ibin q rfl rfl rfl) fun a q=>zl q (r_pick_t hb_711 q rfl rfl) fun a q=>zn ?_
 have s:=s.pk4
 have s:=s.pk4
 have s:=s.pk4
 have s:=s.pk4
 have s:=s.pk4
 exact ⟨(decide (x_383 < 100)),H,q.sub (zc (zc (zc (zc (zc zz))))),s⟩
 rw [ifb_f hb_711] at H
 refine zsw q (wtf hb_711) fun a q=>zsw q (wtf hb_711) fun a q=>zl q (r_pick_f hb_711 q rfl rfl) fun a q=>zn ?_
 have s:=s.pk4
 have s:=s.pk4
 have s:=s.pk4
 have s:=s.pk4
 have s:=s.pk4
 exact ⟨false,H,q.sub (zc (zc (zc (zc (zc zz))))),s⟩
 rintro a w ⟨x_709,H,q,s⟩
 unfold law08_LeafRoom.j3 at H
 refine wp_cond_split (q.ev rfl) (fun (hb_712 : x_709 = true)=>?_) fun hb_712=>?_
 rw [ifb_t hb_712] at H
 refine wp_skip<|zq ?_
 refine wp_block ?_
 refine zq<|zr<|zm q rfl fun a q=>?_
 obtain ⟨y_713,h_714,H⟩:=bs H
 have s:=s.pk3
 have s:=s.pk2
 have s:=s.pk2
 have s:=s.pk3
 have s:=s.pk4
 have hS1:=s.sp5
 refine sl_call call14 q (by decide) rfl rfl rfl (leaf_Leaf_Points.calls (⟨x_367,x_368,x_369,(⟨x_371,x_373,x_378⟩ : streams_Dict),x_380⟩ : leaf_Leaf) hS1.lend hs_366 hq_376 hm_382 h_714) fun a v_ w hv_ q=>?_
 obtain ⟨R_715,v_717,b_719,v_721,cs_722,mb_724,mb_725,E_726,hv_,hr_,hl_716,hs_718,hq_723,hm_727⟩:=hv_
 have hv_:=hv_.symm
 subst hv_
 obtain ⟨s,hl_716⟩:=hS1.back hr_ hl_716
 have s:=s.un5
 have hRL:=hRL.trans hl_716
 refine za q rfl fun a q=>zn<|zq<|zr<|zm q rfl fun a q=>zm q rfl fun a q=>?_
 obtain ⟨y_728,h_729,H⟩:=bs H
 obtain ⟨b_730,o_731,c_732,cs_733,hv_734,hr_735,hc_736,h_7290,h_7291⟩:=h1_0.ix h_729
 obtain ⟨v_737,v_739,rfl,hs_738,hs_740⟩:=hr_735
 refine zl q (r_indexAddr_R underlying30 sizeOf33 hv_734 h_7290 h_7291 q rfl rfl) fun a q=>zl q (r_loadA (cs:=[.string y_728.Schema,v_737,I6 y_728.Time,v_739]) isAgg33 sizeOf33 rfl q rfl (fun j v hv=>(s.sub.le (hl_6.le.trans (hl_13.le.trans (hl_17.le.trans (hl_385.le.trans hl_716.le))))).cell (hc_736 j v hv))) fun a q=>?_
 refine sl_alloc zeroValue33 s q (by decide) rfl rfl fun a w b_741 s q=>?_
 refine sl_storeA (vs:=[.string y_728.Schema,v_737,I6 y_728.Time,v_739]) (c':=[.string y_728.Schema,v_737,I6 y_728.Time,v_739]) sizeOf33 s q rfl rfl rfl rfl (zc (all_cons hs_738.one (zc (all_cons hs_740.one zz)))) (Nat.le_of_ble_eq_true rfl) rfl fun a w s q=>?_
 refine zn<|zq<|zq<|zr<|zm q rfl fun a q=>zl q (r_rem q rfl rfl (by decide)) fun a q=>?_
 refine zl q (r_ibin q rfl rfl rfl) fun a q=>zn ?_
 refine wp_mid (fun a w=>∃ (x_765 : ByteArray) (x_768 : List api_Value) (x_769 : Int) (x_772 : List api_Value) (R_773 : Hp) (v_766 : Value) (v_770 : Value),law08_LeafRoom.j4 (law08_LeafRoom.l2 a0 a1 k_l2) a0 a1 x_383 y_713 x_765 x_768 x_769 x_772 = some true ∧ RLe [] w0 R_715 R_773 ∧ SlR ty_api_Value R_773 v_766 x_768 ∧ SlR ty_api_Value R_773 v_770 x_772 ∧ Kn 113 a [(0,I6 a0),(1,v1_0),(6,.pointer (some ⟨b_19,0,none⟩)),(8,I6 x_383),(9,I6 y_713.1),(10,.pointer (some ⟨b_741,0,none⟩))] ∧ St [] w0 w R_773 [.row 113 2 v_721 y_713.2.dict.l.length cs_722,.mp mb_724 (kvs Value.string (Value.int .i64) y_713.2.dict.ids),.cells b_719 [I6 y_713.2.dict.most,v_721,.map (some mb_724)] 102,mbo mb_725 (kvs (Value.int .i64) id (mbp E_726)) 111 90 2 E_726,.cells b_19 [v_717,I6 y_713.2.room,I6 y_713.2.points,.pointer (some ⟨b_719,0,none⟩),.map (some mb_725)] 70,.cells b_741 [.string x_765,v_766,I6 x_769,v_770] 33]) ?_ ?_
 refine wp_cond_split (q.ev rfl) (fun (hb_775 : ((x_383.tmod 2) == 0) = true)=>?_) fun hb_775=>?_
 rw [ifb_t hb_775] at H
 refine zr<|zm q rfl fun a q=>zl q (r_rem q rfl rfl (by decide)) fun a q=>?_
 refine zl q (r_ibin q rfl rfl rfl) fun a q=>zl q (r_conv underlying3 underlying5 q rfl) fun a q=>?_
 refine sl_buildSliceF (zc:=[.int .u8 0]) (ps:=[(0,.int .u8 (IntKind.u8.wrap (IntKind.i64.wrap (97 + (x_383.tmod 7)))))]) (c:=[.int .u8 (IntKind.u8.wrap (IntKind.i64.wrap (97 + (x_383.tmod 7))))]) [[.int .u8 (IntKind.u8.wrap (IntKind.i64.wrap (97 + (x_383.tmod 7))))]] underlying35 sizeOf5 zeroValue5 rfl (pc_cons rfl pc_nil) rfl rfl (Nat.le_of_ble_eq_true rfl) rfl (zc zz) rfl s q (by decide) rfl fun a w b_776 s q=>?_
 obtain ⟨R_777,s,hl_779,hs_778⟩:=s.fz_lit (ty:=(tyInt .u8)) (xs:=[IntKind.u8.wrap (IntKind.i64.wrap (97 + (x_383.tmod 7)))]) (Reps.cons (show Ty.rep (tyInt .u8) _ [.int .u8 (IntKind.u8.wrap (IntKind.i64.wrap (97 + (x_383.tmod 7))))] (IntKind.u8.wrap (IntKind.i64.wrap (97 + (x_383.tmod 7)))) from rfl) (Reps.nil _ _)) rfl
 have hRL:=hRL.trans hl_779
 refine zl q (r_conv_bs underlying35 underlying9 underlying5 hs_778 q rfl s.sub) fun a q=>zm q rfl fun a q=>zl q (r_rem q rfl rfl (by decide)) fun a q=>?_
 refine zm q rfl fun a q=>?_
 obtain ⟨y_780,h_781,H⟩:=bs H
 refine sl_call call10 q (by decide) rfl rfl rfl (law08_point.calls (bstr [IntKind.u8.wrap (IntKind.i64.wrap (97 + (x_383.tmod 7)))]) (x_383.tmod 11) x_383 s.sub h_781) fun a v_ w hv_ q=>?_
 obtain ⟨R_782,v_785,cs_786,v_789,cs_790,hv_,hr_,hl_783,hq_787,hq_791⟩:=hv_
 have hv_:=hv_.symm
 subst hv_
 obtain ⟨s,hl_783⟩:=s.sp0.back hr_ hl_783
 have s:=s.un2
 have hRL:=hRL.trans hl_783
 have s:=s.pk2
 refine sl_storeA (vs:=[.string y_780.Schema,v_785,I6 y_780.Time,v_789]) (c':=[.string y_780.Schema,v_785,I6 y_780.Time,v_789]) sizeOf33 s q rfl rfl rfl rfl (zc (all_cons (s.row_one z1) (zc (all_cons (s.row_one z2) zz)))) (Nat.le_of_ble_eq_true rfl) rfl fun a w s q=>?_
 refine zn ?_
 have s:=s.pk1
 obtain ⟨R_792,s,hl_794,hs_793⟩:=s.fz_row hq_787 rfl rfl
 have hRL:=hRL.trans hl_794
 have s:=s.pk1
 obtain ⟨R_795,s,hl_797,hs_796⟩:=s.fz_row (hq_791.mono hl_794.le) rfl rfl
 have hRL:=hRL.trans hl_797
 have s:=s.pk1
 have s:=s.pk5
 have s:=s.pk3
 have s:=s.pk5
 have s:=s.pk5
 exact ⟨y_780.Schema,y_780.Keys,y_780.Time,y_780.Vals,_,v_785,v_789,H,(hl_779.trans (hl_783.trans (hl_794.trans hl_797))),(hs_793.mono hl_797.le),hs_796,q.sub (zc (zc (zc (zc (zc (zc zz)))))),s⟩
 rw [ifb_f hb_775] at H
 refine wp_skip ?_
 have s:=s.pk1
 have s:=s.pk5
 have s:=s.pk3
 have s:=s.pk5
 have s:=s.pk5
 exact ⟨y_728.Schema,y_728.Keys,y_728.Time,y_728.Vals,_,v_737,v_739,H,(RLe.refl _ _),(hs_738.mono (hl_6.le.trans (hl_13.le.trans (hl_17.le.trans (hl_385.le.trans hl_716.le))))),(hs_740.mono (hl_6.le.trans (hl_13.le.trans (hl_17.le.trans (hl_385.le.trans hl_716.le))))),q.sub (zc (zc (zc (zc (zc (zc zz)))))),s⟩
 rintro a w ⟨x_765,x_768,x_769,x_772,R_773,v_766,v_770,H,hl_774,hs_767,hs_771,q,s⟩
 unfold law08_LeafRoom.j4 at H
 have hRL:=hRL.trans hl_774
 refine zq<|zr<|zm q rfl fun a q=>zl q (r_loadA (cs:=[.string x_765,v_766,I6 x_769,v_770]) isAgg33 sizeOf33 rfl q rfl (s.cells_of (m:=4) z5 rfl)) fun a q=>?_
 obtain ⟨y_798,h_799,H⟩:=bs H
 have s:=s.pk3
 have s:=s.pk2
 have s:=s.pk2
 have s:=s.pk3
 have s:=s.pk4
 have hS1:=s.sp5
 refine sl_call call11 q (by decide) rfl rfl rfl (leaf_Leaf_Write.calls y_713.2 (⟨x_765,x_768,x_769,x_772⟩ : api_Point) (lentOf_sub _ _) lentOf_not hS1.lend (hs_718.mono hl_774.le) (hq_723.mono hl_774.le) (hm_727.mono hl_774.le) (hs_767.mono hS1.rLe) (hs_771.mono hS1.rLe) (GF.mono (hS1.raLe hRA nil_not) hG) h_799) fun a v_ w hv_ q=>?_
 obtain ⟨R_800,v_802,b_804,v_806,cs_807,mb_809,mb_810,E_811,hv_,hr_,hl_801,hs_803,hq_808,hm_812⟩:=hv_
 have hv_:=hv_.symm
 subst hv_
 obtain ⟨s,hl_801⟩:=hS1.back hr_ hl_801
 have s:=s.un5
 have hRL:=hRL.trans hl_801
 refine zm q rfl fun a q=>zl q (r_extract q rfl rfl) fun a q=>zl q (r_extract q rfl rfl) fun a q=>za q rfl fun a q=>za q rfl fun a q=>zn<|zq ?_
 refine wp_mid (fun a w=>∃ (x_912 : List api_Schema) (x_913 : Int) (x_914 : Int) (x_916 : Int) (x_918 : List streams_stream) (x_923 : List (ByteArray × Int)) (x_925 : List (Int × runs_Run)) (x_928 : Bool) (R_929 : Hp) (v_910 : Value) (v_919 : Value) (cs_920 : List Value) (E_926 : List (MB Int)) (b_922 : Nat) (b_915 : Nat) (b_924 : Nat),law08_LeafRoom.j5 (law08_LeafRoom.l2 a0 a1 k_l2) a1 x_383 x_912 x_913 x_914 x_916 x_918 x_923 x_925 x_928 = some true ∧ RLe [] w0 R_800 R_929 ∧ SlR ty_api_Schema R_929 v_910 x_912 ∧ Reps ty_streams_stream R_929 cs_920 x_918 ∧ MBel ty_api_Sample runs_Run.l R_929 E_926 x_925 ∧ Kn 113 a [(0,I6 a0),(1,v1_0),(6,.pointer (some ⟨b_19,0,none⟩)),(8,I6 x_383),(97,.bool x_928)] ∧ St [] w0 w R_929 [.row 113 2 v_919 x_918.length cs_920,.mp b_922 (kvs Value.string (Value.int .i64) x_923),.cells b_915 [I6 x_916,v_919,.map (some b_922)] 102,mbo b_924 (kvs (Value.int .i64) id (mbp E_926)) 111 90 2 E_926,.cells b_19 [v_910,I6 x_913,I6 x_914,.pointer (some ⟨b_915,0,none⟩),.map (some b_924)] 70]) ?_ ?_
 refine zr<|zm q rfl fun a q=>zm q rfl fun a q=>?_
 obtain ⟨y_931,h_932,H⟩:=bs H
 have s:=s.pk4
 have s:=s.pk4
 have s:=s.pk4
 have s:=s.pk4
 have s:=s.pk4
 have hS1:=s.sp5
 refine sl_call call14 q (by decide) rfl rfl rfl (leaf_Leaf_Points.calls y_798.2.2 hS1.lend hs_803 hq_808 hm_812 h_932) fun a v_ w hv_ q=>?_
 obtain ⟨R_933,v_935,b_937,v_939,cs_940,mb_942,mb_943,E_944,hv_,hr_,hl_934,hs_936,hq_941,hm_945⟩:=hv_
 have hv_:=hv_.symm
 subst hv_
 obtain ⟨s,hl_934⟩:=hS1.back hr_ hl_934
 have s:=s.un5
 have hRL:=hRL.trans hl_934
 refine zm q rfl fun a q=>zl q (r_ibin q rfl rfl rfl) fun a q=>zl q (r_ibin q rfl rfl rfl) fun a q=>zl q (r_bne underlying4 q rfl rfl) fun a q=>zm q rfl fun a q=>?_
 rcases or_b (!(y_798.1 == (y_931.1 == (IntKind.i64.wrap (y_713.1 + 1))))) with hb_946 | hb_946
 rw [ifb_t hb_946] at H
 refine zsw q (wft hb_946) fun a q=>zsw q (wft hb_946) fun a q=>zsw q (wft hb_946) fun a q=>zs q fun a q=>zs q fun a q=>zs q fun a q=>zs q fun a q=>zsw q (wft hb_946) fun a q=>zl q (r_pick_t hb_946 q rfl rfl) fun a q=>zm q rfl fun a q=>zs q fun a q=>zs q fun a q=>zs q fun a q=>zs q fun a q=>zs q fun a q=>zl q (r_pick q rfl rfl rfl) fun a q=>zm q rfl fun a q=>zs q fun a q=>zs q fun a q=>zs q fun a q=>zs q fun a q=>zs q fun a q=>zl q (r_pick q rfl rfl rfl) fun a q=>zn ?_
 have s:=s.pk4
 have s:=s.pk2
 have s:=s.pk4
 have s:=s.pk4
 exact ⟨y_931.2.schemas,y_931.2.room,y_931.2.points,y_931.2.dict.most,y_931.2.dict.l,y_931.2.dict.ids,y_931.2.runs,true,_,v_935,_,_,_,_,_,_,H,hl_934,hs_936,hq_941,hm_945,q.sub (zc (zc (zc (zc (zc zz))))),s.trunc 5⟩
 rw [ifb_f hb_946] at H
 refine zw q (wff hb_946) (r_move q rfl) fun a q=>zw q (wff hb_946) (r_un q rfl (u_not _)) fun a q=>zw q (wff hb_946) (r_move q rfl) fun a q=>?_
 rcases or_b (!y_798.1) with hb_947 | hb_947
 rw [ifb_t hb_947] at H
 refine zw q (wtt hb_947) (r_move q rfl) fun a q=>?_
 obtain ⟨y_948,h_949,H⟩:=bs H
 have s:=s.pk4
 have s:=s.pk4
 have s:=s.pk4
 have s:=s.pk4
 have s:=s.pk4
 have hS1:=s.sp5
 refine sl_call call14 q (by decide) (wtt hb_947) rfl rfl (leaf_Leaf_Points.calls y_931.2 hS1.lend hs_936 hq_941 hm_945 h_949) fun a v_ w hv_ q=>?_
 obtain ⟨R_950,v_952,b_954,v_956,cs_957,mb_959,mb_960,E_961,hv_,hr_,hl_951,hs_953,hq_958,hm_962⟩:=hv_
 have hv_:=hv_.symm
 subst hv_
 obtain ⟨s,hl_951⟩:=hS1.back hr_ hl_951
 have s:=s.un5
 have hRL:=hRL.trans hl_951
 refine zw q (wtt hb_947) (r_move q rfl) fun a q=>zw q (wtt hb_947) (r_ibin q rfl rfl rfl) fun a q=>zw q (wff hb_946) (r_pick_t hb_947 q rfl rfl) fun a q=>zl q (r_pick_f hb_946 q rfl rfl) fun a q=>zm q rfl fun a q=>?_
 rcases or_b (y_948.1 != y_713.1) with hb_963 | hb_963
 rw [ifb_t hb_963] at H
 refine zsw q (wft hb_963) fun a q=>zsw q (wft hb_963) fun a q=>zs q fun a q=>zs q fun a q=>zsw q (wft hb_963) fun a q=>zl q (r_pick_t hb_963 q rfl rfl) fun a q=>zm q rfl fun a q=>zs q fun a q=>zs q fun a q=>zs q fun a q=>zs q fun a q=>zs q fun a q=>zl q (r_pick q rfl rfl rfl) fun a q=>zn ?_
 have s:=s.pk4
 have s:=s.pk2
 have s:=s.pk4
 have s:=s.pk4
 exact ⟨y_948.2.schemas,y_948.2.room,y_948.2.points,y_948.2.dict.most,y_948.2.dict.l,y_948.2.dict.ids,y_948.2.runs,true,_,v_952,_,_,_,_,_,_,H,(hl_934.trans hl_951),hs_953,hq_958,hm_962,q.sub (zc (zc (zc (zc (zc zz))))),s.trunc 5⟩
 rw [ifb_f hb_963] at H
 refine zw q (wff hb_963) (r_move q rfl) fun a q=>zw q (wff hb_963) (r_move q rfl) fun a q=>?_
 rcases or_b y_798.1 with hb_964 | hb_964
 rw [ifb_t hb_964] at H
 refine zw q (wtt hb_964) (r_move q rfl) fun a q=>zw q (wtt hb_964) (r_ibin q rfl rfl rfl) fun a q=>zw q (wff hb_963) (r_pick_t hb_964 q rfl rfl) fun a q=>zl q (r_pick_f hb_963 q rfl rfl) fun a q=>zm q rfl fun a q=>?_
 rcases or_b (y_798.2.1 != 0) with hb_965 | hb_965
 rw [ifb_t hb_965] at H
 refine zsw q (wft hb_965) fun a q=>zsw q (wft hb_965) fun a q=>zsw q (wft hb_965) fun a q=>zsw q (wft hb_965) fun a q=>zsw q (wft hb_965) fun a q=>zl q (r_pick_t hb_965 q rfl rfl) fun a q=>zn ?_
 have s:=s.pk4
 have s:=s.pk2
 have s:=s.pk4
 have s:=s.pk4
 exact ⟨y_948.2.schemas,y_948.2.room,y_948.2.points,y_948.2.dict.most,y_948.2.dict.l,y_948.2.dict.ids,y_948.2.runs,true,_,v_952,_,_,_,_,_,_,H,(hl_934.trans hl_951),hs_953,hq_958,hm_962,q.sub (zc (zc (zc (zc (zc zz))))),s.trunc 5⟩
 rw [ifb_f hb_965] at H
 refine zw q (wff hb_965) (r_move q rfl) fun a q=>?_
 obtain ⟨y_966,h_967,H⟩:=bs H
 have s:=s.pk4
 have s:=s.pk4
 have s:=s.pk4
 have s:=s.pk4
 have s:=s.pk4
 have hS1:=s.sp5
 refine sl_call call14 q (by decide) (wff hb_965) rfl rfl (leaf_Leaf_Points.calls y_948.2 hS1.lend hs_953 hq_958 hm_962 h_967) fun a v_ w hv_ q=>?_
 obtain ⟨R_968,v_970,b_972,v_974,cs_975,mb_977,mb_978,E_979,hv_,hr_,hl_969,hs_971,hq_976,hm_980⟩:=hv_
 have hv_:=hv_.symm
 subst hv_
 obtain ⟨s,hl_969⟩:=hS1.back hr_ hl_969
 have s:=s.un5
 have hRL:=hRL.trans hl_969
 refine zw q (wff hb_965) (r_move q rfl) fun a q=>zw q (wff hb_965) (r_max2 q rfl rfl) fun a q=>zw q (wff hb_965) (r_ibin q rfl rfl rfl) fun a q=>zl q (r_pick_f hb_965 q rfl rfl) fun a q=>zn ?_
 have s:=s.pk4
 have s:=s.pk2
 have s:=s.pk4
 have s:=s.pk4
 exact ⟨y_966.2.schemas,y_966.2.room,y_966.2.points,y_966.2.dict.most,y_966.2.dict.l,y_966.2.dict.ids,y_966.2.runs,(decide (y_966.1 > (max 0 a0))),_,v_970,_,_,_,_,_,_,H,(hl_934.trans (hl_951.trans hl_969)),hs_971,hq_976,hm_980,q.sub (zc (zc (zc (zc (zc zz))))),s.trunc 5⟩
 rw [ifb_f hb_964] at H
 refine zsw q (wtf hb_964) fun a q=>zsw q (wtf hb_964) fun a q=>zw q (wff hb_963) (r_pick_f hb_964 q rfl rfl) fun a q=>zl q (r_pick_f hb_963 q rfl rfl) fun a q=>zm q rfl fun a q=>zm q rfl fun a q=>?_
 obtain ⟨y_981,h_982,H⟩:=bs H
 have s:=s.pk4
 have s:=s.pk4
 have s:=s.pk4
 have s:=s.pk4
 have s:=s.pk4
 have hS1:=s.sp5
 refine sl_call call14 q (by decide) rfl rfl rfl (leaf_Leaf_Points.calls y_948.2 hS1.lend hs_953 hq_958 hm_962 h_982) fun a v_ w hv_ q=>?_
 obtain ⟨R_983,v_985,b_987,v_989,cs_990,mb_992,mb_993,E_994,hv_,hr_,hl_984,hs_986,hq_991,hm_995⟩:=hv_
 have hv_:=hv_.symm
 subst hv_
 obtain ⟨s,hl_984⟩:=hS1.back hr_ hl_984
 have s:=s.un5
 have hRL:=hRL.trans hl_984
 refine zm q rfl fun a q=>zl q (r_max2 q rfl rfl) fun a q=>zl q (r_ibin q rfl rfl rfl) fun a q=>zl q (r_pick q rfl rfl rfl) fun a q=>zn ?_
 have s:=s.pk4
 have s:=s.pk2
 have s:=s.pk4
 have s:=s.pk4
 exact ⟨y_981.2.schemas,y_981.2.room,y_981.2.points,y_981.2.dict.most,y_981.2.dict.l,y_981.2.dict.ids,y_981.2.runs,(decide (y_981.1 > (max 0 a0))),_,v_985,_,_,_,_,_,_,H,(hl_934.trans (hl_951.trans hl_984)),hs_986,hq_991,hm_995,q.sub (zc (zc (zc (zc (zc zz))))),s.trunc 5⟩
 rw [ifb_f hb_947] at H
 refine zsw q (wtf hb_947) fun a q=>zsw q (wtf hb_947) fun a q=>zsw q (wtf hb_947) fun a q=>zsw q (wtf hb_947) fun a q=>zw q (wff hb_946) (r_pick_f hb_947 q rfl rfl) fun a q=>zl q (r_pick_f hb_946 q rfl rfl) fun a q=>zm q rfl fun a q=>zm q rfl fun a q=>zm q rfl fun a q=>?_
 rcases or_b y_798.1 with hb_996 | hb_996
 rw [ifb_t hb_996] at H
 refine zw q (wtt hb_996) (r_move q rfl) fun a q=>zw q (wtt hb_996) (r_ibin q rfl rfl rfl) fun a q=>zl q (r_pick_t hb_996 q rfl rfl) fun a q=>zl q (r_pick q rfl rfl rfl) fun a q=>zm q rfl fun a q=>?_
 rcases or_b (y_798.2.1 != 0) with hb_997 | hb_997
 rw [ifb_t hb_997] at H
 refine zsw q (wft hb_997) fun a q=>zsw q (wft hb_997) fun a q=>zsw q (wft hb_997) fun a q=>zsw q (wft hb_997) fun a q=>zsw q (wft hb_997) fun a q=>zl q (r_pick_t hb_997 q rfl rfl) fun a q=>zn ?_
 have s:=s.pk4
 have s:=s.pk2
 have s:=s.pk4
 have s:=s.pk4
 exact ⟨y_931.2.schemas,y_931.2.room,y_931.2.points,y_931.2.dict.most,y_931.2.dict.l,y_931.2.dict.ids,y_931.2.runs,true,_,v_935,_,_,_,_,_,_,H,hl_934,hs_936,hq_941,hm_945,q.sub (zc (zc (zc (zc (zc zz))))),s.trunc 5⟩
 rw [ifb_f hb_997] at H
 refine zw q (wff hb_997) (r_move q rfl) fun a q=>?_
 obtain ⟨y_998,h_999,H⟩:=bs H
 have s:=s.pk4
 have s:=s.pk4
 have s:=s.pk4
 have s:=s.pk4
 have s:=s.pk4
 have hS1:=s.sp5
 refine sl_call call14 q (by decide) (wff hb_997) rfl rfl (leaf_Leaf_Points.calls y_931.2 hS1.lend hs_936 hq_941 hm_945 h_999) fun a v_ w hv_ q=>?_
 obtain ⟨R_1000,v_1002,b_1004,v_1006,cs_1007,mb_1009,mb_1010,E_1011,hv_,hr_,hl_1001,hs_1003,hq_1008,hm_1012⟩:=hv_
 have hv_:=hv_.symm
 subst hv_
 obtain ⟨s,hl_1001⟩:=hS1.back hr_ hl_1001
 have s:=s.un5
 have hRL:=hRL.trans hl_1001
 refine zw q (wff hb_997) (r_move q rfl) fun a q=>zw q (wff hb_997) (r_max2 q rfl rfl) fun a q=>zw q (wff hb_997) (r_ibin q rfl rfl rfl) fun a q=>zl q (r_pick_f hb_997 q rfl rfl) fun a q=>zn ?_
 have s:=s.pk4
 have s:=s.pk2
 have s:=s.pk4
 have s:=s.pk4
 exact ⟨y_998.2.schemas,y_998.2.room,y_998.2.points,y_998.2.dict.most,y_998.2.dict.l,y_998.2.dict.ids,y_998.2.runs,(decide (y_998.1 > (max 0 a0))),_,v_1002,_,_,_,_,_,_,H,(hl_934.trans hl_1001),hs_1003,hq_1008,hm_1012,q.sub (zc (zc (zc (zc (zc zz))))),s.trunc 5⟩
 rw [ifb_f hb_996] at H
 refine zsw q (wtf hb_996) fun a q=>zsw q (wtf hb_996) fun a q=>zl q (r_pick_f hb_996 q rfl rfl) fun a q=>zl q (r_pick q rfl rfl rfl) fun a q=>zm q rfl fun a q=>zm q rfl fun a q=>?_
 obtain ⟨y_1013,h_1014,H⟩:=bs H
 have s:=s.pk4
 have s:=s.pk4
 have s:=s.pk4
 have s:=s.pk4
 have s:=s.pk4
 have hS1:=s.sp5
 refine sl_call call14 q (by decide) rfl rfl rfl (leaf_Leaf_Points.calls y_931.2 hS1.lend hs_936 hq_941 hm_945 h_1014) fun a v_ w hv_ q=>?_
 obtain ⟨R_1015,v_1017,b_1019,v_1021,cs_1022,mb_1024,mb_1025,E_1026,hv_,hr_,hl_1016,hs_1018,hq_1023,hm_1027⟩:=hv_
 have hv_:=hv_.symm
 subst hv_
 obtain ⟨s,hl_1016⟩:=hS1.back hr_ hl_1016
 have s:=s.un5
 have hRL:=hRL.trans hl_1016
 refine zm q rfl fun a q=>zl q (r_max2 q rfl rfl) fun a q=>zl q (r_ibin q rfl rfl rfl) fun a q=>zl q (r_pick q rfl rfl rfl) fun a q=>zn ?_
 have s:=s.pk4
 have s:=s.pk2
 have s:=s.pk4
 have s:=s.pk4
 exact ⟨y_1013.2.schemas,y_1013.2.room,y_1013.2.points,y_1013.2.dict.most,y_1013.2.dict.l,y_1013.2.dict.ids,y_1013.2.runs,(decide (y_1013.1 > (max 0 a0))),_,v_1017,_,_,_,_,_,_,H,(hl_934.trans hl_1016),hs_1018,hq_1023,hm_1027,q.sub (zc (zc (zc (zc (zc zz))))),s.trunc 5⟩
 rintro a w ⟨x_912,x_913,x_914,x_916,x_918,x_923,x_925,x_928,R_929,v_910,v_919,cs_920,E_926,b_922,b_915,b_924,H,hl_930,hs_911,hq_921,hm_927,q,s⟩
 unfold law08_LeafRoom.j5 at H
 have hRL:=hRL.trans hl_930
 refine wp_cond_split (q.ev rfl) (fun (hb_1028 : x_928 = true)=>?_) fun hb_1028=>?_
 rw [ifb_t hb_1028] at H
 refine zq<|zr<|za q rfl fun a q=>zn ?_
 exact absurd (Option.some.inj H) (by decide)
 rw [ifb_f hb_1028] at H
 refine wp_skip<|zr<|zm q rfl fun a q=>zl q (r_ibin q rfl rfl rfl) fun a q=>za q rfl fun a q=>zn ?_
 have s:=s.pk4
 have s:=s.pk4
 have s:=s.pk4
 have s:=s.pk4
 have s:=s.pk4
 exact ⟨_,Nat.lt_succ_self _,x_912,x_913,x_914,x_916,x_918,x_923,x_925,(IntKind.i64.wrap (x_383 + 1)),_,v_910,_,_,_,_,_,_,H,(hl_385.trans (hl_716.trans (hl_774.trans (hl_801.trans hl_930)))),hs_911,hq_921,hm_927,q.sub (zc (zc (zc (zc zz)))),s⟩
 rw [ifb_f hb_712] at H
 refine wp_exit ?_
 refine zq<|zr<|zm q rfl fun a q=>?_
 obtain ⟨y_1029,h_1030,H⟩:=bs H
 have s:=s.pk3
 have s:=s.pk2
 have s:=s.pk2
 have s:=s.pk3
 have s:=s.pk4
 have hS1:=s.sp5
 refine sl_call call12 q (by decide) rfl rfl rfl (leaf_Leaf_Scan.calls (⟨x_367,x_368,x_369,(⟨x_371,x_373,x_378⟩ : streams_Dict),x_380⟩ : leaf_Leaf) (⟨#[108,111,97,100]⟩ : ByteArray) (-9223372036854775808) 9223372036854775807 hS1.lend hs_366 hq_376 hm_382 h_1030) fun a v_ w hv_ q=>?_
 obtain ⟨R_1031,v_1034,cs_1035,v_1038,cs_1039,v_1041,b_1043,v_1045,cs_1046,mb_1048,mb_1049,E_1050,hv_,hr_,hl_1032,hq_1036,hq_1040,hs_1042,hq_1047,hm_1051⟩:=hv_
 have hv_:=hv_.symm
 subst hv_
 obtain ⟨s,hl_1032⟩:=hS1.back hr_ hl_1032
 have s:=s.un7
 have hRL:=hRL.trans hl_1032
 refine zm q rfl fun a q=>zl q (r_extract q rfl rfl) fun a q=>zl q (r_extract q rfl rfl) fun a q=>?_
 refine sl_alloc zeroValue41 s q (by decide) rfl rfl fun a w b_1052 s q=>?_
 refine sl_storeA (vs:=[v_1034,v_1038]) (c':=[v_1034,v_1038]) sizeOf41 s q rfl rfl rfl rfl (all_cons (s.row_one z1) (all_cons (s.row_one z2) zz)) (Nat.le_of_ble_eq_true rfl) rfl fun a w s q=>?_
 refine za q rfl fun a q=>zn<|zq ?_
 refine parT_region (C:=fun w=>St [] w0 w R_1031 [.cells b_1052 [v_1034,v_1038] 41,.row 65 2 v_1034 y_1029.1.Cols.length cs_1035,.row 31 1 v_1038 y_1029.1.Rows.length cs_1039]) 8 [(0,true),(1,true),(2,true),(3,true),(4,true),(5,true),(6,true),(7,false)] mixed (by kernel_rfl) s (fun w s=>(s.trunc 3)) fun w s=>?_
 refine zp rfl q (fun w s=>r_move q rfl) fun a q=>zp rfl q (fun w s=>r_ibin q rfl rfl rfl) fun a q=>zp rfl q (fun w s=>r_move q rfl) fun a q=>?_
 rcases or_b (y_1029.2.1 == 0) with hb_1069 | hb_1069
 rw [ifb_t hb_1069] at H
 refine zpw rfl q (wtt hb_1069) (fun w s=>r_fieldAddr underlying41 rfl sizeOf39 q rfl) fun a q=>zpw rfl q (wtt hb_1069) (fun w s=>r_load isAgg39 q rfl (s.cell z0 rfl)) fun a q=>zpw rfl q (wtt hb_1069) (fun w s=>r_len_O underlying39 s z2 q rfl) fun a q=>zpw rfl q (wtt hb_1069) (fun w s=>r_move q rfl) fun a q=>?_
 refine spw (k:=7) rfl rfl (s.trunc 3) ?_
 obtain ⟨y_1070,h_1071,H⟩:=bs H
 have s:=s.pk7
 have s:=s.pk7
 have s:=s.pk7
 have s:=s.pk7
 have s:=s.pk7
 have hS1:=s.sp5
 refine sl_call call14 q (by decide) (wtt hb_1069) rfl rfl (leaf_Leaf_Points.calls y_1029.2.2 hS1.lend hs_1042 hq_1047 hm_1051 h_1071) fun a v_ w hv_ q=>?_
 obtain ⟨R_1072,v_1074,b_1076,v_1078,cs_1079,mb_1081,mb_1082,E_1083,hv_,hr_,hl_1073,hs_1075,hq_1080,hm_1084⟩:=hv_
 have hv_:=hv_.symm
 subst hv_
 obtain ⟨s,hl_1073⟩:=hS1.back hr_ hl_1073
 have s:=s.un5
 have hRL:=hRL.trans hl_1073
 refine parK_nil ((s.pk7.pk7.pk7.trunc 3).lower hl_1073.le) ?_
 refine thenL_nil ?_
 refine zw q (wtt hb_1069) (r_ibin q rfl rfl rfl) fun a q=>zl q (r_pick_t hb_1069 q rfl rfl) fun a q=>za q rfl fun a q=>?_
 refine wpList_nil (NoP_nil ?_)
 have hr_:=Option.some.inj H
 refine wp_ret ?_
 repeat first | refine zt ?_ | refine zb ?_ | refine zo ?_
 exact ret_1 results4 q (rv_tmp q rfl) ⟨congrArg (fun b=>Ending.returned (Value.bool b)) hr_,s.bel⟩
 rw [ifb_f hb_1069] at H
 refine zps rfl q (wtf hb_1069) fun a q=>zps rfl q (wtf hb_1069) fun a q=>zps rfl q (wtf hb_1069) fun a q=>zps rfl q (wtf hb_1069) fun a q=>?_
 refine spw (k:=7) rfl rfl (s.trunc 3) ?_
 refine zsw q (wtf hb_1069) fun a q=>?_
 refine parK_nil (s.trunc 3) ?_
 refine thenL_nil ?_
 refine zsw q (wtf hb_1069) fun a q=>zl q (r_pick_f hb_1069 q rfl rfl) fun a q=>za q rfl fun a q=>?_
 refine wpList_nil (NoP_nil ?_)
 exact absurd (Option.some.inj H) (by decide)
end Go.Proofs.YtchgiggipimigaaGreatDoor.M
end
