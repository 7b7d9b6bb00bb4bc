/- For the law LeafTimes: each Go function answers as its plain Lean function tells, wherever that tells something; without further condition. -/
import Derived.Test.YtchgiggipimigaaGreatDoorLeafTimesW1
section
namespace Go.Proofs.YtchgiggipimigaaGreatDoor.M
open Go Go.Eng Go.Proofs Go.RowKit
set_option linter.unusedVariables false
set_option linter.unusedSimpArgs false
open Go.Proofs.Tryz
set_option maxHeartbeats 4000000
set_option maxRecDepth 100000
theorem slices_Compare_int_int.calls (a0 : List Int) (a1 : List Int) {w0 : World} {RA : Hp} {v0_0 : Value} {v1_0 : Value} (hRA : RA.sub w0) (h0_0 : SlR (tyInt .i64) RA v0_0 a0) (h1_0 : SlR (tyInt .i64) RA v1_0 a1) {r : Int} (H : slices_Compare_int_int a0 a1 = some r) : CallsV prog 116 #[v0_0,v1_0] w0 (I6 r):=by
 unfold slices_Compare_int_int at H
 refine enter (args:=[v0_0,v1_0]) func116 rfl ntmps116 rfl fun a q=>?_
 have s:=St.init (R:=fun _=>none) (w:=w0) (fun _ _ h=>by cases h)
 have hRL:=RLe.refl (M:=[]) w0 (fun _=>none)
 refine zq<|zr<|za q rfl fun a q=>zn<|zq<|zq<|zr<|zm q rfl fun a q=>zl q (r_len_R underlying22 h0_0 q rfl) fun a q=>zm q rfl fun a q=>zn ?_
 refine wp_block ?_
 refine wp_loop_k (fun k_l0 a w=>∃ (x_25 : Int),slices_Compare_int_int.l0 a0 a1 k_l0 x_25 = some r ∧ Kn 36 a [(0,v0_0),(1,v1_0),(9,v0_0),(10,I6 (a0.length : Int)),(11,I6 x_25)] ∧ St [] w0 w (fun _=>none) []) (((a0.length : Int) - 0).toNat + 1) ?_ ?_
 exact ⟨0,H,q.sub (zc (zc (zc (zc (zc zz))))),s⟩
 rintro k_l0 a w ⟨x_25,H,q,s⟩
 rcases k_l0 with _ | k_l0
 cases H
 rw [slices_Compare_int_int.l0.eq_2] at H
 refine zq<|zr<|zl q (r_ibin q rfl rfl rfl) fun a q=>zn<|zq ?_
 refine wp_cond_split (q.ev rfl) (fun (hb_50 : (decide (x_25 < (a0.length : Int))) = true)=>?_) fun hb_50=>?_
 rw [ifb_t hb_50] at H
 refine wp_skip<|zq ?_
 refine wp_block ?_
 refine zq<|zr<|zm q rfl fun a q=>?_
 obtain ⟨y_51,h_52,H⟩:=bs H
 obtain ⟨b_53,o_54,c_55,cs_56,hv_57,hr_58,hc_59,h_520,h_521⟩:=h0_0.ix h_52
 subst hr_58
 refine zl q (r_indexAddr_R underlying22 sizeOf3 hv_57 h_520 h_521 q rfl rfl) fun a q=>zl q (r_load isAgg3 q rfl ((s.ra hRA nil_not).cell (hc_59 0 _ rfl))) fun a q=>za q rfl fun a q=>za q rfl fun a q=>zn<|zq<|zq<|zr<|zm q rfl fun a q=>zm q rfl fun a q=>zl q (r_len_R underlying22 h1_0 q rfl) fun a q=>zl q (r_ibin q rfl rfl rfl) fun a q=>zn ?_
 refine wp_cond_split (q.ev rfl) (fun (hb_60 : (decide (x_25 ≥ (a1.length : Int))) = true)=>?_) fun hb_60=>?_
 rw [ifb_t hb_60] at H
 refine zq<|zr<|za q rfl fun a q=>zn ?_
 obtain rfl:=Option.some.inj H
 refine wp_ret ?_
 repeat first | refine zt ?_ | refine zb ?_ | refine zo ?_
 exact ret_1 results116 q (rv_tmp q rfl) ⟨rfl,s.bel⟩
 rw [ifb_f hb_60] at H
 refine wp_skip<|zq<|zr<|zm q rfl fun a q=>zm q rfl fun a q=>?_
 obtain ⟨y_61,h_62,H⟩:=bs H
 obtain ⟨b_63,o_64,c_65,cs_66,hv_67,hr_68,hc_69,h_620,h_621⟩:=h1_0.ix h_62
 subst hr_68
 refine zl q (r_indexAddr_R underlying22 sizeOf3 hv_67 h_620 h_621 q rfl rfl) fun a q=>zl q (r_load isAgg3 q rfl ((s.ra hRA nil_not).cell (hc_69 0 _ rfl))) fun a q=>za q rfl fun a q=>zn<|zq<|zr<|zm q rfl fun a q=>zm q rfl fun a q=>?_
 obtain ⟨y_70,h_71,H⟩:=bs H
 refine sl_callV call83 s q (by decide) rfl rfl rfl (cmp_Compare_int.calls y_51 y_61 h_71 _) fun a w s q=>?_
 refine za q rfl fun a q=>zn<|zq<|zr<|zm q rfl fun a q=>zl q (r_ibin q rfl rfl rfl) fun a q=>zn ?_
 refine wp_cond_split (q.ev rfl) (fun (hb_72 : (y_70 != 0) = true)=>?_) fun hb_72=>?_
 rw [ifb_t hb_72] at H
 refine zq<|zr<|zm q rfl fun a q=>za q rfl fun a q=>zn ?_
 obtain rfl:=Option.some.inj H
 refine wp_ret ?_
 repeat first | refine zt ?_ | refine zb ?_ | refine zo ?_
 exact ret_1 results116 q (rv_tmp q rfl) ⟨rfl,s.bel⟩
 rw [ifb_f hb_72] at H
 refine wp_skip<|zr<|zl q (r_ibin q rfl rfl rfl) fun a q=>zm q rfl fun a q=>zn ?_
 exact ⟨_,Nat.lt_succ_self _,(IntKind.i64.wrap (x_25 + 1)),H,q.sub (zc (zc (zc (zc (zc zz))))),s⟩
 rw [ifb_f hb_50] at H
 refine wp_exit ?_
 refine zq<|zq<|zr<|zm q rfl fun a q=>zl q (r_len_R underlying22 h0_0 q rfl) fun a q=>zm q rfl fun a q=>zl q (r_len_R underlying22 h1_0 q rfl) fun a q=>zl q (r_ibin q rfl rfl rfl) fun a q=>zn ?_
 refine wp_cond_split (q.ev rfl) (fun (hb_73 : (decide ((a0.length : Int) < (a1.length : Int))) = true)=>?_) fun hb_73=>?_
 rw [ifb_t hb_73] at H
 refine zq<|zr<|za q rfl fun a q=>zn ?_
 obtain rfl:=Option.some.inj H
 refine wp_ret ?_
 repeat first | refine zt ?_ | refine zb ?_ | refine zo ?_
 exact ret_1 results116 q (rv_tmp q rfl) ⟨rfl,s.bel⟩
 rw [ifb_f hb_73] at H
 refine wp_skip<|zq<|zr<|za q rfl fun a q=>zn ?_
 obtain rfl:=Option.some.inj H
 refine wp_ret ?_
 repeat first | refine zt ?_ | refine zb ?_ | refine zo ?_
 exact ret_1 results116 q (rv_tmp q rfl) ⟨rfl,s.bel⟩
theorem cmp_Or_int.calls (a0 : List Int) {w0 : World} {RA : Hp} {v0_0 : Value} (hRA : RA.sub w0) (h0_0 : SlR (tyInt .i64) RA v0_0 a0) {r : Int} (H : cmp_Or_int a0 = some r) : CallsV prog 114 #[v0_0] w0 (I6 r):=by
 unfold cmp_Or_int at H
 refine enter (args:=[v0_0]) func114 rfl ntmps114 rfl fun a q=>?_
 have s:=St.init (R:=fun _=>none) (w:=w0) (fun _ _ h=>by cases h)
 have hRL:=RLe.refl (M:=[]) w0 (fun _=>none)
 refine zq<|zr<|za q rfl fun a q=>zn<|zq<|zr<|za q rfl fun a q=>zn<|zq<|zq<|zr<|zm q rfl fun a q=>zl q (r_len_R underlying22 h0_0 q rfl) fun a q=>zm q rfl fun a q=>zn ?_
 refine wp_block ?_
 refine wp_loop_k (fun k_l0 a w=>∃ (x_13 : Int),cmp_Or_int.l0 a0 k_l0 x_13 = some r ∧ Kn 18 a [(3,I6 0),(6,v0_0),(7,I6 (a0.length : Int)),(8,I6 x_13)] ∧ St [] w0 w (fun _=>none) []) (((a0.length : Int) - 0).toNat + 1) ?_ ?_
 exact ⟨0,H,q.sub (zc (zc (zc (zc zz)))),s⟩
 rintro k_l0 a w ⟨x_13,H,q,s⟩
 rcases k_l0 with _ | k_l0
 cases H
 rw [cmp_Or_int.l0.eq_2] at H
 refine zq<|zr<|zl q (r_ibin q rfl rfl rfl) fun a q=>zn<|zq ?_
 refine wp_cond_split (q.ev rfl) (fun (hb_26 : (decide (x_13 < (a0.length : Int))) = true)=>?_) fun hb_26=>?_
 rw [ifb_t hb_26] at H
 refine wp_skip<|zq ?_
 refine wp_block ?_
 refine zq<|zr ?_
 obtain ⟨y_27,h_28,H⟩:=bs H
 obtain ⟨b_29,o_30,c_31,cs_32,hv_33,hr_34,hc_35,h_280,h_281⟩:=h0_0.ix h_28
 subst hr_34
 refine zl q (r_indexAddr_R underlying22 sizeOf3 hv_33 h_280 h_281 q rfl rfl) fun a q=>zl q (r_load isAgg3 q rfl ((s.ra hRA nil_not).cell (hc_35 0 _ rfl))) fun a q=>za q rfl fun a q=>zn<|zq<|zr<|zm q rfl fun a q=>zm q rfl fun a q=>zl q (r_ibin q rfl rfl rfl) fun a q=>zn ?_
 refine wp_cond_split (q.ev rfl) (fun (hb_36 : (y_27 != 0) = true)=>?_) fun hb_36=>?_
 rw [ifb_t hb_36] at H
 refine zq<|zr<|zm q rfl fun a q=>za q rfl fun a q=>zn ?_
 obtain rfl:=Option.some.inj H
 refine wp_ret ?_
 repeat first | refine zt ?_ | refine zb ?_ | refine zo ?_
 exact ret_1 results114 q (rv_tmp q rfl) ⟨rfl,s.bel⟩
 rw [ifb_f hb_36] at H
 refine wp_skip<|zr<|zl q (r_ibin q rfl rfl rfl) fun a q=>zm q rfl fun a q=>zn ?_
 exact ⟨_,Nat.lt_succ_self _,(IntKind.i64.wrap (x_13 + 1)),H,q.sub (zc (zc (zc (zc zz)))),s⟩
 rw [ifb_f hb_26] at H
 refine wp_exit ?_
 refine zq<|zr<|zm q rfl fun a q=>za q rfl fun a q=>zn ?_
 obtain rfl:=Option.some.inj H
 refine wp_ret ?_
 repeat first | refine zt ?_ | refine zb ?_ | refine zo ?_
 exact ret_1 results114 q (rv_tmp q rfl) ⟨rfl,s.bel⟩
theorem value_Compare.calls (a0 : api_Value) (a1 : api_Value) {r : Int} (H : value_Compare a0 a1 = some r) (w0 : World) : CallsV prog 90 #[.agg ⟨cV a0⟩,.agg ⟨cV a1⟩] w0 (I6 r):=by
 unfold value_Compare at H
 refine enter (args:=[.agg ⟨cV a0⟩,.agg ⟨cV a1⟩]) func90 rfl ntmps90 rfl fun a q=>?_
 have s:=St.init (R:=fun _=>none) (w:=w0) (fun _ _ h=>by cases h)
 have hRL:=RLe.refl (M:=[]) w0 (fun _=>none)
 refine zq<|zr ?_
 refine sl_box s q (by decide) rfl rfl (c:=(cV a0)) rfl fun a w b_1 s q=>?_
 refine sl_box s q (by decide) rfl rfl (c:=(cV a1)) rfl fun a w b_2 s q=>?_
 refine za q rfl fun a q=>zn<|zq ?_
 refine parT_region (C:=fun w=>St [] w0 w (fun _=>none) [.cells b_2 (cV a1) 58,.cells b_1 (cV a0) 58]) 19 [(0,true),(1,true),(2,true),(3,true),(5,true),(6,true),(7,true),(8,true),(10,true),(11,true),(12,true),(13,true),(15,true),(16,true),(17,true),(18,true),(4,false),(9,false),(14,false)] mixed (by kernel_rfl) s (fun w s=>s) fun w s=>?_
 refine zp rfl q (fun w s=>r_fieldAddr underlying58 rfl sizeOf3 q rfl) fun a q=>zp rfl q (fun w s=>r_load isAgg3 q rfl (s.cell z1 rfl)) fun a q=>zp rfl q (fun w s=>r_fieldAddr underlying58 rfl sizeOf3 q rfl) fun a q=>zp rfl q (fun w s=>r_load isAgg3 q rfl (s.cell z0 rfl)) fun a q=>zp rfl q (fun w s=>r_fieldAddr underlying58 rfl sizeOf3 q rfl) fun a q=>zp rfl q (fun w s=>r_load isAgg3 q rfl (s.cell z1 rfl)) fun a q=>zp rfl q (fun w s=>r_fieldAddr underlying58 rfl sizeOf3 q rfl) fun a q=>zp rfl q (fun w s=>r_load isAgg3 q rfl (s.cell z0 rfl)) fun a q=>zp rfl q (fun w s=>r_fieldAddr underlying58 rfl sizeOf9 q rfl) fun a q=>?_
 refine zp rfl q (fun w s=>r_load isAgg9 q rfl (s.cell z1 rfl)) fun a q=>zp rfl q (fun w s=>r_fieldAddr underlying58 rfl sizeOf9 q rfl) fun a q=>zp rfl q (fun w s=>r_load isAgg9 q rfl (s.cell z0 rfl)) fun a q=>zp rfl q (fun w s=>r_fieldAddr underlying58 rfl sizeOf56 q rfl) fun a q=>zp rfl q (fun w s=>r_slice_arr0 underlying56 sizeOf3 q rfl) fun a q=>zp rfl q (fun w s=>r_fieldAddr underlying58 rfl sizeOf56 q rfl) fun a q=>zp rfl q (fun w s=>r_slice_arr0 underlying56 sizeOf3 q rfl) fun a q=>?_
 refine spw (k:=4) rfl rfl s ?_
 obtain ⟨y_14,h_15,H⟩:=bs H
 refine sl_callV call83 s q (by decide) rfl rfl rfl (cmp_Compare_int.calls a0.Kind a1.Kind h_15 _) fun a w s q=>?_
 refine parK_nil s ?_
 refine spw (k:=9) rfl rfl s ?_
 obtain ⟨y_16,h_17,H⟩:=bs H
 refine sl_callV call83 s q (by decide) rfl rfl rfl (cmp_Compare_int.calls a0.N a1.N h_17 _) fun a w s q=>?_
 refine parK_nil s ?_
 refine spw (k:=14) rfl rfl s ?_
 obtain ⟨y_18,h_19,H⟩:=bs H
 refine sl_callV call115 s q (by decide) rfl rfl rfl (strings_Compare.calls a0.S a1.S h_19 _) fun a w s q=>?_
 refine parK_nil s ?_
 refine thenL_nil ?_
 obtain ⟨y_20,h_21,H⟩:=bs H
 refine sl_callV call116 s q (by decide) rfl rfl rfl (slices_Compare_int_int.calls a0.H.list a1.H.list (lentOf_sub [] _) (s.lend_part0 z1 (xs:=a0.H.list) rfl (Nat.le_refl _)) (s.lend_part0 z0 (xs:=a1.H.list) rfl (Nat.le_refl _)) h_21) fun a w s q=>?_
 refine sl_buildSliceF (zc:=[I6 0]) (ps:=[(0,I6 y_14),(1,I6 y_16),(2,I6 y_18),(3,I6 y_20)]) (c:=[I6 y_14,I6 y_16,I6 y_18,I6 y_20]) [[I6 y_14],[I6 y_16],[I6 y_18],[I6 y_20]] underlying22 sizeOf3 zeroValue3 rfl (pc_cons rfl (pc_cons rfl (pc_cons rfl (pc_cons rfl pc_nil)))) rfl rfl (Nat.le_of_ble_eq_true rfl) rfl (zc (zc (zc (zc zz)))) rfl s q (by decide) rfl fun a w b_22 s q=>?_
 obtain ⟨y_23,h_24,H⟩:=bs H
 refine sl_callV call114 s q (by decide) rfl rfl rfl (cmp_Or_int.calls [y_14,y_16,y_18,y_20] (lentOf_sub [] _) (s.lend_lit0 (ty:=(tyInt .i64)) (xs:=[y_14,y_16,y_18,y_20]) z0 (Reps.cons (show Ty.rep (tyInt .i64) _ [I6 y_14] y_14 from rfl) (Reps.cons (show Ty.rep (tyInt .i64) _ [I6 y_16] y_16 from rfl) (Reps.cons (show Ty.rep (tyInt .i64) _ [I6 y_18] y_18 from rfl) (Reps.cons (show Ty.rep (tyInt .i64) _ [I6 y_20] y_20 from rfl) (Reps.nil _ _))))) rfl) h_24) fun a w s q=>?_
 refine za q rfl fun a q=>?_
 refine wpList_nil (NoP_nil ?_)
 obtain rfl:=Option.some.inj H
 refine wp_ret ?_
 repeat first | refine zt ?_ | refine zb ?_ | refine zo ?_
 exact ret_1 results90 q (rv_tmp q rfl) ⟨rfl,s.bel⟩
theorem slices_CompareFunc_api_Value_api_Value_api_Value_api_Value_f_value_Compare.calls (a0 : List api_Value) (a1 : List api_Value) {w0 : World} {RA : Hp} {v0_0 : Value} {v1_0 : Value} (hRA : RA.sub w0) (h0_0 : SlR ty_api_Value RA v0_0 a0) (h1_0 : SlR ty_api_Value RA v1_0 a1) {r : Int} (H : slices_CompareFunc_api_Value_api_Value_api_Value_api_Value_f_value_Compare a0 a1 = some r) : CallsV prog 89 #[v0_0,v1_0,.func (.func 90) #[] #[]] w0 (I6 r):=by
 unfold slices_CompareFunc_api_Value_api_Value_api_Value_api_Value_f_value_Compare at H
 refine enter (args:=[v0_0,v1_0,.func (.func 90) #[] #[]]) func89 rfl ntmps89 rfl fun a q=>?_
 have s:=St.init (R:=fun _=>none) (w:=w0) (fun _ _ h=>by cases h)
 have hRL:=RLe.refl (M:=[]) w0 (fun _=>none)
 refine zq<|zr<|za q rfl fun a q=>zn<|zq<|zq<|zr<|zm q rfl fun a q=>zl q (r_len_R underlying31 h0_0 q rfl) fun a q=>zm q rfl fun a q=>zn ?_
 refine wp_block ?_
 refine wp_loop_k (fun k_l0 a w=>∃ (x_27 : Int),slices_CompareFunc_api_Value_api_Value_api_Value_api_Value_f_value_Compare.l0 a0 a1 k_l0 x_27 = some r ∧ Kn 39 a [(0,v0_0),(1,v1_0),(2,.func (.func 90) #[] #[]),(11,v0_0),(12,I6 (a0.length : Int)),(13,I6 x_27)] ∧ St [] w0 w (fun _=>none) []) (((a0.length : Int) - 0).toNat + 1) ?_ ?_
 exact ⟨0,H,q.sub (zc (zc (zc (zc (zc (zc zz)))))),s⟩
 rintro k_l0 a w ⟨x_27,H,q,s⟩
 rcases k_l0 with _ | k_l0
 cases H
 rw [slices_CompareFunc_api_Value_api_Value_api_Value_api_Value_f_value_Compare.l0.eq_2] at H
 refine zq<|zr<|zl q (r_ibin q rfl rfl rfl) fun a q=>zn<|zq ?_
 refine wp_cond_split (q.ev rfl) (fun (hb_54 : (decide (x_27 < (a0.length : Int))) = true)=>?_) fun hb_54=>?_
 rw [ifb_t hb_54] at H
 refine wp_skip<|zq ?_
 refine wp_block ?_
 refine zq<|zr<|zm q rfl fun a q=>?_
 obtain ⟨y_55,h_56,H⟩:=bs H
 obtain ⟨b_57,o_58,c_59,cs_60,hv_61,hr_62,hc_63,h_560,h_561⟩:=h0_0.ix h_56
 subst hr_62
 refine zl q (r_indexAddr_R underlying31 sizeOf58 hv_61 h_560 h_561 q rfl rfl) fun a q=>zl q (r_loadA (cs:=(cV y_55)) isAgg58 sizeOf58 rfl q rfl (fun j v hv=>(s.ra hRA nil_not).cell (hc_63 j v hv))) fun a q=>?_
 refine sl_alloc zeroValue58 s q (by decide) rfl rfl fun a w b_64 s q=>?_
 refine za q rfl fun a q=>?_
 refine sl_storeA (vs:=(cV y_55)) (c':=(cV y_55)) sizeOf58 s q rfl rfl rfl rfl (zc (zc (zc (zc (zc (zc (zc (zc (zc (zc (zc zz))))))))))) (Nat.le_of_ble_eq_true rfl) rfl fun a w s q=>?_
 refine zn<|zq<|zq<|zr<|zm q rfl fun a q=>zm q rfl fun a q=>zl q (r_len_R underlying31 h1_0 q rfl) fun a q=>zl q (r_ibin q rfl rfl rfl) fun a q=>zn ?_
 refine wp_cond_split (q.ev rfl) (fun (hb_65 : (decide (x_27 ≥ (a1.length : Int))) = true)=>?_) fun hb_65=>?_
 rw [ifb_t hb_65] at H
 refine zq<|zr<|za q rfl fun a q=>zn ?_
 obtain rfl:=Option.some.inj H
 refine wp_ret ?_
 repeat first | refine zt ?_ | refine zb ?_ | refine zo ?_
 exact ret_1 results89 q (rv_tmp q rfl) ⟨rfl,s.bel⟩
 rw [ifb_f hb_65] at H
 refine wp_skip<|zq<|zr<|zm q rfl fun a q=>zm q rfl fun a q=>?_
 obtain ⟨y_66,h_67,H⟩:=bs H
 obtain ⟨b_68,o_69,c_70,cs_71,hv_72,hr_73,hc_74,h_670,h_671⟩:=h1_0.ix h_67
 subst hr_73
 refine zl q (r_indexAddr_R underlying31 sizeOf58 hv_72 h_670 h_671 q rfl rfl) fun a q=>zl q (r_loadA (cs:=(cV y_66)) isAgg58 sizeOf58 rfl q rfl (fun j v hv=>(s.ra hRA nil_not).cell (hc_74 j v hv))) fun a q=>?_
 refine sl_alloc zeroValue58 s q (by decide) rfl rfl fun a w b_75 s q=>?_
 refine sl_storeA (vs:=(cV y_66)) (c':=(cV y_66)) sizeOf58 s q rfl rfl rfl rfl (zc (zc (zc (zc (zc (zc (zc (zc (zc (zc (zc zz))))))))))) (Nat.le_of_ble_eq_true rfl) rfl fun a w s q=>?_
 refine zn<|zq<|zr<|zm q rfl fun a q=>zl q (r_loadA (cs:=(cV y_55)) isAgg58 sizeOf58 rfl q rfl (s.cells_of (m:=11) z1 rfl)) fun a q=>zl q (r_loadA (cs:=(cV y_66)) isAgg58 sizeOf58 rfl q rfl (s.cells_of (m:=11) z0 rfl)) fun a q=>?_
 obtain ⟨y_76,h_77,H⟩:=bs H
 refine sl_callV call90 s q (by decide) rfl rfl rfl (value_Compare.calls y_55 y_66 h_77 _) fun a w s q=>?_
 refine za q rfl fun a q=>zn<|zq<|zr<|zm q rfl fun a q=>zl q (r_ibin q rfl rfl rfl) fun a q=>zn ?_
 refine wp_cond_split (q.ev rfl) (fun (hb_78 : (y_76 != 0) = true)=>?_) fun hb_78=>?_
 rw [ifb_t hb_78] at H
 refine zq<|zr<|zm q rfl fun a q=>za q rfl fun a q=>zn ?_
 obtain rfl:=Option.some.inj H
 refine wp_ret ?_
 repeat first | refine zt ?_ | refine zb ?_ | refine zo ?_
 exact ret_1 results89 q (rv_tmp q rfl) ⟨rfl,s.bel⟩
 rw [ifb_f hb_78] at H
 refine wp_skip<|zr<|zl q (r_ibin q rfl rfl rfl) fun a q=>zm q rfl fun a q=>zn ?_
 exact ⟨_,Nat.lt_succ_self _,(IntKind.i64.wrap (x_27 + 1)),H,q.sub (zc (zc (zc (zc (zc (zc zz)))))),s.trunc 0⟩
 rw [ifb_f hb_54] at H
 refine wp_exit ?_
 refine zq<|zq<|zr<|zm q rfl fun a q=>zl q (r_len_R underlying31 h0_0 q rfl) fun a q=>zm q rfl fun a q=>zl q (r_len_R underlying31 h1_0 q rfl) fun a q=>zl q (r_ibin q rfl rfl rfl) fun a q=>zn ?_
 refine wp_cond_split (q.ev rfl) (fun (hb_79 : (decide ((a0.length : Int) < (a1.length : Int))) = true)=>?_) fun hb_79=>?_
 rw [ifb_t hb_79] at H
 refine zq<|zr<|za q rfl fun a q=>zn ?_
 obtain rfl:=Option.some.inj H
 refine wp_ret ?_
 repeat first | refine zt ?_ | refine zb ?_ | refine zo ?_
 exact ret_1 results89 q (rv_tmp q rfl) ⟨rfl,s.bel⟩
 rw [ifb_f hb_79] at H
 refine wp_skip<|zq<|zr<|za q rfl fun a q=>zn ?_
 obtain rfl:=Option.some.inj H
 refine wp_ret ?_
 repeat first | refine zt ?_ | refine zb ?_ | refine zo ?_
 exact ret_1 results89 q (rv_tmp q rfl) ⟨rfl,s.bel⟩
theorem table_order.calls (a0 : List api_Value) (a1 : List api_Value) {w0 : World} {RA : Hp} {v0_0 : Value} {v1_0 : Value} (hRA : RA.sub w0) (h0_0 : SlR ty_api_Value RA v0_0 a0) (h1_0 : SlR ty_api_Value RA v1_0 a1) {r : Int} (H : table_order a0 a1 = some r) : CallsV prog 60 #[v0_0,v1_0] w0 (I6 r):=by
 unfold table_order at H
 refine enter (args:=[v0_0,v1_0]) func60 rfl ntmps60 rfl fun a q=>?_
 have s:=St.init (R:=fun _=>none) (w:=w0) (fun _ _ h=>by cases h)
 have hRL:=RLe.refl (M:=[]) w0 (fun _=>none)
 refine zq<|zr<|za q rfl fun a q=>zn<|zq<|zr<|zm q rfl fun a q=>zm q rfl fun a q=>?_
 obtain ⟨y_1,h_2,H⟩:=bs H
 refine sl_callV call89 s q (by decide) rfl rfl rfl (slices_CompareFunc_api_Value_api_Value_api_Value_api_Value_f_value_Compare.calls a0 a1 (lentOf_sub [] _) (h0_0.mono (s.raLe0 hRA nil_not)) (h1_0.mono (s.raLe0 hRA nil_not)) h_2) fun a w s q=>?_
 refine za q rfl fun a q=>zn ?_
 obtain rfl:=Option.some.inj H
 refine wp_ret ?_
 repeat first | refine zt ?_ | refine zb ?_ | refine zo ?_
 exact ret_1 results60 q (rv_tmp q rfl) ⟨rfl,s.bel⟩
set_option maxHeartbeats 4000000 in
set_option maxRecDepth 100000 in
theorem slices_SortFunc_api_Value_api_Value_f_table_order.calls (a0 : List (List api_Value)) {w0 : World} {R : Hp} {M : List Own} {v0 : Value} {cs0 : List Value} (hS0 : St M w0 w0 R [.row 31 1 v0 a0.length cs0]) (h0 : Reps (tySl ty_api_Value) R cs0 a0) {r : List (List api_Value)} (H : slices_SortFunc_api_Value_api_Value_f_table_order a0 = some r) :
    Calls Tryz.prog 59 #[v0, .func (.func 60) #[] #[]] w0 (Rets fun v w' => ∃ (R' : Hp) (cu0 : List Value), v = .tuple #[] ∧ St M w0 w' R' [.row 31 1 v0 r.length cu0] ∧ RLe M w0 R R' ∧ Reps (tySl ty_api_Value) R' cu0 r ∧ cu0.Perm cs0) := by
  unfold slices_SortFunc_api_Value_api_Value_f_table_order at H
  exact sort_calls sortL59 (ty := (tySl ty_api_Value)) rfl Tryz.call60 hS0 h0 (fun w hsub u1 u2 x y i hx hy hi => by
    obtain ⟨v1, e1, s1⟩ := hx
    obtain ⟨v2, e2, s2⟩ := hy
    cases e1; cases e2
    exact table_order.calls x y hsub s1 s2 hi) H
theorem table_Canon.calls (a0 : api_Table) {w0 : World} {R : Hp} {RA : Hp} {v0_0 : Value} {v0_1 : Value} (hRA : RA.sub w0) (hR : R.sub w0) (h0_0 : SlR ty_api_Col RA v0_0 a0.Cols) (h0_1 : SlR (tySl ty_api_Value) RA v0_1 a0.Rows) {r : api_Table} (H : table_Canon a0 = some r) : Calls prog 35 #[.agg #[v0_0,v0_1]] w0 (Rets fun v w'=>∃ (R' : Hp) (u0 : Value) (cu0 : List Value) (u1 : Value) (cu1 : List Value),v = .agg #[u0,u1] ∧ St [] w0 w' R' [.row 65 2 u0 r.Cols.length cu0,.row 31 1 u1 r.Rows.length cu1] ∧ RLe [] w0 R R' ∧ Reps ty_api_Col R' cu0 r.Cols ∧ Reps (tySl ty_api_Value) R' cu1 r.Rows ∧ Apart R R' cu1):=by
 unfold table_Canon at H
 refine enter (args:=[.agg #[v0_0,v0_1]]) func35 rfl ntmps35 rfl fun a q=>?_
 have s:=St.init hR
 have hRL:=RLe.refl (M:=[]) w0 R
 refine zq<|zr ?_
 refine sl_box s q (by decide) rfl rfl (c:=[v0_0,v0_1]) rfl fun a w b_1 s q=>?_
 refine sl_alloc zeroValue41 s q (by decide) rfl rfl fun a w b_2 s q=>?_
 refine zn<|zq<|zr<|zl q (r_fieldAddr underlying41 rfl sizeOf38 q rfl) fun a q=>zl q (r_load isAgg38 q rfl (s.cell z1 rfl)) fun a q=>?_
 obtain ⟨y_3,h_4,H⟩:=bs H
 refine sl_call call21 q (by decide) rfl rfl rfl (slices_Clone_api_Col_api_Col.calls a0.Cols (lentOf_sub [] _) s.sub (h0_0.mono (s.raLe0 hRA nil_not)) h_4) fun a v_ w hv_ q=>?_
 obtain ⟨R_5,v_8,cs_9,hv_,hr_,hl_6,hq_10⟩:=hv_
 have hv_:=hv_.symm
 subst hv_
 obtain ⟨s,hl_6⟩:=s.sp0.back hr_ hl_6
 have s:=s.un1
 have hRL:=hRL.trans hl_6
 have ho_11:=s.row_one z0
 refine zl q (r_buildC (ps:=[(0,v_8)]) (c:=[v_8,.slice none 0 0]) underlying41 zeroValue41 places41 q rfl (pc_cons (cells1 ho_11) pc_nil) rfl rfl) fun a q=>?_
 refine sl_alloc zeroValue41 s q (by decide) rfl rfl fun a w b_12 s q=>?_
 refine sl_storeA (vs:=[v_8,.slice none 0 0]) (c':=[v_8,.slice none 0 0]) sizeOf41 s q rfl rfl rfl rfl (all_cons (s.row_one z1) (zc zz)) (Nat.le_of_ble_eq_true rfl) rfl fun a w s q=>?_
 refine zn<|zq<|zq<|zr<|zl q (r_fieldAddr underlying41 rfl sizeOf39 q rfl) fun a q=>zl q (r_load isAgg39 q rfl (s.cell z3 rfl)) fun a q=>zl q (r_len_R underlying39 h0_1 q rfl) fun a q=>zm q rfl fun a q=>zn ?_
 refine wp_block ?_
 refine wp_loop_k (fun k_l0 a w=>∃ (x_79 : List (List api_Value)) (x_84 : Int) (R_85 : Hp) (v_80 : Value) (cs_81 : List Value),table_Canon.l0 a0 y_3 k_l0 x_79 x_84 = some r ∧ RLe [] w0 R_5 R_85 ∧ Reps (tySl ty_api_Value) R_85 cs_81 x_79 ∧ Apart R R_85 cs_81 ∧ Kn 29 a [(2,.pointer (some ⟨b_2,0,none⟩)),(3,.pointer (some ⟨b_12,0,none⟩)),(11,v0_1),(12,I6 (a0.Rows.length : Int)),(13,I6 x_84)] ∧ St [] w0 w R_85 [.cells b_2 [.slice none 0 0,.slice none 0 0] 41,.row 65 2 v_8 y_3.length cs_9,.row 31 1 v_80 x_79.length cs_81,.cells b_12 [v_8,v_80] 41]) (((a0.Rows.length : Int) - 0).toNat + 1) ?_ ?_
 have s:=s.row_nil 31 1
 have hq_144 : Reps (tySl ty_api_Value) R_5 [] ([] : List (List api_Value)):=Reps.nil _ _
 have s:=s.pk1
 have s:=s.pk1
 have s:=s.pk2
 have s:=s.pk3
 exact ⟨[],0,_,_,_,H,(RLe.refl _ _),hq_144,(Apart.nil _ _),q.sub (zc (zc (zc (zc (zc zz))))),s.trunc 4⟩
 rintro k_l0 a w ⟨x_79,x_84,R_85,v_80,cs_81,H,hl_86,hq_82,hap_83,q,s⟩
 rcases k_l0 with _ | k_l0
 cases H
 rw [table_Canon.l0.eq_2] at H
 have hRL:=hRL.trans hl_86
 refine zq<|zr<|zl q (r_ibin q rfl rfl rfl) fun a q=>zn<|zq ?_
 refine wp_cond_split (q.ev rfl) (fun (hb_145 : (decide (x_84 < (a0.Rows.length : Int))) = true)=>?_) fun hb_145=>?_
 rw [ifb_t hb_145] at H
 refine wp_skip<|zq ?_
 refine wp_block ?_
 refine zq<|zr ?_
 obtain ⟨y_146,h_147,H⟩:=bs H
 obtain ⟨b_148,o_149,c_150,cs_151,hv_152,hr_153,hc_154,h_1470,h_1471⟩:=h0_1.ix h_147
 obtain ⟨v_155,rfl,hs_156⟩:=hr_153
 refine zl q (r_indexAddr_R underlying39 sizeOf31 hv_152 h_1470 h_1471 q rfl rfl) fun a q=>zl q (r_load isAgg31 q rfl ((s.ra hRA nil_not).cell (hc_154 0 _ rfl))) fun a q=>za q rfl fun a q=>zn ?_
 refine parT_region (C:=fun w=>St [] w0 w R_85 [.cells b_2 [.slice none 0 0,.slice none 0 0] 41,.row 65 2 v_8 y_3.length cs_9,.row 31 1 v_80 x_79.length cs_81,.cells b_12 [v_8,v_80] 41]) 5 [(0,true),(1,true),(2,true),(3,false),(4,false)] mixed (by kernel_rfl) s (fun w s=>s) fun w s=>?_
 refine zp rfl q (fun w s=>r_fieldAddr underlying41 rfl sizeOf39 q rfl) fun a q=>zp rfl q (fun w s=>r_load isAgg39 q rfl (s.cell z3 rfl)) fun a q=>zp rfl q (fun w s=>r_move q rfl) fun a q=>?_
 refine spw (k:=3) rfl rfl s ?_
 obtain ⟨y_179,h_180,H⟩:=bs H
 refine sl_call call55 q (by decide) rfl rfl rfl (slices_Clone_api_Value_api_Value.calls y_146 (lentOf_sub [] _) s.sub (hs_156.mono (s.raLe0 hRA nil_not)) h_180) fun a v_ w hv_ q=>?_
 obtain ⟨R_181,v_184,cs_185,hv_,hr_,hl_182,hq_186⟩:=hv_
 have hv_:=hv_.symm
 subst hv_
 obtain ⟨s,hl_182⟩:=s.sp0.back hr_ hl_182
 have s:=s.un1
 have hRL:=hRL.trans hl_182
 refine parK_nil ((s.pk4.pk4.pk4.pk4.trunc 4).lower hl_182.le) ?_
 refine spw (k:=4) rfl rfl ((s.pk4.pk4.pk4.pk4.trunc 4).lower hl_182.le) ?_
 have ho_187:=s.row_one z0
 refine sl_buildSliceF (zc:=[.slice none 0 0]) (ps:=[(0,v_184)]) (c:=[v_184]) [[v_184]] underlying39 sizeOf31 zeroValue31 rfl (pc_cons (cells1 ho_187) pc_nil) rfl rfl (Nat.le_of_ble_eq_true rfl) rfl (zc zz) rfl s q (by decide) rfl fun a w b_188 s q=>?_
 refine parK_nil ((s.pk5.pk5.pk5.pk5.trunc 4).lower hl_182.le) ?_
 refine thenL_nil ?_
 have s:=s.pk4
 have s:=s.pk2
 obtain ⟨R_189,s,hl_191,hs_190,hn_192⟩:=s.fz_rowN hq_186 rfl rfl
 have hRL:=hRL.trans hl_191
 obtain ⟨y_193,h_194,H⟩:=bs H
 refine sl_append_LA (ty:=(tySl ty_api_Value)) (ys:=[y_179]) elT39 (by decide) rfl (hq_82.mono (hl_182.le.trans hl_191.le)) rfl (Reps.cons (show Ty.rep (tySl ty_api_Value) _ [v_184] y_179 from ⟨_,rfl,hs_190⟩) (Reps.nil _ _)) rfl h_194 s q (by decide) rfl rfl rfl fun a w v_195 cs_196 hcq_199 hq_197 s q=>?_
 have hap_200 : Apart R R_189 cs_196:=by rw [hcq_199]; exact (Apart.app (hap_83.mono hl_182.le) (hl_6.le.trans (hl_86.le.trans hl_182.le)) hl_191.le hn_192)
 refine zl q (r_fieldAddr underlying41 rfl sizeOf39 q rfl) fun a q=>?_
 have s:=s.pk3
 refine sl_store1 (c':=[v_8,v_195]) sizeOf39 s q rfl rfl rfl (s.row_one z1) (Nat.le_of_ble_eq_true rfl) rfl fun a w s q=>?_
 refine wpList_nil (NoP_nil ?_)
 refine zr<|zl q (r_ibin q rfl rfl rfl) fun a q=>zm q rfl fun a q=>zn ?_
 have s:=s.pk1
 have s:=s.pk3
 have s:=s.pk3
 exact ⟨_,Nat.lt_succ_self _,y_193,(IntKind.i64.wrap (x_84 + 1)),_,_,_,H,(hl_86.trans (hl_182.trans hl_191)),hq_197,hap_200,q.sub (zc (zc (zc (zc (zc zz))))),s⟩
 rw [ifb_f hb_145] at H
 refine wp_exit ?_
 refine zq<|zr<|zl q (r_fieldAddr underlying41 rfl sizeOf39 q rfl) fun a q=>zl q (r_load isAgg39 q rfl (s.cell z3 rfl)) fun a q=>?_
 obtain ⟨y_201,h_202,H⟩:=bs H
 have s:=s.pk2
 have hS1:=s.sp1
 refine sl_call call59 q (by decide) rfl rfl rfl (slices_SortFunc_api_Value_api_Value_f_table_order.calls x_79 hS1.lend hq_82 h_202) fun a v_ w hv_ q=>?_
 obtain ⟨R_203,cs_206,hv_,hr_,hl_204,hq_207,hp_208⟩:=hv_
 have hv_:=hv_.symm
 subst hv_
 obtain ⟨s,hl_204⟩:=hS1.back hr_ hl_204
 have s:=s.un1
 have hRL:=hRL.trans hl_204
 refine zn<|zq<|zr<|zl q (r_loadA (cs:=[v_8,v_80]) isAgg41 sizeOf41 rfl q rfl (s.cells_of (m:=2) z3 rfl)) fun a q=>?_
 have s:=s.pk1
 refine sl_storeA (vs:=[v_8,v_80]) (c':=[v_8,v_80]) sizeOf41 s q rfl rfl rfl rfl (all_cons (s.row_one z2) (all_cons (s.row_one z1) zz)) (Nat.le_of_ble_eq_true rfl) rfl fun a w s q=>?_
 refine zn ?_
 obtain rfl:=Option.some.inj H
 refine wp_ret ?_
 repeat first | refine zt ?_ | refine zb ?_ | refine zo ?_
 exact ret_1 results35 q (rv_cell (c:=[v_8,v_80]) isAgg41 sizeOf41 s z0 rfl q rfl) ⟨_,rfl,_,_,_,_,_,rfl,(s.pk1.pk2.trunc 2),hRL,(hq_10.mono (hl_86.le.trans hl_204.le)),hq_207,((Apart.perm hap_83 hp_208).mono hl_204.le)⟩
theorem leaf_Leaf_Scan.calls (a0 : leaf_Leaf) (a1 : ByteArray) (a2 : Int) (a3 : Int) {w0 : World} {R : Hp} {M : List Own} {b0 : Nat} {v0_0 : Value} {nb0_1 : Nat} {v0p1_0 : Value} {cs0p1_0 : List Value} {mb0p1_1 : Nat} {mb0_2 : Nat} {E0_2 : List (MB Int)} (hS0 : St M w0 w0 R [.cells b0 [v0_0,I6 a0.room,I6 a0.points,.pointer (some ⟨nb0_1,0,none⟩),.map (some mb0_2)] 70,.cells nb0_1 [I6 a0.dict.most,v0p1_0,.map (some mb0p1_1)] 102,.row 113 2 v0p1_0 a0.dict.l.length cs0p1_0,.mp mb0p1_1 (kvs Value.string (Value.int .i64) a0.dict.ids),mbo mb0_2 (kvs (Value.int .i64) id (mbp E0_2)) 111 90 2 E0_2]) (h0_0 : SlR ty_api_Schema R v0_0 a0.schemas) (h0p1_0 : Reps ty_streams_stream R cs0p1_0 a0.dict.l) (h0_2 : MBel ty_api_Sample runs_Run.l R E0_2 a0.runs) {r : api_Table × Int × leaf_Leaf} (H : leaf_Leaf_Scan a0 a1 a2 a3 = some r) : Calls prog 12 #[.pointer (some ⟨b0,0,none⟩),.string a1,I6 a2,I6 a3] w0 (Rets fun v w'=>∃ (R' : Hp) (u0 : Value) (cu0 : List Value) (u1 : Value) (cu1 : List Value) (u2 : Value) (B3 : Nat) (u4 : Value) (cu4 : List Value) (B5 : Nat) (B6 : Nat) (E6 : List (MB Int)),v = .tuple #[.agg #[u0,u1],I6 r.2.1] ∧ St M w0 w' R' [.row 65 2 u0 r.1.Cols.length cu0,.row 31 1 u1 r.1.Rows.length cu1,.cells b0 [u2,I6 r.2.2.room,I6 r.2.2.points,.pointer (some ⟨B3,0,none⟩),.map (some B6)] 70,.cells B3 [I6 r.2.2.dict.most,u4,.map (some B5)] 102,.row 113 2 u4 r.2.2.dict.l.length cu4,.mp B5 (kvs Value.string (Value.int .i64) r.2.2.dict.ids),mbo B6 (kvs (Value.int .i64) id (mbp E6)) 111 90 2 E6] ∧ RLe M w0 R R' ∧ Reps ty_api_Col R' cu0 r.1.Cols ∧ Reps (tySl ty_api_Value) R' cu1 r.1.Rows ∧ SlR ty_api_Schema R' u2 r.2.2.schemas ∧ Reps ty_streams_stream R' cu4 r.2.2.dict.l ∧ MBel ty_api_Sample runs_Run.l R' E6 r.2.2.runs):=by
 unfold leaf_Leaf_Scan at H
 refine enter (args:=[.pointer (some ⟨b0,0,none⟩),.string a1,I6 a2,I6 a3]) func12 rfl ntmps12 rfl fun a q=>?_
 have s:=hS0
 have hRL:=RLe.refl (M:=M) w0 R
 refine zq<|zr ?_
 refine sl_alloc zeroValue41 s q (by decide) rfl rfl fun a w b_1 s q=>?_
 refine za q rfl fun a q=>zn<|zq<|zr<|zm q rfl fun a q=>zl q (r_nilCheck q rfl) fun a q=>zl q (r_fieldAddr underlying70 rfl sizeOf28 q rfl) fun a q=>zl q (r_load isAgg28 q rfl (s.cell z1 rfl)) fun a q=>zm q rfl fun a q=>?_
 obtain ⟨y_2,h_3,H⟩:=bs H
 refine sl_call call29 q (by decide) rfl rfl rfl (schema_Find.calls a0.schemas a1 s.sub h0_0 h_3) fun a v_ w hv_ q=>?_
 obtain ⟨R_4,v_6,v_8,hv_,hr_,hl_5,hs_7,hs_9⟩:=hv_
 have hv_:=hv_.symm
 subst hv_
 obtain ⟨s,hl_5⟩:=s.sp0.back hr_ hl_5
 have s:=s.un0
 have hRL:=hRL.trans hl_5
 refine zm q rfl fun a q=>zl q (r_extract q rfl rfl) fun a q=>zl q (r_extract q rfl rfl) fun a q=>?_
 refine sl_alloc zeroValue49 s q (by decide) rfl rfl fun a w b_10 s q=>?_
 refine sl_storeA (vs:=[.string y_2.1.Name,v_6,v_8]) (c':=[.string y_2.1.Name,v_6,v_8]) sizeOf49 s q rfl rfl rfl rfl (zc (all_cons hs_7.one (all_cons hs_9.one zz))) (Nat.le_of_ble_eq_true rfl) rfl fun a w s q=>?_
 refine za q rfl fun a q=>zn<|zq<|zq<|zr<|zm q rfl fun a q=>zl q (r_un q rfl (u_not _)) fun a q=>zn ?_
 refine wp_cond_split (q.ev rfl) (fun (hb_11 : (!y_2.2) = true)=>?_) fun hb_11=>?_
 rw [ifb_t hb_11] at H
 refine zq<|zr<|zl q (r_buildC (ps:=[]) (c:=[.slice none 0 0,.slice none 0 0]) underlying41 zeroValue41 places41 q rfl pc_nil rfl rfl) fun a q=>?_
 have s:=s.pk1
 refine sl_storeA (vs:=[.slice none 0 0,.slice none 0 0]) (c':=[.slice none 0 0,.slice none 0 0]) sizeOf41 s q rfl rfl rfl rfl (zc (zc zz)) (Nat.le_of_ble_eq_true rfl) rfl fun a w s q=>?_
 refine za q rfl fun a q=>zn ?_
 have s:=s.row_nil 65 2
 have hq_13 : Reps ty_api_Col R_4 [] ([] : List api_Col):=Reps.nil _ _
 have s:=s.row_nil 31 1
 have hq_15 : Reps (tySl ty_api_Value) R_4 [] ([] : List (List api_Value)):=Reps.nil _ _
 obtain rfl:=Option.some.inj H
 refine wp_ret ?_
 repeat first | refine zt ?_ | refine zb ?_ | refine zo ?_
 exact ret_2 results12 q (rv_cell (c:=[(.slice none 0 0),(.slice none 0 0)]) isAgg41 sizeOf41 s z2 rfl q rfl) (rv_tmp q rfl) ⟨_,rfl,_,_,_,_,_,_,_,_,_,_,_,_,rfl,(s.pk8.pk8.pk8.pk8.pk8.pk5.pk6.trunc 7),hRL,hq_13,hq_15,(h0_0.mono hl_5.le),(h0p1_0.mono hl_5.le),(h0_2.mono hl_5.le)⟩
 rw [ifb_f hb_11] at H
 refine wp_skip<|zq<|zr<|zl q (r_loadA (cs:=[.string y_2.1.Name,v_6,v_8]) isAgg49 sizeOf49 rfl q rfl (s.cells_of (m:=3) z0 rfl)) fun a q=>?_
 obtain ⟨y_16,h_17,H⟩:=bs H
 refine sl_call call30 q (by decide) rfl rfl rfl (schema_Cols.calls y_2.1 s.sub hs_7 hs_9 h_17) fun a v_ w hv_ q=>?_
 obtain ⟨R_18,v_21,cs_22,hv_,hr_,hl_19,hq_23⟩:=hv_
 have hv_:=hv_.symm
 subst hv_
 obtain ⟨s,hl_19⟩:=s.sp0.back hr_ hl_19
 have s:=s.un1
 have hRL:=hRL.trans hl_19
 have ho_24:=s.row_one z0
 refine zl q (r_buildC (ps:=[(0,v_21)]) (c:=[v_21,.slice none 0 0]) underlying41 zeroValue41 places41 q rfl (pc_cons (cells1 ho_24) pc_nil) rfl rfl) fun a q=>?_
 refine sl_alloc zeroValue41 s q (by decide) rfl rfl fun a w b_25 s q=>?_
 refine sl_storeA (vs:=[v_21,.slice none 0 0]) (c':=[v_21,.slice none 0 0]) sizeOf41 s q rfl rfl rfl rfl (all_cons (s.row_one z1) (zc zz)) (Nat.le_of_ble_eq_true rfl) rfl fun a w s q=>?_
 refine zn<|zq<|zq<|zr<|zm q rfl fun a q=>zl q (r_nilCheck q rfl) fun a q=>zl q (r_fieldAddr underlying70 rfl sizeOf66 q rfl) fun a q=>zl q (r_load isAgg66 q rfl (s.cell z4 rfl)) fun a q=>zm q rfl fun a q=>?_
 obtain ⟨y_26,h_27,H⟩:=bs H
 refine sl_call call31 q (by decide) rfl rfl rfl (streams_Dict_Of.calls a0.dict a1 (lentOf_sub [] _) s.sub (s.lend_box0 z5) (s.lend_row0 z6 (h0p1_0.mono (hl_5.le.trans hl_19.le)) rfl rfl) (s.lend_map0 z7) h_27) fun a v_ w hv_ q=>?_
 obtain ⟨R_28,v_31,cs_32,hv_,hr_,hl_29,hq_33⟩:=hv_
 have hv_:=hv_.symm
 subst hv_
 obtain ⟨s,hl_29⟩:=s.sp0.back hr_ hl_29
 have s:=s.un1
 have hRL:=hRL.trans hl_29
 refine zl q (r_len_O underlying22 s z0 q rfl) fun a q=>zm q rfl fun a q=>zn ?_
 refine wp_block ?_
 refine wp_loop_k (fun k_l0 a w=>∃ (x_289 : List (List api_Value)) (x_293 : Int) (R_294 : Hp) (v_290 : Value) (cs_291 : List Value) (E_286 : List (MB Int)),leaf_Leaf_Scan.l0 a0 a2 a3 y_16 y_26 k_l0 x_289 x_293 = some r ∧ RLe M w0 R_28 R_294 ∧ Reps (tySl ty_api_Value) R_294 cs_291 x_289 ∧ MBel ty_api_Sample runs_Run.l R_294 E_286 a0.runs ∧ Kn 88 a [(0,.pointer (some ⟨b0,0,none⟩)),(2,I6 a2),(3,I6 a3),(8,.pointer (some ⟨b_1,0,none⟩)),(12,.pointer (some ⟨b_25,0,none⟩)),(40,v_31),(41,I6 (y_26.length : Int)),(42,I6 x_293)] ∧ St M w0 w R_294 [.row 113 2 v0p1_0 a0.dict.l.length cs0p1_0,.mp mb0p1_1 (kvs Value.string (Value.int .i64) a0.dict.ids),.cells nb0_1 [I6 a0.dict.most,v0p1_0,.map (some mb0p1_1)] 102,mbo mb0_2 (kvs (Value.int .i64) id (mbp E_286)) 111 90 2 E_286,.cells b0 [v0_0,I6 a0.room,I6 a0.points,.pointer (some ⟨nb0_1,0,none⟩),.map (some mb0_2)] 70,.cells b_1 [.slice none 0 0,.slice none 0 0] 41,.row 65 2 v_21 y_16.length cs_22,.row 31 1 v_290 x_289.length cs_291,.cells b_25 [v_21,v_290] 41,.row 3 1 v_31 y_26.length cs_32]) (((y_26.length : Int) - 0).toNat + 1) ?_ ?_
 have s:=s.row_nil 31 1
 have hq_538 : Reps (tySl ty_api_Value) R_28 [] ([] : List (List api_Value)):=Reps.nil _ _
 have s:=s.pk1
 have s:=s.pk2
 have s:=s.pk2
 have s:=s.pk3
 have s:=s.pk5
 have s:=s.pk6
 have s:=s.pk10
 have s:=s.pk8
 have s:=s.pk10
 have s:=s.pk10
 exact ⟨[],0,_,_,_,_,H,(RLe.refl _ _),hq_538,(h0_2.mono (hl_5.le.trans (hl_19.le.trans hl_29.le))),q.sub (zc (zc (zc (zc (zc (zc (zc (zc zz)))))))),s.trunc 10⟩
 rintro k_l0 a w ⟨x_289,x_293,R_294,v_290,cs_291,E_286,H,hl_295,hq_292,hm_287,q,s⟩
 rcases k_l0 with _ | k_l0
 cases H
 rw [leaf_Leaf_Scan.l0.eq_2] at H
 have hRL:=hRL.trans hl_295
 refine zq<|zr<|zl q (r_ibin q rfl rfl rfl) fun a q=>zn<|zq ?_
 refine wp_cond_split (q.ev rfl) (fun (hb_539 : (decide (x_293 < (y_26.length : Int))) = true)=>?_) fun hb_539=>?_
 rw [ifb_t hb_539] at H
 refine wp_skip<|zq ?_
 refine wp_block ?_
 refine zq<|zr ?_
 obtain ⟨y_540,h_541,H⟩:=bs H
 obtain ⟨b_543,c_544,cs_545,hv_542,hr_546,hc_547,h_5410,h_5411⟩:=s.row_ix (.tail _ z8) (hq_33.mono hl_295.le) rfl rfl h_541
 subst hr_546
 refine zl q (r_indexAddr_R underlying22 sizeOf3 hv_542 h_5410 h_5411 q rfl rfl) fun a q=>zl q (r_load isAgg3 q rfl (s.row_cell (.tail _ z8) hv_542 (hc_547 0 _ rfl))) fun a q=>za q rfl fun a q=>zn<|zq<|zr<|zm q rfl fun a q=>zl q (r_nilCheck q rfl) fun a q=>zl q (r_fieldAddr underlying70 rfl sizeOf66 q rfl) fun a q=>zl q (r_load isAgg66 q rfl (s.cell z4 rfl)) fun a q=>zm q rfl fun a q=>?_
 obtain ⟨y_548,h_549,H⟩:=bs H
 refine sl_call call32 q (by decide) rfl rfl rfl (streams_Dict_Keys.calls a0.dict y_540 (lentOf_sub [] _) s.sub (s.lend_box0 z2) (s.lend_row0 z0 (h0p1_0.mono (hl_5.le.trans (hl_19.le.trans (hl_29.le.trans hl_295.le)))) rfl rfl) (s.lend_map0 z1) h_549) fun a v_ w hv_ q=>?_
 obtain ⟨R_550,v_553,cs_554,hv_,hr_,hl_551,hq_555⟩:=hv_
 have hv_:=hv_.symm
 subst hv_
 obtain ⟨s,hl_551⟩:=s.sp0.back hr_ hl_551
 have s:=s.un1
 have hRL:=hRL.trans hl_551
 refine zm q rfl fun a q=>zl q (r_extract q rfl rfl) fun a q=>zl q (r_extract q rfl rfl) fun a q=>zl q (r_extract q rfl rfl) fun a q=>za q rfl fun a q=>za q rfl fun a q=>za q rfl fun a q=>zn<|zq<|zr<|zm q rfl fun a q=>zl q (r_nilCheck q rfl) fun a q=>zl q (r_fieldAddr underlying70 rfl sizeOf68 q rfl) fun a q=>zl q (r_load isAgg68 q rfl (s.cell z5 rfl)) fun a q=>zm q rfl fun a q=>zl q (r_lookup_B (x:=y_540) underlying68 underlying3 (key_int .i64) zeroValue75 s z4 q rfl rfl) fun a q=>zm q rfl fun a q=>zm q rfl fun a q=>?_
 obtain ⟨y_556,h_557,H⟩:=bs H
 have s:=s.pk4
 obtain ⟨b_558,v_559,cs_560,s,hq_561,hk_562⟩:=St.btake (hm_287.mono hl_551.le) h_557 s
 rw [bhd_of hk_562] at q
 have s : St M w0 w R_550 [.cells b_558 [v_559] 111,.row 90 2 v_559 y_556.l.length cs_560,mbo mb0_2 (kvs (Value.int .i64) id (mbp E_286)) 111 90 2 (bdel E_286 y_540),.row 58 11 v_553 y_548.2.1.length cs_554,.row 113 2 v0p1_0 a0.dict.l.length cs0p1_0,.mp mb0p1_1 (kvs Value.string (Value.int .i64) a0.dict.ids),.cells nb0_1 [I6 a0.dict.most,v0p1_0,.map (some mb0p1_1)] 102,.cells b0 [v0_0,I6 a0.room,I6 a0.points,.pointer (some ⟨nb0_1,0,none⟩),.map (some mb0_2)] 70,.cells b_1 [.slice none 0 0,.slice none 0 0] 41,.row 65 2 v_21 y_16.length cs_22,.row 31 1 v_290 x_289.length cs_291,.cells b_25 [v_21,v_290] 41,.row 3 1 v_31 y_26.length cs_32]:=s
 obtain ⟨y_564,h_565,H⟩:=bs H
 refine sl_call call33 q (by decide) rfl rfl rfl (runs_Run_Range.calls y_556 a2 a3 (lentOf_sub [] _) s.sub (s.lend_box0 z0) (s.lend_row0 z1 hq_561 rfl rfl) h_565) fun a v_ w hv_ q=>?_
 obtain ⟨R_566,v_569,cs_570,hv_,hr_,hl_567,hq_571,hap_572⟩:=hv_
 have hv_:=hv_.symm
 subst hv_
 obtain ⟨s,hl_567⟩:=s.sp0.back hr_ hl_567
 have s:=s.un1
 have hRL:=hRL.trans hl_567
 have s:=s.pk3
 have s:=s.pk3
 have s:=s.pk3
 obtain ⟨E_573,s,hm_574⟩:=St.bput (y:=y_556) (hm_287.mono (hl_551.le.trans hl_567.le)) hk_562 (hq_561.mono hl_567.le) rfl s
 rw [mset_same h_557] at hm_574
 have s : St M w0 w R_566 [mbo mb0_2 (kvs (Value.int .i64) id (mbp E_573)) 111 90 2 E_573,.row 90 2 v_569 y_564.length cs_570,.row 58 11 v_553 y_548.2.1.length cs_554,.row 113 2 v0p1_0 a0.dict.l.length cs0p1_0,.mp mb0p1_1 (kvs Value.string (Value.int .i64) a0.dict.ids),.cells nb0_1 [I6 a0.dict.most,v0p1_0,.map (some mb0p1_1)] 102,.cells b0 [v0_0,I6 a0.room,I6 a0.points,.pointer (some ⟨nb0_1,0,none⟩),.map (some mb0_2)] 70,.cells b_1 [.slice none 0 0,.slice none 0 0] 41,.row 65 2 v_21 y_16.length cs_22,.row 31 1 v_290 x_289.length cs_291,.cells b_25 [v_21,v_290] 41,.row 3 1 v_31 y_26.length cs_32]:=s
 refine zl q (r_len_O underlying87 s z1 q rfl) fun a q=>zm q rfl fun a q=>zn ?_
 refine wp_block ?_
 refine wp_loop_k (fun k_l1 a w=>∃ (x_648 : List (List api_Value)) (x_654 : Int) (R_655 : Hp) (v_652 : Value) (v_649 : Value) (cs_650 : List Value),leaf_Leaf_Scan.l1 (leaf_Leaf_Scan.l0 a0 a2 a3 y_16 y_26 k_l0) y_26 x_293 y_548 y_564 k_l1 x_648 x_654 = some r ∧ RLe M w0 R_566 R_655 ∧ SlR ty_api_Value R_655 v_652 y_548.2.1 ∧ Reps (tySl ty_api_Value) R_655 cs_650 x_648 ∧ Kn 88 a [(0,.pointer (some ⟨b0,0,none⟩)),(2,I6 a2),(3,I6 a3),(8,.pointer (some ⟨b_1,0,none⟩)),(12,.pointer (some ⟨b_25,0,none⟩)),(16,v_652),(40,v_31),(41,I6 (y_26.length : Int)),(42,I6 x_293),(64,v_569),(65,I6 (y_564.length : Int)),(66,I6 x_654)] ∧ St M w0 w R_655 [.row 113 2 v0p1_0 a0.dict.l.length cs0p1_0,.mp mb0p1_1 (kvs Value.string (Value.int .i64) a0.dict.ids),.cells nb0_1 [I6 a0.dict.most,v0p1_0,.map (some mb0p1_1)] 102,mbo mb0_2 (kvs (Value.int .i64) id (mbp E_573)) 111 90 2 E_573,.cells b0 [v0_0,I6 a0.room,I6 a0.points,.pointer (some ⟨nb0_1,0,none⟩),.map (some mb0_2)] 70,.cells b_1 [.slice none 0 0,.slice none 0 0] 41,.row 65 2 v_21 y_16.length cs_22,.row 31 1 v_649 x_648.length cs_650,.cells b_25 [v_21,v_649] 41,.row 3 1 v_31 y_26.length cs_32,.row 90 2 v_569 y_564.length cs_570]) (((y_564.length : Int) - 0).toNat + 1) ?_ ?_
 have s:=s.pk2
 obtain ⟨R_717,s,hl_719,hs_718⟩:=s.fz_row (hq_555.mono hl_567.le) rfl rfl
 have hRL:=hRL.trans hl_719
 have s:=s.pk1
 have s:=s.pk10
 have s:=s.pk10
 have s:=s.pk10
 have s:=s.pk10
 have s:=s.pk10
 have s:=s.pk10
 have s:=s.pk7
 have s:=s.pk10
 have s:=s.pk10
 have s:=s.pk10
 exact ⟨x_289,0,_,v_553,_,_,H,hl_719,hs_718,(hq_292.mono (hl_551.le.trans (hl_567.le.trans hl_719.le))),q.sub (zc (zc (zc (zc (zc (zc (zc (zc (zc (zc (zc (zc zz)))))))))))),s⟩
 rintro k_l1 a w ⟨x_648,x_654,R_655,v_652,v_649,cs_650,H,hl_656,hs_653,hq_651,q,s⟩
 rcases k_l1 with _ | k_l1
 cases H
 rw [leaf_Leaf_Scan.l1.eq_2] at H
 have hRL:=hRL.trans hl_656
 refine zq<|zr<|zl q (r_ibin q rfl rfl rfl) fun a q=>zn<|zq ?_
 refine wp_cond_split (q.ev rfl) (fun (hb_720 : (decide (x_654 < (y_564.length : Int))) = true)=>?_) fun hb_720=>?_
 rw [ifb_t hb_720] at H
 refine wp_skip<|zq ?_
 refine wp_block ?_
 refine zq<|zr ?_
 obtain ⟨y_721,h_722,H⟩:=bs H
 obtain ⟨b_724,c_725,cs_726,hv_723,hr_727,hc_728,h_7220,h_7221⟩:=s.row_ix (.tail _ (.tail _ z8)) (hq_571.mono hl_656.le) rfl rfl h_722
 obtain ⟨v_729,rfl,hs_730⟩:=hr_727
 refine zl q (r_indexAddr_R underlying87 sizeOf90 hv_723 h_7220 h_7221 q rfl rfl) fun a q=>zl q (r_loadA (cs:=[I6 y_721.Time,v_729]) isAgg90 sizeOf90 rfl q rfl (fun j v hv=>by have:=s.row_cell (.tail _ (.tail _ z8)) hv_723 (hc_728 j v hv); simpa [Nat.add_assoc] using this)) fun a q=>?_
 refine sl_alloc zeroValue90 s q (by decide) rfl rfl fun a w b_731 s q=>?_
 refine sl_storeA (vs:=[I6 y_721.Time,v_729]) (c':=[I6 y_721.Time,v_729]) sizeOf90 s q rfl rfl rfl rfl (zc (all_cons hs_730.one zz)) (Nat.le_of_ble_eq_true rfl) rfl fun a w s q=>?_
 refine zn ?_
 refine parT_region (C:=fun w=>St M w0 w R_655 [.cells b_731 [I6 y_721.Time,v_729] 90,.row 113 2 v0p1_0 a0.dict.l.length cs0p1_0,.mp mb0p1_1 (kvs Value.string (Value.int .i64) a0.dict.ids),.cells nb0_1 [I6 a0.dict.most,v0p1_0,.map (some mb0p1_1)] 102,mbo mb0_2 (kvs (Value.int .i64) id (mbp E_573)) 111 90 2 E_573,.cells b0 [v0_0,I6 a0.room,I6 a0.points,.pointer (some ⟨nb0_1,0,none⟩),.map (some mb0_2)] 70,.cells b_1 [.slice none 0 0,.slice none 0 0] 41,.row 65 2 v_21 y_16.length cs_22,.row 31 1 v_649 x_648.length cs_650,.cells b_25 [v_21,v_649] 41,.row 3 1 v_31 y_26.length cs_32,.row 90 2 v_569 y_564.length cs_570]) 12 [(0,true),(1,true),(2,true),(3,true),(4,true),(6,true),(7,true),(8,true),(5,false),(9,false),(10,false),(11,false)] mixed (by kernel_rfl) s (fun w s=>s) fun w s=>?_
 refine zp rfl q (fun w s=>r_fieldAddr underlying41 rfl sizeOf39 q rfl) fun a q=>zp rfl q (fun w s=>r_load isAgg39 q rfl (s.cell (.tail _ z8) rfl)) fun a q=>zp rfl q (fun w s=>r_fieldAddr underlying90 rfl sizeOf3 q rfl) fun a q=>zp rfl q (fun w s=>r_load isAgg3 q rfl (s.cell z0 rfl)) fun a q=>zp rfl q (fun w s=>r_buildC (ps:=[(0,I6 1),(1,I6 y_721.Time)]) (c:=[I6 1,I6 y_721.Time,.string (⟨#[]⟩ : ByteArray),I6 0,I6 0,I6 0,I6 0,I6 0,I6 0,I6 0,I6 0]) underlying58 zeroValue58 places58 q rfl (pc_cons rfl (pc_cons rfl pc_nil)) rfl rfl) fun a q=>zp rfl q (fun w s=>r_move q rfl) fun a q=>?_
 refine zp rfl q (fun w s=>r_fieldAddr underlying90 rfl sizeOf31 q rfl) fun a q=>zp rfl q (fun w s=>r_load isAgg31 q rfl (s.cell z0 rfl)) fun a q=>?_
 refine spw (k:=5) rfl rfl s ?_
 refine sl_buildSliceF (zc:=[I6 0,I6 0,.string (⟨#[]⟩ : ByteArray),I6 0,I6 0,I6 0,I6 0,I6 0,I6 0,I6 0,I6 0]) (ps:=[(0,.agg #[I6 1,I6 y_721.Time,.string (⟨#[]⟩ : ByteArray),I6 0,I6 0,I6 0,I6 0,I6 0,I6 0,I6 0,I6 0])]) (c:=[I6 1,I6 y_721.Time,.string (⟨#[]⟩ : ByteArray),I6 0,I6 0,I6 0,I6 0,I6 0,I6 0,I6 0,I6 0]) [[I6 1,I6 y_721.Time,.string (⟨#[]⟩ : ByteArray),I6 0,I6 0,I6 0,I6 0,I6 0,I6 0,I6 0,I6 0]] underlying31 sizeOf58 zeroValue58 rfl (pc_cons rfl pc_nil) rfl rfl (Nat.le_of_ble_eq_true rfl) rfl (zc zz) rfl s q (by decide) rfl fun a w b_756 s q=>?_
 refine parK_nil (s.pk12.pk12.pk12.pk12.pk12.pk12.pk12.pk12.pk12.pk12.pk12.pk12.trunc 12) ?_
 refine spw (k:=9) rfl rfl (s.pk12.pk12.pk12.pk12.pk12.pk12.pk12.pk12.pk12.pk12.pk12.pk12.trunc 12) ?_
 refine sl_buildSliceF (zc:=[.slice none 0 0]) (ps:=[(0,.slice (some ⟨b_756,0,none⟩) 1 1),(1,v_652),(2,v_729)]) (c:=[.slice (some ⟨b_756,0,none⟩) 1 1,v_652,v_729]) [[.slice (some ⟨b_756,0,none⟩) 1 1],[v_652],[v_729]] underlying39 sizeOf31 zeroValue31 rfl (pc_cons rfl (pc_cons (cells1 hs_653.one) (pc_cons (cells1 hs_730.one) pc_nil))) rfl rfl (Nat.le_of_ble_eq_true rfl) rfl (zc (zc (zc zz))) rfl s q (by decide) rfl fun a w b_757 s q=>?_
 refine parK_nil (s.pk13.pk13.pk13.pk13.pk13.pk13.pk13.pk13.pk13.pk13.pk13.pk13.trunc 12) ?_
 refine spw (k:=10) rfl rfl (s.pk13.pk13.pk13.pk13.pk13.pk13.pk13.pk13.pk13.pk13.pk13.pk13.trunc 12) ?_
 have s:=s.pk1
 obtain ⟨R_758,s,hl_760,hs_759⟩:=s.fz_lit (ty:=ty_api_Value) (xs:=[(⟨1,y_721.Time,(⟨#[]⟩ : ByteArray),(⟨0,0,0,0,0,0,0,0⟩ : Arr8)⟩ : api_Value)]) (Reps.cons (show Ty.rep ty_api_Value _ [I6 1,I6 y_721.Time,.string (⟨#[]⟩ : ByteArray),I6 0,I6 0,I6 0,I6 0,I6 0,I6 0,I6 0,I6 0] (⟨1,y_721.Time,(⟨#[]⟩ : ByteArray),(⟨0,0,0,0,0,0,0,0⟩ : Arr8)⟩ : api_Value) from rfl) (Reps.nil _ _)) rfl
 have hRL:=hRL.trans hl_760
 obtain ⟨y_761,h_762,H⟩:=bs H
 refine sl_call call34 q (by decide) rfl rfl rfl (slices_Concat_api_Value_api_Value.calls [[(⟨1,y_721.Time,(⟨#[]⟩ : ByteArray),(⟨0,0,0,0,0,0,0,0⟩ : Arr8)⟩ : api_Value)],y_548.2.1,y_721.Vals] (lentOf_sub [] _) s.sub (s.lend_lit0 (ty:=(tySl ty_api_Value)) (xs:=[[(⟨1,y_721.Time,(⟨#[]⟩ : ByteArray),(⟨0,0,0,0,0,0,0,0⟩ : Arr8)⟩ : api_Value)],y_548.2.1,y_721.Vals]) z0 (Reps.cons (show Ty.rep (tySl ty_api_Value) _ [(.slice (some ⟨b_756,0,none⟩) 1 1)] [(⟨1,y_721.Time,(⟨#[]⟩ : ByteArray),(⟨0,0,0,0,0,0,0,0⟩ : Arr8)⟩ : api_Value)] from ⟨_,rfl,hs_759⟩) (Reps.cons (show Ty.rep (tySl ty_api_Value) _ [v_652] y_548.2.1 from ⟨_,rfl,(hs_653.mono hl_760.le)⟩) (Reps.cons (show Ty.rep (tySl ty_api_Value) _ [v_729] y_721.Vals from ⟨_,rfl,(hs_730.mono hl_760.le)⟩) (Reps.nil _ _)))) rfl) h_762) fun a v_ w hv_ q=>?_
 obtain ⟨R_763,v_766,cs_767,hv_,hr_,hl_764,hq_768⟩:=hv_
 have hv_:=hv_.symm
 subst hv_
 obtain ⟨s,hl_764⟩:=s.sp0.back hr_ hl_764
 have s:=s.un1
 have hRL:=hRL.trans hl_764
 refine parK_nil ((s.pk13.pk13.pk13.pk13.pk13.pk13.pk13.pk13.pk13.pk13.pk13.pk13.trunc 12).lower (hl_760.le.trans hl_764.le)) ?_
 refine spw (k:=11) rfl rfl ((s.pk13.pk13.pk13.pk13.pk13.pk13.pk13.pk13.pk13.pk13.pk13.pk13.trunc 12).lower (hl_760.le.trans hl_764.le)) ?_
 have ho_769:=s.row_one z0
 refine sl_buildSliceF (zc:=[.slice none 0 0]) (ps:=[(0,v_766)]) (c:=[v_766]) [[v_766]] underlying39 sizeOf31 zeroValue31 rfl (pc_cons (cells1 ho_769) pc_nil) rfl rfl (Nat.le_of_ble_eq_true rfl) rfl (zc zz) rfl s q (by decide) rfl fun a w b_770 s q=>?_
 refine parK_nil ((s.pk14.pk14.pk14.pk14.pk14.pk14.pk14.pk14.pk14.pk14.pk14.pk14.trunc 12).lower (hl_760.le.trans hl_764.le)) ?_
 refine thenL_nil ?_
 have s:=s.pk11
 have s:=s.pk2
 obtain ⟨R_771,s,hl_773,hs_772⟩:=s.fz_row hq_768 rfl rfl
 have hRL:=hRL.trans hl_773
 obtain ⟨y_774,h_775,H⟩:=bs H
 refine sl_append_L (ty:=(tySl ty_api_Value)) (ys:=[y_761]) elT39 (by decide) rfl (hq_651.mono (hl_760.le.trans (hl_764.le.trans hl_773.le))) rfl (Reps.cons (show Ty.rep (tySl ty_api_Value) _ [v_766] y_761 from ⟨_,rfl,hs_772⟩) (Reps.nil _ _)) rfl h_775 s q (by decide) rfl rfl rfl fun a w v_776 cs_777 hq_778 s q=>?_
 refine zl q (r_fieldAddr underlying41 rfl sizeOf39 q rfl) fun a q=>?_
 have s:=s.pk10
 refine sl_store1 (c':=[v_21,v_776]) sizeOf39 s q rfl rfl rfl (s.row_one z1) (Nat.le_of_ble_eq_true rfl) rfl fun a w s q=>?_
 refine wpList_nil (NoP_nil ?_)
 refine zr<|zl q (r_ibin q rfl rfl rfl) fun a q=>zm q rfl fun a q=>zn ?_
 have s:=s.pk12
 have s:=s.pk12
 have s:=s.pk2
 have s:=s.pk3
 have s:=s.pk12
 have s:=s.pk12
 have s:=s.pk12
 have s:=s.pk12
 have s:=s.pk12
 have s:=s.pk12
 have s:=s.pk12
 exact ⟨_,Nat.lt_succ_self _,y_774,(IntKind.i64.wrap (x_654 + 1)),_,v_652,_,_,H,(hl_656.trans (hl_760.trans (hl_764.trans hl_773))),(hs_653.mono (hl_760.le.trans (hl_764.le.trans hl_773.le))),hq_778,q.sub (zc (zc (zc (zc (zc (zc (zc (zc (zc (zc (zc (zc zz)))))))))))),s.trunc 11⟩
 rw [ifb_f hb_720] at H
 refine wp_exit ?_
 refine zr<|zl q (r_ibin q rfl rfl rfl) fun a q=>zm q rfl fun a q=>zn ?_
 have s:=s.pk9
 have s:=s.pk9
 have s:=s.pk9
 have s:=s.pk9
 have s:=s.pk9
 have s:=s.pk9
 have s:=s.pk9
 have s:=s.pk9
 have s:=s.pk9
 have s:=s.pk9
 exact ⟨_,Nat.lt_succ_self _,x_648,(IntKind.i64.wrap (x_293 + 1)),_,_,_,_,H,(hl_295.trans (hl_551.trans (hl_567.trans hl_656))),hq_651,(hm_574.mono hl_656.le),q.sub (zc (zc (zc (zc (zc (zc (zc (zc zz)))))))),s.trunc 10⟩
 rw [ifb_f hb_539] at H
 refine wp_exit ?_
 refine zq<|zr<|zl q (r_loadA (cs:=[v_21,v_290]) isAgg41 sizeOf41 rfl q rfl (s.cells_of (m:=2) z8 rfl)) fun a q=>?_
 obtain ⟨y_780,h_781,H⟩:=bs H
 refine sl_call call35 q (by decide) rfl rfl rfl (table_Canon.calls (⟨y_16,x_289⟩ : api_Table) (lentOf_sub [] _) s.sub (s.lend_row0 z6 (hq_23.mono (hl_29.le.trans hl_295.le)) rfl rfl) (s.lend_row0 z7 hq_292 rfl rfl) h_781) fun a v_ w hv_ q=>?_
 obtain ⟨R_782,v_785,cs_786,v_789,cs_790,hv_,hr_,hl_783,hq_787,hq_791,hap_792⟩:=hv_
 have hv_:=hv_.symm
 subst hv_
 obtain ⟨s,hl_783⟩:=s.sp0.back hr_ hl_783
 have s:=s.un2
 have hRL:=hRL.trans hl_783
 have s:=s.pk7
 refine sl_storeA (vs:=[v_785,v_789]) (c':=[v_785,v_789]) sizeOf41 s q rfl rfl rfl rfl (all_cons (s.row_one z1) (all_cons (s.row_one z2) zz)) (Nat.le_of_ble_eq_true rfl) rfl fun a w s q=>?_
 refine za q rfl fun a q=>zn ?_
 obtain rfl:=Option.some.inj H
 refine wp_ret ?_
 repeat first | refine zt ?_ | refine zb ?_ | refine zo ?_
 exact ret_2 results12 q (rv_cell (c:=[v_785,v_789]) isAgg41 sizeOf41 s z0 rfl q rfl) (rv_tmp q rfl) ⟨_,rfl,_,_,_,_,_,_,_,_,_,_,_,_,rfl,(s.pk6.pk5.pk5.pk6.pk7.pk7.pk7.trunc 7),hRL,hq_787,hq_791,(h0_0.mono (hl_5.le.trans (hl_19.le.trans (hl_29.le.trans (hl_295.le.trans hl_783.le))))),(h0p1_0.mono (hl_5.le.trans (hl_19.le.trans (hl_29.le.trans (hl_295.le.trans hl_783.le))))),(hm_287.mono hl_783.le)⟩
theorem leaf_Leaf_Points.calls (a0 : leaf_Leaf) {w0 : World} {R : Hp} {M : List Own} {b0 : Nat} {v0_0 : Value} {nb0_1 : Nat} {v0p1_0 : Value} {cs0p1_0 : List Value} {mb0p1_1 : Nat} {mb0_2 : Nat} {E0_2 : List (MB Int)} (hS0 : St M w0 w0 R [.cells b0 [v0_0,I6 a0.room,I6 a0.points,.pointer (some ⟨nb0_1,0,none⟩),.map (some mb0_2)] 70,.cells nb0_1 [I6 a0.dict.most,v0p1_0,.map (some mb0p1_1)] 102,.row 113 2 v0p1_0 a0.dict.l.length cs0p1_0,.mp mb0p1_1 (kvs Value.string (Value.int .i64) a0.dict.ids),mbo mb0_2 (kvs (Value.int .i64) id (mbp E0_2)) 111 90 2 E0_2]) (h0_0 : SlR ty_api_Schema R v0_0 a0.schemas) (h0p1_0 : Reps ty_streams_stream R cs0p1_0 a0.dict.l) (h0_2 : MBel ty_api_Sample runs_Run.l R E0_2 a0.runs) {r : Int × leaf_Leaf} (H : leaf_Leaf_Points a0 = some r) : Calls prog 14 #[.pointer (some ⟨b0,0,none⟩)] w0 (Rets fun v w'=>∃ (R' : Hp) (u0 : Value) (B1 : Nat) (u2 : Value) (cu2 : List Value) (B3 : Nat) (B4 : Nat) (E4 : List (MB Int)),v = I6 r.1 ∧ St M w0 w' R' [.cells b0 [u0,I6 r.2.room,I6 r.2.points,.pointer (some ⟨B1,0,none⟩),.map (some B4)] 70,.cells B1 [I6 r.2.dict.most,u2,.map (some B3)] 102,.row 113 2 u2 r.2.dict.l.length cu2,.mp B3 (kvs Value.string (Value.int .i64) r.2.dict.ids),mbo B4 (kvs (Value.int .i64) id (mbp E4)) 111 90 2 E4] ∧ RLe M w0 R R' ∧ SlR ty_api_Schema R' u0 r.2.schemas ∧ Reps ty_streams_stream R' cu2 r.2.dict.l ∧ MBel ty_api_Sample runs_Run.l R' E4 r.2.runs):=by
 unfold leaf_Leaf_Points at H
 refine enter (args:=[.pointer (some ⟨b0,0,none⟩)]) func14 rfl ntmps14 rfl fun a q=>?_
 have s:=hS0
 have hRL:=RLe.refl (M:=M) w0 R
 refine zq<|zr<|za q rfl fun a q=>zn<|zq<|zr<|zm q rfl fun a q=>zl q (r_nilCheck q rfl) fun a q=>zl q (r_fieldAddr underlying70 rfl sizeOf3 q rfl) fun a q=>zl q (r_load isAgg3 q rfl (s.cell z0 rfl)) fun a q=>za q rfl fun a q=>zn ?_
 obtain rfl:=Option.some.inj H
 refine wp_ret ?_
 repeat first | refine zt ?_ | refine zb ?_ | refine zo ?_
 exact ret_1 results14 q (rv_tmp q rfl) ⟨_,rfl,_,_,_,_,_,_,_,_,rfl,s,hRL,h0_0,h0p1_0,h0_2⟩
theorem law08_shown.calls {w0 : World} {RA : Hp} (hRA : RA.sub w0) (hG : GF RA) {r : Bool} (H : law08_shown  = some r) : CallsV prog 7 #[] w0 (.bool r):=by
 unfold law08_shown at H
 refine enter (args:=[]) func7 rfl ntmps7 rfl fun a q=>?_
 have s:=St.init (R:=fun _=>none) (w:=w0) (fun _ _ h=>by cases h)
 have hRL:=RLe.refl (M:=[]) w0 (fun _=>none)
 refine zq<|zr<|za q rfl fun a q=>zn<|zq<|zr ?_
 obtain ⟨y_1,h_2,H⟩:=bs H
 refine sl_call call9 q (by decide) rfl rfl rfl (law08_load.calls s.sub h_2) fun a v_ w hv_ q=>?_
 obtain ⟨R_3,v_6,cs_7,hv_,hr_,hl_4,hq_8⟩:=hv_
 have hv_:=hv_.symm
 subst hv_
 obtain ⟨s,hl_4⟩:=s.sp0.back hr_ hl_4
 have s:=s.un1
 have hRL:=hRL.trans hl_4
 obtain ⟨R_9,s,hl_11,hs_10⟩:=s.fz_row hq_8 rfl rfl
 have hRL:=hRL.trans hl_11
 obtain ⟨y_12,h_13,H⟩:=bs H
 refine sl_call call8 q (by decide) rfl rfl rfl (leaf_New.calls y_1 2 (lentOf_sub [] _) s.sub hs_10 (GF.mono (s.raLe0 hRA nil_not) hG) h_13) fun a v_ w hv_ q=>?_
 rcases hv_ with ⟨h_29,R_31,hv_,hr_,hl_32⟩ | ⟨y_16,h_30,R_14,b_17,v_18,b_20,v_22,cs_23,mb_25,mb_26,E_27,hv_,hr_,hl_15,hs_19,hq_24,hm_28⟩
 rw [oel_none h_29] at H
 have hv_:=hv_.symm
 subst hv_
 obtain ⟨s,hl_32⟩:=s.sp0.back hr_ hl_32
 have s:=s.un0
 have hRL:=hRL.trans hl_32
 refine zm q rfl fun a q=>zl q (r_extract q rfl rfl) fun a q=>zl q (r_extract q rfl rfl) fun a q=>za q rfl fun a q=>za q rfl fun a q=>zn<|zq<|zr ?_
 obtain ⟨y_33,h_34,H⟩:=bs H
 refine sl_call call8 q (by decide) rfl rfl rfl (leaf_New.calls ([] : List api_Schema) 2 (lentOf_sub [] _) s.sub (SlR.nil ty_api_Schema _) (GF.mono (s.raLe0 hRA nil_not) hG) h_34) fun a v_ w hv_ q=>?_
 rcases hv_ with ⟨h_50,R_52,hv_,hr_,hl_53⟩ | ⟨y_37,h_51,R_35,b_38,v_39,b_41,v_43,cs_44,mb_46,mb_47,E_48,hv_,hr_,hl_36,hs_40,hq_45,hm_49⟩
 rw [oel_none h_50] at H
 have hv_:=hv_.symm
 subst hv_
 obtain ⟨s,hl_53⟩:=s.sp0.back hr_ hl_53
 have s:=s.un0
 have hRL:=hRL.trans hl_53
 refine zm q rfl fun a q=>zl q (r_extract q rfl rfl) fun a q=>zl q (r_extract q rfl rfl) fun a q=>za q rfl fun a q=>za q rfl fun a q=>zn<|zq<|zq<|zr<|zm q rfl fun a q=>zl q (r_pnn underlying24 q rfl rfl) fun a q=>zm q rfl fun a q=>zs q fun a q=>zs q fun a q=>zl q (r_pick q rfl rfl rfl) fun a q=>zm q rfl fun a q=>zs q fun a q=>zs q fun a q=>zl q (r_pick q rfl rfl rfl) fun a q=>zn ?_
 refine wp_cond_true (q.ev rfl) ?_
 refine zq<|zr<|za q rfl fun a q=>zn ?_
 obtain rfl:=Option.some.inj H
 refine wp_ret ?_
 repeat first | refine zt ?_ | refine zb ?_ | refine zo ?_
 exact ret_1 results7 q (rv_tmp q rfl) ⟨rfl,s.bel⟩
 rw [oel_some h_51] at H
 have hv_:=hv_.symm
 subst hv_
 obtain ⟨s,hl_36⟩:=s.sp0.back hr_ hl_36
 have s:=s.un5
 have hRL:=hRL.trans hl_36
 refine zm q rfl fun a q=>zl q (r_extract q rfl rfl) fun a q=>zl q (r_extract q rfl rfl) fun a q=>za q rfl fun a q=>za q rfl fun a q=>zn<|zq<|zq<|zr<|zm q rfl fun a q=>zl q (r_pnn underlying24 q rfl rfl) fun a q=>zm q rfl fun a q=>zs q fun a q=>zs q fun a q=>zl q (r_pick q rfl rfl rfl) fun a q=>zm q rfl fun a q=>zs q fun a q=>zs q fun a q=>zl q (r_pick q rfl rfl rfl) fun a q=>zn ?_
 refine wp_cond_true (q.ev rfl) ?_
 refine zq<|zr<|za q rfl fun a q=>zn ?_
 obtain rfl:=Option.some.inj H
 refine wp_ret ?_
 repeat first | refine zt ?_ | refine zb ?_ | refine zo ?_
 exact ret_1 results7 q (rv_tmp q rfl) ⟨rfl,s.bel⟩
 rw [oel_some h_30] at H
 have hv_:=hv_.symm
 subst hv_
 obtain ⟨s,hl_15⟩:=s.sp0.back hr_ hl_15
 have s:=s.un5
 have hRL:=hRL.trans hl_15
 refine zm q rfl fun a q=>zl q (r_extract q rfl rfl) fun a q=>zl q (r_extract q rfl rfl) fun a q=>za q rfl fun a q=>za q rfl fun a q=>zn<|zq<|zr ?_
 obtain ⟨y_54,h_55,H⟩:=bs H
 refine sl_call call8 q (by decide) rfl rfl rfl (leaf_New.calls ([] : List api_Schema) 2 (lentOf_sub [] _) s.sub (SlR.nil ty_api_Schema _) (GF.mono (s.raLe0 hRA nil_not) hG) h_55) fun a v_ w hv_ q=>?_
 rcases hv_ with ⟨h_71,R_73,hv_,hr_,hl_74⟩ | ⟨y_58,h_72,R_56,b_59,v_60,b_62,v_64,cs_65,mb_67,mb_68,E_69,hv_,hr_,hl_57,hs_61,hq_66,hm_70⟩
 rw [oel_none h_71] at H
 have hv_:=hv_.symm
 subst hv_
 obtain ⟨s,hl_74⟩:=s.sp0.back hr_ hl_74
 have s:=s.un0
 have hRL:=hRL.trans hl_74
 refine zm q rfl fun a q=>zl q (r_extract q rfl rfl) fun a q=>zl q (r_extract q rfl rfl) fun a q=>za q rfl fun a q=>za q rfl fun a q=>zn<|zq<|zq ?_
 refine wp_mid (fun a w=>∃ (x_76 : Bool),law08_shown.j0 y_16 x_76 = some r ∧ Kn 154 a [(1,.pointer (some ⟨b_17,0,none⟩)),(37,.bool x_76)] ∧ St [] w0 w R_73 [.row 113 2 v_22 y_16.dict.l.length cs_23,.mp mb_25 (kvs Value.string (Value.int .i64) y_16.dict.ids),.cells b_20 [I6 y_16.dict.most,v_22,.map (some mb_25)] 102,mbo mb_26 (kvs (Value.int .i64) id (mbp E_27)) 111 90 2 E_27,.cells b_17 [v_18,I6 y_16.room,I6 y_16.points,.pointer (some ⟨b_20,0,none⟩),.map (some mb_26)] 70]) ?_ ?_
 refine zr<|zm q rfl fun a q=>zl q (r_peq underlying24 q rfl rfl) fun a q=>zm q rfl fun a q=>zm q rfl fun a q=>zl q (r_ibin q rfl rfl rfl) fun a q=>zl q (r_pick q rfl rfl rfl) fun a q=>zm q rfl fun a q=>?_
 rcases or_b (y_12.2 != 0) with hb_78 | hb_78
 rw [ifb_t hb_78] at H
 refine zsw q (wft hb_78) fun a q=>zsw q (wft hb_78) fun a q=>zl q (r_pick_t hb_78 q rfl rfl) fun a q=>zn ?_
 have s:=s.pk4
 have s:=s.pk2
 have s:=s.pk4
 have s:=s.pk4
 exact ⟨true,H,q.sub (zc (zc zz)),s⟩
 rw [ifb_f hb_78] at H
 refine zw q (wff hb_78) (r_move q rfl) fun a q=>zw q (wff hb_78) (r_ibin q rfl rfl rfl) fun a q=>zl q (r_pick_f hb_78 q rfl rfl) fun a q=>zn ?_
 have s:=s.pk4
 have s:=s.pk2
 have s:=s.pk4
 have s:=s.pk4
 exact ⟨(y_54.2 != 50),H,q.sub (zc (zc zz)),s⟩
 rintro a w ⟨x_76,H,q,s⟩
 unfold law08_shown.j0 at H
 refine wp_cond_split (q.ev rfl) (fun (hb_79 : x_76 = true)=>?_) fun hb_79=>?_
 rw [ifb_t hb_79] at H
 refine zq<|zr<|za q rfl fun a q=>zn ?_
 obtain rfl:=Option.some.inj H
 refine wp_ret ?_
 repeat first | refine zt ?_ | refine zb ?_ | refine zo ?_
 exact ret_1 results7 q (rv_tmp q rfl) ⟨rfl,s.bel⟩
 rw [ifb_f hb_79] at H
 refine wp_skip<|zq<|zr<|zm q rfl fun a q=>?_
 obtain ⟨y_80,h_81,H⟩:=bs H
 refine sl_call call10 q (by decide) rfl rfl rfl (law08_point.calls (⟨#[97]⟩ : ByteArray) 5 7 s.sub h_81) fun a v_ w hv_ q=>?_
 obtain ⟨R_82,v_85,cs_86,v_89,cs_90,hv_,hr_,hl_83,hq_87,hq_91⟩:=hv_
 have hv_:=hv_.symm
 subst hv_
 obtain ⟨s,hl_83⟩:=s.sp0.back hr_ hl_83
 have s:=s.un2
 have hRL:=hRL.trans hl_83
 obtain ⟨y_92,h_93,H⟩:=bs H
 have s:=s.pk5
 have s:=s.pk4
 have s:=s.pk4
 have s:=s.pk5
 have s:=s.pk6
 have hS1:=s.sp5
 refine sl_call call11 q (by decide) rfl rfl rfl (leaf_Leaf_Write.calls y_16 y_80 (lentOf_sub _ _) lentOf_not hS1.lend (hs_19.mono (hl_74.le.trans hl_83.le)) (hq_24.mono (hl_74.le.trans hl_83.le)) (hm_28.mono (hl_74.le.trans hl_83.le)) (hS1.lend_row z0 hq_87 rfl rfl) (hS1.lend_row z1 hq_91 rfl rfl) (GF.mono (hS1.raLe hRA nil_not) hG) h_93) fun a v_ w hv_ q=>?_
 obtain ⟨R_94,v_96,b_98,v_100,cs_101,mb_103,mb_104,E_105,hv_,hr_,hl_95,hs_97,hq_102,hm_106⟩:=hv_
 have hv_:=hv_.symm
 subst hv_
 obtain ⟨s,hl_95⟩:=hS1.back hr_ hl_95
 have s:=s.un5
 have hRL:=hRL.trans hl_95
 refine zm q rfl fun a q=>zl q (r_extract q rfl rfl) fun a q=>zl q (r_extract q rfl rfl) fun a q=>za q rfl fun a q=>za q rfl fun a q=>zn<|zq<|zr<|zm q rfl fun a q=>?_
 obtain ⟨y_107,h_108,H⟩:=bs H
 refine sl_call call10 q (by decide) rfl rfl rfl (law08_point.calls (⟨#[97]⟩ : ByteArray) 5 8 s.sub h_108) fun a v_ w hv_ q=>?_
 obtain ⟨R_109,v_112,cs_113,v_116,cs_117,hv_,hr_,hl_110,hq_114,hq_118⟩:=hv_
 have hv_:=hv_.symm
 subst hv_
 obtain ⟨s,hl_110⟩:=s.sp0.back hr_ hl_110
 have s:=s.un2
 have hRL:=hRL.trans hl_110
 obtain ⟨y_119,h_120,H⟩:=bs H
 have s:=s.pk6
 have s:=s.pk6
 have s:=s.pk6
 have s:=s.pk6
 have s:=s.pk6
 have hS1:=s.sp5
 refine sl_call call11 q (by decide) rfl rfl rfl (leaf_Leaf_Write.calls y_92.2.2 y_107 (lentOf_sub _ _) lentOf_not hS1.lend (hs_97.mono hl_110.le) (hq_102.mono hl_110.le) (hm_106.mono hl_110.le) (hS1.lend_row z0 hq_114 rfl rfl) (hS1.lend_row z1 hq_118 rfl rfl) (GF.mono (hS1.raLe hRA nil_not) hG) h_120) fun a v_ w hv_ q=>?_
 obtain ⟨R_121,v_123,b_125,v_127,cs_128,mb_130,mb_131,E_132,hv_,hr_,hl_122,hs_124,hq_129,hm_133⟩:=hv_
 have hv_:=hv_.symm
 subst hv_
 obtain ⟨s,hl_122⟩:=hS1.back hr_ hl_122
 have s:=s.un5
 have hRL:=hRL.trans hl_122
 refine zm q rfl fun a q=>zl q (r_extract q rfl rfl) fun a q=>zl q (r_extract q rfl rfl) fun a q=>za q rfl fun a q=>za q rfl fun a q=>zn<|zq<|zr<|zm q rfl fun a q=>?_
 obtain ⟨y_134,h_135,H⟩:=bs H
 refine sl_call call10 q (by decide) rfl rfl rfl (law08_point.calls (⟨#[98]⟩ : ByteArray) 3 1 s.sub h_135) fun a v_ w hv_ q=>?_
 obtain ⟨R_136,v_139,cs_140,v_143,cs_144,hv_,hr_,hl_137,hq_141,hq_145⟩:=hv_
 have hv_:=hv_.symm
 subst hv_
 obtain ⟨s,hl_137⟩:=s.sp0.back hr_ hl_137
 have s:=s.un2
 have hRL:=hRL.trans hl_137
 obtain ⟨y_146,h_147,H⟩:=bs H
 have s:=s.pk6
 have s:=s.pk6
 have s:=s.pk6
 have s:=s.pk6
 have s:=s.pk6
 have hS1:=s.sp5
 refine sl_call call11 q (by decide) rfl rfl rfl (leaf_Leaf_Write.calls y_119.2.2 y_134 (lentOf_sub _ _) lentOf_not hS1.lend (hs_124.mono hl_137.le) (hq_129.mono hl_137.le) (hm_133.mono hl_137.le) (hS1.lend_row z0 hq_141 rfl rfl) (hS1.lend_row z1 hq_145 rfl rfl) (GF.mono (hS1.raLe hRA nil_not) hG) h_147) fun a v_ w hv_ q=>?_
 obtain ⟨R_148,v_150,b_152,v_154,cs_155,mb_157,mb_158,E_159,hv_,hr_,hl_149,hs_151,hq_156,hm_160⟩:=hv_
 have hv_:=hv_.symm
 subst hv_
 obtain ⟨s,hl_149⟩:=hS1.back hr_ hl_149
 have s:=s.un5
 have hRL:=hRL.trans hl_149
 refine zm q rfl fun a q=>zl q (r_extract q rfl rfl) fun a q=>zl q (r_extract q rfl rfl) fun a q=>za q rfl fun a q=>za q rfl fun a q=>zn<|zq<|zr<|zm q rfl fun a q=>?_
 obtain ⟨y_161,h_162,H⟩:=bs H
 refine sl_call call10 q (by decide) rfl rfl rfl (law08_point.calls (⟨#[99]⟩ : ByteArray) 1 1 s.sub h_162) fun a v_ w hv_ q=>?_
 obtain ⟨R_163,v_166,cs_167,v_170,cs_171,hv_,hr_,hl_164,hq_168,hq_172⟩:=hv_
 have hv_:=hv_.symm
 subst hv_
 obtain ⟨s,hl_164⟩:=s.sp0.back hr_ hl_164
 have s:=s.un2
 have hRL:=hRL.trans hl_164
 obtain ⟨y_173,h_174,H⟩:=bs H
 have s:=s.pk6
 have s:=s.pk6
 have s:=s.pk6
 have s:=s.pk6
 have s:=s.pk6
 have hS1:=s.sp5
 refine sl_call call11 q (by decide) rfl rfl rfl (leaf_Leaf_Write.calls y_146.2.2 y_161 (lentOf_sub _ _) lentOf_not hS1.lend (hs_151.mono hl_164.le) (hq_156.mono hl_164.le) (hm_160.mono hl_164.le) (hS1.lend_row z0 hq_168 rfl rfl) (hS1.lend_row z1 hq_172 rfl rfl) (GF.mono (hS1.raLe hRA nil_not) hG) h_174) fun a v_ w hv_ q=>?_
 obtain ⟨R_175,v_177,b_179,v_181,cs_182,mb_184,mb_185,E_186,hv_,hr_,hl_176,hs_178,hq_183,hm_187⟩:=hv_
 have hv_:=hv_.symm
 subst hv_
 obtain ⟨s,hl_176⟩:=hS1.back hr_ hl_176
 have s:=s.un5
 have hRL:=hRL.trans hl_176
 refine zm q rfl fun a q=>zl q (r_extract q rfl rfl) fun a q=>zl q (r_extract q rfl rfl) fun a q=>za q rfl fun a q=>za q rfl fun a q=>zn<|zq<|zr<|zm q rfl fun a q=>?_
 obtain ⟨y_188,h_189,H⟩:=bs H
 have s:=s.pk4
 have s:=s.pk4
 have s:=s.pk4
 have s:=s.pk4
 have s:=s.pk4
 have hS1:=s.sp5
 refine sl_call call12 q (by decide) rfl rfl rfl (leaf_Leaf_Scan.calls y_173.2.2 (⟨#[108,111,97,100]⟩ : ByteArray) 0 9 hS1.lend hs_178 hq_183 hm_187 h_189) fun a v_ w hv_ q=>?_
 obtain ⟨R_190,v_193,cs_194,v_197,cs_198,v_200,b_202,v_204,cs_205,mb_207,mb_208,E_209,hv_,hr_,hl_191,hq_195,hq_199,hs_201,hq_206,hm_210⟩:=hv_
 have hv_:=hv_.symm
 subst hv_
 obtain ⟨s,hl_191⟩:=hS1.back hr_ hl_191
 have s:=s.un7
 have hRL:=hRL.trans hl_191
 refine zm q rfl fun a q=>zl q (r_extract q rfl rfl) fun a q=>zl q (r_extract q rfl rfl) fun a q=>?_
 refine sl_alloc zeroValue41 s q (by decide) rfl rfl fun a w b_211 s q=>?_
 refine sl_storeA (vs:=[v_193,v_197]) (c':=[v_193,v_197]) sizeOf41 s q rfl rfl rfl rfl (all_cons (s.row_one z1) (all_cons (s.row_one z2) zz)) (Nat.le_of_ble_eq_true rfl) rfl fun a w s q=>?_
 refine za q rfl fun a q=>zn<|zq<|zr<|zm q rfl fun a q=>?_
 obtain ⟨y_212,h_213,H⟩:=bs H
 have s:=s.pk7
 have s:=s.pk7
 have s:=s.pk7
 have s:=s.pk7
 have s:=s.pk7
 have hS1:=s.sp5
 refine sl_call call12 q (by decide) rfl rfl rfl (leaf_Leaf_Scan.calls y_188.2.2 (⟨#[108,111,97,100]⟩ : ByteArray) 4 9 hS1.lend hs_201 hq_206 hm_210 h_213) fun a v_ w hv_ q=>?_
 obtain ⟨R_214,v_217,cs_218,v_221,cs_222,v_224,b_226,v_228,cs_229,mb_231,mb_232,E_233,hv_,hr_,hl_215,hq_219,hq_223,hs_225,hq_230,hm_234⟩:=hv_
 have hv_:=hv_.symm
 subst hv_
 obtain ⟨s,hl_215⟩:=hS1.back hr_ hl_215
 have s:=s.un7
 have hRL:=hRL.trans hl_215
 refine zm q rfl fun a q=>zl q (r_extract q rfl rfl) fun a q=>zl q (r_extract q rfl rfl) fun a q=>?_
 refine sl_alloc zeroValue41 s q (by decide) rfl rfl fun a w b_235 s q=>?_
 refine sl_storeA (vs:=[v_217,v_221]) (c':=[v_217,v_221]) sizeOf41 s q rfl rfl rfl rfl (all_cons (s.row_one z1) (all_cons (s.row_one z2) zz)) (Nat.le_of_ble_eq_true rfl) rfl fun a w s q=>?_
 refine za q rfl fun a q=>zn<|zq<|zr<|zm q rfl fun a q=>?_
 obtain ⟨y_236,h_237,H⟩:=bs H
 have s:=s.pk7
 have s:=s.pk7
 have s:=s.pk7
 have s:=s.pk7
 have s:=s.pk7
 have hS1:=s.sp5
 refine sl_call call12 q (by decide) rfl rfl rfl (leaf_Leaf_Scan.calls y_212.2.2 (⟨#[120]⟩ : ByteArray) 0 9 hS1.lend hs_225 hq_230 hm_234 h_237) fun a v_ w hv_ q=>?_
 obtain ⟨R_238,v_241,cs_242,v_245,cs_246,v_248,b_250,v_252,cs_253,mb_255,mb_256,E_257,hv_,hr_,hl_239,hq_243,hq_247,hs_249,hq_254,hm_258⟩:=hv_
 have hv_:=hv_.symm
 subst hv_
 obtain ⟨s,hl_239⟩:=hS1.back hr_ hl_239
 have s:=s.un7
 have hRL:=hRL.trans hl_239
 refine zm q rfl fun a q=>zl q (r_extract q rfl rfl) fun a q=>zl q (r_extract q rfl rfl) fun a q=>?_
 refine sl_alloc zeroValue41 s q (by decide) rfl rfl fun a w b_259 s q=>?_
 refine sl_storeA (vs:=[v_241,v_245]) (c':=[v_241,v_245]) sizeOf41 s q rfl rfl rfl rfl (all_cons (s.row_one z1) (all_cons (s.row_one z2) zz)) (Nat.le_of_ble_eq_true rfl) rfl fun a w s q=>?_
 refine za q rfl fun a q=>zn<|zq<|zr<|zm q rfl fun a q=>zm q rfl fun a q=>?_
 rcases or_b y_92.1 with hb_260 | hb_260
 rw [ifb_t hb_260] at H
 refine zw q (wtt hb_260) (r_move q rfl) fun a q=>zw q (wtt hb_260) (r_ibin q rfl rfl rfl) fun a q=>zl q (r_pick_t hb_260 q rfl rfl) fun a q=>zm q rfl fun a q=>?_
 rcases or_b (y_92.2.1 == 0) with hb_261 | hb_261
 rw [ifb_t hb_261] at H
 refine zw q (wtt hb_261) (r_move q rfl) fun a q=>zw q (wtt hb_261) (r_un q rfl (u_not _)) fun a q=>zl q (r_pick_t hb_261 q rfl rfl) fun a q=>zm q rfl fun a q=>?_
 rcases or_b (!y_119.1) with hb_262 | hb_262
 rw [ifb_t hb_262] at H
 refine zw q (wtt hb_262) (r_move q rfl) fun a q=>zw q (wtt hb_262) (r_ibin q rfl rfl rfl) fun a q=>zl q (r_pick_t hb_262 q rfl rfl) fun a q=>zm q rfl fun a q=>?_
 rcases or_b (y_119.2.1 == 0) with hb_263 | hb_263
 rw [ifb_t hb_263] at H
 refine zw q (wtt hb_263) (r_move q rfl) fun a q=>zl q (r_pick_t hb_263 q rfl rfl) fun a q=>zm q rfl fun a q=>?_
 rcases or_b y_146.1 with hb_264 | hb_264
 rw [ifb_t hb_264] at H
 refine zw q (wtt hb_264) (r_move q rfl) fun a q=>zw q (wtt hb_264) (r_ibin q rfl rfl rfl) fun a q=>zl q (r_pick_t hb_264 q rfl rfl) fun a q=>zm q rfl fun a q=>?_
 rcases or_b (y_146.2.1 == 0) with hb_265 | hb_265
 rw [ifb_t hb_265] at H
 refine zw q (wtt hb_265) (r_move q rfl) fun a q=>zw q (wtt hb_265) (r_un q rfl (u_not _)) fun a q=>zl q (r_pick_t hb_265 q rfl rfl) fun a q=>zm q rfl fun a q=>?_
 rcases or_b (!y_173.1) with hb_266 | hb_266
 rw [ifb_t hb_266] at H
 refine zw q (wtt hb_266) (r_move q rfl) fun a q=>zw q (wtt hb_266) (r_ibin q rfl rfl rfl) fun a q=>zl q (r_pick_t hb_266 q rfl rfl) fun a q=>zm q rfl fun a q=>?_
 rcases or_b (y_173.2.1 == 80) with hb_267 | hb_267
 rw [ifb_t hb_267] at H
 refine zw q (wtt hb_267) (r_move q rfl) fun a q=>zw q (wtt hb_267) (r_ibin q rfl rfl rfl) fun a q=>zl q (r_pick_t hb_267 q rfl rfl) fun a q=>zm q rfl fun a q=>?_
 rcases or_b (y_188.2.1 == 0) with hb_268 | hb_268
 rw [ifb_t hb_268] at H
 refine zw q (wtt hb_268) (r_fieldAddr underlying41 rfl sizeOf39 q rfl) fun a q=>zw q (wtt hb_268) (r_load isAgg39 q rfl (s.cell (.tail _ (.tail _ (.tail _ z8))) rfl)) fun a q=>zw q (wtt hb_268) (r_len_O underlying39 s (.tail _ (.tail _ (.tail _ (.tail _ (.tail _ z8))))) q rfl) fun a q=>zw q (wtt hb_268) (r_ibin q rfl rfl rfl) fun a q=>zl q (r_pick_t hb_268 q rfl rfl) fun a q=>zm q rfl fun a q=>?_
 rcases or_b ((y_188.1.Rows.length : Int) == 2) with hb_269 | hb_269
 rw [ifb_t hb_269] at H
 refine zw q (wtt hb_269) (r_fieldAddr underlying41 rfl sizeOf39 q rfl) fun a q=>zw q (wtt hb_269) (r_load isAgg39 q rfl (s.cell (.tail _ (.tail _ (.tail _ z8))) rfl)) fun a q=>?_
 obtain ⟨y_270,h_271,H⟩:=bs H
 obtain ⟨b_273,c_274,cs_275,hv_272,hr_276,hc_277,h_2710,h_2711⟩:=s.row_ix (.tail _ (.tail _ (.tail _ (.tail _ (.tail _ z8))))) (hq_199.mono (hl_215.le.trans hl_239.le)) rfl rfl h_271
 obtain ⟨v_278,rfl,hs_279⟩:=hr_276
 refine zw q (wtt hb_269) (r_indexAddr_R underlying39 sizeOf31 hv_272 h_2710 h_2711 q rfl rfl) fun a q=>zw q (wtt hb_269) (r_load isAgg31 q rfl (s.row_cell (.tail _ (.tail _ (.tail _ (.tail _ (.tail _ z8))))) hv_272 (hc_277 0 _ rfl))) fun a q=>?_
 obtain ⟨y_280,h_281,H⟩:=bs H
 obtain ⟨b_282,o_283,c_284,cs_285,hv_286,hr_287,hc_288,h_2810,h_2811⟩:=hs_279.ix h_281
 subst hr_287
 refine zw q (wtt hb_269) (r_indexAddr_R underlying31 sizeOf58 hv_286 h_2810 h_2811 q rfl rfl) fun a q=>zw q (wtt hb_269) (r_fieldAddr underlying58 rfl sizeOf3 q rfl) fun a q=>zw q (wtt hb_269) (r_load isAgg3 q rfl (s.sub.cell (hc_288 1 _ rfl))) fun a q=>zw q (wtt hb_269) (r_ibin q rfl rfl rfl) fun a q=>zl q (r_pick_t hb_269 q rfl rfl) fun a q=>zm q rfl fun a q=>?_
 rcases or_b (y_280.N == 3) with hb_289 | hb_289
 rw [ifb_t hb_289] at H
 refine zw q (wtt hb_289) (r_fieldAddr underlying41 rfl sizeOf39 q rfl) fun a q=>zw q (wtt hb_289) (r_load isAgg39 q rfl (s.cell (.tail _ (.tail _ (.tail _ z8))) rfl)) fun a q=>?_
 obtain ⟨y_290,h_291,H⟩:=bs H
 obtain ⟨b_293,c_294,cs_295,hv_292,hr_296,hc_297,h_2910,h_2911⟩:=s.row_ix (.tail _ (.tail _ (.tail _ (.tail _ (.tail _ z8))))) (hq_199.mono (hl_215.le.trans hl_239.le)) rfl rfl h_291
 obtain ⟨v_298,rfl,hs_299⟩:=hr_296
 refine zw q (wtt hb_289) (r_indexAddr_R underlying39 sizeOf31 hv_292 h_2910 h_2911 q rfl rfl) fun a q=>zw q (wtt hb_289) (r_load isAgg31 q rfl (s.row_cell (.tail _ (.tail _ (.tail _ (.tail _ (.tail _ z8))))) hv_292 (hc_297 0 _ rfl))) fun a q=>?_
 obtain ⟨y_300,h_301,H⟩:=bs H
 obtain ⟨b_302,o_303,c_304,cs_305,hv_306,hr_307,hc_308,h_3010,h_3011⟩:=hs_299.ix h_301
 subst hr_307
 refine zw q (wtt hb_289) (r_indexAddr_R underlying31 sizeOf58 hv_306 h_3010 h_3011 q rfl rfl) fun a q=>zw q (wtt hb_289) (r_fieldAddr underlying58 rfl sizeOf3 q rfl) fun a q=>zw q (wtt hb_289) (r_load isAgg3 q rfl (s.sub.cell (hc_308 1 _ rfl))) fun a q=>zw q (wtt hb_289) (r_ibin q rfl rfl rfl) fun a q=>zl q (r_pick_t hb_289 q rfl rfl) fun a q=>zm q rfl fun a q=>?_
 rcases or_b (y_300.N == 7) with hb_309 | hb_309
 rw [ifb_t hb_309] at H
 refine zw q (wtt hb_309) (r_move q rfl) fun a q=>zw q (wtt hb_309) (r_ibin q rfl rfl rfl) fun a q=>zl q (r_pick_t hb_309 q rfl rfl) fun a q=>zm q rfl fun a q=>?_
 rcases or_b (y_212.2.1 == 0) with hb_310 | hb_310
 rw [ifb_t hb_310] at H
 refine zw q (wtt hb_310) (r_fieldAddr underlying41 rfl sizeOf39 q rfl) fun a q=>zw q (wtt hb_310) (r_load isAgg39 q rfl (s.cell z8 rfl)) fun a q=>zw q (wtt hb_310) (r_len_O underlying39 s (.tail _ (.tail _ z8)) q rfl) fun a q=>zw q (wtt hb_310) (r_ibin q rfl rfl rfl) fun a q=>zl q (r_pick_t hb_310 q rfl rfl) fun a q=>zm q rfl fun a q=>?_
 rcases or_b ((y_212.1.Rows.length : Int) == 1) with hb_311 | hb_311
 rw [ifb_t hb_311] at H
 refine zw q (wtt hb_311) (r_move q rfl) fun a q=>zw q (wtt hb_311) (r_ibin q rfl rfl rfl) fun a q=>zl q (r_pick_t hb_311 q rfl rfl) fun a q=>zm q rfl fun a q=>?_
 rcases or_b (y_236.2.1 == 50) with hb_312 | hb_312
 rw [ifb_t hb_312] at H
 refine zw q (wtt hb_312) (r_move q rfl) fun a q=>?_
 obtain ⟨y_313,h_314,H⟩:=bs H
 have s:=s.pk7
 have s:=s.pk7
 have s:=s.pk7
 have s:=s.pk7
 have s:=s.pk7
 have hS1:=s.sp5
 refine sl_call call14 q (by decide) (wtt hb_312) rfl rfl (leaf_Leaf_Points.calls y_236.2.2 hS1.lend hs_249 hq_254 hm_258 h_314) fun a v_ w hv_ q=>?_
 obtain ⟨R_315,v_317,b_319,v_321,cs_322,mb_324,mb_325,E_326,hv_,hr_,hl_316,hs_318,hq_323,hm_327⟩:=hv_
 have hv_:=hv_.symm
 subst hv_
 obtain ⟨s,hl_316⟩:=hS1.back hr_ hl_316
 have s:=s.un5
 have hRL:=hRL.trans hl_316
 refine zw q (wtt hb_312) (r_ibin q rfl rfl rfl) fun a q=>zl q (r_pick_t hb_312 q rfl rfl) fun a q=>za q rfl fun a q=>zn ?_
 obtain rfl:=Option.some.inj H
 refine wp_ret ?_
 repeat first | refine zt ?_ | refine zb ?_ | refine zo ?_
 exact ret_1 results7 q (rv_tmp q rfl) ⟨rfl,s.bel⟩
 rw [ifb_f hb_312] at H
 refine zsw q (wtf hb_312) fun a q=>zsw q (wtf hb_312) fun a q=>zsw q (wtf hb_312) fun a q=>zl q (r_pick_f hb_312 q rfl rfl) fun a q=>za q rfl fun a q=>zn ?_
 obtain rfl:=Option.some.inj H
 refine wp_ret ?_
 repeat first | refine zt ?_ | refine zb ?_ | refine zo ?_
 exact ret_1 results7 q (rv_tmp q rfl) ⟨rfl,s.bel⟩
 rw [ifb_f hb_311] at H
 refine zsw q (wtf hb_311) fun a q=>zsw q (wtf hb_311) fun a q=>zl q (r_pick_f hb_311 q rfl rfl) fun a q=>zm q rfl fun a q=>zs q fun a q=>zs q fun a q=>zs q fun a q=>zl q (r_pick q rfl rfl rfl) fun a q=>za q rfl fun a q=>zn ?_
 obtain rfl:=Option.some.inj H
 refine wp_ret ?_
 repeat first | refine zt ?_ | refine zb ?_ | refine zo ?_
 exact ret_1 results7 q (rv_tmp q rfl) ⟨rfl,s.bel⟩
 rw [ifb_f hb_310] at H
 refine zsw q (wtf hb_310) fun a q=>zsw q (wtf hb_310) fun a q=>zsw q (wtf hb_310) fun a q=>zsw q (wtf hb_310) fun a q=>zl q (r_pick_f hb_310 q rfl rfl) fun a q=>zm q rfl fun a q=>zs q fun a q=>zs q fun a q=>zl q (r_pick q rfl rfl rfl) fun a q=>zm q rfl fun a q=>zs q fun a q=>zs q fun a q=>zs q fun a q=>zl q (r_pick q rfl rfl rfl) fun a q=>za q rfl fun a q=>zn ?_
 obtain rfl:=Option.some.inj H
 refine wp_ret ?_
 repeat first | refine zt ?_ | refine zb ?_ | refine zo ?_
 exact ret_1 results7 q (rv_tmp q rfl) ⟨rfl,s.bel⟩
 rw [ifb_f hb_309] at H
 refine zsw q (wtf hb_309) fun a q=>zsw q (wtf hb_309) fun a q=>zl q (r_pick_f hb_309 q rfl rfl) fun a q=>zm q rfl fun a q=>zs q fun a q=>zs q fun a q=>zs q fun a q=>zs q fun a q=>zl q (r_pick q rfl rfl rfl) fun a q=>zm q rfl fun a q=>zs q fun a q=>zs q fun a q=>zl q (r_pick q rfl rfl rfl) fun a q=>zm q rfl fun a q=>zs q fun a q=>zs q fun a q=>zs q fun a q=>zl q (r_pick q rfl rfl rfl) fun a q=>za q rfl fun a q=>zn ?_
 obtain rfl:=Option.some.inj H
 refine wp_ret ?_
 repeat first | refine zt ?_ | refine zb ?_ | refine zo ?_
 exact ret_1 results7 q (rv_tmp q rfl) ⟨rfl,s.bel⟩
 rw [ifb_f hb_289] at H
 refine zsw q (wtf hb_289) fun a q=>zsw q (wtf hb_289) fun a q=>zsw q (wtf hb_289) fun a q=>zsw q (wtf hb_289) fun a q=>zsw q (wtf hb_289) fun a q=>zsw q (wtf hb_289) fun a q=>zsw q (wtf hb_289) fun a q=>zsw q (wtf hb_289) fun a q=>zl q (r_pick_f hb_289 q rfl rfl) fun a q=>zm q rfl fun a q=>zs q fun a q=>zs q fun a q=>zl q (r_pick q rfl rfl rfl) fun a q=>zm q rfl fun a q=>zs q fun a q=>zs q fun a q=>zs q fun a q=>zs q fun a q=>zl q (r_pick q rfl rfl rfl) fun a q=>zm q rfl fun a q=>zs q fun a q=>zs q fun a q=>zl q (r_pick q rfl rfl rfl) fun a q=>zm q rfl fun a q=>zs q fun a q=>zs q fun a q=>zs q fun a q=>zl q (r_pick q rfl rfl rfl) fun a q=>za q rfl fun a q=>zn ?_
 obtain rfl:=Option.some.inj H
 refine wp_ret ?_
 repeat first | refine zt ?_ | refine zb ?_ | refine zo ?_
 exact ret_1 results7 q (rv_tmp q rfl) ⟨rfl,s.bel⟩
 rw [ifb_f hb_269] at H
 refine zsw q (wtf hb_269) fun a q=>zsw q (wtf hb_269) fun a q=>zsw q (wtf hb_269) fun a q=>zsw q (wtf hb_269) fun a q=>zsw q (wtf hb_269) fun a q=>zsw q (wtf hb_269) fun a q=>zsw q (wtf hb_269) fun a q=>zsw q (wtf hb_269) fun a q=>zl q (r_pick_f hb_269 q rfl rfl) fun a q=>zm q rfl fun a q=>zs q fun a q=>zs q fun a q=>zs q fun a q=>zs q fun a q=>zs q fun a q=>zs q fun a q=>zs q fun a q=>zs q fun a q=>zl q (r_pick q rfl rfl rfl) fun a q=>zm q rfl fun a q=>zs q fun a q=>zs q fun a q=>zl q (r_pick q rfl rfl rfl) fun a q=>zm q rfl fun a q=>zs q fun a q=>zs q fun a q=>zs q fun a q=>zs q fun a q=>zl q (r_pick q rfl rfl rfl) fun a q=>zm q rfl fun a q=>zs q fun a q=>zs q fun a q=>zl q (r_pick q rfl rfl rfl) fun a q=>zm q rfl fun a q=>?_
 refine zs q fun a q=>zs q fun a q=>zs q fun a q=>zl q (r_pick q rfl rfl rfl) fun a q=>za q rfl fun a q=>zn ?_
 obtain rfl:=Option.some.inj H
 refine wp_ret ?_
 repeat first | refine zt ?_ | refine zb ?_ | refine zo ?_
 exact ret_1 results7 q (rv_tmp q rfl) ⟨rfl,s.bel⟩
 rw [ifb_f hb_268] at H
 refine zsw q (wtf hb_268) fun a q=>zsw q (wtf hb_268) fun a q=>zsw q (wtf hb_268) fun a q=>zsw q (wtf hb_268) fun a q=>zl q (r_pick_f hb_268 q rfl rfl) fun a q=>zm q rfl fun a q=>zs q fun a q=>zs q fun a q=>zs q fun a q=>zs q fun a q=>zs q fun a q=>zs q fun a q=>zs q fun a q=>zs q fun a q=>zl q (r_pick q rfl rfl rfl) fun a q=>zm q rfl fun a q=>zs q fun a q=>zs q fun a q=>zs q fun a q=>zs q fun a q=>zs q fun a q=>zs q fun a q=>zs q fun a q=>zs q fun a q=>zl q (r_pick q rfl rfl rfl) fun a q=>zm q rfl fun a q=>zs q fun a q=>zs q fun a q=>zl q (r_pick q rfl rfl rfl) fun a q=>zm q rfl fun a q=>zs q fun a q=>zs q fun a q=>zs q fun a q=>zs q fun a q=>zl q (r_pick q rfl rfl rfl) fun a q=>zm q rfl fun a q=>zs q fun a q=>?_
 refine zs q fun a q=>zl q (r_pick q rfl rfl rfl) fun a q=>zm q rfl fun a q=>zs q fun a q=>zs q fun a q=>zs q fun a q=>zl q (r_pick q rfl rfl rfl) fun a q=>za q rfl fun a q=>zn ?_
 obtain rfl:=Option.some.inj H
 refine wp_ret ?_
 repeat first | refine zt ?_ | refine zb ?_ | refine zo ?_
 exact ret_1 results7 q (rv_tmp q rfl) ⟨rfl,s.bel⟩
 rw [ifb_f hb_267] at H
 refine zsw q (wtf hb_267) fun a q=>zsw q (wtf hb_267) fun a q=>zl q (r_pick_f hb_267 q rfl rfl) fun a q=>zm q rfl fun a q=>zs q fun a q=>zs q fun a q=>zs q fun a q=>zs q fun a q=>zl q (r_pick q rfl rfl rfl) fun a q=>zm q rfl fun a q=>zs q fun a q=>zs q fun a q=>zs q fun a q=>zs q fun a q=>zs q fun a q=>zs q fun a q=>zs q fun a q=>zs q fun a q=>zl q (r_pick q rfl rfl rfl) fun a q=>zm q rfl fun a q=>zs q fun a q=>zs q fun a q=>zs q fun a q=>zs q fun a q=>zs q fun a q=>zs q fun a q=>zs q fun a q=>zs q fun a q=>zl q (r_pick q rfl rfl rfl) fun a q=>zm q rfl fun a q=>zs q fun a q=>zs q fun a q=>zl q (r_pick q rfl rfl rfl) fun a q=>zm q rfl fun a q=>zs q fun a q=>zs q fun a q=>zs q fun a q=>zs q fun a q=>?_
 refine zl q (r_pick q rfl rfl rfl) fun a q=>zm q rfl fun a q=>zs q fun a q=>zs q fun a q=>zl q (r_pick q rfl rfl rfl) fun a q=>zm q rfl fun a q=>zs q fun a q=>zs q fun a q=>zs q fun a q=>zl q (r_pick q rfl rfl rfl) fun a q=>za q rfl fun a q=>zn ?_
 obtain rfl:=Option.some.inj H
 refine wp_ret ?_
 repeat first | refine zt ?_ | refine zb ?_ | refine zo ?_
 exact ret_1 results7 q (rv_tmp q rfl) ⟨rfl,s.bel⟩
 rw [ifb_f hb_266] at H
 refine zsw q (wtf hb_266) fun a q=>zsw q (wtf hb_266) fun a q=>zl q (r_pick_f hb_266 q rfl rfl) fun a q=>zm q rfl fun a q=>zs q fun a q=>zs q fun a q=>zl q (r_pick q rfl rfl rfl) fun a q=>zm q rfl fun a q=>zs q fun a q=>zs q fun a q=>zs q fun a q=>zs q fun a q=>zl q (r_pick q rfl rfl rfl) fun a q=>zm q rfl fun a q=>zs q fun a q=>zs q fun a q=>zs q fun a q=>zs q fun a q=>zs q fun a q=>zs q fun a q=>zs q fun a q=>zs q fun a q=>zl q (r_pick q rfl rfl rfl) fun a q=>zm q rfl fun a q=>zs q fun a q=>zs q fun a q=>zs q fun a q=>zs q fun a q=>zs q fun a q=>zs q fun a q=>zs q fun a q=>zs q fun a q=>zl q (r_pick q rfl rfl rfl) fun a q=>zm q rfl fun a q=>zs q fun a q=>zs q fun a q=>zl q (r_pick q rfl rfl rfl) fun a q=>?_
 refine zm q rfl fun a q=>zs q fun a q=>zs q fun a q=>zs q fun a q=>zs q fun a q=>zl q (r_pick q rfl rfl rfl) fun a q=>zm q rfl fun a q=>zs q fun a q=>zs q fun a q=>zl q (r_pick q rfl rfl rfl) fun a q=>zm q rfl fun a q=>zs q fun a q=>zs q fun a q=>zs q fun a q=>zl q (r_pick q rfl rfl rfl) fun a q=>za q rfl fun a q=>zn ?_
 obtain rfl:=Option.some.inj H
 refine wp_ret ?_
 repeat first | refine zt ?_ | refine zb ?_ | refine zo ?_
 exact ret_1 results7 q (rv_tmp q rfl) ⟨rfl,s.bel⟩
 rw [ifb_f hb_265] at H
 refine zsw q (wtf hb_265) fun a q=>zsw q (wtf hb_265) fun a q=>zl q (r_pick_f hb_265 q rfl rfl) fun a q=>zm q rfl fun a q=>zs q fun a q=>zs q fun a q=>zl q (r_pick q rfl rfl rfl) fun a q=>zm q rfl fun a q=>zs q fun a q=>zs q fun a q=>zl q (r_pick q rfl rfl rfl) fun a q=>zm q rfl fun a q=>zs q fun a q=>zs q fun a q=>zs q fun a q=>zs q fun a q=>zl q (r_pick q rfl rfl rfl) fun a q=>zm q rfl fun a q=>zs q fun a q=>zs q fun a q=>zs q fun a q=>zs q fun a q=>zs q fun a q=>zs q fun a q=>zs q fun a q=>zs q fun a q=>zl q (r_pick q rfl rfl rfl) fun a q=>zm q rfl fun a q=>zs q fun a q=>zs q fun a q=>zs q fun a q=>zs q fun a q=>zs q fun a q=>zs q fun a q=>zs q fun a q=>zs q fun a q=>zl q (r_pick q rfl rfl rfl) fun a q=>?_
 refine zm q rfl fun a q=>zs q fun a q=>zs q fun a q=>zl q (r_pick q rfl rfl rfl) fun a q=>zm q rfl fun a q=>zs q fun a q=>zs q fun a q=>zs q fun a q=>zs q fun a q=>zl q (r_pick q rfl rfl rfl) fun a q=>zm q rfl fun a q=>zs q fun a q=>zs q fun a q=>zl q (r_pick q rfl rfl rfl) fun a q=>zm q rfl fun a q=>zs q fun a q=>zs q fun a q=>zs q fun a q=>zl q (r_pick q rfl rfl rfl) fun a q=>za q rfl fun a q=>zn ?_
 obtain rfl:=Option.some.inj H
 refine wp_ret ?_
 repeat first | refine zt ?_ | refine zb ?_ | refine zo ?_
 exact ret_1 results7 q (rv_tmp q rfl) ⟨rfl,s.bel⟩
 rw [ifb_f hb_264] at H
 refine zsw q (wtf hb_264) fun a q=>zsw q (wtf hb_264) fun a q=>zl q (r_pick_f hb_264 q rfl rfl) fun a q=>zm q rfl fun a q=>zs q fun a q=>zs q fun a q=>zl q (r_pick q rfl rfl rfl) fun a q=>zm q rfl fun a q=>zs q fun a q=>zs q fun a q=>zl q (r_pick q rfl rfl rfl) fun a q=>zm q rfl fun a q=>zs q fun a q=>zs q fun a q=>zl q (r_pick q rfl rfl rfl) fun a q=>zm q rfl fun a q=>zs q fun a q=>zs q fun a q=>zs q fun a q=>zs q fun a q=>zl q (r_pick q rfl rfl rfl) fun a q=>zm q rfl fun a q=>zs q fun a q=>zs q fun a q=>zs q fun a q=>zs q fun a q=>zs q fun a q=>zs q fun a q=>zs q fun a q=>zs q fun a q=>zl q (r_pick q rfl rfl rfl) fun a q=>zm q rfl fun a q=>zs q fun a q=>zs q fun a q=>zs q fun a q=>zs q fun a q=>zs q fun a q=>?_
 refine zs q fun a q=>zs q fun a q=>zs q fun a q=>zl q (r_pick q rfl rfl rfl) fun a q=>zm q rfl fun a q=>zs q fun a q=>zs q fun a q=>zl q (r_pick q rfl rfl rfl) fun a q=>zm q rfl fun a q=>zs q fun a q=>zs q fun a q=>zs q fun a q=>zs q fun a q=>zl q (r_pick q rfl rfl rfl) fun a q=>zm q rfl fun a q=>zs q fun a q=>zs q fun a q=>zl q (r_pick q rfl rfl rfl) fun a q=>zm q rfl fun a q=>zs q fun a q=>zs q fun a q=>zs q fun a q=>zl q (r_pick q rfl rfl rfl) fun a q=>za q rfl fun a q=>zn ?_
 obtain rfl:=Option.some.inj H
 refine wp_ret ?_
 repeat first | refine zt ?_ | refine zb ?_ | refine zo ?_
 exact ret_1 results7 q (rv_tmp q rfl) ⟨rfl,s.bel⟩
 rw [ifb_f hb_263] at H
 refine zsw q (wtf hb_263) fun a q=>zl q (r_pick_f hb_263 q rfl rfl) fun a q=>zm q rfl fun a q=>zs q fun a q=>zs q fun a q=>zl q (r_pick q rfl rfl rfl) fun a q=>zm q rfl fun a q=>zs q fun a q=>zs q fun a q=>zl q (r_pick q rfl rfl rfl) fun a q=>zm q rfl fun a q=>zs q fun a q=>zs q fun a q=>zl q (r_pick q rfl rfl rfl) fun a q=>zm q rfl fun a q=>zs q fun a q=>zs q fun a q=>zl q (r_pick q rfl rfl rfl) fun a q=>zm q rfl fun a q=>zs q fun a q=>zs q fun a q=>zs q fun a q=>zs q fun a q=>zl q (r_pick q rfl rfl rfl) fun a q=>zm q rfl fun a q=>zs q fun a q=>zs q fun a q=>zs q fun a q=>zs q fun a q=>zs q fun a q=>zs q fun a q=>zs q fun a q=>zs q fun a q=>zl q (r_pick q rfl rfl rfl) fun a q=>zm q rfl fun a q=>zs q fun a q=>zs q fun a q=>?_
 refine zs q fun a q=>zs q fun a q=>zs q fun a q=>zs q fun a q=>zs q fun a q=>zs q fun a q=>zl q (r_pick q rfl rfl rfl) fun a q=>zm q rfl fun a q=>zs q fun a q=>zs q fun a q=>zl q (r_pick q rfl rfl rfl) fun a q=>zm q rfl fun a q=>zs q fun a q=>zs q fun a q=>zs q fun a q=>zs q fun a q=>zl q (r_pick q rfl rfl rfl) fun a q=>zm q rfl fun a q=>zs q fun a q=>zs q fun a q=>zl q (r_pick q rfl rfl rfl) fun a q=>zm q rfl fun a q=>zs q fun a q=>zs q fun a q=>zs q fun a q=>zl q (r_pick q rfl rfl rfl) fun a q=>za q rfl fun a q=>zn ?_
 obtain rfl:=Option.some.inj H
 refine wp_ret ?_
 repeat first | refine zt ?_ | refine zb ?_ | refine zo ?_
 exact ret_1 results7 q (rv_tmp q rfl) ⟨rfl,s.bel⟩
 rw [ifb_f hb_262] at H
 refine zsw q (wtf hb_262) fun a q=>zsw q (wtf hb_262) fun a q=>zl q (r_pick_f hb_262 q rfl rfl) fun a q=>zm q rfl fun a q=>zs q fun a q=>zl q (r_pick q rfl rfl rfl) fun a q=>zm q rfl fun a q=>zs q fun a q=>zs q fun a q=>zl q (r_pick q rfl rfl rfl) fun a q=>zm q rfl fun a q=>zs q fun a q=>zs q fun a q=>zl q (r_pick q rfl rfl rfl) fun a q=>zm q rfl fun a q=>zs q fun a q=>zs q fun a q=>zl q (r_pick q rfl rfl rfl) fun a q=>zm q rfl fun a q=>zs q fun a q=>zs q fun a q=>zl q (r_pick q rfl rfl rfl) fun a q=>zm q rfl fun a q=>zs q fun a q=>zs q fun a q=>zs q fun a q=>zs q fun a q=>zl q (r_pick q rfl rfl rfl) fun a q=>zm q rfl fun a q=>zs q fun a q=>zs q fun a q=>zs q fun a q=>zs q fun a q=>zs q fun a q=>zs q fun a q=>zs q fun a q=>?_
 refine zs q fun a q=>zl q (r_pick q rfl rfl rfl) fun a q=>zm q rfl fun a q=>zs q fun a q=>zs q fun a q=>zs q fun a q=>zs q fun a q=>zs q fun a q=>zs q fun a q=>zs q fun a q=>zs q fun a q=>zl q (r_pick q rfl rfl rfl) fun a q=>zm q rfl fun a q=>zs q fun a q=>zs q fun a q=>zl q (r_pick q rfl rfl rfl) fun a q=>zm q rfl fun a q=>zs q fun a q=>zs q fun a q=>zs q fun a q=>zs q fun a q=>zl q (r_pick q rfl rfl rfl) fun a q=>zm q rfl fun a q=>zs q fun a q=>zs q fun a q=>zl q (r_pick q rfl rfl rfl) fun a q=>zm q rfl fun a q=>zs q fun a q=>zs q fun a q=>zs q fun a q=>zl q (r_pick q rfl rfl rfl) fun a q=>za q rfl fun a q=>zn ?_
 obtain rfl:=Option.some.inj H
 refine wp_ret ?_
 repeat first | refine zt ?_ | refine zb ?_ | refine zo ?_
 exact ret_1 results7 q (rv_tmp q rfl) ⟨rfl,s.bel⟩
 rw [ifb_f hb_261] at H
 refine zsw q (wtf hb_261) fun a q=>zsw q (wtf hb_261) fun a q=>zl q (r_pick_f hb_261 q rfl rfl) fun a q=>zm q rfl fun a q=>zs q fun a q=>zs q fun a q=>zl q (r_pick q rfl rfl rfl) fun a q=>zm q rfl fun a q=>zs q fun a q=>zl q (r_pick q rfl rfl rfl) fun a q=>zm q rfl fun a q=>zs q fun a q=>zs q fun a q=>zl q (r_pick q rfl rfl rfl) fun a q=>zm q rfl fun a q=>zs q fun a q=>zs q fun a q=>zl q (r_pick q rfl rfl rfl) fun a q=>zm q rfl fun a q=>zs q fun a q=>zs q fun a q=>zl q (r_pick q rfl rfl rfl) fun a q=>zm q rfl fun a q=>zs q fun a q=>zs q fun a q=>zl q (r_pick q rfl rfl rfl) fun a q=>zm q rfl fun a q=>zs q fun a q=>zs q fun a q=>zs q fun a q=>zs q fun a q=>zl q (r_pick q rfl rfl rfl) fun a q=>zm q rfl fun a q=>zs q fun a q=>?_
 refine zs q fun a q=>zs q fun a q=>zs q fun a q=>zs q fun a q=>zs q fun a q=>zs q fun a q=>zs q fun a q=>zl q (r_pick q rfl rfl rfl) fun a q=>zm q rfl fun a q=>zs q fun a q=>zs q fun a q=>zs q fun a q=>zs q fun a q=>zs q fun a q=>zs q fun a q=>zs q fun a q=>zs q fun a q=>zl q (r_pick q rfl rfl rfl) fun a q=>zm q rfl fun a q=>zs q fun a q=>zs q fun a q=>zl q (r_pick q rfl rfl rfl) fun a q=>zm q rfl fun a q=>zs q fun a q=>zs q fun a q=>zs q fun a q=>zs q fun a q=>zl q (r_pick q rfl rfl rfl) fun a q=>zm q rfl fun a q=>zs q fun a q=>zs q fun a q=>zl q (r_pick q rfl rfl rfl) fun a q=>zm q rfl fun a q=>zs q fun a q=>zs q fun a q=>zs q fun a q=>zl q (r_pick q rfl rfl rfl) fun a q=>za q rfl fun a q=>zn ?_
 obtain rfl:=Option.some.inj H
 refine wp_ret ?_
 repeat first | refine zt ?_ | refine zb ?_ | refine zo ?_
 exact ret_1 results7 q (rv_tmp q rfl) ⟨rfl,s.bel⟩
 rw [ifb_f hb_260] at H
 refine zsw q (wtf hb_260) fun a q=>zsw q (wtf hb_260) fun a q=>zl q (r_pick_f hb_260 q rfl rfl) fun a q=>zm q rfl fun a q=>zs q fun a q=>zs q fun a q=>zl q (r_pick q rfl rfl rfl) fun a q=>zm q rfl fun a q=>zs q fun a q=>zs q fun a q=>zl q (r_pick q rfl rfl rfl) fun a q=>zm q rfl fun a q=>zs q fun a q=>zl q (r_pick q rfl rfl rfl) fun a q=>zm q rfl fun a q=>zs q fun a q=>zs q fun a q=>zl q (r_pick q rfl rfl rfl) fun a q=>zm q rfl fun a q=>zs q fun a q=>zs q fun a q=>zl q (r_pick q rfl rfl rfl) fun a q=>zm q rfl fun a q=>zs q fun a q=>zs q fun a q=>zl q (r_pick q rfl rfl rfl) fun a q=>zm q rfl fun a q=>zs q fun a q=>zs q fun a q=>zl q (r_pick q rfl rfl rfl) fun a q=>zm q rfl fun a q=>zs q fun a q=>zs q fun a q=>zs q fun a q=>?_
 refine zs q fun a q=>zl q (r_pick q rfl rfl rfl) fun a q=>zm q rfl fun a q=>zs q fun a q=>zs q fun a q=>zs q fun a q=>zs q fun a q=>zs q fun a q=>zs q fun a q=>zs q fun a q=>zs q fun a q=>zl q (r_pick q rfl rfl rfl) fun a q=>zm q rfl fun a q=>zs q fun a q=>zs q fun a q=>zs q fun a q=>zs q fun a q=>zs q fun a q=>zs q fun a q=>zs q fun a q=>zs q fun a q=>zl q (r_pick q rfl rfl rfl) fun a q=>zm q rfl fun a q=>zs q fun a q=>zs q fun a q=>zl q (r_pick q rfl rfl rfl) fun a q=>zm q rfl fun a q=>zs q fun a q=>zs q fun a q=>zs q fun a q=>zs q fun a q=>zl q (r_pick q rfl rfl rfl) fun a q=>zm q rfl fun a q=>zs q fun a q=>zs q fun a q=>zl q (r_pick q rfl rfl rfl) fun a q=>zm q rfl fun a q=>zs q fun a q=>zs q fun a q=>?_
 refine zs q fun a q=>zl q (r_pick q rfl rfl rfl) fun a q=>za q rfl fun a q=>zn ?_
 obtain rfl:=Option.some.inj H
 refine wp_ret ?_
 repeat first | refine zt ?_ | refine zb ?_ | refine zo ?_
 exact ret_1 results7 q (rv_tmp q rfl) ⟨rfl,s.bel⟩
 rw [oel_some h_72] at H
 have hv_:=hv_.symm
 subst hv_
 obtain ⟨s,hl_57⟩:=s.sp0.back hr_ hl_57
 have s:=s.un5
 have hRL:=hRL.trans hl_57
 refine zm q rfl fun a q=>zl q (r_extract q rfl rfl) fun a q=>zl q (r_extract q rfl rfl) fun a q=>za q rfl fun a q=>za q rfl fun a q=>zn<|zq<|zq ?_
 refine wp_mid (fun a w=>∃ (x_329 : Bool),law08_shown.j1 y_16 x_329 = some r ∧ Kn 154 a [(1,.pointer (some ⟨b_17,0,none⟩)),(37,.bool x_329)] ∧ St [] w0 w R_56 [.row 113 2 v_22 y_16.dict.l.length cs_23,.mp mb_25 (kvs Value.string (Value.int .i64) y_16.dict.ids),.cells b_20 [I6 y_16.dict.most,v_22,.map (some mb_25)] 102,mbo mb_26 (kvs (Value.int .i64) id (mbp E_27)) 111 90 2 E_27,.cells b_17 [v_18,I6 y_16.room,I6 y_16.points,.pointer (some ⟨b_20,0,none⟩),.map (some mb_26)] 70]) ?_ ?_
 refine zr<|zm q rfl fun a q=>zl q (r_peq underlying24 q rfl rfl) fun a q=>zm q rfl fun a q=>zm q rfl fun a q=>zl q (r_ibin q rfl rfl rfl) fun a q=>zl q (r_pick q rfl rfl rfl) fun a q=>zm q rfl fun a q=>?_
 rcases or_b (y_12.2 != 0) with hb_331 | hb_331
 rw [ifb_t hb_331] at H
 refine zsw q (wft hb_331) fun a q=>zsw q (wft hb_331) fun a q=>zl q (r_pick_t hb_331 q rfl rfl) fun a q=>zn ?_
 have s:=s.pk5
 have s:=s.pk9
 have s:=s.pk7
 have s:=s.pk9
 have s:=s.pk9
 exact ⟨true,H,q.sub (zc (zc zz)),s.trunc 5⟩
 rw [ifb_f hb_331] at H
 refine zw q (wff hb_331) (r_move q rfl) fun a q=>zw q (wff hb_331) (r_ibin q rfl rfl rfl) fun a q=>zl q (r_pick_f hb_331 q rfl rfl) fun a q=>zn ?_
 have s:=s.pk5
 have s:=s.pk9
 have s:=s.pk7
 have s:=s.pk9
 have s:=s.pk9
 exact ⟨(y_54.2 != 50),H,q.sub (zc (zc zz)),s.trunc 5⟩
 rintro a w ⟨x_329,H,q,s⟩
 unfold law08_shown.j1 at H
 refine wp_cond_split (q.ev rfl) (fun (hb_332 : x_329 = true)=>?_) fun hb_332=>?_
 rw [ifb_t hb_332] at H
 refine zq<|zr<|za q rfl fun a q=>zn ?_
 obtain rfl:=Option.some.inj H
 refine wp_ret ?_
 repeat first | refine zt ?_ | refine zb ?_ | refine zo ?_
 exact ret_1 results7 q (rv_tmp q rfl) ⟨rfl,s.bel⟩
 rw [ifb_f hb_332] at H
 refine wp_skip<|zq<|zr<|zm q rfl fun a q=>?_
 obtain ⟨y_333,h_334,H⟩:=bs H
 refine sl_call call10 q (by decide) rfl rfl rfl (law08_point.calls (⟨#[97]⟩ : ByteArray) 5 7 s.sub h_334) fun a v_ w hv_ q=>?_
 obtain ⟨R_335,v_338,cs_339,v_342,cs_343,hv_,hr_,hl_336,hq_340,hq_344⟩:=hv_
 have hv_:=hv_.symm
 subst hv_
 obtain ⟨s,hl_336⟩:=s.sp0.back hr_ hl_336
 have s:=s.un2
 have hRL:=hRL.trans hl_336
 obtain ⟨y_345,h_346,H⟩:=bs H
 have s:=s.pk5
 have s:=s.pk4
 have s:=s.pk4
 have s:=s.pk5
 have s:=s.pk6
 have hS1:=s.sp5
 refine sl_call call11 q (by decide) rfl rfl rfl (leaf_Leaf_Write.calls y_16 y_333 (lentOf_sub _ _) lentOf_not hS1.lend (hs_19.mono (hl_57.le.trans hl_336.le)) (hq_24.mono (hl_57.le.trans hl_336.le)) (hm_28.mono (hl_57.le.trans hl_336.le)) (hS1.lend_row z0 hq_340 rfl rfl) (hS1.lend_row z1 hq_344 rfl rfl) (GF.mono (hS1.raLe hRA nil_not) hG) h_346) fun a v_ w hv_ q=>?_
 obtain ⟨R_347,v_349,b_351,v_353,cs_354,mb_356,mb_357,E_358,hv_,hr_,hl_348,hs_350,hq_355,hm_359⟩:=hv_
 have hv_:=hv_.symm
 subst hv_
 obtain ⟨s,hl_348⟩:=hS1.back hr_ hl_348
 have s:=s.un5
 have hRL:=hRL.trans hl_348
 refine zm q rfl fun a q=>zl q (r_extract q rfl rfl) fun a q=>zl q (r_extract q rfl rfl) fun a q=>za q rfl fun a q=>za q rfl fun a q=>zn<|zq<|zr<|zm q rfl fun a q=>?_
 obtain ⟨y_360,h_361,H⟩:=bs H
 refine sl_call call10 q (by decide) rfl rfl rfl (law08_point.calls (⟨#[97]⟩ : ByteArray) 5 8 s.sub h_361) fun a v_ w hv_ q=>?_
 obtain ⟨R_362,v_365,cs_366,v_369,cs_370,hv_,hr_,hl_363,hq_367,hq_371⟩:=hv_
 have hv_:=hv_.symm
 subst hv_
 obtain ⟨s,hl_363⟩:=s.sp0.back hr_ hl_363
 have s:=s.un2
 have hRL:=hRL.trans hl_363
 obtain ⟨y_372,h_373,H⟩:=bs H
 have s:=s.pk6
 have s:=s.pk6
 have s:=s.pk6
 have s:=s.pk6
 have s:=s.pk6
 have hS1:=s.sp5
 refine sl_call call11 q (by decide) rfl rfl rfl (leaf_Leaf_Write.calls y_345.2.2 y_360 (lentOf_sub _ _) lentOf_not hS1.lend (hs_350.mono hl_363.le) (hq_355.mono hl_363.le) (hm_359.mono hl_363.le) (hS1.lend_row z0 hq_367 rfl rfl) (hS1.lend_row z1 hq_371 rfl rfl) (GF.mono (hS1.raLe hRA nil_not) hG) h_373) fun a v_ w hv_ q=>?_
 obtain ⟨R_374,v_376,b_378,v_380,cs_381,mb_383,mb_384,E_385,hv_,hr_,hl_375,hs_377,hq_382,hm_386⟩:=hv_
 have hv_:=hv_.symm
 subst hv_
 obtain ⟨s,hl_375⟩:=hS1.back hr_ hl_375
 have s:=s.un5
 have hRL:=hRL.trans hl_375
 refine zm q rfl fun a q=>zl q (r_extract q rfl rfl) fun a q=>zl q (r_extract q rfl rfl) fun a q=>za q rfl fun a q=>za q rfl fun a q=>zn<|zq<|zr<|zm q rfl fun a q=>?_
 obtain ⟨y_387,h_388,H⟩:=bs H
 refine sl_call call10 q (by decide) rfl rfl rfl (law08_point.calls (⟨#[98]⟩ : ByteArray) 3 1 s.sub h_388) fun a v_ w hv_ q=>?_
 obtain ⟨R_389,v_392,cs_393,v_396,cs_397,hv_,hr_,hl_390,hq_394,hq_398⟩:=hv_
 have hv_:=hv_.symm
 subst hv_
 obtain ⟨s,hl_390⟩:=s.sp0.back hr_ hl_390
 have s:=s.un2
 have hRL:=hRL.trans hl_390
 obtain ⟨y_399,h_400,H⟩:=bs H
 have s:=s.pk6
 have s:=s.pk6
 have s:=s.pk6
 have s:=s.pk6
 have s:=s.pk6
 have hS1:=s.sp5
 refine sl_call call11 q (by decide) rfl rfl rfl (leaf_Leaf_Write.calls y_372.2.2 y_387 (lentOf_sub _ _) lentOf_not hS1.lend (hs_377.mono hl_390.le) (hq_382.mono hl_390.le) (hm_386.mono hl_390.le) (hS1.lend_row z0 hq_394 rfl rfl) (hS1.lend_row z1 hq_398 rfl rfl) (GF.mono (hS1.raLe hRA nil_not) hG) h_400) fun a v_ w hv_ q=>?_
 obtain ⟨R_401,v_403,b_405,v_407,cs_408,mb_410,mb_411,E_412,hv_,hr_,hl_402,hs_404,hq_409,hm_413⟩:=hv_
 have hv_:=hv_.symm
 subst hv_
 obtain ⟨s,hl_402⟩:=hS1.back hr_ hl_402
 have s:=s.un5
 have hRL:=hRL.trans hl_402
 refine zm q rfl fun a q=>zl q (r_extract q rfl rfl) fun a q=>zl q (r_extract q rfl rfl) fun a q=>za q rfl fun a q=>za q rfl fun a q=>zn<|zq<|zr<|zm q rfl fun a q=>?_
 obtain ⟨y_414,h_415,H⟩:=bs H
 refine sl_call call10 q (by decide) rfl rfl rfl (law08_point.calls (⟨#[99]⟩ : ByteArray) 1 1 s.sub h_415) fun a v_ w hv_ q=>?_
 obtain ⟨R_416,v_419,cs_420,v_423,cs_424,hv_,hr_,hl_417,hq_421,hq_425⟩:=hv_
 have hv_:=hv_.symm
 subst hv_
 obtain ⟨s,hl_417⟩:=s.sp0.back hr_ hl_417
 have s:=s.un2
 have hRL:=hRL.trans hl_417
 obtain ⟨y_426,h_427,H⟩:=bs H
 have s:=s.pk6
 have s:=s.pk6
 have s:=s.pk6
 have s:=s.pk6
 have s:=s.pk6
 have hS1:=s.sp5
 refine sl_call call11 q (by decide) rfl rfl rfl (leaf_Leaf_Write.calls y_399.2.2 y_414 (lentOf_sub _ _) lentOf_not hS1.lend (hs_404.mono hl_417.le) (hq_409.mono hl_417.le) (hm_413.mono hl_417.le) (hS1.lend_row z0 hq_421 rfl rfl) (hS1.lend_row z1 hq_425 rfl rfl) (GF.mono (hS1.raLe hRA nil_not) hG) h_427) fun a v_ w hv_ q=>?_
 obtain ⟨R_428,v_430,b_432,v_434,cs_435,mb_437,mb_438,E_439,hv_,hr_,hl_429,hs_431,hq_436,hm_440⟩:=hv_
 have hv_:=hv_.symm
 subst hv_
 obtain ⟨s,hl_429⟩:=hS1.back hr_ hl_429
 have s:=s.un5
 have hRL:=hRL.trans hl_429
 refine zm q rfl fun a q=>zl q (r_extract q rfl rfl) fun a q=>zl q (r_extract q rfl rfl) fun a q=>za q rfl fun a q=>za q rfl fun a q=>zn<|zq<|zr<|zm q rfl fun a q=>?_
 obtain ⟨y_441,h_442,H⟩:=bs H
 have s:=s.pk4
 have s:=s.pk4
 have s:=s.pk4
 have s:=s.pk4
 have s:=s.pk4
 have hS1:=s.sp5
 refine sl_call call12 q (by decide) rfl rfl rfl (leaf_Leaf_Scan.calls y_426.2.2 (⟨#[108,111,97,100]⟩ : ByteArray) 0 9 hS1.lend hs_431 hq_436 hm_440 h_442) fun a v_ w hv_ q=>?_
 obtain ⟨R_443,v_446,cs_447,v_450,cs_451,v_453,b_455,v_457,cs_458,mb_460,mb_461,E_462,hv_,hr_,hl_444,hq_448,hq_452,hs_454,hq_459,hm_463⟩:=hv_
 have hv_:=hv_.symm
 subst hv_
 obtain ⟨s,hl_444⟩:=hS1.back hr_ hl_444
 have s:=s.un7
 have hRL:=hRL.trans hl_444
 refine zm q rfl fun a q=>zl q (r_extract q rfl rfl) fun a q=>zl q (r_extract q rfl rfl) fun a q=>?_
 refine sl_alloc zeroValue41 s q (by decide) rfl rfl fun a w b_464 s q=>?_
 refine sl_storeA (vs:=[v_446,v_450]) (c':=[v_446,v_450]) sizeOf41 s q rfl rfl rfl rfl (all_cons (s.row_one z1) (all_cons (s.row_one z2) zz)) (Nat.le_of_ble_eq_true rfl) rfl fun a w s q=>?_
 refine za q rfl fun a q=>zn<|zq<|zr<|zm q rfl fun a q=>?_
 obtain ⟨y_465,h_466,H⟩:=bs H
 have s:=s.pk7
 have s:=s.pk7
 have s:=s.pk7
 have s:=s.pk7
 have s:=s.pk7
 have hS1:=s.sp5
 refine sl_call call12 q (by decide) rfl rfl rfl (leaf_Leaf_Scan.calls y_441.2.2 (⟨#[108,111,97,100]⟩ : ByteArray) 4 9 hS1.lend hs_454 hq_459 hm_463 h_466) fun a v_ w hv_ q=>?_
 obtain ⟨R_467,v_470,cs_471,v_474,cs_475,v_477,b_479,v_481,cs_482,mb_484,mb_485,E_486,hv_,hr_,hl_468,hq_472,hq_476,hs_478,hq_483,hm_487⟩:=hv_
 have hv_:=hv_.symm
 subst hv_
 obtain ⟨s,hl_468⟩:=hS1.back hr_ hl_468
 have s:=s.un7
 have hRL:=hRL.trans hl_468
 refine zm q rfl fun a q=>zl q (r_extract q rfl rfl) fun a q=>zl q (r_extract q rfl rfl) fun a q=>?_
 refine sl_alloc zeroValue41 s q (by decide) rfl rfl fun a w b_488 s q=>?_
 refine sl_storeA (vs:=[v_470,v_474]) (c':=[v_470,v_474]) sizeOf41 s q rfl rfl rfl rfl (all_cons (s.row_one z1) (all_cons (s.row_one z2) zz)) (Nat.le_of_ble_eq_true rfl) rfl fun a w s q=>?_
 refine za q rfl fun a q=>zn<|zq<|zr<|zm q rfl fun a q=>?_
 obtain ⟨y_489,h_490,H⟩:=bs H
 have s:=s.pk7
 have s:=s.pk7
 have s:=s.pk7
 have s:=s.pk7
 have s:=s.pk7
 have hS1:=s.sp5
 refine sl_call call12 q (by decide) rfl rfl rfl (leaf_Leaf_Scan.calls y_465.2.2 (⟨#[120]⟩ : ByteArray) 0 9 hS1.lend hs_478 hq_483 hm_487 h_490) fun a v_ w hv_ q=>?_
 obtain ⟨R_491,v_494,cs_495,v_498,cs_499,v_501,b_503,v_505,cs_506,mb_508,mb_509,E_510,hv_,hr_,hl_492,hq_496,hq_500,hs_502,hq_507,hm_511⟩:=hv_
 have hv_:=hv_.symm
 subst hv_
 obtain ⟨s,hl_492⟩:=hS1.back hr_ hl_492
 have s:=s.un7
 have hRL:=hRL.trans hl_492
 refine zm q rfl fun a q=>zl q (r_extract q rfl rfl) fun a q=>zl q (r_extract q rfl rfl) fun a q=>?_
 refine sl_alloc zeroValue41 s q (by decide) rfl rfl fun a w b_512 s q=>?_
 refine sl_storeA (vs:=[v_494,v_498]) (c':=[v_494,v_498]) sizeOf41 s q rfl rfl rfl rfl (all_cons (s.row_one z1) (all_cons (s.row_one z2) zz)) (Nat.le_of_ble_eq_true rfl) rfl fun a w s q=>?_
 refine za q rfl fun a q=>zn<|zq<|zr<|zm q rfl fun a q=>zm q rfl fun a q=>?_
 rcases or_b y_345.1 with hb_513 | hb_513
 rw [ifb_t hb_513] at H
 refine zw q (wtt hb_513) (r_move q rfl) fun a q=>zw q (wtt hb_513) (r_ibin q rfl rfl rfl) fun a q=>zl q (r_pick_t hb_513 q rfl rfl) fun a q=>zm q rfl fun a q=>?_
 rcases or_b (y_345.2.1 == 0) with hb_514 | hb_514
 rw [ifb_t hb_514] at H
 refine zw q (wtt hb_514) (r_move q rfl) fun a q=>zw q (wtt hb_514) (r_un q rfl (u_not _)) fun a q=>zl q (r_pick_t hb_514 q rfl rfl) fun a q=>zm q rfl fun a q=>?_
 rcases or_b (!y_372.1) with hb_515 | hb_515
 rw [ifb_t hb_515] at H
 refine zw q (wtt hb_515) (r_move q rfl) fun a q=>zw q (wtt hb_515) (r_ibin q rfl rfl rfl) fun a q=>zl q (r_pick_t hb_515 q rfl rfl) fun a q=>zm q rfl fun a q=>?_
 rcases or_b (y_372.2.1 == 0) with hb_516 | hb_516
 rw [ifb_t hb_516] at H
 refine zw q (wtt hb_516) (r_move q rfl) fun a q=>zl q (r_pick_t hb_516 q rfl rfl) fun a q=>zm q rfl fun a q=>?_
 rcases or_b y_399.1 with hb_517 | hb_517
 rw [ifb_t hb_517] at H
 refine zw q (wtt hb_517) (r_move q rfl) fun a q=>zw q (wtt hb_517) (r_ibin q rfl rfl rfl) fun a q=>zl q (r_pick_t hb_517 q rfl rfl) fun a q=>zm q rfl fun a q=>?_
 rcases or_b (y_399.2.1 == 0) with hb_518 | hb_518
 rw [ifb_t hb_518] at H
 refine zw q (wtt hb_518) (r_move q rfl) fun a q=>zw q (wtt hb_518) (r_un q rfl (u_not _)) fun a q=>zl q (r_pick_t hb_518 q rfl rfl) fun a q=>zm q rfl fun a q=>?_
 rcases or_b (!y_426.1) with hb_519 | hb_519
 rw [ifb_t hb_519] at H
 refine zw q (wtt hb_519) (r_move q rfl) fun a q=>zw q (wtt hb_519) (r_ibin q rfl rfl rfl) fun a q=>zl q (r_pick_t hb_519 q rfl rfl) fun a q=>zm q rfl fun a q=>?_
 rcases or_b (y_426.2.1 == 80) with hb_520 | hb_520
 rw [ifb_t hb_520] at H
 refine zw q (wtt hb_520) (r_move q rfl) fun a q=>zw q (wtt hb_520) (r_ibin q rfl rfl rfl) fun a q=>zl q (r_pick_t hb_520 q rfl rfl) fun a q=>zm q rfl fun a q=>?_
 rcases or_b (y_441.2.1 == 0) with hb_521 | hb_521
 rw [ifb_t hb_521] at H
 refine zw q (wtt hb_521) (r_fieldAddr underlying41 rfl sizeOf39 q rfl) fun a q=>zw q (wtt hb_521) (r_load isAgg39 q rfl (s.cell (.tail _ (.tail _ (.tail _ z8))) rfl)) fun a q=>zw q (wtt hb_521) (r_len_O underlying39 s (.tail _ (.tail _ (.tail _ (.tail _ (.tail _ z8))))) q rfl) fun a q=>zw q (wtt hb_521) (r_ibin q rfl rfl rfl) fun a q=>zl q (r_pick_t hb_521 q rfl rfl) fun a q=>zm q rfl fun a q=>?_
 rcases or_b ((y_441.1.Rows.length : Int) == 2) with hb_522 | hb_522
 rw [ifb_t hb_522] at H
 refine zw q (wtt hb_522) (r_fieldAddr underlying41 rfl sizeOf39 q rfl) fun a q=>zw q (wtt hb_522) (r_load isAgg39 q rfl (s.cell (.tail _ (.tail _ (.tail _ z8))) rfl)) fun a q=>?_
 obtain ⟨y_523,h_524,H⟩:=bs H
 obtain ⟨b_526,c_527,cs_528,hv_525,hr_529,hc_530,h_5240,h_5241⟩:=s.row_ix (.tail _ (.tail _ (.tail _ (.tail _ (.tail _ z8))))) (hq_452.mono (hl_468.le.trans hl_492.le)) rfl rfl h_524
 obtain ⟨v_531,rfl,hs_532⟩:=hr_529
 refine zw q (wtt hb_522) (r_indexAddr_R underlying39 sizeOf31 hv_525 h_5240 h_5241 q rfl rfl) fun a q=>zw q (wtt hb_522) (r_load isAgg31 q rfl (s.row_cell (.tail _ (.tail _ (.tail _ (.tail _ (.tail _ z8))))) hv_525 (hc_530 0 _ rfl))) fun a q=>?_
 obtain ⟨y_533,h_534,H⟩:=bs H
 obtain ⟨b_535,o_536,c_537,cs_538,hv_539,hr_540,hc_541,h_5340,h_5341⟩:=hs_532.ix h_534
 subst hr_540
 refine zw q (wtt hb_522) (r_indexAddr_R underlying31 sizeOf58 hv_539 h_5340 h_5341 q rfl rfl) fun a q=>zw q (wtt hb_522) (r_fieldAddr underlying58 rfl sizeOf3 q rfl) fun a q=>zw q (wtt hb_522) (r_load isAgg3 q rfl (s.sub.cell (hc_541 1 _ rfl))) fun a q=>zw q (wtt hb_522) (r_ibin q rfl rfl rfl) fun a q=>zl q (r_pick_t hb_522 q rfl rfl) fun a q=>zm q rfl fun a q=>?_
 rcases or_b (y_533.N == 3) with hb_542 | hb_542
 rw [ifb_t hb_542] at H
 refine zw q (wtt hb_542) (r_fieldAddr underlying41 rfl sizeOf39 q rfl) fun a q=>zw q (wtt hb_542) (r_load isAgg39 q rfl (s.cell (.tail _ (.tail _ (.tail _ z8))) rfl)) fun a q=>?_
 obtain ⟨y_543,h_544,H⟩:=bs H
 obtain ⟨b_546,c_547,cs_548,hv_545,hr_549,hc_550,h_5440,h_5441⟩:=s.row_ix (.tail _ (.tail _ (.tail _ (.tail _ (.tail _ z8))))) (hq_452.mono (hl_468.le.trans hl_492.le)) rfl rfl h_544
 obtain ⟨v_551,rfl,hs_552⟩:=hr_549
 refine zw q (wtt hb_542) (r_indexAddr_R underlying39 sizeOf31 hv_545 h_5440 h_5441 q rfl rfl) fun a q=>zw q (wtt hb_542) (r_load isAgg31 q rfl (s.row_cell (.tail _ (.tail _ (.tail _ (.tail _ (.tail _ z8))))) hv_545 (hc_550 0 _ rfl))) fun a q=>?_
 obtain ⟨y_553,h_554,H⟩:=bs H
 obtain ⟨b_555,o_556,c_557,cs_558,hv_559,hr_560,hc_561,h_5540,h_5541⟩:=hs_552.ix h_554
 subst hr_560
 refine zw q (wtt hb_542) (r_indexAddr_R underlying31 sizeOf58 hv_559 h_5540 h_5541 q rfl rfl) fun a q=>zw q (wtt hb_542) (r_fieldAddr underlying58 rfl sizeOf3 q rfl) fun a q=>zw q (wtt hb_542) (r_load isAgg3 q rfl (s.sub.cell (hc_561 1 _ rfl))) fun a q=>zw q (wtt hb_542) (r_ibin q rfl rfl rfl) fun a q=>zl q (r_pick_t hb_542 q rfl rfl) fun a q=>zm q rfl fun a q=>?_
 rcases or_b (y_553.N == 7) with hb_562 | hb_562
 rw [ifb_t hb_562] at H
 refine zw q (wtt hb_562) (r_move q rfl) fun a q=>zw q (wtt hb_562) (r_ibin q rfl rfl rfl) fun a q=>zl q (r_pick_t hb_562 q rfl rfl) fun a q=>zm q rfl fun a q=>?_
 rcases or_b (y_465.2.1 == 0) with hb_563 | hb_563
 rw [ifb_t hb_563] at H
 refine zw q (wtt hb_563) (r_fieldAddr underlying41 rfl sizeOf39 q rfl) fun a q=>zw q (wtt hb_563) (r_load isAgg39 q rfl (s.cell z8 rfl)) fun a q=>zw q (wtt hb_563) (r_len_O underlying39 s (.tail _ (.tail _ z8)) q rfl) fun a q=>zw q (wtt hb_563) (r_ibin q rfl rfl rfl) fun a q=>zl q (r_pick_t hb_563 q rfl rfl) fun a q=>zm q rfl fun a q=>?_
 rcases or_b ((y_465.1.Rows.length : Int) == 1) with hb_564 | hb_564
 rw [ifb_t hb_564] at H
 refine zw q (wtt hb_564) (r_move q rfl) fun a q=>zw q (wtt hb_564) (r_ibin q rfl rfl rfl) fun a q=>zl q (r_pick_t hb_564 q rfl rfl) fun a q=>zm q rfl fun a q=>?_
 rcases or_b (y_489.2.1 == 50) with hb_565 | hb_565
 rw [ifb_t hb_565] at H
 refine zw q (wtt hb_565) (r_move q rfl) fun a q=>?_
 obtain ⟨y_566,h_567,H⟩:=bs H
 have s:=s.pk7
 have s:=s.pk7
 have s:=s.pk7
 have s:=s.pk7
 have s:=s.pk7
 have hS1:=s.sp5
 refine sl_call call14 q (by decide) (wtt hb_565) rfl rfl (leaf_Leaf_Points.calls y_489.2.2 hS1.lend hs_502 hq_507 hm_511 h_567) fun a v_ w hv_ q=>?_
 obtain ⟨R_568,v_570,b_572,v_574,cs_575,mb_577,mb_578,E_579,hv_,hr_,hl_569,hs_571,hq_576,hm_580⟩:=hv_
 have hv_:=hv_.symm
 subst hv_
 obtain ⟨s,hl_569⟩:=hS1.back hr_ hl_569
 have s:=s.un5
 have hRL:=hRL.trans hl_569
 refine zw q (wtt hb_565) (r_ibin q rfl rfl rfl) fun a q=>zl q (r_pick_t hb_565 q rfl rfl) fun a q=>za q rfl fun a q=>zn ?_
 obtain rfl:=Option.some.inj H
 refine wp_ret ?_
 repeat first | refine zt ?_ | refine zb ?_ | refine zo ?_
 exact ret_1 results7 q (rv_tmp q rfl) ⟨rfl,s.bel⟩
 rw [ifb_f hb_565] at H
 refine zsw q (wtf hb_565) fun a q=>zsw q (wtf hb_565) fun a q=>zsw q (wtf hb_565) fun a q=>zl q (r_pick_f hb_565 q rfl rfl) fun a q=>za q rfl fun a q=>zn ?_
 obtain rfl:=Option.some.inj H
 refine wp_ret ?_
 repeat first | refine zt ?_ | refine zb ?_ | refine zo ?_
 exact ret_1 results7 q (rv_tmp q rfl) ⟨rfl,s.bel⟩
 rw [ifb_f hb_564] at H
 refine zsw q (wtf hb_564) fun a q=>zsw q (wtf hb_564) fun a q=>zl q (r_pick_f hb_564 q rfl rfl) fun a q=>zm q rfl fun a q=>zs q fun a q=>zs q fun a q=>zs q fun a q=>zl q (r_pick q rfl rfl rfl) fun a q=>za q rfl fun a q=>zn ?_
 obtain rfl:=Option.some.inj H
 refine wp_ret ?_
 repeat first | refine zt ?_ | refine zb ?_ | refine zo ?_
 exact ret_1 results7 q (rv_tmp q rfl) ⟨rfl,s.bel⟩
 rw [ifb_f hb_563] at H
 refine zsw q (wtf hb_563) fun a q=>zsw q (wtf hb_563) fun a q=>zsw q (wtf hb_563) fun a q=>zsw q (wtf hb_563) fun a q=>zl q (r_pick_f hb_563 q rfl rfl) fun a q=>zm q rfl fun a q=>zs q fun a q=>zs q fun a q=>zl q (r_pick q rfl rfl rfl) fun a q=>zm q rfl fun a q=>zs q fun a q=>zs q fun a q=>zs q fun a q=>zl q (r_pick q rfl rfl rfl) fun a q=>za q rfl fun a q=>zn ?_
 obtain rfl:=Option.some.inj H
 refine wp_ret ?_
 repeat first | refine zt ?_ | refine zb ?_ | refine zo ?_
 exact ret_1 results7 q (rv_tmp q rfl) ⟨rfl,s.bel⟩
 rw [ifb_f hb_562] at H
 refine zsw q (wtf hb_562) fun a q=>zsw q (wtf hb_562) fun a q=>zl q (r_pick_f hb_562 q rfl rfl) fun a q=>zm q rfl fun a q=>zs q fun a q=>zs q fun a q=>zs q fun a q=>zs q fun a q=>zl q (r_pick q rfl rfl rfl) fun a q=>zm q rfl fun a q=>zs q fun a q=>zs q fun a q=>zl q (r_pick q rfl rfl rfl) fun a q=>zm q rfl fun a q=>zs q fun a q=>zs q fun a q=>zs q fun a q=>zl q (r_pick q rfl rfl rfl) fun a q=>za q rfl fun a q=>zn ?_
 obtain rfl:=Option.some.inj H
 refine wp_ret ?_
 repeat first | refine zt ?_ | refine zb ?_ | refine zo ?_
 exact ret_1 results7 q (rv_tmp q rfl) ⟨rfl,s.bel⟩
 rw [ifb_f hb_542] at H
 refine zsw q (wtf hb_542) fun a q=>zsw q (wtf hb_542) fun a q=>zsw q (wtf hb_542) fun a q=>zsw q (wtf hb_542) fun a q=>zsw q (wtf hb_542) fun a q=>zsw q (wtf hb_542) fun a q=>zsw q (wtf hb_542) fun a q=>zsw q (wtf hb_542) fun a q=>zl q (r_pick_f hb_542 q rfl rfl) fun a q=>zm q rfl fun a q=>zs q fun a q=>zs q fun a q=>zl q (r_pick q rfl rfl rfl) fun a q=>zm q rfl fun a q=>zs q fun a q=>zs q fun a q=>zs q fun a q=>zs q fun a q=>zl q (r_pick q rfl rfl rfl) fun a q=>zm q rfl fun a q=>zs q fun a q=>zs q fun a q=>zl q (r_pick q rfl rfl rfl) fun a q=>zm q rfl fun a q=>zs q fun a q=>zs q fun a q=>zs q fun a q=>zl q (r_pick q rfl rfl rfl) fun a q=>za q rfl fun a q=>zn ?_
 obtain rfl:=Option.some.inj H
 refine wp_ret ?_
 repeat first | refine zt ?_ | refine zb ?_ | refine zo ?_
 exact ret_1 results7 q (rv_tmp q rfl) ⟨rfl,s.bel⟩
 rw [ifb_f hb_522] at H
 refine zsw q (wtf hb_522) fun a q=>zsw q (wtf hb_522) fun a q=>zsw q (wtf hb_522) fun a q=>zsw q (wtf hb_522) fun a q=>zsw q (wtf hb_522) fun a q=>zsw q (wtf hb_522) fun a q=>zsw q (wtf hb_522) fun a q=>zsw q (wtf hb_522) fun a q=>zl q (r_pick_f hb_522 q rfl rfl) fun a q=>zm q rfl fun a q=>zs q fun a q=>zs q fun a q=>zs q fun a q=>zs q fun a q=>zs q fun a q=>zs q fun a q=>zs q fun a q=>zs q fun a q=>zl q (r_pick q rfl rfl rfl) fun a q=>zm q rfl fun a q=>zs q fun a q=>zs q fun a q=>zl q (r_pick q rfl rfl rfl) fun a q=>zm q rfl fun a q=>zs q fun a q=>zs q fun a q=>zs q fun a q=>zs q fun a q=>zl q (r_pick q rfl rfl rfl) fun a q=>zm q rfl fun a q=>zs q fun a q=>zs q fun a q=>zl q (r_pick q rfl rfl rfl) fun a q=>zm q rfl fun a q=>?_
 refine zs q fun a q=>zs q fun a q=>zs q fun a q=>zl q (r_pick q rfl rfl rfl) fun a q=>za q rfl fun a q=>zn ?_
 obtain rfl:=Option.some.inj H
 refine wp_ret ?_
 repeat first | refine zt ?_ | refine zb ?_ | refine zo ?_
 exact ret_1 results7 q (rv_tmp q rfl) ⟨rfl,s.bel⟩
 rw [ifb_f hb_521] at H
 refine zsw q (wtf hb_521) fun a q=>zsw q (wtf hb_521) fun a q=>zsw q (wtf hb_521) fun a q=>zsw q (wtf hb_521) fun a q=>zl q (r_pick_f hb_521 q rfl rfl) fun a q=>zm q rfl fun a q=>zs q fun a q=>zs q fun a q=>zs q fun a q=>zs q fun a q=>zs q fun a q=>zs q fun a q=>zs q fun a q=>zs q fun a q=>zl q (r_pick q rfl rfl rfl) fun a q=>zm q rfl fun a q=>zs q fun a q=>zs q fun a q=>zs q fun a q=>zs q fun a q=>zs q fun a q=>zs q fun a q=>zs q fun a q=>zs q fun a q=>zl q (r_pick q rfl rfl rfl) fun a q=>zm q rfl fun a q=>zs q fun a q=>zs q fun a q=>zl q (r_pick q rfl rfl rfl) fun a q=>zm q rfl fun a q=>zs q fun a q=>zs q fun a q=>zs q fun a q=>zs q fun a q=>zl q (r_pick q rfl rfl rfl) fun a q=>zm q rfl fun a q=>zs q fun a q=>?_
 refine zs q fun a q=>zl q (r_pick q rfl rfl rfl) fun a q=>zm q rfl fun a q=>zs q fun a q=>zs q fun a q=>zs q fun a q=>zl q (r_pick q rfl rfl rfl) fun a q=>za q rfl fun a q=>zn ?_
 obtain rfl:=Option.some.inj H
 refine wp_ret ?_
 repeat first | refine zt ?_ | refine zb ?_ | refine zo ?_
 exact ret_1 results7 q (rv_tmp q rfl) ⟨rfl,s.bel⟩
 rw [ifb_f hb_520] at H
 refine zsw q (wtf hb_520) fun a q=>zsw q (wtf hb_520) fun a q=>zl q (r_pick_f hb_520 q rfl rfl) fun a q=>zm q rfl fun a q=>zs q fun a q=>zs q fun a q=>zs q fun a q=>zs q fun a q=>zl q (r_pick q rfl rfl rfl) fun a q=>zm q rfl fun a q=>zs q fun a q=>zs q fun a q=>zs q fun a q=>zs q fun a q=>zs q fun a q=>zs q fun a q=>zs q fun a q=>zs q fun a q=>zl q (r_pick q rfl rfl rfl) fun a q=>zm q rfl fun a q=>zs q fun a q=>zs q fun a q=>zs q fun a q=>zs q fun a q=>zs q fun a q=>zs q fun a q=>zs q fun a q=>zs q fun a q=>zl q (r_pick q rfl rfl rfl) fun a q=>zm q rfl fun a q=>zs q fun a q=>zs q fun a q=>zl q (r_pick q rfl rfl rfl) fun a q=>zm q rfl fun a q=>zs q fun a q=>zs q fun a q=>zs q fun a q=>zs q fun a q=>?_
 refine zl q (r_pick q rfl rfl rfl) fun a q=>zm q rfl fun a q=>zs q fun a q=>zs q fun a q=>zl q (r_pick q rfl rfl rfl) fun a q=>zm q rfl fun a q=>zs q fun a q=>zs q fun a q=>zs q fun a q=>zl q (r_pick q rfl rfl rfl) fun a q=>za q rfl fun a q=>zn ?_
 obtain rfl:=Option.some.inj H
 refine wp_ret ?_
 repeat first | refine zt ?_ | refine zb ?_ | refine zo ?_
 exact ret_1 results7 q (rv_tmp q rfl) ⟨rfl,s.bel⟩
 rw [ifb_f hb_519] at H
 refine zsw q (wtf hb_519) fun a q=>zsw q (wtf hb_519) fun a q=>zl q (r_pick_f hb_519 q rfl rfl) fun a q=>zm q rfl fun a q=>zs q fun a q=>zs q fun a q=>zl q (r_pick q rfl rfl rfl) fun a q=>zm q rfl fun a q=>zs q fun a q=>zs q fun a q=>zs q fun a q=>zs q fun a q=>zl q (r_pick q rfl rfl rfl) fun a q=>zm q rfl fun a q=>zs q fun a q=>zs q fun a q=>zs q fun a q=>zs q fun a q=>zs q fun a q=>zs q fun a q=>zs q fun a q=>zs q fun a q=>zl q (r_pick q rfl rfl rfl) fun a q=>zm q rfl fun a q=>zs q fun a q=>zs q fun a q=>zs q fun a q=>zs q fun a q=>zs q fun a q=>zs q fun a q=>zs q fun a q=>zs q fun a q=>zl q (r_pick q rfl rfl rfl) fun a q=>zm q rfl fun a q=>zs q fun a q=>zs q fun a q=>zl q (r_pick q rfl rfl rfl) fun a q=>?_
 refine zm q rfl fun a q=>zs q fun a q=>zs q fun a q=>zs q fun a q=>zs q fun a q=>zl q (r_pick q rfl rfl rfl) fun a q=>zm q rfl fun a q=>zs q fun a q=>zs q fun a q=>zl q (r_pick q rfl rfl rfl) fun a q=>zm q rfl fun a q=>zs q fun a q=>zs q fun a q=>zs q fun a q=>zl q (r_pick q rfl rfl rfl) fun a q=>za q rfl fun a q=>zn ?_
 obtain rfl:=Option.some.inj H
 refine wp_ret ?_
 repeat first | refine zt ?_ | refine zb ?_ | refine zo ?_
 exact ret_1 results7 q (rv_tmp q rfl) ⟨rfl,s.bel⟩
 rw [ifb_f hb_518] at H
 refine zsw q (wtf hb_518) fun a q=>zsw q (wtf hb_518) fun a q=>zl q (r_pick_f hb_518 q rfl rfl) fun a q=>zm q rfl fun a q=>zs q fun a q=>zs q fun a q=>zl q (r_pick q rfl rfl rfl) fun a q=>zm q rfl fun a q=>zs q fun a q=>zs q fun a q=>zl q (r_pick q rfl rfl rfl) fun a q=>zm q rfl fun a q=>zs q fun a q=>zs q fun a q=>zs q fun a q=>zs q fun a q=>zl q (r_pick q rfl rfl rfl) fun a q=>zm q rfl fun a q=>zs q fun a q=>zs q fun a q=>zs q fun a q=>zs q fun a q=>zs q fun a q=>zs q fun a q=>zs q fun a q=>zs q fun a q=>zl q (r_pick q rfl rfl rfl) fun a q=>zm q rfl fun a q=>zs q fun a q=>zs q fun a q=>zs q fun a q=>zs q fun a q=>zs q fun a q=>zs q fun a q=>zs q fun a q=>zs q fun a q=>zl q (r_pick q rfl rfl rfl) fun a q=>?_
 refine zm q rfl fun a q=>zs q fun a q=>zs q fun a q=>zl q (r_pick q rfl rfl rfl) fun a q=>zm q rfl fun a q=>zs q fun a q=>zs q fun a q=>zs q fun a q=>zs q fun a q=>zl q (r_pick q rfl rfl rfl) fun a q=>zm q rfl fun a q=>zs q fun a q=>zs q fun a q=>zl q (r_pick q rfl rfl rfl) fun a q=>zm q rfl fun a q=>zs q fun a q=>zs q fun a q=>zs q fun a q=>zl q (r_pick q rfl rfl rfl) fun a q=>za q rfl fun a q=>zn ?_
 obtain rfl:=Option.some.inj H
 refine wp_ret ?_
 repeat first | refine zt ?_ | refine zb ?_ | refine zo ?_
 exact ret_1 results7 q (rv_tmp q rfl) ⟨rfl,s.bel⟩
 rw [ifb_f hb_517] at H
 refine zsw q (wtf hb_517) fun a q=>zsw q (wtf hb_517) fun a q=>zl q (r_pick_f hb_517 q rfl rfl) fun a q=>zm q rfl fun a q=>zs q fun a q=>zs q fun a q=>zl q (r_pick q rfl rfl rfl) fun a q=>zm q rfl fun a q=>zs q fun a q=>zs q fun a q=>zl q (r_pick q rfl rfl rfl) fun a q=>zm q rfl fun a q=>zs q fun a q=>zs q fun a q=>zl q (r_pick q rfl rfl rfl) fun a q=>zm q rfl fun a q=>zs q fun a q=>zs q fun a q=>zs q fun a q=>zs q fun a q=>zl q (r_pick q rfl rfl rfl) fun a q=>zm q rfl fun a q=>zs q fun a q=>zs q fun a q=>zs q fun a q=>zs q fun a q=>zs q fun a q=>zs q fun a q=>zs q fun a q=>zs q fun a q=>zl q (r_pick q rfl rfl rfl) fun a q=>zm q rfl fun a q=>zs q fun a q=>zs q fun a q=>zs q fun a q=>zs q fun a q=>zs q fun a q=>?_
 refine zs q fun a q=>zs q fun a q=>zs q fun a q=>zl q (r_pick q rfl rfl rfl) fun a q=>zm q rfl fun a q=>zs q fun a q=>zs q fun a q=>zl q (r_pick q rfl rfl rfl) fun a q=>zm q rfl fun a q=>zs q fun a q=>zs q fun a q=>zs q fun a q=>zs q fun a q=>zl q (r_pick q rfl rfl rfl) fun a q=>zm q rfl fun a q=>zs q fun a q=>zs q fun a q=>zl q (r_pick q rfl rfl rfl) fun a q=>zm q rfl fun a q=>zs q fun a q=>zs q fun a q=>zs q fun a q=>zl q (r_pick q rfl rfl rfl) fun a q=>za q rfl fun a q=>zn ?_
 obtain rfl:=Option.some.inj H
 refine wp_ret ?_
 repeat first | refine zt ?_ | refine zb ?_ | refine zo ?_
 exact ret_1 results7 q (rv_tmp q rfl) ⟨rfl,s.bel⟩
 rw [ifb_f hb_516] at H
 refine zsw q (wtf hb_516) fun a q=>zl q (r_pick_f hb_516 q rfl rfl) fun a q=>zm q rfl fun a q=>zs q fun a q=>zs q fun a q=>zl q (r_pick q rfl rfl rfl) fun a q=>zm q rfl fun a q=>zs q fun a q=>zs q fun a q=>zl q (r_pick q rfl rfl rfl) fun a q=>zm q rfl fun a q=>zs q fun a q=>zs q fun a q=>zl q (r_pick q rfl rfl rfl) fun a q=>zm q rfl fun a q=>zs q fun a q=>zs q fun a q=>zl q (r_pick q rfl rfl rfl) fun a q=>zm q rfl fun a q=>zs q fun a q=>zs q fun a q=>zs q fun a q=>zs q fun a q=>zl q (r_pick q rfl rfl rfl) fun a q=>zm q rfl fun a q=>zs q fun a q=>zs q fun a q=>zs q fun a q=>zs q fun a q=>zs q fun a q=>zs q fun a q=>zs q fun a q=>zs q fun a q=>zl q (r_pick q rfl rfl rfl) fun a q=>zm q rfl fun a q=>zs q fun a q=>zs q fun a q=>?_
 refine zs q fun a q=>zs q fun a q=>zs q fun a q=>zs q fun a q=>zs q fun a q=>zs q fun a q=>zl q (r_pick q rfl rfl rfl) fun a q=>zm q rfl fun a q=>zs q fun a q=>zs q fun a q=>zl q (r_pick q rfl rfl rfl) fun a q=>zm q rfl fun a q=>zs q fun a q=>zs q fun a q=>zs q fun a q=>zs q fun a q=>zl q (r_pick q rfl rfl rfl) fun a q=>zm q rfl fun a q=>zs q fun a q=>zs q fun a q=>zl q (r_pick q rfl rfl rfl) fun a q=>zm q rfl fun a q=>zs q fun a q=>zs q fun a q=>zs q fun a q=>zl q (r_pick q rfl rfl rfl) fun a q=>za q rfl fun a q=>zn ?_
 obtain rfl:=Option.some.inj H
 refine wp_ret ?_
 repeat first | refine zt ?_ | refine zb ?_ | refine zo ?_
 exact ret_1 results7 q (rv_tmp q rfl) ⟨rfl,s.bel⟩
 rw [ifb_f hb_515] at H
 refine zsw q (wtf hb_515) fun a q=>zsw q (wtf hb_515) fun a q=>zl q (r_pick_f hb_515 q rfl rfl) fun a q=>zm q rfl fun a q=>zs q fun a q=>zl q (r_pick q rfl rfl rfl) fun a q=>zm q rfl fun a q=>zs q fun a q=>zs q fun a q=>zl q (r_pick q rfl rfl rfl) fun a q=>zm q rfl fun a q=>zs q fun a q=>zs q fun a q=>zl q (r_pick q rfl rfl rfl) fun a q=>zm q rfl fun a q=>zs q fun a q=>zs q fun a q=>zl q (r_pick q rfl rfl rfl) fun a q=>zm q rfl fun a q=>zs q fun a q=>zs q fun a q=>zl q (r_pick q rfl rfl rfl) fun a q=>zm q rfl fun a q=>zs q fun a q=>zs q fun a q=>zs q fun a q=>zs q fun a q=>zl q (r_pick q rfl rfl rfl) fun a q=>zm q rfl fun a q=>zs q fun a q=>zs q fun a q=>zs q fun a q=>zs q fun a q=>zs q fun a q=>zs q fun a q=>zs q fun a q=>?_
 refine zs q fun a q=>zl q (r_pick q rfl rfl rfl) fun a q=>zm q rfl fun a q=>zs q fun a q=>zs q fun a q=>zs q fun a q=>zs q fun a q=>zs q fun a q=>zs q fun a q=>zs q fun a q=>zs q fun a q=>zl q (r_pick q rfl rfl rfl) fun a q=>zm q rfl fun a q=>zs q fun a q=>zs q fun a q=>zl q (r_pick q rfl rfl rfl) fun a q=>zm q rfl fun a q=>zs q fun a q=>zs q fun a q=>zs q fun a q=>zs q fun a q=>zl q (r_pick q rfl rfl rfl) fun a q=>zm q rfl fun a q=>zs q fun a q=>zs q fun a q=>zl q (r_pick q rfl rfl rfl) fun a q=>zm q rfl fun a q=>zs q fun a q=>zs q fun a q=>zs q fun a q=>zl q (r_pick q rfl rfl rfl) fun a q=>za q rfl fun a q=>zn ?_
 obtain rfl:=Option.some.inj H
 refine wp_ret ?_
 repeat first | refine zt ?_ | refine zb ?_ | refine zo ?_
 exact ret_1 results7 q (rv_tmp q rfl) ⟨rfl,s.bel⟩
 rw [ifb_f hb_514] at H
 refine zsw q (wtf hb_514) fun a q=>zsw q (wtf hb_514) fun a q=>zl q (r_pick_f hb_514 q rfl rfl) fun a q=>zm q rfl fun a q=>zs q fun a q=>zs q fun a q=>zl q (r_pick q rfl rfl rfl) fun a q=>zm q rfl fun a q=>zs q fun a q=>zl q (r_pick q rfl rfl rfl) fun a q=>zm q rfl fun a q=>zs q fun a q=>zs q fun a q=>zl q (r_pick q rfl rfl rfl) fun a q=>zm q rfl fun a q=>zs q fun a q=>zs q fun a q=>zl q (r_pick q rfl rfl rfl) fun a q=>zm q rfl fun a q=>zs q fun a q=>zs q fun a q=>zl q (r_pick q rfl rfl rfl) fun a q=>zm q rfl fun a q=>zs q fun a q=>zs q fun a q=>zl q (r_pick q rfl rfl rfl) fun a q=>zm q rfl fun a q=>zs q fun a q=>zs q fun a q=>zs q fun a q=>zs q fun a q=>zl q (r_pick q rfl rfl rfl) fun a q=>zm q rfl fun a q=>zs q fun a q=>?_
 refine zs q fun a q=>zs q fun a q=>zs q fun a q=>zs q fun a q=>zs q fun a q=>zs q fun a q=>zs q fun a q=>zl q (r_pick q rfl rfl rfl) fun a q=>zm q rfl fun a q=>zs q fun a q=>zs q fun a q=>zs q fun a q=>zs q fun a q=>zs q fun a q=>zs q fun a q=>zs q fun a q=>zs q fun a q=>zl q (r_pick q rfl rfl rfl) fun a q=>zm q rfl fun a q=>zs q fun a q=>zs q fun a q=>zl q (r_pick q rfl rfl rfl) fun a q=>zm q rfl fun a q=>zs q fun a q=>zs q fun a q=>zs q fun a q=>zs q fun a q=>zl q (r_pick q rfl rfl rfl) fun a q=>zm q rfl fun a q=>zs q fun a q=>zs q fun a q=>zl q (r_pick q rfl rfl rfl) fun a q=>zm q rfl fun a q=>zs q fun a q=>zs q fun a q=>zs q fun a q=>zl q (r_pick q rfl rfl rfl) fun a q=>za q rfl fun a q=>zn ?_
 obtain rfl:=Option.some.inj H
 refine wp_ret ?_
 repeat first | refine zt ?_ | refine zb ?_ | refine zo ?_
 exact ret_1 results7 q (rv_tmp q rfl) ⟨rfl,s.bel⟩
 rw [ifb_f hb_513] at H
 refine zsw q (wtf hb_513) fun a q=>zsw q (wtf hb_513) fun a q=>zl q (r_pick_f hb_513 q rfl rfl) fun a q=>zm q rfl fun a q=>zs q fun a q=>zs q fun a q=>zl q (r_pick q rfl rfl rfl) fun a q=>zm q rfl fun a q=>zs q fun a q=>zs q fun a q=>zl q (r_pick q rfl rfl rfl) fun a q=>zm q rfl fun a q=>zs q fun a q=>zl q (r_pick q rfl rfl rfl) fun a q=>zm q rfl fun a q=>zs q fun a q=>zs q fun a q=>zl q (r_pick q rfl rfl rfl) fun a q=>zm q rfl fun a q=>zs q fun a q=>zs q fun a q=>zl q (r_pick q rfl rfl rfl) fun a q=>zm q rfl fun a q=>zs q fun a q=>zs q fun a q=>zl q (r_pick q rfl rfl rfl) fun a q=>zm q rfl fun a q=>zs q fun a q=>zs q fun a q=>zl q (r_pick q rfl rfl rfl) fun a q=>zm q rfl fun a q=>zs q fun a q=>zs q fun a q=>zs q fun a q=>?_
 refine zs q fun a q=>zl q (r_pick q rfl rfl rfl) fun a q=>zm q rfl fun a q=>zs q fun a q=>zs q fun a q=>zs q fun a q=>zs q fun a q=>zs q fun a q=>zs q fun a q=>zs q fun a q=>zs q fun a q=>zl q (r_pick q rfl rfl rfl) fun a q=>zm q rfl fun a q=>zs q fun a q=>zs q fun a q=>zs q fun a q=>zs q fun a q=>zs q fun a q=>zs q fun a q=>zs q fun a q=>zs q fun a q=>zl q (r_pick q rfl rfl rfl) fun a q=>zm q rfl fun a q=>zs q fun a q=>zs q fun a q=>zl q (r_pick q rfl rfl rfl) fun a q=>zm q rfl fun a q=>zs q fun a q=>zs q fun a q=>zs q fun a q=>zs q fun a q=>zl q (r_pick q rfl rfl rfl) fun a q=>zm q rfl fun a q=>zs q fun a q=>zs q fun a q=>zl q (r_pick q rfl rfl rfl) fun a q=>zm q rfl fun a q=>zs q fun a q=>zs q fun a q=>?_
 refine zs q fun a q=>zl q (r_pick q rfl rfl rfl) fun a q=>za q rfl fun a q=>zn ?_
 obtain rfl:=Option.some.inj H
 refine wp_ret ?_
 repeat first | refine zt ?_ | refine zb ?_ | refine zo ?_
 exact ret_1 results7 q (rv_tmp q rfl) ⟨rfl,s.bel⟩
theorem ref02_SameCols.calls (a0 : List api_Col) (a1 : List api_Col) {w0 : World} {RA : Hp} {v0_0 : Value} {v1_0 : Value} (hRA : RA.sub w0) (h0_0 : SlR ty_api_Col RA v0_0 a0) (h1_0 : SlR ty_api_Col RA v1_0 a1) {r : Bool} (H : ref02_SameCols a0 a1 = some r) : CallsV prog 36 #[v0_0,v1_0] w0 (.bool r):=by
 unfold ref02_SameCols at H
 refine enter (args:=[v0_0,v1_0]) func36 rfl ntmps36 rfl fun a q=>?_
 have s:=St.init (R:=fun _=>none) (w:=w0) (fun _ _ h=>by cases h)
 have hRL:=RLe.refl (M:=[]) w0 (fun _=>none)
 refine zq<|zr<|za q rfl fun a q=>zn<|zq<|zq<|zr<|zm q rfl fun a q=>zl q (r_len_R underlying38 h0_0 q rfl) fun a q=>zm q rfl fun a q=>zl q (r_len_R underlying38 h1_0 q rfl) fun a q=>zl q (r_ibin q rfl rfl rfl) fun a q=>zn ?_
 refine wp_cond_split (q.ev rfl) (fun (hb_1 : ((a0.length : Int) != (a1.length : Int)) = true)=>?_) fun hb_1=>?_
 rw [ifb_t hb_1] at H
 refine zq<|zr<|za q rfl fun a q=>zn ?_
 obtain rfl:=Option.some.inj H
 refine wp_ret ?_
 repeat first | refine zt ?_ | refine zb ?_ | refine zo ?_
 exact ret_1 results36 q (rv_tmp q rfl) ⟨rfl,s.bel⟩
 rw [ifb_f hb_1] at H
 refine wp_skip<|zq<|zq<|zr<|za q rfl fun a q=>zn ?_
 refine wp_block ?_
 refine wp_loop_k (fun k_l0 a w=>∃ (x_41 : Int),ref02_SameCols.l0 a0 a1 k_l0 x_41 = some r ∧ Kn 26 a [(0,v0_0),(1,v1_0),(5,I6 x_41)] ∧ St [] w0 w (fun _=>none) []) (((a0.length : Int) - 0).toNat + 1) ?_ ?_
 exact ⟨0,H,q.sub (zc (zc (zc zz))),s⟩
 rintro k_l0 a w ⟨x_41,H,q,s⟩
 rcases k_l0 with _ | k_l0
 cases H
 rw [ref02_SameCols.l0.eq_2] at H
 refine zq<|zq<|zr<|zm q rfl fun a q=>zm q rfl fun a q=>zl q (r_len_R underlying38 h0_0 q rfl) fun a q=>zl q (r_ibin q rfl rfl rfl) fun a q=>zn ?_
 refine wp_cond_split (q.ev rfl) (fun (hb_81 : (decide (x_41 < (a0.length : Int))) = true)=>?_) fun hb_81=>?_
 rw [ifb_t hb_81] at H
 refine wp_skip<|zq ?_
 refine wp_block ?_
 refine zq ?_
 refine par_region (C:=fun w=>St [] w0 w (fun _=>none) []) [(0,true),(1,true),(2,true),(3,true),(4,true),(5,true),(6,true),(7,true),(8,true)] mixed (by kernel_rfl) s (fun w s=>s) fun w s=>?_
 refine zp rfl q (fun w s=>r_move q rfl) fun a q=>zp rfl q (fun w s=>r_move q rfl) fun a q=>?_
 obtain ⟨y_100,h_101,H⟩:=bs H
 obtain ⟨b_102,o_103,c_104,cs_105,hv_106,hr_107,hc_108,h_1010,h_1011⟩:=h0_0.ix h_101
 subst hr_107
 refine zp rfl q (fun w s=>r_indexAddr_R underlying38 sizeOf65 hv_106 h_1010 h_1011 q rfl rfl) fun a q=>zp rfl q (fun w s=>r_loadA (cs:=[.string y_100.Name,I6 y_100.Kind]) isAgg65 sizeOf65 rfl q rfl (fun j v hv=>(s.ra hRA nil_not).cell (hc_108 j v hv))) fun a q=>zp rfl q (fun w s=>r_move q rfl) fun a q=>zp rfl q (fun w s=>r_move q rfl) fun a q=>?_
 obtain ⟨y_109,h_110,H⟩:=bs H
 obtain ⟨b_111,o_112,c_113,cs_114,hv_115,hr_116,hc_117,h_1100,h_1101⟩:=h1_0.ix h_110
 subst hr_116
 refine zp rfl q (fun w s=>r_indexAddr_R underlying38 sizeOf65 hv_115 h_1100 h_1101 q rfl rfl) fun a q=>zp rfl q (fun w s=>r_loadA (cs:=[.string y_109.Name,I6 y_109.Kind]) isAgg65 sizeOf65 rfl q rfl (fun j v hv=>(s.ra hRA nil_not).cell (hc_117 j v hv))) fun a q=>zp rfl q (fun w s=>r_sne (by kernel_rfl) (eqs65 y_100 y_109) q rfl rfl) fun a q=>?_
 refine wpPar_nil (NoP_nil ?_)
 refine wp_cond_split (q.ev rfl) (fun (hb_118 : (!decide (y_100 = y_109)) = true)=>?_) fun hb_118=>?_
 rw [ifb_t hb_118] at H
 refine zq<|zr<|za q rfl fun a q=>zn ?_
 obtain rfl:=Option.some.inj H
 refine wp_ret ?_
 repeat first | refine zt ?_ | refine zb ?_ | refine zo ?_
 exact ret_1 results36 q (rv_tmp q rfl) ⟨rfl,s.bel⟩
 rw [ifb_f hb_118] at H
 refine wp_skip<|zr<|zm q rfl fun a q=>zl q (r_ibin q rfl rfl rfl) fun a q=>za q rfl fun a q=>zn ?_
 exact ⟨_,Nat.lt_succ_self _,(IntKind.i64.wrap (x_41 + 1)),H,q.sub (zc (zc (zc zz))),s⟩
 rw [ifb_f hb_81] at H
 refine wp_exit ?_
 refine zq<|zr<|za q rfl fun a q=>zn ?_
 obtain rfl:=Option.some.inj H
 refine wp_ret ?_
 repeat first | refine zt ?_ | refine zb ?_ | refine zo ?_
 exact ret_1 results36 q (rv_tmp q rfl) ⟨rfl,s.bel⟩
theorem ref01_order.calls (a0 : Int) (a1 : Int) {r : Int} (H : ref01_order a0 a1 = some r) (w0 : World) : CallsV prog 91 #[I6 a0,I6 a1] w0 (I6 r):=by
 unfold ref01_order at H
 refine enter (args:=[I6 a0,I6 a1]) func91 rfl ntmps91 rfl fun a q=>?_
 have s:=St.init (R:=fun _=>none) (w:=w0) (fun _ _ h=>by cases h)
 have hRL:=RLe.refl (M:=[]) w0 (fun _=>none)
 refine zq<|zr<|za q rfl fun a q=>zn<|zq<|zq<|zr<|zm q rfl fun a q=>zm q rfl fun a q=>zl q (r_ibin q rfl rfl rfl) fun a q=>zn ?_
 refine wp_cond_split (q.ev rfl) (fun (hb_1 : (decide (a0 < a1)) = true)=>?_) fun hb_1=>?_
 rw [ifb_t hb_1] at H
 refine zq<|zr<|za q rfl fun a q=>zn ?_
 obtain rfl:=Option.some.inj H
 refine wp_ret ?_
 repeat first | refine zt ?_ | refine zb ?_ | refine zo ?_
 exact ret_1 results91 q (rv_tmp q rfl) ⟨rfl,s.bel⟩
 rw [ifb_f hb_1] at H
 refine wp_skip<|zq<|zq<|zr<|zm q rfl fun a q=>zm q rfl fun a q=>zl q (r_ibin q rfl rfl rfl) fun a q=>zn ?_
 refine wp_cond_split (q.ev rfl) (fun (hb_2 : (decide (a0 > a1)) = true)=>?_) fun hb_2=>?_
 rw [ifb_t hb_2] at H
 refine zq<|zr<|za q rfl fun a q=>zn ?_
 obtain rfl:=Option.some.inj H
 refine wp_ret ?_
 repeat first | refine zt ?_ | refine zb ?_ | refine zo ?_
 exact ret_1 results91 q (rv_tmp q rfl) ⟨rfl,s.bel⟩
 rw [ifb_f hb_2] at H
 refine wp_skip<|zq<|zr<|za q rfl fun a q=>zn ?_
 obtain rfl:=Option.some.inj H
 refine wp_ret ?_
 repeat first | refine zt ?_ | refine zb ?_ | refine zo ?_
 exact ret_1 results91 q (rv_tmp q rfl) ⟨rfl,s.bel⟩
theorem ref01_Compare.calls (a0 : api_Value) (a1 : api_Value) {r : Int} (H : ref01_Compare a0 a1 = some r) (w0 : World) : CallsV prog 61 #[.agg ⟨cV a0⟩,.agg ⟨cV a1⟩] w0 (I6 r):=by
 unfold ref01_Compare at H
 refine enter (args:=[.agg ⟨cV a0⟩,.agg ⟨cV a1⟩]) func61 rfl ntmps61 rfl fun a q=>?_
 have s:=St.init (R:=fun _=>none) (w:=w0) (fun _ _ h=>by cases h)
 have hRL:=RLe.refl (M:=[]) w0 (fun _=>none)
 refine zq<|zr ?_
 refine sl_box s q (by decide) rfl rfl (c:=(cV a0)) rfl fun a w b_1 s q=>?_
 refine sl_box s q (by decide) rfl rfl (c:=(cV a1)) rfl fun a w b_2 s q=>?_
 refine za q rfl fun a q=>zn<|zq<|zq<|zr<|zl q (r_fieldAddr underlying58 rfl sizeOf3 q rfl) fun a q=>zl q (r_load isAgg3 q rfl (s.cell z1 rfl)) fun a q=>zl q (r_fieldAddr underlying58 rfl sizeOf3 q rfl) fun a q=>zl q (r_load isAgg3 q rfl (s.cell z0 rfl)) fun a q=>zl q (r_ibin q rfl rfl rfl) fun a q=>zn ?_
 refine wp_cond_split (q.ev rfl) (fun (hb_3 : (a0.Kind != a1.Kind) = true)=>?_) fun hb_3=>?_
 rw [ifb_t hb_3] at H
 refine zq<|zr<|zl q (r_fieldAddr underlying58 rfl sizeOf3 q rfl) fun a q=>zl q (r_load isAgg3 q rfl (s.cell z1 rfl)) fun a q=>zl q (r_fieldAddr underlying58 rfl sizeOf3 q rfl) fun a q=>zl q (r_load isAgg3 q rfl (s.cell z0 rfl)) fun a q=>?_
 obtain ⟨y_4,h_5,H⟩:=bs H
 refine sl_callV call91 s q (by decide) rfl rfl rfl (ref01_order.calls a0.Kind a1.Kind h_5 _) fun a w s q=>?_
 refine za q rfl fun a q=>zn ?_
 obtain rfl:=Option.some.inj H
 refine wp_ret ?_
 repeat first | refine zt ?_ | refine zb ?_ | refine zo ?_
 exact ret_1 results61 q (rv_tmp q rfl) ⟨rfl,s.bel⟩
 rw [ifb_f hb_3] at H
 refine wp_skip<|zq<|zq<|zr<|zl q (r_fieldAddr underlying58 rfl sizeOf3 q rfl) fun a q=>zl q (r_load isAgg3 q rfl (s.cell z1 rfl)) fun a q=>zl q (r_fieldAddr underlying58 rfl sizeOf3 q rfl) fun a q=>zl q (r_load isAgg3 q rfl (s.cell z0 rfl)) fun a q=>zl q (r_ibin q rfl rfl rfl) fun a q=>zn ?_
 refine wp_cond_split (q.ev rfl) (fun (hb_6 : (a0.N != a1.N) = true)=>?_) fun hb_6=>?_
 rw [ifb_t hb_6] at H
 refine zq<|zr<|zl q (r_fieldAddr underlying58 rfl sizeOf3 q rfl) fun a q=>zl q (r_load isAgg3 q rfl (s.cell z1 rfl)) fun a q=>zl q (r_fieldAddr underlying58 rfl sizeOf3 q rfl) fun a q=>zl q (r_load isAgg3 q rfl (s.cell z0 rfl)) fun a q=>?_
 obtain ⟨y_7,h_8,H⟩:=bs H
 refine sl_callV call91 s q (by decide) rfl rfl rfl (ref01_order.calls a0.N a1.N h_8 _) fun a w s q=>?_
 refine za q rfl fun a q=>zn ?_
 obtain rfl:=Option.some.inj H
 refine wp_ret ?_
 repeat first | refine zt ?_ | refine zb ?_ | refine zo ?_
 exact ret_1 results61 q (rv_tmp q rfl) ⟨rfl,s.bel⟩
 rw [ifb_f hb_6] at H
 refine wp_skip<|zq<|zq<|zr<|za q rfl fun a q=>zn ?_
 refine wp_block ?_
 refine wp_loop_k (fun k_l0 a w=>∃ (x_36 : Int),ref01_Compare.l0 a0 a1 k_l0 x_36 = some r ∧ Kn 97 a [(2,.pointer (some ⟨b_1,0,none⟩)),(3,.pointer (some ⟨b_2,0,none⟩)),(5,I6 x_36)] ∧ St [] w0 w (fun _=>none) [.cells b_1 (cV a0) 58,.cells b_2 (cV a1) 58]) (((a0.S.size : Int) - 0).toNat + 1) ?_ ?_
 have s:=s.pk1
 exact ⟨0,H,q.sub (zc (zc (zc zz))),s⟩
 rintro k_l0 a w ⟨x_36,H,q,s⟩
 rcases k_l0 with _ | k_l0
 cases H
 rw [ref01_Compare.l0.eq_2] at H
 refine zq<|zq ?_
 refine wp_mid (fun a w=>∃ (x_66 : Bool),ref01_Compare.j1 (ref01_Compare.l0 a0 a1 k_l0) a0 a1 x_36 x_66 = some r ∧ Kn 97 a [(2,.pointer (some ⟨b_1,0,none⟩)),(3,.pointer (some ⟨b_2,0,none⟩)),(5,I6 x_36),(38,.bool x_66)] ∧ St [] w0 w (fun _=>none) [.cells b_1 (cV a0) 58,.cells b_2 (cV a1) 58]) ?_ ?_
 refine zr<|zm q rfl fun a q=>zl q (r_fieldAddr underlying58 rfl sizeOf9 q rfl) fun a q=>zl q (r_load isAgg9 q rfl (s.cell z0 rfl)) fun a q=>zl q (r_len_str underlying9 q rfl) fun a q=>zl q (r_ibin q rfl rfl rfl) fun a q=>zm q rfl fun a q=>?_
 rcases or_b (decide (x_36 < (a0.S.size : Int))) with hb_68 | hb_68
 rw [ifb_t hb_68] at H
 refine zw q (wtt hb_68) (r_move q rfl) fun a q=>zw q (wtt hb_68) (r_fieldAddr underlying58 rfl sizeOf9 q rfl) fun a q=>zw q (wtt hb_68) (r_load isAgg9 q rfl (s.cell z1 rfl)) fun a q=>zw q (wtt hb_68) (r_len_str underlying9 q rfl) fun a q=>zw q (wtt hb_68) (r_ibin q rfl rfl rfl) fun a q=>zl q (r_pick_t hb_68 q rfl rfl) fun a q=>zn ?_
 have s:=s.pk1
 have s:=s.pk1
 exact ⟨(decide (x_36 < (a1.S.size : Int))),H,q.sub (zc (zc (zc (zc zz)))),s⟩
 rw [ifb_f hb_68] at H
 refine zsw q (wtf hb_68) fun a q=>zsw q (wtf hb_68) fun a q=>zsw q (wtf hb_68) fun a q=>zsw q (wtf hb_68) fun a q=>zsw q (wtf hb_68) fun a q=>zl q (r_pick_f hb_68 q rfl rfl) fun a q=>zn ?_
 have s:=s.pk1
 have s:=s.pk1
 exact ⟨false,H,q.sub (zc (zc (zc (zc zz)))),s⟩
 rintro a w ⟨x_66,H,q,s⟩
 unfold ref01_Compare.j1 at H
 refine wp_cond_split (q.ev rfl) (fun (hb_69 : x_66 = true)=>?_) fun hb_69=>?_
 rw [ifb_t hb_69] at H
 refine wp_skip<|zq ?_
 refine wp_block ?_
 refine zq ?_
 refine par_region (C:=fun w=>St [] w0 w (fun _=>none) [.cells b_1 (cV a0) 58,.cells b_2 (cV a1) 58]) [(0,true),(1,true),(2,true),(3,true),(4,true),(5,true),(6,true),(7,true),(8,true)] mixed (by kernel_rfl) s (fun w s=>s) fun w s=>?_
 refine zp rfl q (fun w s=>r_fieldAddr underlying58 rfl sizeOf9 q rfl) fun a q=>zp rfl q (fun w s=>r_load isAgg9 q rfl (s.cell z0 rfl)) fun a q=>zp rfl q (fun w s=>r_move q rfl) fun a q=>?_
 obtain ⟨y_74,h_75,H⟩:=bs H
 refine zp rfl q (fun w s=>r_index_str' underlying9 h_75 q rfl rfl) fun a q=>zp rfl q (fun w s=>r_fieldAddr underlying58 rfl sizeOf9 q rfl) fun a q=>zp rfl q (fun w s=>r_load isAgg9 q rfl (s.cell z1 rfl)) fun a q=>zp rfl q (fun w s=>r_move q rfl) fun a q=>?_
 obtain ⟨y_76,h_77,H⟩:=bs H
 refine zp rfl q (fun w s=>r_index_str' underlying9 h_77 q rfl rfl) fun a q=>zp rfl q (fun w s=>r_ibin q rfl rfl rfl) fun a q=>?_
 refine wpPar_nil (NoP_nil ?_)
 refine wp_cond_split (q.ev rfl) (fun (hb_78 : (y_74 != y_76) = true)=>?_) fun hb_78=>?_
 rw [ifb_t hb_78] at H
 refine zq ?_
 refine parT_region (C:=fun w=>St [] w0 w (fun _=>none) [.cells b_1 (cV a0) 58,.cells b_2 (cV a1) 58]) 10 [(0,true),(1,true),(2,true),(3,true),(4,true),(5,true),(6,true),(7,true),(8,true),(9,true)] mixed (by kernel_rfl) s (fun w s=>s) fun w s=>?_
 refine zp rfl q (fun w s=>r_fieldAddr underlying58 rfl sizeOf9 q rfl) fun a q=>zp rfl q (fun w s=>r_load isAgg9 q rfl (s.cell z0 rfl)) fun a q=>zp rfl q (fun w s=>r_move q rfl) fun a q=>?_
 obtain ⟨y_85,h_86,H⟩:=bs H
 refine zp rfl q (fun w s=>r_index_str' underlying9 h_86 q rfl rfl) fun a q=>zp rfl q (fun w s=>r_conv underlying5 underlying3 q rfl) fun a q=>zp rfl q (fun w s=>r_fieldAddr underlying58 rfl sizeOf9 q rfl) fun a q=>zp rfl q (fun w s=>r_load isAgg9 q rfl (s.cell z1 rfl)) fun a q=>zp rfl q (fun w s=>r_move q rfl) fun a q=>?_
 obtain ⟨y_87,h_88,H⟩:=bs H
 refine zp rfl q (fun w s=>r_index_str' underlying9 h_88 q rfl rfl) fun a q=>zp rfl q (fun w s=>r_conv underlying5 underlying3 q rfl) fun a q=>?_
 refine thenL_nil ?_
 obtain ⟨y_89,h_90,H⟩:=bs H
 refine sl_callV call91 s q (by decide) rfl rfl rfl (ref01_order.calls (IntKind.i64.wrap y_85) (IntKind.i64.wrap y_87) h_90 _) fun a w s q=>?_
 refine za q rfl fun a q=>?_
 refine wpList_nil (NoP_nil ?_)
 obtain rfl:=Option.some.inj H
 refine wp_ret ?_
 repeat first | refine zt ?_ | refine zb ?_ | refine zo ?_
 exact ret_1 results61 q (rv_tmp q rfl) ⟨rfl,s.bel⟩
 rw [ifb_f hb_78] at H
 refine wp_skip<|zr<|zm q rfl fun a q=>zl q (r_ibin q rfl rfl rfl) fun a q=>za q rfl fun a q=>zn ?_
 have s:=s.pk1
 have s:=s.pk1
 exact ⟨_,Nat.lt_succ_self _,(IntKind.i64.wrap (x_36 + 1)),H,q.sub (zc (zc (zc zz))),s⟩
 rw [ifb_f hb_69] at H
 refine wp_exit ?_
 refine zq<|zq<|zr<|zl q (r_fieldAddr underlying58 rfl sizeOf9 q rfl) fun a q=>zl q (r_load isAgg9 q rfl (s.cell z0 rfl)) fun a q=>zl q (r_len_str underlying9 q rfl) fun a q=>zl q (r_fieldAddr underlying58 rfl sizeOf9 q rfl) fun a q=>zl q (r_load isAgg9 q rfl (s.cell z1 rfl)) fun a q=>zl q (r_len_str underlying9 q rfl) fun a q=>zl q (r_ibin q rfl rfl rfl) fun a q=>zn ?_
 refine wp_cond_split (q.ev rfl) (fun (hb_91 : ((a0.S.size : Int) != (a1.S.size : Int)) = true)=>?_) fun hb_91=>?_
 rw [ifb_t hb_91] at H
 refine zq<|zr<|zl q (r_fieldAddr underlying58 rfl sizeOf9 q rfl) fun a q=>zl q (r_load isAgg9 q rfl (s.cell z0 rfl)) fun a q=>zl q (r_len_str underlying9 q rfl) fun a q=>zl q (r_fieldAddr underlying58 rfl sizeOf9 q rfl) fun a q=>zl q (r_load isAgg9 q rfl (s.cell z1 rfl)) fun a q=>zl q (r_len_str underlying9 q rfl) fun a q=>?_
 obtain ⟨y_92,h_93,H⟩:=bs H
 refine sl_callV call91 s q (by decide) rfl rfl rfl (ref01_order.calls (a0.S.size : Int) (a1.S.size : Int) h_93 _) fun a w s q=>?_
 refine za q rfl fun a q=>zn ?_
 obtain rfl:=Option.some.inj H
 refine wp_ret ?_
 repeat first | refine zt ?_ | refine zb ?_ | refine zo ?_
 exact ret_1 results61 q (rv_tmp q rfl) ⟨rfl,s.bel⟩
 rw [ifb_f hb_91] at H
 refine wp_skip<|zq<|zq<|zr<|za q rfl fun a q=>zn ?_
 refine wp_block ?_
 refine wp_loop_k (fun k_l2 a w=>∃ (x_100 : Int),ref01_Compare.l2 a0 a1 k_l2 x_100 = some r ∧ Kn 97 a [(2,.pointer (some ⟨b_1,0,none⟩)),(3,.pointer (some ⟨b_2,0,none⟩)),(6,I6 x_100)] ∧ St [] w0 w (fun _=>none) [.cells b_1 (cV a0) 58,.cells b_2 (cV a1) 58]) (((8 : Int) - 0).toNat + 1) ?_ ?_
 have s:=s.pk1
 have s:=s.pk1
 exact ⟨0,H,q.sub (zc (zc (zc zz))),s⟩
 rintro k_l2 a w ⟨x_100,H,q,s⟩
 rcases k_l2 with _ | k_l2
 cases H
 rw [ref01_Compare.l2.eq_2] at H
 refine zq<|zq<|zr<|zm q rfl fun a q=>zl q (r_ibin q rfl rfl rfl) fun a q=>zn ?_
 refine wp_cond_split (q.ev rfl) (fun (hb_124 : (decide (x_100 < 8)) = true)=>?_) fun hb_124=>?_
 rw [ifb_t hb_124] at H
 refine wp_skip<|zq ?_
 refine wp_block ?_
 refine zq ?_
 refine par_region (C:=fun w=>St [] w0 w (fun _=>none) [.cells b_1 (cV a0) 58,.cells b_2 (cV a1) 58]) [(0,true),(1,true),(2,true),(3,true),(4,true),(5,true),(6,true),(7,true),(8,true)] mixed (by kernel_rfl) s (fun w s=>s) fun w s=>?_
 refine zp rfl q (fun w s=>r_move q rfl) fun a q=>zp rfl q (fun w s=>r_fieldAddr underlying58 rfl sizeOf56 q rfl) fun a q=>?_
 obtain ⟨y_129,h_130,H⟩:=bs H
 refine zp rfl q (fun w s=>r_indexAddr_arr underlying56 sizeOf3 q rfl rfl (Arr8.ix_lt h_130).1 (Arr8.ix_lt h_130).2) fun a q=>zp rfl q (fun w s=>r_load isAgg3 q rfl (s.cell z0 (Arr8.ix_cells h_130 [I6 a0.Kind,I6 a0.N,.string a0.S] [] rfl))) fun a q=>zp rfl q (fun w s=>r_move q rfl) fun a q=>zp rfl q (fun w s=>r_fieldAddr underlying58 rfl sizeOf56 q rfl) fun a q=>?_
 obtain ⟨y_131,h_132,H⟩:=bs H
 refine zp rfl q (fun w s=>r_indexAddr_arr underlying56 sizeOf3 q rfl rfl (Arr8.ix_lt h_132).1 (Arr8.ix_lt h_132).2) fun a q=>zp rfl q (fun w s=>r_load isAgg3 q rfl (s.cell z1 (Arr8.ix_cells h_132 [I6 a1.Kind,I6 a1.N,.string a1.S] [] rfl))) fun a q=>zp rfl q (fun w s=>r_ibin q rfl rfl rfl) fun a q=>?_
 refine wpPar_nil (NoP_nil ?_)
 refine wp_cond_split (q.ev rfl) (fun (hb_133 : (y_129 != y_131) = true)=>?_) fun hb_133=>?_
 rw [ifb_t hb_133] at H
 refine zq ?_
 refine parT_region (C:=fun w=>St [] w0 w (fun _=>none) [.cells b_1 (cV a0) 58,.cells b_2 (cV a1) 58]) 8 [(0,true),(1,true),(2,true),(3,true),(4,true),(5,true),(6,true),(7,true)] mixed (by kernel_rfl) s (fun w s=>s) fun w s=>?_
 refine zp rfl q (fun w s=>r_move q rfl) fun a q=>zp rfl q (fun w s=>r_fieldAddr underlying58 rfl sizeOf56 q rfl) fun a q=>?_
 obtain ⟨y_140,h_141,H⟩:=bs H
 refine zp rfl q (fun w s=>r_indexAddr_arr underlying56 sizeOf3 q rfl rfl (Arr8.ix_lt h_141).1 (Arr8.ix_lt h_141).2) fun a q=>zp rfl q (fun w s=>r_load isAgg3 q rfl (s.cell z0 (Arr8.ix_cells h_141 [I6 a0.Kind,I6 a0.N,.string a0.S] [] rfl))) fun a q=>zp rfl q (fun w s=>r_move q rfl) fun a q=>zp rfl q (fun w s=>r_fieldAddr underlying58 rfl sizeOf56 q rfl) fun a q=>?_
 obtain ⟨y_142,h_143,H⟩:=bs H
 refine zp rfl q (fun w s=>r_indexAddr_arr underlying56 sizeOf3 q rfl rfl (Arr8.ix_lt h_143).1 (Arr8.ix_lt h_143).2) fun a q=>zp rfl q (fun w s=>r_load isAgg3 q rfl (s.cell z1 (Arr8.ix_cells h_143 [I6 a1.Kind,I6 a1.N,.string a1.S] [] rfl))) fun a q=>?_
 refine thenL_nil ?_
 obtain ⟨y_144,h_145,H⟩:=bs H
 refine sl_callV call91 s q (by decide) rfl rfl rfl (ref01_order.calls y_140 y_142 h_145 _) fun a w s q=>?_
 refine za q rfl fun a q=>?_
 refine wpList_nil (NoP_nil ?_)
 obtain rfl:=Option.some.inj H
 refine wp_ret ?_
 repeat first | refine zt ?_ | refine zb ?_ | refine zo ?_
 exact ret_1 results61 q (rv_tmp q rfl) ⟨rfl,s.bel⟩
 rw [ifb_f hb_133] at H
 refine wp_skip<|zr<|zm q rfl fun a q=>zl q (r_ibin q rfl rfl rfl) fun a q=>za q rfl fun a q=>zn ?_
 have s:=s.pk1
 have s:=s.pk1
 exact ⟨_,Nat.lt_succ_self _,(IntKind.i64.wrap (x_100 + 1)),H,q.sub (zc (zc (zc zz))),s⟩
 rw [ifb_f hb_124] at H
 refine wp_exit ?_
 refine zq<|zr<|za q rfl fun a q=>zn ?_
 obtain rfl:=Option.some.inj H
 refine wp_ret ?_
 repeat first | refine zt ?_ | refine zb ?_ | refine zo ?_
 exact ret_1 results61 q (rv_tmp q rfl) ⟨rfl,s.bel⟩
theorem ref02_Row.calls (a0 : List api_Value) (a1 : List api_Value) {w0 : World} {RA : Hp} {v0_0 : Value} {v1_0 : Value} (hRA : RA.sub w0) (h0_0 : SlR ty_api_Value RA v0_0 a0) (h1_0 : SlR ty_api_Value RA v1_0 a1) {r : Int} (H : ref02_Row a0 a1 = some r) : CallsV prog 37 #[v0_0,v1_0] w0 (I6 r):=by
 unfold ref02_Row at H
 refine enter (args:=[v0_0,v1_0]) func37 rfl ntmps37 rfl fun a q=>?_
 have s:=St.init (R:=fun _=>none) (w:=w0) (fun _ _ h=>by cases h)
 have hRL:=RLe.refl (M:=[]) w0 (fun _=>none)
 refine zq<|zr<|za q rfl fun a q=>zn<|zq<|zq<|zr<|za q rfl fun a q=>zn ?_
 refine wp_block ?_
 refine wp_loop_k (fun k_l0 a w=>∃ (x_48 : Int),ref02_Row.l0 a0 a1 k_l0 x_48 = some r ∧ Kn 41 a [(0,v0_0),(1,v1_0),(5,I6 x_48)] ∧ St [] w0 w (fun _=>none) []) (((a0.length : Int) - 0).toNat + 1) ?_ ?_
 exact ⟨0,H,q.sub (zc (zc (zc zz))),s⟩
 rintro k_l0 a w ⟨x_48,H,q,s⟩
 rcases k_l0 with _ | k_l0
 cases H
 rw [ref02_Row.l0.eq_2] at H
 refine zq<|zq ?_
 refine wp_mid (fun a w=>∃ (x_98 : Bool),ref02_Row.j1 (ref02_Row.l0 a0 a1 k_l0) a0 a1 x_48 x_98 = some r ∧ Kn 41 a [(0,v0_0),(1,v1_0),(5,I6 x_48),(16,.bool x_98)] ∧ St [] w0 w (fun _=>none) []) ?_ ?_
 refine zr<|zm q rfl fun a q=>zm q rfl fun a q=>zl q (r_len_R underlying31 h0_0 q rfl) fun a q=>zl q (r_ibin q rfl rfl rfl) fun a q=>zm q rfl fun a q=>?_
 rcases or_b (decide (x_48 < (a0.length : Int))) with hb_100 | hb_100
 rw [ifb_t hb_100] at H
 refine zw q (wtt hb_100) (r_move q rfl) fun a q=>zw q (wtt hb_100) (r_move q rfl) fun a q=>zw q (wtt hb_100) (r_len_R underlying31 h1_0 q rfl) fun a q=>zw q (wtt hb_100) (r_ibin q rfl rfl rfl) fun a q=>zl q (r_pick_t hb_100 q rfl rfl) fun a q=>zn ?_
 exact ⟨(decide (x_48 < (a1.length : Int))),H,q.sub (zc (zc (zc (zc zz)))),s⟩
 rw [ifb_f hb_100] at H
 refine zsw q (wtf hb_100) fun a q=>zsw q (wtf hb_100) fun a q=>zsw q (wtf hb_100) fun a q=>zsw q (wtf hb_100) fun a q=>zl q (r_pick_f hb_100 q rfl rfl) fun a q=>zn ?_
 exact ⟨false,H,q.sub (zc (zc (zc (zc zz)))),s⟩
 rintro a w ⟨x_98,H,q,s⟩
 unfold ref02_Row.j1 at H
 refine wp_cond_split (q.ev rfl) (fun (hb_101 : x_98 = true)=>?_) fun hb_101=>?_
 rw [ifb_t hb_101] at H
 refine wp_skip<|zq ?_
 refine wp_block ?_
 refine zq ?_
 refine parT_region (C:=fun w=>St [] w0 w (fun _=>none) []) 8 [(0,true),(1,true),(2,true),(3,true),(4,true),(5,true),(6,true),(7,true)] mixed (by kernel_rfl) s (fun w s=>s) fun w s=>?_
 refine zp rfl q (fun w s=>r_move q rfl) fun a q=>zp rfl q (fun w s=>r_move q rfl) fun a q=>?_
 obtain ⟨y_122,h_123,H⟩:=bs H
 obtain ⟨b_124,o_125,c_126,cs_127,hv_128,hr_129,hc_130,h_1230,h_1231⟩:=h0_0.ix h_123
 subst hr_129
 refine zp rfl q (fun w s=>r_indexAddr_R underlying31 sizeOf58 hv_128 h_1230 h_1231 q rfl rfl) fun a q=>zp rfl q (fun w s=>r_loadA (cs:=(cV y_122)) isAgg58 sizeOf58 rfl q rfl (fun j v hv=>(s.ra hRA nil_not).cell (hc_130 j v hv))) fun a q=>zp rfl q (fun w s=>r_move q rfl) fun a q=>zp rfl q (fun w s=>r_move q rfl) fun a q=>?_
 obtain ⟨y_131,h_132,H⟩:=bs H
 obtain ⟨b_133,o_134,c_135,cs_136,hv_137,hr_138,hc_139,h_1320,h_1321⟩:=h1_0.ix h_132
 subst hr_138
 refine zp rfl q (fun w s=>r_indexAddr_R underlying31 sizeOf58 hv_137 h_1320 h_1321 q rfl rfl) fun a q=>zp rfl q (fun w s=>r_loadA (cs:=(cV y_131)) isAgg58 sizeOf58 rfl q rfl (fun j v hv=>(s.ra hRA nil_not).cell (hc_139 j v hv))) fun a q=>?_
 refine thenL_nil ?_
 obtain ⟨y_140,h_141,H⟩:=bs H
 refine sl_callV call61 s q (by decide) rfl rfl rfl (ref01_Compare.calls y_122 y_131 h_141 _) fun a w s q=>?_
 refine za q rfl fun a q=>?_
 refine wpList_nil (NoP_nil ?_)
 refine zq<|zr<|zm q rfl fun a q=>zl q (r_ibin q rfl rfl rfl) fun a q=>zn ?_
 refine wp_cond_split (q.ev rfl) (fun (hb_142 : (y_140 != 0) = true)=>?_) fun hb_142=>?_
 rw [ifb_t hb_142] at H
 refine zq<|zr<|zm q rfl fun a q=>za q rfl fun a q=>zn ?_
 obtain rfl:=Option.some.inj H
 refine wp_ret ?_
 repeat first | refine zt ?_ | refine zb ?_ | refine zo ?_
 exact ret_1 results37 q (rv_tmp q rfl) ⟨rfl,s.bel⟩
 rw [ifb_f hb_142] at H
 refine wp_skip<|zr<|zm q rfl fun a q=>zl q (r_ibin q rfl rfl rfl) fun a q=>za q rfl fun a q=>zn ?_
 exact ⟨_,Nat.lt_succ_self _,(IntKind.i64.wrap (x_48 + 1)),H,q.sub (zc (zc (zc zz))),s⟩
 rw [ifb_f hb_101] at H
 refine wp_exit ?_
 refine zq<|zq<|zr<|zm q rfl fun a q=>zl q (r_len_R underlying31 h0_0 q rfl) fun a q=>zm q rfl fun a q=>zl q (r_len_R underlying31 h1_0 q rfl) fun a q=>zl q (r_ibin q rfl rfl rfl) fun a q=>zn ?_
 refine wp_cond_split (q.ev rfl) (fun (hb_143 : (decide ((a0.length : Int) < (a1.length : Int))) = true)=>?_) fun hb_143=>?_
 rw [ifb_t hb_143] at H
 refine zq<|zr<|za q rfl fun a q=>zn ?_
 obtain rfl:=Option.some.inj H
 refine wp_ret ?_
 repeat first | refine zt ?_ | refine zb ?_ | refine zo ?_
 exact ret_1 results37 q (rv_tmp q rfl) ⟨rfl,s.bel⟩
 rw [ifb_f hb_143] at H
 refine wp_skip<|zq<|zq<|zr<|zm q rfl fun a q=>zl q (r_len_R underlying31 h0_0 q rfl) fun a q=>zm q rfl fun a q=>zl q (r_len_R underlying31 h1_0 q rfl) fun a q=>zl q (r_ibin q rfl rfl rfl) fun a q=>zn ?_
 refine wp_cond_split (q.ev rfl) (fun (hb_144 : (decide ((a0.length : Int) > (a1.length : Int))) = true)=>?_) fun hb_144=>?_
 rw [ifb_t hb_144] at H
 refine zq<|zr<|za q rfl fun a q=>zn ?_
 obtain rfl:=Option.some.inj H
 refine wp_ret ?_
 repeat first | refine zt ?_ | refine zb ?_ | refine zo ?_
 exact ret_1 results37 q (rv_tmp q rfl) ⟨rfl,s.bel⟩
 rw [ifb_f hb_144] at H
 refine wp_skip<|zq<|zr<|za q rfl fun a q=>zn ?_
 obtain rfl:=Option.some.inj H
 refine wp_ret ?_
 repeat first | refine zt ?_ | refine zb ?_ | refine zo ?_
 exact ret_1 results37 q (rv_tmp q rfl) ⟨rfl,s.bel⟩
theorem ref02_Same.calls (a0 : api_Table) (a1 : api_Table) {w0 : World} {RA : Hp} {v0_0 : Value} {v0_1 : Value} {v1_0 : Value} {v1_1 : Value} (hRA : RA.sub w0) (h0_0 : SlR ty_api_Col RA v0_0 a0.Cols) (h0_1 : SlR (tySl ty_api_Value) RA v0_1 a0.Rows) (h1_0 : SlR ty_api_Col RA v1_0 a1.Cols) (h1_1 : SlR (tySl ty_api_Value) RA v1_1 a1.Rows) {r : Bool} (H : ref02_Same a0 a1 = some r) : CallsV prog 13 #[.agg #[v0_0,v0_1],.agg #[v1_0,v1_1]] w0 (.bool r):=by
 unfold ref02_Same at H
 refine enter (args:=[.agg #[v0_0,v0_1],.agg #[v1_0,v1_1]]) func13 rfl ntmps13 rfl fun a q=>?_
 have s:=St.init (R:=fun _=>none) (w:=w0) (fun _ _ h=>by cases h)
 have hRL:=RLe.refl (M:=[]) w0 (fun _=>none)
 refine zq<|zr ?_
 refine sl_box s q (by decide) rfl rfl (c:=[v0_0,v0_1]) rfl fun a w b_1 s q=>?_
 refine sl_box s q (by decide) rfl rfl (c:=[v1_0,v1_1]) rfl fun a w b_2 s q=>?_
 refine za q rfl fun a q=>zn<|zq<|zq ?_
 refine wp_mid (fun a w=>∃ (x_6 : Bool),ref02_Same.j0 a0 a1 x_6 = some r ∧ Kn 40 a [(2,.pointer (some ⟨b_1,0,none⟩)),(3,.pointer (some ⟨b_2,0,none⟩)),(20,.bool x_6)] ∧ St [] w0 w (fun _=>none) [.cells b_1 [v0_0,v0_1] 41,.cells b_2 [v1_0,v1_1] 41]) ?_ ?_
 refine zr<|zl q (r_fieldAddr underlying41 rfl sizeOf38 q rfl) fun a q=>zl q (r_load isAgg38 q rfl (s.cell z1 rfl)) fun a q=>zl q (r_fieldAddr underlying41 rfl sizeOf38 q rfl) fun a q=>zl q (r_load isAgg38 q rfl (s.cell z0 rfl)) fun a q=>?_
 obtain ⟨y_8,h_9,H⟩:=bs H
 refine sl_callV call36 s q (by decide) rfl rfl rfl (ref02_SameCols.calls a0.Cols a1.Cols (lentOf_sub [] _) (h0_0.mono (s.raLe0 hRA nil_not)) (h1_0.mono (s.raLe0 hRA nil_not)) h_9) fun a w s q=>?_
 refine zl q (r_un q rfl (u_not _)) fun a q=>zm q rfl fun a q=>?_
 rcases or_b (!y_8) with hb_10 | hb_10
 rw [ifb_t hb_10] at H
 refine zsw q (wft hb_10) fun a q=>zsw q (wft hb_10) fun a q=>zsw q (wft hb_10) fun a q=>zsw q (wft hb_10) fun a q=>zsw q (wft hb_10) fun a q=>zsw q (wft hb_10) fun a q=>zsw q (wft hb_10) fun a q=>zl q (r_pick_t hb_10 q rfl rfl) fun a q=>zn ?_
 have s:=s.pk1
 exact ⟨true,H,q.sub (zc (zc (zc zz))),s⟩
 rw [ifb_f hb_10] at H
 refine zw q (wff hb_10) (r_fieldAddr underlying41 rfl sizeOf39 q rfl) fun a q=>zw q (wff hb_10) (r_load isAgg39 q rfl (s.cell z1 rfl)) fun a q=>zw q (wff hb_10) (r_len_R underlying39 h0_1 q rfl) fun a q=>zw q (wff hb_10) (r_fieldAddr underlying41 rfl sizeOf39 q rfl) fun a q=>zw q (wff hb_10) (r_load isAgg39 q rfl (s.cell z0 rfl)) fun a q=>zw q (wff hb_10) (r_len_R underlying39 h1_1 q rfl) fun a q=>zw q (wff hb_10) (r_ibin q rfl rfl rfl) fun a q=>zl q (r_pick_f hb_10 q rfl rfl) fun a q=>zn ?_
 have s:=s.pk1
 exact ⟨((a0.Rows.length : Int) != (a1.Rows.length : Int)),H,q.sub (zc (zc (zc zz))),s⟩
 rintro a w ⟨x_6,H,q,s⟩
 unfold ref02_Same.j0 at H
 refine wp_cond_split (q.ev rfl) (fun (hb_11 : x_6 = true)=>?_) fun hb_11=>?_
 rw [ifb_t hb_11] at H
 refine zq<|zr<|za q rfl fun a q=>zn ?_
 obtain rfl:=Option.some.inj H
 refine wp_ret ?_
 repeat first | refine zt ?_ | refine zb ?_ | refine zo ?_
 exact ret_1 results13 q (rv_tmp q rfl) ⟨rfl,s.bel⟩
 rw [ifb_f hb_11] at H
 refine wp_skip<|zq<|zq<|zr<|za q rfl fun a q=>zn ?_
 refine wp_block ?_
 refine wp_loop_k (fun k_l1 a w=>∃ (x_63 : Int),ref02_Same.l1 a0 a1 k_l1 x_63 = some r ∧ Kn 40 a [(2,.pointer (some ⟨b_1,0,none⟩)),(3,.pointer (some ⟨b_2,0,none⟩)),(5,I6 x_63)] ∧ St [] w0 w (fun _=>none) [.cells b_1 [v0_0,v0_1] 41,.cells b_2 [v1_0,v1_1] 41]) (((a0.Rows.length : Int) - 0).toNat + 1) ?_ ?_
 have s:=s.pk1
 have s:=s.pk1
 exact ⟨0,H,q.sub (zc (zc (zc zz))),s⟩
 rintro k_l1 a w ⟨x_63,H,q,s⟩
 rcases k_l1 with _ | k_l1
 cases H
 rw [ref02_Same.l1.eq_2] at H
 refine zq<|zq<|zr<|zm q rfl fun a q=>zl q (r_fieldAddr underlying41 rfl sizeOf39 q rfl) fun a q=>zl q (r_load isAgg39 q rfl (s.cell z0 rfl)) fun a q=>zl q (r_len_R underlying39 h0_1 q rfl) fun a q=>zl q (r_ibin q rfl rfl rfl) fun a q=>zn ?_
 refine wp_cond_split (q.ev rfl) (fun (hb_115 : (decide (x_63 < (a0.Rows.length : Int))) = true)=>?_) fun hb_115=>?_
 rw [ifb_t hb_115] at H
 refine wp_skip<|zq ?_
 refine wp_block ?_
 refine zq ?_
 refine parT_region (C:=fun w=>St [] w0 w (fun _=>none) [.cells b_1 [v0_0,v0_1] 41,.cells b_2 [v1_0,v1_1] 41]) 10 [(0,true),(1,true),(2,true),(3,true),(4,true),(5,true),(6,true),(7,true),(8,true),(9,true)] mixed (by kernel_rfl) s (fun w s=>s) fun w s=>?_
 refine zp rfl q (fun w s=>r_fieldAddr underlying41 rfl sizeOf39 q rfl) fun a q=>zp rfl q (fun w s=>r_load isAgg39 q rfl (s.cell z0 rfl)) fun a q=>zp rfl q (fun w s=>r_move q rfl) fun a q=>?_
 obtain ⟨y_140,h_141,H⟩:=bs H
 obtain ⟨b_142,o_143,c_144,cs_145,hv_146,hr_147,hc_148,h_1410,h_1411⟩:=h0_1.ix h_141
 obtain ⟨v_149,rfl,hs_150⟩:=hr_147
 refine zp rfl q (fun w s=>r_indexAddr_R underlying39 sizeOf31 hv_146 h_1410 h_1411 q rfl rfl) fun a q=>zp rfl q (fun w s=>r_load isAgg31 q rfl ((s.ra hRA nil_not).cell (hc_148 0 _ rfl))) fun a q=>zp rfl q (fun w s=>r_fieldAddr underlying41 rfl sizeOf39 q rfl) fun a q=>zp rfl q (fun w s=>r_load isAgg39 q rfl (s.cell z1 rfl)) fun a q=>zp rfl q (fun w s=>r_move q rfl) fun a q=>?_
 obtain ⟨y_151,h_152,H⟩:=bs H
 obtain ⟨b_153,o_154,c_155,cs_156,hv_157,hr_158,hc_159,h_1520,h_1521⟩:=h1_1.ix h_152
 obtain ⟨v_160,rfl,hs_161⟩:=hr_158
 refine zp rfl q (fun w s=>r_indexAddr_R underlying39 sizeOf31 hv_157 h_1520 h_1521 q rfl rfl) fun a q=>zp rfl q (fun w s=>r_load isAgg31 q rfl ((s.ra hRA nil_not).cell (hc_159 0 _ rfl))) fun a q=>?_
 refine thenL_nil ?_
 obtain ⟨y_162,h_163,H⟩:=bs H
 refine sl_callV call37 s q (by decide) rfl rfl rfl (ref02_Row.calls y_140 y_151 (lentOf_sub [] _) (hs_150.mono (s.raLe0 hRA nil_not)) (hs_161.mono (s.raLe0 hRA nil_not)) h_163) fun a w s q=>?_
 refine zl q (r_ibin q rfl rfl rfl) fun a q=>?_
 refine wpList_nil (NoP_nil ?_)
 refine wp_cond_split (q.ev rfl) (fun (hb_164 : (y_162 != 0) = true)=>?_) fun hb_164=>?_
 rw [ifb_t hb_164] at H
 refine zq<|zr<|za q rfl fun a q=>zn ?_
 obtain rfl:=Option.some.inj H
 refine wp_ret ?_
 repeat first | refine zt ?_ | refine zb ?_ | refine zo ?_
 exact ret_1 results13 q (rv_tmp q rfl) ⟨rfl,s.bel⟩
 rw [ifb_f hb_164] at H
 refine wp_skip<|zr<|zm q rfl fun a q=>zl q (r_ibin q rfl rfl rfl) fun a q=>za q rfl fun a q=>zn ?_
 have s:=s.pk1
 have s:=s.pk1
 exact ⟨_,Nat.lt_succ_self _,(IntKind.i64.wrap (x_63 + 1)),H,q.sub (zc (zc (zc zz))),s⟩
 rw [ifb_f hb_115] at H
 refine wp_exit ?_
 refine zq<|zr<|za q rfl fun a q=>zn ?_
 obtain rfl:=Option.some.inj H
 refine wp_ret ?_
 repeat first | refine zt ?_ | refine zb ?_ | refine zo ?_
 exact ret_1 results13 q (rv_tmp q rfl) ⟨rfl,s.bel⟩
end Go.Proofs.YtchgiggipimigaaGreatDoor.M
end
section
namespace Go.Proofs.YtchgiggipimigaaGreatDoor.M
open Go Go.Eng Go.Proofs Go.RowKit
set_option linter.unusedVariables false
set_option linter.unusedSimpArgs false
open Go.Proofs.Tryz
set_option maxHeartbeats 4000000
set_option maxRecDepth 100000
theorem ref02_Name.calls (a0 : ByteArray) {r : Bool} (H : ref02_Name a0 = some r) (w0 : World) : CallsV prog 92 #[.string a0] w0 (.bool r):=by
 unfold ref02_Name at H
 refine enter (args:=[.string a0]) func92 rfl ntmps92 rfl fun a q=>?_
 have s:=St.init (R:=fun _=>none) (w:=w0) (fun _ _ h=>by cases h)
 have hRL:=RLe.refl (M:=[]) w0 (fun _=>none)
 refine zq<|zr<|za q rfl fun a q=>zn<|zq<|zq ?_
 refine wp_mid (fun a w=>∃ (x_8 : Bool),ref02_Name.j0 a0 x_8 = some r ∧ Kn 55 a [(0,.string a0),(22,.bool x_8)] ∧ St [] w0 w (fun _=>none) []) ?_ ?_
 refine zr<|zm q rfl fun a q=>zl q (r_len_str underlying9 q rfl) fun a q=>zl q (r_ibin q rfl rfl rfl) fun a q=>zm q rfl fun a q=>?_
 rcases or_b (decide ((a0.size : Int) < 1)) with hb_10 | hb_10
 rw [ifb_t hb_10] at H
 refine zsw q (wft hb_10) fun a q=>zsw q (wft hb_10) fun a q=>zsw q (wft hb_10) fun a q=>zl q (r_pick_t hb_10 q rfl rfl) fun a q=>zm q rfl fun a q=>zs q fun a q=>zs q fun a q=>zs q fun a q=>zl q (r_pick q rfl rfl rfl) fun a q=>zm q rfl fun a q=>zs q fun a q=>zs q fun a q=>zs q fun a q=>zl q (r_pick q rfl rfl rfl) fun a q=>zn ?_
 exact ⟨true,H,q.sub (zc (zc zz)),s⟩
 rw [ifb_f hb_10] at H
 refine zw q (wff hb_10) (r_move q rfl) fun a q=>zw q (wff hb_10) (r_len_str underlying9 q rfl) fun a q=>zw q (wff hb_10) (r_ibin q rfl rfl rfl) fun a q=>zl q (r_pick_f hb_10 q rfl rfl) fun a q=>zm q rfl fun a q=>?_
 rcases or_b (decide ((a0.size : Int) > 24)) with hb_11 | hb_11
 rw [ifb_t hb_11] at H
 refine zsw q (wft hb_11) fun a q=>zsw q (wft hb_11) fun a q=>zsw q (wft hb_11) fun a q=>zl q (r_pick_t hb_11 q rfl rfl) fun a q=>zm q rfl fun a q=>zs q fun a q=>zs q fun a q=>zs q fun a q=>zl q (r_pick q rfl rfl rfl) fun a q=>zn ?_
 exact ⟨true,H,q.sub (zc (zc zz)),s⟩
 rw [ifb_f hb_11] at H
 refine zw q (wff hb_11) (r_move q rfl) fun a q=>?_
 obtain ⟨y_12,h_13,H⟩:=bs H
 refine zw q (wff hb_11) (r_index_str' underlying9 h_13 q rfl rfl) fun a q=>zw q (wff hb_11) (r_ibin q rfl rfl rfl) fun a q=>zl q (r_pick_f hb_11 q rfl rfl) fun a q=>zm q rfl fun a q=>?_
 rcases or_b (decide (y_12 < 97)) with hb_14 | hb_14
 rw [ifb_t hb_14] at H
 refine zsw q (wft hb_14) fun a q=>zsw q (wft hb_14) fun a q=>zsw q (wft hb_14) fun a q=>zl q (r_pick_t hb_14 q rfl rfl) fun a q=>zn ?_
 exact ⟨true,H,q.sub (zc (zc zz)),s⟩
 rw [ifb_f hb_14] at H
 refine zw q (wff hb_14) (r_move q rfl) fun a q=>?_
 obtain ⟨y_15,h_16,H⟩:=bs H
 refine zw q (wff hb_14) (r_index_str' underlying9 h_16 q rfl rfl) fun a q=>zw q (wff hb_14) (r_ibin q rfl rfl rfl) fun a q=>zl q (r_pick_f hb_14 q rfl rfl) fun a q=>zn ?_
 exact ⟨(decide (y_15 > 122)),H,q.sub (zc (zc zz)),s⟩
 rintro a w ⟨x_8,H,q,s⟩
 unfold ref02_Name.j0 at H
 refine wp_cond_split (q.ev rfl) (fun (hb_17 : x_8 = true)=>?_) fun hb_17=>?_
 rw [ifb_t hb_17] at H
 refine zq<|zr<|za q rfl fun a q=>zn ?_
 obtain rfl:=Option.some.inj H
 refine wp_ret ?_
 repeat first | refine zt ?_ | refine zb ?_ | refine zo ?_
 exact ret_1 results92 q (rv_tmp q rfl) ⟨rfl,s.bel⟩
 rw [ifb_f hb_17] at H
 refine wp_skip<|zq<|zq<|zr<|za q rfl fun a q=>zn ?_
 refine wp_block ?_
 refine wp_loop_k (fun k_l1 a w=>∃ (x_45 : Int),ref02_Name.l1 a0 k_l1 x_45 = some r ∧ Kn 55 a [(0,.string a0),(3,I6 x_45)] ∧ St [] w0 w (fun _=>none) []) (((a0.size : Int) - 0).toNat + 1) ?_ ?_
 exact ⟨0,H,q.sub (zc (zc zz)),s⟩
 rintro k_l1 a w ⟨x_45,H,q,s⟩
 rcases k_l1 with _ | k_l1
 cases H
 rw [ref02_Name.l1.eq_2] at H
 refine zq<|zq<|zr<|zm q rfl fun a q=>zm q rfl fun a q=>zl q (r_len_str underlying9 q rfl) fun a q=>zl q (r_ibin q rfl rfl rfl) fun a q=>zn ?_
 refine wp_cond_split (q.ev rfl) (fun (hb_73 : (decide (x_45 < (a0.size : Int))) = true)=>?_) fun hb_73=>?_
 rw [ifb_t hb_73] at H
 refine wp_skip<|zq ?_
 refine wp_block ?_
 refine zq<|zr<|zm q rfl fun a q=>zm q rfl fun a q=>?_
 obtain ⟨y_74,h_75,H⟩:=bs H
 refine zl q (r_index_str' underlying9 h_75 q rfl rfl) fun a q=>za q rfl fun a q=>zn<|zq ?_
 refine wp_mid (fun a w=>∃ (x_86 : Bool),ref02_Name.j2 (ref02_Name.l1 a0 k_l1) a0 x_45 x_86 = some r ∧ Kn 55 a [(0,.string a0),(3,I6 x_45),(54,.bool x_86)] ∧ St [] w0 w (fun _=>none) []) ?_ ?_
 refine zr<|zm q rfl fun a q=>zl q (r_ibin q rfl rfl rfl) fun a q=>zm q rfl fun a q=>?_
 rcases or_b (decide (y_74 ≥ 97)) with hb_88 | hb_88
 rw [ifb_t hb_88] at H
 refine zw q (wtt hb_88) (r_move q rfl) fun a q=>zw q (wtt hb_88) (r_ibin q rfl rfl rfl) fun a q=>zl q (r_pick_t hb_88 q rfl rfl) fun a q=>zm q rfl fun a q=>?_
 rcases or_b (decide (y_74 ≤ 122)) with hb_89 | hb_89
 rw [ifb_t hb_89] at H
 refine zsw q (wft hb_89) fun a q=>zsw q (wft hb_89) fun a q=>zsw q (wft hb_89) fun a q=>zs q fun a q=>zs q fun a q=>zsw q (wft hb_89) fun a q=>zl q (r_pick_t hb_89 q rfl rfl) fun a q=>zm q rfl fun a q=>zs q fun a q=>zs q fun a q=>zl q (r_pick q rfl rfl rfl) fun a q=>zm q rfl fun a q=>zs q fun a q=>zs q fun a q=>zl q (r_pick q rfl rfl rfl) fun a q=>zl q (r_un q rfl (u_not _)) fun a q=>zn ?_
 exact ⟨false,H,q.sub (zc (zc (zc zz))),s⟩
 rw [ifb_f hb_89] at H
 refine zw q (wff hb_89) (r_move q rfl) fun a q=>zw q (wff hb_89) (r_ibin q rfl rfl rfl) fun a q=>zw q (wff hb_89) (r_move q rfl) fun a q=>?_
 rcases or_b (decide (y_74 ≥ 48)) with hb_90 | hb_90
 rw [ifb_t hb_90] at H
 refine zw q (wtt hb_90) (r_move q rfl) fun a q=>zw q (wtt hb_90) (r_ibin q rfl rfl rfl) fun a q=>zw q (wff hb_89) (r_pick_t hb_90 q rfl rfl) fun a q=>zl q (r_pick_f hb_89 q rfl rfl) fun a q=>zm q rfl fun a q=>?_
 rcases or_b (decide (y_74 ≤ 57)) with hb_91 | hb_91
 rw [ifb_t hb_91] at H
 refine zsw q (wft hb_91) fun a q=>zsw q (wft hb_91) fun a q=>zl q (r_pick_t hb_91 q rfl rfl) fun a q=>zm q rfl fun a q=>zs q fun a q=>zs q fun a q=>zl q (r_pick q rfl rfl rfl) fun a q=>zl q (r_un q rfl (u_not _)) fun a q=>zn ?_
 exact ⟨false,H,q.sub (zc (zc (zc zz))),s⟩
 rw [ifb_f hb_91] at H
 refine zw q (wff hb_91) (r_move q rfl) fun a q=>zw q (wff hb_91) (r_ibin q rfl rfl rfl) fun a q=>zl q (r_pick_f hb_91 q rfl rfl) fun a q=>zm q rfl fun a q=>?_
 rcases or_b (y_74 == 95) with hb_92 | hb_92
 rw [ifb_t hb_92] at H
 refine zsw q (wft hb_92) fun a q=>zsw q (wft hb_92) fun a q=>zl q (r_pick_t hb_92 q rfl rfl) fun a q=>zl q (r_un q rfl (u_not _)) fun a q=>zn ?_
 exact ⟨false,H,q.sub (zc (zc (zc zz))),s⟩
 rw [ifb_f hb_92] at H
 refine zw q (wff hb_92) (r_move q rfl) fun a q=>zw q (wff hb_92) (r_ibin q rfl rfl rfl) fun a q=>zl q (r_pick_f hb_92 q rfl rfl) fun a q=>zl q (r_un q rfl (u_not _)) fun a q=>zn ?_
 exact ⟨(!(y_74 == 35)),H,q.sub (zc (zc (zc zz))),s⟩
 rw [ifb_f hb_90] at H
 refine zsw q (wtf hb_90) fun a q=>zsw q (wtf hb_90) fun a q=>zw q (wff hb_89) (r_pick_f hb_90 q rfl rfl) fun a q=>zl q (r_pick_f hb_89 q rfl rfl) fun a q=>zm q rfl fun a q=>zm q rfl fun a q=>zl q (r_ibin q rfl rfl rfl) fun a q=>zl q (r_pick q rfl rfl rfl) fun a q=>zm q rfl fun a q=>?_
 rcases or_b (y_74 == 95) with hb_93 | hb_93
 rw [ifb_t hb_93] at H
 refine zsw q (wft hb_93) fun a q=>zsw q (wft hb_93) fun a q=>zl q (r_pick_t hb_93 q rfl rfl) fun a q=>zl q (r_un q rfl (u_not _)) fun a q=>zn ?_
 exact ⟨false,H,q.sub (zc (zc (zc zz))),s⟩
 rw [ifb_f hb_93] at H
 refine zw q (wff hb_93) (r_move q rfl) fun a q=>zw q (wff hb_93) (r_ibin q rfl rfl rfl) fun a q=>zl q (r_pick_f hb_93 q rfl rfl) fun a q=>zl q (r_un q rfl (u_not _)) fun a q=>zn ?_
 exact ⟨(!(y_74 == 35)),H,q.sub (zc (zc (zc zz))),s⟩
 rw [ifb_f hb_88] at H
 refine zsw q (wtf hb_88) fun a q=>zsw q (wtf hb_88) fun a q=>zl q (r_pick_f hb_88 q rfl rfl) fun a q=>zm q rfl fun a q=>zm q rfl fun a q=>zl q (r_ibin q rfl rfl rfl) fun a q=>zm q rfl fun a q=>?_
 rcases or_b (decide (y_74 ≥ 48)) with hb_94 | hb_94
 rw [ifb_t hb_94] at H
 refine zw q (wtt hb_94) (r_move q rfl) fun a q=>zw q (wtt hb_94) (r_ibin q rfl rfl rfl) fun a q=>zl q (r_pick_t hb_94 q rfl rfl) fun a q=>zl q (r_pick q rfl rfl rfl) fun a q=>zm q rfl fun a q=>?_
 rcases or_b (decide (y_74 ≤ 57)) with hb_95 | hb_95
 rw [ifb_t hb_95] at H
 refine zsw q (wft hb_95) fun a q=>zsw q (wft hb_95) fun a q=>zl q (r_pick_t hb_95 q rfl rfl) fun a q=>zm q rfl fun a q=>zs q fun a q=>zs q fun a q=>zl q (r_pick q rfl rfl rfl) fun a q=>zl q (r_un q rfl (u_not _)) fun a q=>zn ?_
 exact ⟨false,H,q.sub (zc (zc (zc zz))),s⟩
 rw [ifb_f hb_95] at H
 refine zw q (wff hb_95) (r_move q rfl) fun a q=>zw q (wff hb_95) (r_ibin q rfl rfl rfl) fun a q=>zl q (r_pick_f hb_95 q rfl rfl) fun a q=>zm q rfl fun a q=>?_
 rcases or_b (y_74 == 95) with hb_96 | hb_96
 rw [ifb_t hb_96] at H
 refine zsw q (wft hb_96) fun a q=>zsw q (wft hb_96) fun a q=>zl q (r_pick_t hb_96 q rfl rfl) fun a q=>zl q (r_un q rfl (u_not _)) fun a q=>zn ?_
 exact ⟨false,H,q.sub (zc (zc (zc zz))),s⟩
 rw [ifb_f hb_96] at H
 refine zw q (wff hb_96) (r_move q rfl) fun a q=>zw q (wff hb_96) (r_ibin q rfl rfl rfl) fun a q=>zl q (r_pick_f hb_96 q rfl rfl) fun a q=>zl q (r_un q rfl (u_not _)) fun a q=>zn ?_
 exact ⟨(!(y_74 == 35)),H,q.sub (zc (zc (zc zz))),s⟩
 rw [ifb_f hb_94] at H
 refine zsw q (wtf hb_94) fun a q=>zsw q (wtf hb_94) fun a q=>zl q (r_pick_f hb_94 q rfl rfl) fun a q=>zl q (r_pick q rfl rfl rfl) fun a q=>zm q rfl fun a q=>zm q rfl fun a q=>zl q (r_ibin q rfl rfl rfl) fun a q=>zl q (r_pick q rfl rfl rfl) fun a q=>zm q rfl fun a q=>?_
 rcases or_b (y_74 == 95) with hb_97 | hb_97
 rw [ifb_t hb_97] at H
 refine zsw q (wft hb_97) fun a q=>zsw q (wft hb_97) fun a q=>zl q (r_pick_t hb_97 q rfl rfl) fun a q=>zl q (r_un q rfl (u_not _)) fun a q=>zn ?_
 exact ⟨false,H,q.sub (zc (zc (zc zz))),s⟩
 rw [ifb_f hb_97] at H
 refine zw q (wff hb_97) (r_move q rfl) fun a q=>zw q (wff hb_97) (r_ibin q rfl rfl rfl) fun a q=>zl q (r_pick_f hb_97 q rfl rfl) fun a q=>zl q (r_un q rfl (u_not _)) fun a q=>zn ?_
 exact ⟨(!(y_74 == 35)),H,q.sub (zc (zc (zc zz))),s⟩
 rintro a w ⟨x_86,H,q,s⟩
 unfold ref02_Name.j2 at H
 refine wp_cond_split (q.ev rfl) (fun (hb_98 : x_86 = true)=>?_) fun hb_98=>?_
 rw [ifb_t hb_98] at H
 refine zq<|zr<|za q rfl fun a q=>zn ?_
 obtain rfl:=Option.some.inj H
 refine wp_ret ?_
 repeat first | refine zt ?_ | refine zb ?_ | refine zo ?_
 exact ret_1 results92 q (rv_tmp q rfl) ⟨rfl,s.bel⟩
 rw [ifb_f hb_98] at H
 refine wp_skip<|zr<|zm q rfl fun a q=>zl q (r_ibin q rfl rfl rfl) fun a q=>za q rfl fun a q=>zn ?_
 exact ⟨_,Nat.lt_succ_self _,(IntKind.i64.wrap (x_45 + 1)),H,q.sub (zc (zc zz)),s⟩
 rw [ifb_f hb_73] at H
 refine wp_exit ?_
 refine zq<|zr<|za q rfl fun a q=>zn ?_
 obtain rfl:=Option.some.inj H
 refine wp_ret ?_
 repeat first | refine zt ?_ | refine zb ?_ | refine zo ?_
 exact ret_1 results92 q (rv_tmp q rfl) ⟨rfl,s.bel⟩
theorem ref02_Find.calls (a0 : List api_Col) (a1 : ByteArray) {w0 : World} {RA : Hp} {v0_0 : Value} (hRA : RA.sub w0) (h0_0 : SlR ty_api_Col RA v0_0 a0) {r : Int} (H : ref02_Find a0 a1 = some r) : CallsV prog 93 #[v0_0,.string a1] w0 (I6 r):=by
 unfold ref02_Find at H
 refine enter (args:=[v0_0,.string a1]) func93 rfl ntmps93 rfl fun a q=>?_
 have s:=St.init (R:=fun _=>none) (w:=w0) (fun _ _ h=>by cases h)
 have hRL:=RLe.refl (M:=[]) w0 (fun _=>none)
 refine zq<|zr<|za q rfl fun a q=>zn<|zq<|zq<|zr<|za q rfl fun a q=>zn ?_
 refine wp_block ?_
 refine wp_loop_k (fun k_l0 a w=>∃ (x_13 : Int),ref02_Find.l0 a0 a1 k_l0 x_13 = some r ∧ Kn 20 a [(0,v0_0),(1,.string a1),(5,I6 x_13)] ∧ St [] w0 w (fun _=>none) []) (((a0.length : Int) - 0).toNat + 1) ?_ ?_
 exact ⟨0,H,q.sub (zc (zc (zc zz))),s⟩
 rintro k_l0 a w ⟨x_13,H,q,s⟩
 rcases k_l0 with _ | k_l0
 cases H
 rw [ref02_Find.l0.eq_2] at H
 refine zq<|zq<|zr<|zm q rfl fun a q=>zm q rfl fun a q=>zl q (r_len_R underlying38 h0_0 q rfl) fun a q=>zl q (r_ibin q rfl rfl rfl) fun a q=>zn ?_
 refine wp_cond_split (q.ev rfl) (fun (hb_26 : (decide (x_13 < (a0.length : Int))) = true)=>?_) fun hb_26=>?_
 rw [ifb_t hb_26] at H
 refine wp_skip<|zq ?_
 refine wp_block ?_
 refine zq<|zr<|zm q rfl fun a q=>zm q rfl fun a q=>?_
 obtain ⟨y_27,h_28,H⟩:=bs H
 obtain ⟨b_29,o_30,c_31,cs_32,hv_33,hr_34,hc_35,h_280,h_281⟩:=h0_0.ix h_28
 subst hr_34
 refine zl q (r_indexAddr_R underlying38 sizeOf65 hv_33 h_280 h_281 q rfl rfl) fun a q=>zl q (r_fieldAddr underlying65 rfl sizeOf9 q rfl) fun a q=>zl q (r_load isAgg9 q rfl ((s.ra hRA nil_not).cell (hc_35 0 _ rfl))) fun a q=>zm q rfl fun a q=>zl q (r_sbin q rfl rfl rfl) fun a q=>zn ?_
 refine wp_cond_split (q.ev rfl) (fun (hb_36 : (y_27.Name.toList == a1.toList) = true)=>?_) fun hb_36=>?_
 rw [ifb_t hb_36] at H
 refine zq<|zr<|zm q rfl fun a q=>za q rfl fun a q=>zn ?_
 obtain rfl:=Option.some.inj H
 refine wp_ret ?_
 repeat first | refine zt ?_ | refine zb ?_ | refine zo ?_
 exact ret_1 results93 q (rv_tmp q rfl) ⟨rfl,s.bel⟩
 rw [ifb_f hb_36] at H
 refine wp_skip<|zr<|zm q rfl fun a q=>zl q (r_ibin q rfl rfl rfl) fun a q=>za q rfl fun a q=>zn ?_
 exact ⟨_,Nat.lt_succ_self _,(IntKind.i64.wrap (x_13 + 1)),H,q.sub (zc (zc (zc zz))),s⟩
 rw [ifb_f hb_26] at H
 refine wp_exit ?_
 refine zq<|zr<|za q rfl fun a q=>zn ?_
 obtain rfl:=Option.some.inj H
 refine wp_ret ?_
 repeat first | refine zt ?_ | refine zb ?_ | refine zo ?_
 exact ret_1 results93 q (rv_tmp q rfl) ⟨rfl,s.bel⟩
theorem ref02_Cols.calls (a0 : List api_Col) {w0 : World} {RA : Hp} {v0_0 : Value} (hRA : RA.sub w0) (h0_0 : SlR ty_api_Col RA v0_0 a0) {r : Bool} (H : ref02_Cols a0 = some r) : CallsV prog 62 #[v0_0] w0 (.bool r):=by
 unfold ref02_Cols at H
 refine enter (args:=[v0_0]) func62 rfl ntmps62 rfl fun a q=>?_
 have s:=St.init (R:=fun _=>none) (w:=w0) (fun _ _ h=>by cases h)
 have hRL:=RLe.refl (M:=[]) w0 (fun _=>none)
 refine zq<|zr<|za q rfl fun a q=>zn<|zq<|zq ?_
 refine wp_mid (fun a w=>∃ (x_2 : Bool),ref02_Cols.j0 a0 x_2 = some r ∧ Kn 52 a [(0,v0_0),(11,.bool x_2)] ∧ St [] w0 w (fun _=>none) []) ?_ ?_
 refine zr<|zm q rfl fun a q=>zl q (r_len_R underlying38 h0_0 q rfl) fun a q=>zl q (r_ibin q rfl rfl rfl) fun a q=>zm q rfl fun a q=>?_
 rcases or_b (decide ((a0.length : Int) < 1)) with hb_4 | hb_4
 rw [ifb_t hb_4] at H
 refine zsw q (wft hb_4) fun a q=>zsw q (wft hb_4) fun a q=>zsw q (wft hb_4) fun a q=>zl q (r_pick_t hb_4 q rfl rfl) fun a q=>zn ?_
 exact ⟨true,H,q.sub (zc (zc zz)),s⟩
 rw [ifb_f hb_4] at H
 refine zw q (wff hb_4) (r_move q rfl) fun a q=>zw q (wff hb_4) (r_len_R underlying38 h0_0 q rfl) fun a q=>zw q (wff hb_4) (r_ibin q rfl rfl rfl) fun a q=>zl q (r_pick_f hb_4 q rfl rfl) fun a q=>zn ?_
 exact ⟨(decide ((a0.length : Int) > 16)),H,q.sub (zc (zc zz)),s⟩
 rintro a w ⟨x_2,H,q,s⟩
 unfold ref02_Cols.j0 at H
 refine wp_cond_split (q.ev rfl) (fun (hb_5 : x_2 = true)=>?_) fun hb_5=>?_
 rw [ifb_t hb_5] at H
 refine zq<|zr<|za q rfl fun a q=>zn ?_
 obtain rfl:=Option.some.inj H
 refine wp_ret ?_
 repeat first | refine zt ?_ | refine zb ?_ | refine zo ?_
 exact ret_1 results62 q (rv_tmp q rfl) ⟨rfl,s.bel⟩
 rw [ifb_f hb_5] at H
 refine wp_skip<|zq<|zq<|zr<|za q rfl fun a q=>zn ?_
 refine wp_block ?_
 refine wp_loop_k (fun k_l1 a w=>∃ (x_97 : Int),ref02_Cols.l1 a0 k_l1 x_97 = some r ∧ Kn 52 a [(0,v0_0),(3,I6 x_97)] ∧ St [] w0 w (fun _=>none) []) (((a0.length : Int) - 0).toNat + 1) ?_ ?_
 exact ⟨0,H,q.sub (zc (zc zz)),s⟩
 rintro k_l1 a w ⟨x_97,H,q,s⟩
 rcases k_l1 with _ | k_l1
 cases H
 rw [ref02_Cols.l1.eq_2] at H
 refine zq<|zq<|zr<|zm q rfl fun a q=>zm q rfl fun a q=>zl q (r_len_R underlying38 h0_0 q rfl) fun a q=>zl q (r_ibin q rfl rfl rfl) fun a q=>zn ?_
 refine wp_cond_split (q.ev rfl) (fun (hb_189 : (decide (x_97 < (a0.length : Int))) = true)=>?_) fun hb_189=>?_
 rw [ifb_t hb_189] at H
 refine wp_skip<|zq ?_
 refine wp_block ?_
 refine zq ?_
 refine wp_mid (fun a w=>∃ (x_233 : Bool),ref02_Cols.j2 (ref02_Cols.l1 a0 k_l1) a0 x_97 x_233 = some r ∧ Kn 52 a [(0,v0_0),(3,I6 x_97),(51,.bool x_233)] ∧ St [] w0 w (fun _=>none) []) ?_ ?_
 refine zr<|zm q rfl fun a q=>zm q rfl fun a q=>?_
 obtain ⟨y_235,h_236,H⟩:=bs H
 obtain ⟨b_237,o_238,c_239,cs_240,hv_241,hr_242,hc_243,h_2360,h_2361⟩:=h0_0.ix h_236
 subst hr_242
 refine zl q (r_indexAddr_R underlying38 sizeOf65 hv_241 h_2360 h_2361 q rfl rfl) fun a q=>zl q (r_fieldAddr underlying65 rfl sizeOf9 q rfl) fun a q=>zl q (r_load isAgg9 q rfl ((s.ra hRA nil_not).cell (hc_243 0 _ rfl))) fun a q=>?_
 obtain ⟨y_244,h_245,H⟩:=bs H
 refine sl_callV call92 s q (by decide) rfl rfl rfl (ref02_Name.calls y_235.Name h_245 _) fun a w s q=>?_
 refine zl q (r_un q rfl (u_not _)) fun a q=>zm q rfl fun a q=>?_
 rcases or_b (!y_244) with hb_246 | hb_246
 rw [ifb_t hb_246] at H
 refine zsw q (wft hb_246) fun a q=>zsw q (wft hb_246) fun a q=>zsw q (wft hb_246) fun a q=>zsw q (wft hb_246) fun a q=>zsw q (wft hb_246) fun a q=>zsw q (wft hb_246) fun a q=>zsw q (wft hb_246) fun a q=>zsw q (wft hb_246) fun a q=>zsw q (wft hb_246) fun a q=>zl q (r_pick_t hb_246 q rfl rfl) fun a q=>zm q rfl fun a q=>zs q fun a q=>zs q fun a q=>zs q fun a q=>zs q fun a q=>zs q fun a q=>zs q fun a q=>zl q (r_pick q rfl rfl rfl) fun a q=>zm q rfl fun a q=>zs q fun a q=>zs q fun a q=>zs q fun a q=>zs q fun a q=>zs q fun a q=>zs q fun a q=>zl q (r_pick q rfl rfl rfl) fun a q=>zn ?_
 exact ⟨true,H,q.sub (zc (zc (zc zz))),s⟩
 rw [ifb_f hb_246] at H
 refine zw q (wff hb_246) (r_move q rfl) fun a q=>zw q (wff hb_246) (r_move q rfl) fun a q=>zw q (wff hb_246) (r_move q rfl) fun a q=>?_
 obtain ⟨y_247,h_248,H⟩:=bs H
 obtain ⟨b_249,o_250,c_251,cs_252,hv_253,hr_254,hc_255,h_2480,h_2481⟩:=h0_0.ix h_248
 subst hr_254
 refine zw q (wff hb_246) (r_indexAddr_R underlying38 sizeOf65 hv_253 h_2480 h_2481 q rfl rfl) fun a q=>zw q (wff hb_246) (r_fieldAddr underlying65 rfl sizeOf9 q rfl) fun a q=>zw q (wff hb_246) (r_load isAgg9 q rfl ((s.ra hRA nil_not).cell (hc_255 0 _ rfl))) fun a q=>?_
 obtain ⟨y_256,h_257,H⟩:=bs H
 refine sl_callV call93 s q (by decide) (wff hb_246) rfl rfl (ref02_Find.calls a0 y_247.Name (lentOf_sub [] _) (h0_0.mono (s.raLe0 hRA nil_not)) h_257) fun a w s q=>?_
 refine zw q (wff hb_246) (r_move q rfl) fun a q=>zw q (wff hb_246) (r_ibin q rfl rfl rfl) fun a q=>zl q (r_pick_f hb_246 q rfl rfl) fun a q=>zm q rfl fun a q=>?_
 rcases or_b (y_256 != x_97) with hb_258 | hb_258
 rw [ifb_t hb_258] at H
 refine zsw q (wft hb_258) fun a q=>zsw q (wft hb_258) fun a q=>zsw q (wft hb_258) fun a q=>zsw q (wft hb_258) fun a q=>zsw q (wft hb_258) fun a q=>zsw q (wft hb_258) fun a q=>zl q (r_pick_t hb_258 q rfl rfl) fun a q=>zm q rfl fun a q=>zs q fun a q=>zs q fun a q=>zs q fun a q=>zs q fun a q=>zs q fun a q=>zs q fun a q=>zl q (r_pick q rfl rfl rfl) fun a q=>zn ?_
 exact ⟨true,H,q.sub (zc (zc (zc zz))),s⟩
 rw [ifb_f hb_258] at H
 refine zw q (wff hb_258) (r_move q rfl) fun a q=>zw q (wff hb_258) (r_move q rfl) fun a q=>?_
 obtain ⟨y_259,h_260,H⟩:=bs H
 obtain ⟨b_261,o_262,c_263,cs_264,hv_265,hr_266,hc_267,h_2600,h_2601⟩:=h0_0.ix h_260
 subst hr_266
 refine zw q (wff hb_258) (r_indexAddr_R underlying38 sizeOf65 hv_265 h_2600 h_2601 q rfl rfl) fun a q=>zw q (wff hb_258) (r_fieldAddr underlying65 rfl sizeOf3 q rfl) fun a q=>zw q (wff hb_258) (r_load isAgg3 q rfl ((s.ra hRA nil_not).cell (hc_267 1 _ rfl))) fun a q=>zw q (wff hb_258) (r_ibin q rfl rfl rfl) fun a q=>zl q (r_pick_f hb_258 q rfl rfl) fun a q=>zm q rfl fun a q=>?_
 rcases or_b (decide (y_259.Kind < 1)) with hb_268 | hb_268
 rw [ifb_t hb_268] at H
 refine zsw q (wft hb_268) fun a q=>zsw q (wft hb_268) fun a q=>zsw q (wft hb_268) fun a q=>zsw q (wft hb_268) fun a q=>zsw q (wft hb_268) fun a q=>zsw q (wft hb_268) fun a q=>zl q (r_pick_t hb_268 q rfl rfl) fun a q=>zn ?_
 exact ⟨true,H,q.sub (zc (zc (zc zz))),s⟩
 rw [ifb_f hb_268] at H
 refine zw q (wff hb_268) (r_move q rfl) fun a q=>zw q (wff hb_268) (r_move q rfl) fun a q=>?_
 obtain ⟨y_269,h_270,H⟩:=bs H
 obtain ⟨b_271,o_272,c_273,cs_274,hv_275,hr_276,hc_277,h_2700,h_2701⟩:=h0_0.ix h_270
 subst hr_276
 refine zw q (wff hb_268) (r_indexAddr_R underlying38 sizeOf65 hv_275 h_2700 h_2701 q rfl rfl) fun a q=>zw q (wff hb_268) (r_fieldAddr underlying65 rfl sizeOf3 q rfl) fun a q=>zw q (wff hb_268) (r_load isAgg3 q rfl ((s.ra hRA nil_not).cell (hc_277 1 _ rfl))) fun a q=>zw q (wff hb_268) (r_ibin q rfl rfl rfl) fun a q=>zl q (r_pick_f hb_268 q rfl rfl) fun a q=>zn ?_
 exact ⟨(decide (y_269.Kind > 4)),H,q.sub (zc (zc (zc zz))),s⟩
 rintro a w ⟨x_233,H,q,s⟩
 unfold ref02_Cols.j2 at H
 refine wp_cond_split (q.ev rfl) (fun (hb_278 : x_233 = true)=>?_) fun hb_278=>?_
 rw [ifb_t hb_278] at H
 refine zq<|zr<|za q rfl fun a q=>zn ?_
 obtain rfl:=Option.some.inj H
 refine wp_ret ?_
 repeat first | refine zt ?_ | refine zb ?_ | refine zo ?_
 exact ret_1 results62 q (rv_tmp q rfl) ⟨rfl,s.bel⟩
 rw [ifb_f hb_278] at H
 refine wp_skip<|zr<|zm q rfl fun a q=>zl q (r_ibin q rfl rfl rfl) fun a q=>za q rfl fun a q=>zn ?_
 exact ⟨_,Nat.lt_succ_self _,(IntKind.i64.wrap (x_97 + 1)),H,q.sub (zc (zc zz)),s⟩
 rw [ifb_f hb_189] at H
 refine wp_exit ?_
 refine zq<|zr<|za q rfl fun a q=>zn ?_
 obtain rfl:=Option.some.inj H
 refine wp_ret ?_
 repeat first | refine zt ?_ | refine zb ?_ | refine zo ?_
 exact ret_1 results62 q (rv_tmp q rfl) ⟨rfl,s.bel⟩
theorem ref01_Valid.calls (a0 : api_Value) {r : Bool} (H : ref01_Valid a0 = some r) (w0 : World) : CallsV prog 63 #[.agg ⟨cV a0⟩] w0 (.bool r):=by
 unfold ref01_Valid at H
 refine enter (args:=[.agg ⟨cV a0⟩]) func63 rfl ntmps63 rfl fun a q=>?_
 have s:=St.init (R:=fun _=>none) (w:=w0) (fun _ _ h=>by cases h)
 have hRL:=RLe.refl (M:=[]) w0 (fun _=>none)
 refine zq<|zr ?_
 refine sl_box s q (by decide) rfl rfl (c:=(cV a0)) rfl fun a w b_1 s q=>?_
 refine za q rfl fun a q=>zn<|zq<|zr<|zl q (r_fieldAddr underlying58 rfl sizeOf56 q rfl) fun a q=>zl q (r_loadA (cs:=[I6 a0.H.a0,I6 a0.H.a1,I6 a0.H.a2,I6 a0.H.a3,I6 a0.H.a4,I6 a0.H.a5,I6 a0.H.a6,I6 a0.H.a7]) isAgg56 sizeOf56 rfl q rfl (s.cells_of (m:=8) z0 rfl)) fun a q=>zl q (r_buildAC (ps:=[]) (c:=[I6 0,I6 0,I6 0,I6 0,I6 0,I6 0,I6 0,I6 0]) underlying56 zeroValue56 sizeOf3 q rfl pc_nil rfl rfl) fun a q=>zl q (r_seq (by kernel_rfl) (eqs56 a0.H (⟨0,0,0,0,0,0,0,0⟩ : Arr8)) q rfl rfl) fun a q=>?_
 refine za q rfl fun a q=>zn<|zq<|zq<|zr<|zl q (r_fieldAddr underlying58 rfl sizeOf3 q rfl) fun a q=>zl q (r_load isAgg3 q rfl (s.cell z0 rfl)) fun a q=>zn ?_
 refine wp_block ?_
 refine zq<|zr<|zl q (r_ibin q rfl rfl rfl) fun a q=>za q rfl fun a q=>zn ?_
 refine wp_cond_split (q.ev rfl) (fun (hb_2 : (a0.Kind == 1) = true)=>?_) fun hb_2=>?_
 rw [ifb_t hb_2] at H
 refine zq<|zr<|zl q (r_fieldAddr underlying58 rfl sizeOf9 q rfl) fun a q=>zl q (r_load isAgg9 q rfl (s.cell z0 rfl)) fun a q=>zl q (r_sbin q rfl rfl rfl) fun a q=>zm q rfl fun a q=>?_
 rcases or_b (a0.S.toList == (⟨#[]⟩ : ByteArray).toList) with hb_3 | hb_3
 rw [ifb_t hb_3] at H
 refine zw q (wtt hb_3) (r_move q rfl) fun a q=>zl q (r_pick_t hb_3 q rfl rfl) fun a q=>za q rfl fun a q=>zn ?_
 obtain rfl:=Option.some.inj H
 refine wp_ret ?_
 repeat first | refine zt ?_ | refine zb ?_ | refine zo ?_
 exact ret_1 results63 q (rv_tmp q rfl) ⟨rfl,s.bel⟩
 rw [ifb_f hb_3] at H
 refine zsw q (wtf hb_3) fun a q=>zl q (r_pick_f hb_3 q rfl rfl) fun a q=>za q rfl fun a q=>zn ?_
 obtain rfl:=Option.some.inj H
 refine wp_ret ?_
 repeat first | refine zt ?_ | refine zb ?_ | refine zo ?_
 exact ret_1 results63 q (rv_tmp q rfl) ⟨rfl,s.bel⟩
 rw [ifb_f hb_2] at H
 refine zq<|zr<|zl q (r_ibin q rfl rfl rfl) fun a q=>za q rfl fun a q=>zn ?_
 refine wp_cond_split (q.ev rfl) (fun (hb_4 : (a0.Kind == 2) = true)=>?_) fun hb_4=>?_
 rw [ifb_t hb_4] at H
 refine zq<|zr<|zl q (r_fieldAddr underlying58 rfl sizeOf3 q rfl) fun a q=>zl q (r_load isAgg3 q rfl (s.cell z0 rfl)) fun a q=>zl q (r_ibin q rfl rfl rfl) fun a q=>zm q rfl fun a q=>?_
 rcases or_b (a0.N == 0) with hb_5 | hb_5
 rw [ifb_t hb_5] at H
 refine zw q (wtt hb_5) (r_move q rfl) fun a q=>zl q (r_pick_t hb_5 q rfl rfl) fun a q=>zm q rfl fun a q=>?_
 rcases or_b (decide (a0.H = (⟨0,0,0,0,0,0,0,0⟩ : Arr8))) with hb_6 | hb_6
 rw [ifb_t hb_6] at H
 refine zw q (wtt hb_6) (r_fieldAddr underlying58 rfl sizeOf9 q rfl) fun a q=>zw q (wtt hb_6) (r_load isAgg9 q rfl (s.cell z0 rfl)) fun a q=>zw q (wtt hb_6) (r_len_str underlying9 q rfl) fun a q=>zw q (wtt hb_6) (r_ibin q rfl rfl rfl) fun a q=>zl q (r_pick_t hb_6 q rfl rfl) fun a q=>za q rfl fun a q=>zn ?_
 obtain rfl:=Option.some.inj H
 refine wp_ret ?_
 repeat first | refine zt ?_ | refine zb ?_ | refine zo ?_
 exact ret_1 results63 q (rv_tmp q rfl) ⟨rfl,s.bel⟩
 rw [ifb_f hb_6] at H
 refine zsw q (wtf hb_6) fun a q=>zsw q (wtf hb_6) fun a q=>zsw q (wtf hb_6) fun a q=>zsw q (wtf hb_6) fun a q=>zl q (r_pick_f hb_6 q rfl rfl) fun a q=>za q rfl fun a q=>zn ?_
 obtain rfl:=Option.some.inj H
 refine wp_ret ?_
 repeat first | refine zt ?_ | refine zb ?_ | refine zo ?_
 exact ret_1 results63 q (rv_tmp q rfl) ⟨rfl,s.bel⟩
 rw [ifb_f hb_5] at H
 refine zsw q (wtf hb_5) fun a q=>zl q (r_pick_f hb_5 q rfl rfl) fun a q=>zm q rfl fun a q=>zs q fun a q=>zs q fun a q=>zs q fun a q=>zs q fun a q=>zl q (r_pick q rfl rfl rfl) fun a q=>za q rfl fun a q=>zn ?_
 obtain rfl:=Option.some.inj H
 refine wp_ret ?_
 repeat first | refine zt ?_ | refine zb ?_ | refine zo ?_
 exact ret_1 results63 q (rv_tmp q rfl) ⟨rfl,s.bel⟩
 rw [ifb_f hb_4] at H
 refine zq<|zr<|zl q (r_ibin q rfl rfl rfl) fun a q=>za q rfl fun a q=>zn ?_
 refine wp_cond_split (q.ev rfl) (fun (hb_7 : (a0.Kind == 3) = true)=>?_) fun hb_7=>?_
 rw [ifb_t hb_7] at H
 refine zq<|zr<|zl q (r_fieldAddr underlying58 rfl sizeOf3 q rfl) fun a q=>zl q (r_load isAgg3 q rfl (s.cell z0 rfl)) fun a q=>zl q (r_ibin q rfl rfl rfl) fun a q=>zm q rfl fun a q=>?_
 rcases or_b (a0.N == 0) with hb_8 | hb_8
 rw [ifb_t hb_8] at H
 refine zsw q (wft hb_8) fun a q=>zsw q (wft hb_8) fun a q=>zsw q (wft hb_8) fun a q=>zl q (r_pick_t hb_8 q rfl rfl) fun a q=>zm q rfl fun a q=>zl q (r_fieldAddr underlying58 rfl sizeOf9 q rfl) fun a q=>zl q (r_load isAgg9 q rfl (s.cell z0 rfl)) fun a q=>zl q (r_sbin q rfl rfl rfl) fun a q=>zl q (r_pick q rfl rfl rfl) fun a q=>zm q rfl fun a q=>?_
 rcases or_b (a0.S.toList == (⟨#[]⟩ : ByteArray).toList) with hb_9 | hb_9
 rw [ifb_t hb_9] at H
 refine zw q (wtt hb_9) (r_move q rfl) fun a q=>zl q (r_pick_t hb_9 q rfl rfl) fun a q=>za q rfl fun a q=>zn ?_
 obtain rfl:=Option.some.inj H
 refine wp_ret ?_
 repeat first | refine zt ?_ | refine zb ?_ | refine zo ?_
 exact ret_1 results63 q (rv_tmp q rfl) ⟨rfl,s.bel⟩
 rw [ifb_f hb_9] at H
 refine zsw q (wtf hb_9) fun a q=>zl q (r_pick_f hb_9 q rfl rfl) fun a q=>za q rfl fun a q=>zn ?_
 obtain rfl:=Option.some.inj H
 refine wp_ret ?_
 repeat first | refine zt ?_ | refine zb ?_ | refine zo ?_
 exact ret_1 results63 q (rv_tmp q rfl) ⟨rfl,s.bel⟩
 rw [ifb_f hb_8] at H
 refine zw q (wff hb_8) (r_fieldAddr underlying58 rfl sizeOf3 q rfl) fun a q=>zw q (wff hb_8) (r_load isAgg3 q rfl (s.cell z0 rfl)) fun a q=>zw q (wff hb_8) (r_ibin q rfl rfl rfl) fun a q=>zl q (r_pick_f hb_8 q rfl rfl) fun a q=>zm q rfl fun a q=>?_
 rcases or_b (a0.N == 1) with hb_10 | hb_10
 rw [ifb_t hb_10] at H
 refine zw q (wtt hb_10) (r_fieldAddr underlying58 rfl sizeOf9 q rfl) fun a q=>zw q (wtt hb_10) (r_load isAgg9 q rfl (s.cell z0 rfl)) fun a q=>zw q (wtt hb_10) (r_sbin q rfl rfl rfl) fun a q=>zl q (r_pick_t hb_10 q rfl rfl) fun a q=>zm q rfl fun a q=>?_
 rcases or_b (a0.S.toList == (⟨#[]⟩ : ByteArray).toList) with hb_11 | hb_11
 rw [ifb_t hb_11] at H
 refine zw q (wtt hb_11) (r_move q rfl) fun a q=>zl q (r_pick_t hb_11 q rfl rfl) fun a q=>za q rfl fun a q=>zn ?_
 obtain rfl:=Option.some.inj H
 refine wp_ret ?_
 repeat first | refine zt ?_ | refine zb ?_ | refine zo ?_
 exact ret_1 results63 q (rv_tmp q rfl) ⟨rfl,s.bel⟩
 rw [ifb_f hb_11] at H
 refine zsw q (wtf hb_11) fun a q=>zl q (r_pick_f hb_11 q rfl rfl) fun a q=>za q rfl fun a q=>zn ?_
 obtain rfl:=Option.some.inj H
 refine wp_ret ?_
 repeat first | refine zt ?_ | refine zb ?_ | refine zo ?_
 exact ret_1 results63 q (rv_tmp q rfl) ⟨rfl,s.bel⟩
 rw [ifb_f hb_10] at H
 refine zsw q (wtf hb_10) fun a q=>zsw q (wtf hb_10) fun a q=>zsw q (wtf hb_10) fun a q=>zl q (r_pick_f hb_10 q rfl rfl) fun a q=>zm q rfl fun a q=>zs q fun a q=>zl q (r_pick q rfl rfl rfl) fun a q=>za q rfl fun a q=>zn ?_
 obtain rfl:=Option.some.inj H
 refine wp_ret ?_
 repeat first | refine zt ?_ | refine zb ?_ | refine zo ?_
 exact ret_1 results63 q (rv_tmp q rfl) ⟨rfl,s.bel⟩
 rw [ifb_f hb_7] at H
 refine zq<|zr<|zl q (r_ibin q rfl rfl rfl) fun a q=>za q rfl fun a q=>zn ?_
 refine wp_cond_split (q.ev rfl) (fun (hb_12 : (a0.Kind == 4) = true)=>?_) fun hb_12=>?_
 rw [ifb_t hb_12] at H
 refine zq<|zr<|zl q (r_fieldAddr underlying58 rfl sizeOf3 q rfl) fun a q=>zl q (r_load isAgg3 q rfl (s.cell z0 rfl)) fun a q=>zl q (r_ibin q rfl rfl rfl) fun a q=>zm q rfl fun a q=>?_
 rcases or_b (a0.N == 0) with hb_13 | hb_13
 rw [ifb_t hb_13] at H
 refine zw q (wtt hb_13) (r_fieldAddr underlying58 rfl sizeOf9 q rfl) fun a q=>zw q (wtt hb_13) (r_load isAgg9 q rfl (s.cell z0 rfl)) fun a q=>zw q (wtt hb_13) (r_sbin q rfl rfl rfl) fun a q=>zl q (r_pick_t hb_13 q rfl rfl) fun a q=>za q rfl fun a q=>zn ?_
 obtain rfl:=Option.some.inj H
 refine wp_ret ?_
 repeat first | refine zt ?_ | refine zb ?_ | refine zo ?_
 exact ret_1 results63 q (rv_tmp q rfl) ⟨rfl,s.bel⟩
 rw [ifb_f hb_13] at H
 refine zsw q (wtf hb_13) fun a q=>zsw q (wtf hb_13) fun a q=>zsw q (wtf hb_13) fun a q=>zl q (r_pick_f hb_13 q rfl rfl) fun a q=>za q rfl fun a q=>zn ?_
 obtain rfl:=Option.some.inj H
 refine wp_ret ?_
 repeat first | refine zt ?_ | refine zb ?_ | refine zo ?_
 exact ret_1 results63 q (rv_tmp q rfl) ⟨rfl,s.bel⟩
 rw [ifb_f hb_12] at H
 refine wp_skip<|zq<|zr<|za q rfl fun a q=>zn ?_
 obtain rfl:=Option.some.inj H
 refine wp_ret ?_
 repeat first | refine zt ?_ | refine zb ?_ | refine zo ?_
 exact ret_1 results63 q (rv_tmp q rfl) ⟨rfl,s.bel⟩
theorem ref02_Check.calls (a0 : api_Table) {w0 : World} {RA : Hp} {v0_0 : Value} {v0_1 : Value} (hRA : RA.sub w0) (h0_0 : SlR ty_api_Col RA v0_0 a0.Cols) (h0_1 : SlR (tySl ty_api_Value) RA v0_1 a0.Rows) {r : Int} (H : ref02_Check a0 = some r) : CallsV prog 38 #[.agg #[v0_0,v0_1]] w0 (I6 r):=by
 unfold ref02_Check at H
 refine enter (args:=[.agg #[v0_0,v0_1]]) func38 rfl ntmps38 rfl fun a q=>?_
 have s:=St.init (R:=fun _=>none) (w:=w0) (fun _ _ h=>by cases h)
 have hRL:=RLe.refl (M:=[]) w0 (fun _=>none)
 refine zq<|zr ?_
 refine sl_box s q (by decide) rfl rfl (c:=[v0_0,v0_1]) rfl fun a w b_1 s q=>?_
 refine za q rfl fun a q=>zn<|zq<|zq<|zr<|zl q (r_fieldAddr underlying41 rfl sizeOf38 q rfl) fun a q=>zl q (r_load isAgg38 q rfl (s.cell z0 rfl)) fun a q=>?_
 obtain ⟨y_2,h_3,H⟩:=bs H
 refine sl_callV call62 s q (by decide) rfl rfl rfl (ref02_Cols.calls a0.Cols (lentOf_sub [] _) (h0_0.mono (s.raLe0 hRA nil_not)) h_3) fun a w s q=>?_
 refine zl q (r_un q rfl (u_not _)) fun a q=>zn ?_
 refine wp_cond_split (q.ev rfl) (fun (hb_4 : (!y_2) = true)=>?_) fun hb_4=>?_
 rw [ifb_t hb_4] at H
 refine zq<|zr<|za q rfl fun a q=>zn ?_
 obtain rfl:=Option.some.inj H
 refine wp_ret ?_
 repeat first | refine zt ?_ | refine zb ?_ | refine zo ?_
 exact ret_1 results38 q (rv_tmp q rfl) ⟨rfl,s.bel⟩
 rw [ifb_f hb_4] at H
 refine wp_skip<|zq<|zq<|zr<|za q rfl fun a q=>zn ?_
 refine wp_block ?_
 refine wp_loop_k (fun k_l0 a w=>∃ (x_669 : Int),ref02_Check.l0 a0 k_l0 x_669 = some r ∧ Kn 61 a [(1,.pointer (some ⟨b_1,0,none⟩)),(3,I6 x_669)] ∧ St [] w0 w (fun _=>none) [.cells b_1 [v0_0,v0_1] 41]) (((a0.Rows.length : Int) - 0).toNat + 1) ?_ ?_
 exact ⟨0,H,q.sub (zc (zc zz)),s⟩
 rintro k_l0 a w ⟨x_669,H,q,s⟩
 rcases k_l0 with _ | k_l0
 cases H
 rw [ref02_Check.l0.eq_2] at H
 refine zq<|zq<|zr<|zm q rfl fun a q=>zl q (r_fieldAddr underlying41 rfl sizeOf39 q rfl) fun a q=>zl q (r_load isAgg39 q rfl (s.cell z0 rfl)) fun a q=>zl q (r_len_R underlying39 h0_1 q rfl) fun a q=>zl q (r_ibin q rfl rfl rfl) fun a q=>zn ?_
 refine wp_cond_split (q.ev rfl) (fun (hb_1334 : (decide (x_669 < (a0.Rows.length : Int))) = true)=>?_) fun hb_1334=>?_
 rw [ifb_t hb_1334] at H
 refine wp_skip<|zq ?_
 refine wp_block ?_
 refine zq<|zq ?_
 refine par_region (C:=fun w=>St [] w0 w (fun _=>none) [.cells b_1 [v0_0,v0_1] 41]) [(0,true),(1,true),(2,true),(3,true),(4,true),(5,true),(6,true),(7,true),(8,true),(9,true)] mixed (by kernel_rfl) s (fun w s=>s) fun w s=>?_
 refine zp rfl q (fun w s=>r_fieldAddr underlying41 rfl sizeOf39 q rfl) fun a q=>zp rfl q (fun w s=>r_load isAgg39 q rfl (s.cell z0 rfl)) fun a q=>zp rfl q (fun w s=>r_move q rfl) fun a q=>?_
 obtain ⟨y_1346,h_1347,H⟩:=bs H
 obtain ⟨b_1348,o_1349,c_1350,cs_1351,hv_1352,hr_1353,hc_1354,h_13470,h_13471⟩:=h0_1.ix h_1347
 obtain ⟨v_1355,rfl,hs_1356⟩:=hr_1353
 refine zp rfl q (fun w s=>r_indexAddr_R underlying39 sizeOf31 hv_1352 h_13470 h_13471 q rfl rfl) fun a q=>zp rfl q (fun w s=>r_load isAgg31 q rfl ((s.ra hRA nil_not).cell (hc_1354 0 _ rfl))) fun a q=>zp rfl q (fun w s=>r_len_R underlying31 hs_1356 q rfl) fun a q=>zp rfl q (fun w s=>r_fieldAddr underlying41 rfl sizeOf38 q rfl) fun a q=>zp rfl q (fun w s=>r_load isAgg38 q rfl (s.cell z0 rfl)) fun a q=>zp rfl q (fun w s=>r_len_R underlying38 h0_0 q rfl) fun a q=>zp rfl q (fun w s=>r_ibin q rfl rfl rfl) fun a q=>?_
 refine wpPar_nil (NoP_nil ?_)
 refine wp_cond_split (q.ev rfl) (fun (hb_1357 : ((y_1346.length : Int) != (a0.Cols.length : Int)) = true)=>?_) fun hb_1357=>?_
 rw [ifb_t hb_1357] at H
 refine zq<|zr<|za q rfl fun a q=>zn ?_
 obtain rfl:=Option.some.inj H
 refine wp_ret ?_
 repeat first | refine zt ?_ | refine zb ?_ | refine zo ?_
 exact ret_1 results38 q (rv_tmp q rfl) ⟨rfl,s.bel⟩
 rw [ifb_f hb_1357] at H
 refine wp_skip<|zq<|zr<|za q rfl fun a q=>zn ?_
 refine wp_block ?_
 refine wp_loop_k (fun k_l1 a w=>∃ (x_1571 : Int),ref02_Check.l1 (ref02_Check.l0 a0 k_l0) a0 x_669 k_l1 x_1571 = some r ∧ Kn 61 a [(1,.pointer (some ⟨b_1,0,none⟩)),(3,I6 x_669),(4,I6 x_1571)] ∧ St [] w0 w (fun _=>none) [.cells b_1 [v0_0,v0_1] 41]) (((a0.Cols.length : Int) - 0).toNat + 1) ?_ ?_
 exact ⟨0,H,q.sub (zc (zc (zc zz))),s⟩
 rintro k_l1 a w ⟨x_1571,H,q,s⟩
 rcases k_l1 with _ | k_l1
 cases H
 rw [ref02_Check.l1.eq_2] at H
 refine zq<|zq<|zr<|zm q rfl fun a q=>zl q (r_fieldAddr underlying41 rfl sizeOf38 q rfl) fun a q=>zl q (r_load isAgg38 q rfl (s.cell z0 rfl)) fun a q=>zl q (r_len_R underlying38 h0_0 q rfl) fun a q=>zl q (r_ibin q rfl rfl rfl) fun a q=>zn ?_
 refine wp_cond_split (q.ev rfl) (fun (hb_1785 : (decide (x_1571 < (a0.Cols.length : Int))) = true)=>?_) fun hb_1785=>?_
 rw [ifb_t hb_1785] at H
 refine wp_skip<|zq ?_
 refine wp_block ?_
 refine zq ?_
 refine wp_mid (fun a w=>∃ (x_1890 : Bool),ref02_Check.j2 (ref02_Check.l1 (ref02_Check.l0 a0 k_l0) a0 x_669 k_l1) a0 x_1571 x_1890 = some r ∧ Kn 61 a [(1,.pointer (some ⟨b_1,0,none⟩)),(3,I6 x_669),(4,I6 x_1571),(60,.bool x_1890)] ∧ St [] w0 w (fun _=>none) [.cells b_1 [v0_0,v0_1] 41]) ?_ ?_
 refine parT_region (C:=fun w=>St [] w0 w (fun _=>none) [.cells b_1 [v0_0,v0_1] 41]) 23 [(0,true),(1,true),(2,true),(3,true),(4,true),(5,true),(6,true),(7,true),(8,true),(9,true),(10,true),(11,true),(12,true),(13,true),(14,true),(15,true),(16,true),(17,true),(18,true),(19,true),(20,true),(21,true),(22,true)] mixed (by kernel_rfl) s (fun w s=>s) fun w s=>?_
 refine zp rfl q (fun w s=>r_fieldAddr underlying41 rfl sizeOf39 q rfl) fun a q=>zp rfl q (fun w s=>r_load isAgg39 q rfl (s.cell z0 rfl)) fun a q=>zp rfl q (fun w s=>r_move q rfl) fun a q=>?_
 obtain ⟨y_1944,h_1945,H⟩:=bs H
 obtain ⟨b_1946,o_1947,c_1948,cs_1949,hv_1950,hr_1951,hc_1952,h_19450,h_19451⟩:=h0_1.ix h_1945
 obtain ⟨v_1953,rfl,hs_1954⟩:=hr_1951
 refine zp rfl q (fun w s=>r_indexAddr_R underlying39 sizeOf31 hv_1950 h_19450 h_19451 q rfl rfl) fun a q=>zp rfl q (fun w s=>r_load isAgg31 q rfl ((s.ra hRA nil_not).cell (hc_1952 0 _ rfl))) fun a q=>zp rfl q (fun w s=>r_move q rfl) fun a q=>?_
 obtain ⟨y_1955,h_1956,H⟩:=bs H
 obtain ⟨b_1957,o_1958,c_1959,cs_1960,hv_1961,hr_1962,hc_1963,h_19560,h_19561⟩:=hs_1954.ix h_1956
 subst hr_1962
 refine zp rfl q (fun w s=>r_indexAddr_R underlying31 sizeOf58 hv_1961 h_19560 h_19561 q rfl rfl) fun a q=>zp rfl q (fun w s=>r_fieldAddr underlying58 rfl sizeOf3 q rfl) fun a q=>zp rfl q (fun w s=>r_load isAgg3 q rfl ((s.ra hRA nil_not).cell (hc_1963 0 _ rfl))) fun a q=>zp rfl q (fun w s=>r_fieldAddr underlying41 rfl sizeOf38 q rfl) fun a q=>zp rfl q (fun w s=>r_load isAgg38 q rfl (s.cell z0 rfl)) fun a q=>zp rfl q (fun w s=>r_move q rfl) fun a q=>?_
 obtain ⟨y_1964,h_1965,H⟩:=bs H
 obtain ⟨b_1966,o_1967,c_1968,cs_1969,hv_1970,hr_1971,hc_1972,h_19650,h_19651⟩:=h0_0.ix h_1965
 subst hr_1971
 refine zp rfl q (fun w s=>r_indexAddr_R underlying38 sizeOf65 hv_1970 h_19650 h_19651 q rfl rfl) fun a q=>zp rfl q (fun w s=>r_fieldAddr underlying65 rfl sizeOf3 q rfl) fun a q=>zp rfl q (fun w s=>r_load isAgg3 q rfl ((s.ra hRA nil_not).cell (hc_1972 1 _ rfl))) fun a q=>zp rfl q (fun w s=>r_ibin q rfl rfl rfl) fun a q=>zp rfl q (fun w s=>r_move q rfl) fun a q=>?_
 rcases or_b (y_1955.Kind != y_1964.Kind) with hb_1973 | hb_1973
 rw [ifb_t hb_1973] at H
 refine zps rfl q (wft hb_1973) fun a q=>zps rfl q (wft hb_1973) fun a q=>zps rfl q (wft hb_1973) fun a q=>zps rfl q (wft hb_1973) fun a q=>zps rfl q (wft hb_1973) fun a q=>zps rfl q (wft hb_1973) fun a q=>?_
 refine thenL_nil ?_
 refine zsw q (wft hb_1973) fun a q=>zsw q (wft hb_1973) fun a q=>zsw q (wft hb_1973) fun a q=>zsw q (wft hb_1973) fun a q=>zl q (r_pick_t hb_1973 q rfl rfl) fun a q=>?_
 refine wpList_nil (NoP_nil ?_)
 exact ⟨true,H,q.sub (zc (zc (zc (zc zz)))),s⟩
 rw [ifb_f hb_1973] at H
 refine zpw rfl q (wff hb_1973) (fun w s=>r_fieldAddr underlying41 rfl sizeOf39 q rfl) fun a q=>zpw rfl q (wff hb_1973) (fun w s=>r_load isAgg39 q rfl (s.cell z0 rfl)) fun a q=>zpw rfl q (wff hb_1973) (fun w s=>r_move q rfl) fun a q=>?_
 obtain ⟨y_1974,h_1975,H⟩:=bs H
 obtain ⟨b_1976,o_1977,c_1978,cs_1979,hv_1980,hr_1981,hc_1982,h_19750,h_19751⟩:=h0_1.ix h_1975
 obtain ⟨v_1983,rfl,hs_1984⟩:=hr_1981
 refine zpw rfl q (wff hb_1973) (fun w s=>r_indexAddr_R underlying39 sizeOf31 hv_1980 h_19750 h_19751 q rfl rfl) fun a q=>zpw rfl q (wff hb_1973) (fun w s=>r_load isAgg31 q rfl ((s.ra hRA nil_not).cell (hc_1982 0 _ rfl))) fun a q=>zpw rfl q (wff hb_1973) (fun w s=>r_move q rfl) fun a q=>?_
 refine thenL_nil ?_
 obtain ⟨y_1985,h_1986,H⟩:=bs H
 obtain ⟨b_1987,o_1988,c_1989,cs_1990,hv_1991,hr_1992,hc_1993,h_19860,h_19861⟩:=hs_1984.ix h_1986
 subst hr_1992
 refine zw q (wff hb_1973) (r_indexAddr_R underlying31 sizeOf58 hv_1991 h_19860 h_19861 q rfl rfl) fun a q=>zw q (wff hb_1973) (r_loadA (cs:=(cV y_1985)) isAgg58 sizeOf58 rfl q rfl (fun j v hv=>(s.ra hRA nil_not).cell (hc_1993 j v hv))) fun a q=>?_
 obtain ⟨y_1994,h_1995,H⟩:=bs H
 refine sl_callV call63 s q (by decide) (wff hb_1973) rfl rfl (ref01_Valid.calls y_1985 h_1995 _) fun a w s q=>?_
 refine zw q (wff hb_1973) (r_un q rfl (u_not _)) fun a q=>zl q (r_pick_f hb_1973 q rfl rfl) fun a q=>?_
 refine wpList_nil (NoP_nil ?_)
 exact ⟨(!y_1994),H,q.sub (zc (zc (zc (zc zz)))),s⟩
 rintro a w ⟨x_1890,H,q,s⟩
 unfold ref02_Check.j2 at H
 refine wp_cond_split (q.ev rfl) (fun (hb_1996 : x_1890 = true)=>?_) fun hb_1996=>?_
 rw [ifb_t hb_1996] at H
 refine zq<|zr<|za q rfl fun a q=>zn ?_
 obtain rfl:=Option.some.inj H
 refine wp_ret ?_
 repeat first | refine zt ?_ | refine zb ?_ | refine zo ?_
 exact ret_1 results38 q (rv_tmp q rfl) ⟨rfl,s.bel⟩
 rw [ifb_f hb_1996] at H
 refine wp_skip<|zr<|zm q rfl fun a q=>zl q (r_ibin q rfl rfl rfl) fun a q=>za q rfl fun a q=>zn ?_
 exact ⟨_,Nat.lt_succ_self _,(IntKind.i64.wrap (x_1571 + 1)),H,q.sub (zc (zc (zc zz))),s⟩
 rw [ifb_f hb_1785] at H
 refine wp_exit ?_
 refine zr<|zm q rfl fun a q=>zl q (r_ibin q rfl rfl rfl) fun a q=>za q rfl fun a q=>zn ?_
 exact ⟨_,Nat.lt_succ_self _,(IntKind.i64.wrap (x_669 + 1)),H,q.sub (zc (zc zz)),s⟩
 rw [ifb_f hb_1334] at H
 refine wp_exit ?_
 refine zq<|zr<|za q rfl fun a q=>zn ?_
 obtain rfl:=Option.some.inj H
 refine wp_ret ?_
 repeat first | refine zt ?_ | refine zb ?_ | refine zo ?_
 exact ret_1 results38 q (rv_tmp q rfl) ⟨rfl,s.bel⟩
theorem ref02_sorted.r_calls (fuel : Nat) : ∀ (a0 : List (List api_Value)) {w0 : World} {R : Hp} {v0_0 : Value} (hR : R.sub w0) (h0_0 : SlR (tySl ty_api_Value) R v0_0 a0) {r : List (List api_Value)} (H : ref02_sorted.r fuel a0 = some r),Calls prog 64 #[v0_0] w0 (Rets fun v w'=>∃ (R' : Hp) (u0 : Value) (cu0 : List Value),v = u0 ∧ St [] w0 w' R' [.row 31 1 u0 r.length cu0] ∧ RLe [] w0 R R' ∧ Reps (tySl ty_api_Value) R' cu0 r):=by
 induction fuel with
 | zero=>intros; rename_i H; exact nomatch (show (none : Option _) = some _ from H)
 | succ fuel ih_64 =>
  intro a0 w0 R v0_0 hR h0_0 r H
  rw [ref02_sorted.r.eq_2] at H
  generalize ref02_sorted.r fuel = kr_64 at ih_64 H
  unfold ref02_sorted.b at H
  refine enter (args:=[v0_0]) func64 rfl ntmps64 rfl fun a q=>?_
  have s:=St.init hR
  have hRL:=RLe.refl (M:=[]) w0 R
  refine zq<|zr<|za q rfl fun a q=>zn<|zq<|zq<|zr<|zm q rfl fun a q=>zl q (r_len_R underlying39 h0_0 q rfl) fun a q=>zl q (r_ibin q rfl rfl rfl) fun a q=>zn ?_
  refine wp_cond_split (q.ev rfl) (fun (hb_1 : (decide ((a0.length : Int) < 2)) = true)=>?_) fun hb_1=>?_
  rw [ifb_t hb_1] at H
  refine zq<|zr ?_
  refine sl_buildSliceC (zc:=[.slice none 0 0]) (zs:=[]) (ps:=[]) (c:=[]) underlying39 sizeOf31 zeroValue31 rfl pc_nil rfl rfl (by decide) (by kernel_rfl) rfl s q (by decide) rfl fun a w b_2 s q=>?_
  refine zm q rfl fun a q=>?_
  obtain ⟨y_5,h_6,H⟩:=bs H
  have s:=s.row_lit (size:=1) (m:=0) rfl (by decide)
  have hq_4 : Reps (tySl ty_api_Value) R [] ([] : List (List api_Value)):=(Reps.nil _ _)
  refine sl_append_R elT39 (by decide) rfl hq_4 rfl h0_0 h_6 s q (by decide) rfl rfl rfl fun a w v_7 cs_8 hq_9 s q=>?_
  refine za q rfl fun a q=>zn ?_
  obtain rfl:=Option.some.inj H
  refine wp_ret ?_
  repeat first | refine zt ?_ | refine zb ?_ | refine zo ?_
  exact ret_1 results64 q (rv_tmp q rfl) ⟨_,rfl,_,_,_,rfl,s,hRL,hq_9⟩
  rw [ifb_f hb_1] at H
  refine wp_skip<|zq<|zr<|zm q rfl fun a q=>zm q rfl fun a q=>zl q (r_len_R underlying39 h0_0 q rfl) fun a q=>zl q (r_quo q rfl rfl (by decide)) fun a q=>?_
  obtain ⟨y_11,h_12,H⟩:=bs H
  obtain ⟨v_13,hs_14,hr_15⟩:=r_slice_R (x:=.tmp 14) (lo:=none) (hi:=some (.tmp 17)) underlying39 sizeOf31 h0_0 h_12 q rfl rfl ⟨_,rfl⟩
  refine zl q (hr_15 _ _ _ _ _ _ _ q) fun a q=>?_
  obtain ⟨y_16,h_17,H⟩:=bs H
  refine sl_call call64 q (by decide) rfl rfl rfl (ih_64 y_11 s.sub hs_14 h_17) fun a v_ w hv_ q=>?_
  obtain ⟨R_18,v_21,cs_22,hv_,hr_,hl_19,hq_23⟩:=hv_
  have hv_:=hv_.symm
  subst hv_
  obtain ⟨s,hl_19⟩:=s.sp0.back hr_ hl_19
  have s:=s.un1
  have hRL:=hRL.trans hl_19
  refine za q rfl fun a q=>zn<|zq<|zr<|zm q rfl fun a q=>zm q rfl fun a q=>zl q (r_len_R underlying39 h0_0 q rfl) fun a q=>zl q (r_quo q rfl rfl (by decide)) fun a q=>?_
  obtain ⟨y_24,h_25,H⟩:=bs H
  obtain ⟨v_26,hs_27,hr_28⟩:=r_slice_R (x:=.tmp 20) (lo:=some (.tmp 23)) (hi:=none) underlying39 sizeOf31 h0_0 h_25 q rfl ⟨_,rfl⟩ rfl
  refine zl q (hr_28 _ _ _ _ _ _ _ q) fun a q=>?_
  obtain ⟨y_29,h_30,H⟩:=bs H
  refine sl_call call64 q (by decide) rfl rfl rfl (ih_64 y_24 s.sub (hs_27.mono hl_19.le) h_30) fun a v_ w hv_ q=>?_
  obtain ⟨R_31,v_34,cs_35,hv_,hr_,hl_32,hq_36⟩:=hv_
  have hv_:=hv_.symm
  subst hv_
  obtain ⟨s,hl_32⟩:=s.sp0.back hr_ hl_32
  have s:=s.un1
  have hRL:=hRL.trans hl_32
  refine za q rfl fun a q=>zn<|zq<|zr<|za q rfl fun a q=>zn<|zq<|zr<|za q rfl fun a q=>zn<|zq<|zr<|za q rfl fun a q=>zn<|zq ?_
  refine wp_block ?_
  refine wp_loop_k (fun k_l0 a w=>∃ (x_228 : List (List api_Value)) (x_232 : Int) (x_233 : Int) (v_229 : Value) (cs_230 : List Value),ref02_sorted.l0 y_16 y_29 k_l0 x_228 x_232 x_233 = some r ∧ Reps (tySl ty_api_Value) R_31 cs_230 x_228 ∧ Kn 77 a [(3,v_21),(4,v_34),(5,v_229),(6,I6 x_232),(7,I6 x_233)] ∧ St [] w0 w R_31 [.row 31 1 v_21 y_16.length cs_22,.row 31 1 v_34 y_29.length cs_35,.row 31 1 v_229 x_228.length cs_230]) (y_16.length + y_29.length + 1) ?_ ?_
  have s:=s.row_nil 31 1
  have hq_417 : Reps (tySl ty_api_Value) R_31 [] ([] : List (List api_Value)):=Reps.nil _ _
  have s:=s.pk1
  have s:=s.pk2
  exact ⟨[],0,0,_,_,H,hq_417,q.sub (zc (zc (zc (zc (zc zz))))),s⟩
  rintro k_l0 a w ⟨x_228,x_232,x_233,v_229,cs_230,H,hq_231,q,s⟩
  rcases k_l0 with _ | k_l0
  cases H
  rw [ref02_sorted.l0.eq_2] at H
  refine zq<|zq ?_
  refine wp_mid (fun a w=>∃ (x_419 : Bool),ref02_sorted.j1 (ref02_sorted.l0 y_16 y_29 k_l0) y_16 y_29 x_228 x_232 x_233 x_419 = some r ∧ Kn 77 a [(3,v_21),(4,v_34),(5,v_229),(6,I6 x_232),(7,I6 x_233),(35,.bool x_419)] ∧ St [] w0 w R_31 [.row 31 1 v_21 y_16.length cs_22,.row 31 1 v_34 y_29.length cs_35,.row 31 1 v_229 x_228.length cs_230]) ?_ ?_
  refine zr<|zm q rfl fun a q=>zm q rfl fun a q=>zl q (r_len_O underlying39 s z0 q rfl) fun a q=>zl q (r_ibin q rfl rfl rfl) fun a q=>zm q rfl fun a q=>?_
  rcases or_b (decide (x_232 < (y_16.length : Int))) with hb_421 | hb_421
  rw [ifb_t hb_421] at H
  refine zsw q (wft hb_421) fun a q=>zsw q (wft hb_421) fun a q=>zsw q (wft hb_421) fun a q=>zsw q (wft hb_421) fun a q=>zl q (r_pick_t hb_421 q rfl rfl) fun a q=>zn ?_
  have s:=s.pk2
  have s:=s.pk2
  have s:=s.pk2
  exact ⟨true,H,q.sub (zc (zc (zc (zc (zc (zc zz)))))),s⟩
  rw [ifb_f hb_421] at H
  refine zw q (wff hb_421) (r_move q rfl) fun a q=>zw q (wff hb_421) (r_move q rfl) fun a q=>zw q (wff hb_421) (r_len_O underlying39 s z1 q rfl) fun a q=>zw q (wff hb_421) (r_ibin q rfl rfl rfl) fun a q=>zl q (r_pick_f hb_421 q rfl rfl) fun a q=>zn ?_
  have s:=s.pk2
  have s:=s.pk2
  have s:=s.pk2
  exact ⟨(decide (x_233 < (y_29.length : Int))),H,q.sub (zc (zc (zc (zc (zc (zc zz)))))),s⟩
  rintro a w ⟨x_419,H,q,s⟩
  unfold ref02_sorted.j1 at H
  refine wp_cond_split (q.ev rfl) (fun (hb_422 : x_419 = true)=>?_) fun hb_422=>?_
  rw [ifb_t hb_422] at H
  refine wp_skip ?_
  refine wp_block ?_
  refine zq ?_
  refine wp_mid (fun a w=>∃ (x_471 : Bool),ref02_sorted.j2 (ref02_sorted.l0 y_16 y_29 k_l0) y_16 y_29 x_228 x_232 x_233 x_471 = some r ∧ Kn 77 a [(3,v_21),(4,v_34),(5,v_229),(6,I6 x_232),(7,I6 x_233),(57,.bool x_471)] ∧ St [] w0 w R_31 [.row 31 1 v_21 y_16.length cs_22,.row 31 1 v_34 y_29.length cs_35,.row 31 1 v_229 x_228.length cs_230]) ?_ ?_
  refine parT_region (C:=fun w=>St [] w0 w R_31 [.row 31 1 v_21 y_16.length cs_22,.row 31 1 v_34 y_29.length cs_35,.row 31 1 v_229 x_228.length cs_230]) 18 [(0,true),(1,true),(2,true),(3,true),(4,true),(5,true),(6,true),(7,true),(8,true),(9,true),(10,true),(11,true),(12,true),(13,true),(14,true),(15,true),(16,true),(17,true)] mixed (by kernel_rfl) s (fun w s=>s) fun w s=>?_
  refine zp rfl q (fun w s=>r_move q rfl) fun a q=>zp rfl q (fun w s=>r_move q rfl) fun a q=>zp rfl q (fun w s=>r_len_O underlying39 s z1 q rfl) fun a q=>zp rfl q (fun w s=>r_ibin q rfl rfl rfl) fun a q=>zp rfl q (fun w s=>r_move q rfl) fun a q=>?_
  rcases or_b (x_233 == (y_29.length : Int)) with hb_497 | hb_497
  rw [ifb_t hb_497] at H
  refine zps rfl q (wft hb_497) fun a q=>zps rfl q (wft hb_497) fun a q=>zps rfl q (wft hb_497) fun a q=>zps rfl q (wft hb_497) fun a q=>zps rfl q (wft hb_497) fun a q=>zps rfl q rfl fun a q=>zps rfl q rfl fun a q=>zps rfl q rfl fun a q=>zps rfl q rfl fun a q=>zps rfl q rfl fun a q=>zps rfl q rfl fun a q=>zps rfl q rfl fun a q=>zps rfl q rfl fun a q=>?_
  refine thenL_nil ?_
  refine zs q fun a q=>zs q fun a q=>zsw q (wft hb_497) fun a q=>zl q (r_pick_t hb_497 q rfl rfl) fun a q=>?_
  refine wpList_nil (NoP_nil ?_)
  have s:=s.pk2
  have s:=s.pk2
  have s:=s.pk2
  exact ⟨true,H,q.sub (zc (zc (zc (zc (zc (zc zz)))))),s⟩
  rw [ifb_f hb_497] at H
  refine zpw rfl q (wff hb_497) (fun w s=>r_move q rfl) fun a q=>zpw rfl q (wff hb_497) (fun w s=>r_move q rfl) fun a q=>zpw rfl q (wff hb_497) (fun w s=>r_len_O underlying39 s z0 q rfl) fun a q=>zpw rfl q (wff hb_497) (fun w s=>r_ibin q rfl rfl rfl) fun a q=>zpw rfl q (wff hb_497) (fun w s=>r_move q rfl) fun a q=>?_
  rcases or_b (decide (x_232 < (y_16.length : Int))) with hb_498 | hb_498
  rw [ifb_t hb_498] at H
  refine zpw rfl q (wtt hb_498) (fun w s=>r_move q rfl) fun a q=>zpw rfl q (wtt hb_498) (fun w s=>r_move q rfl) fun a q=>?_
  obtain ⟨y_499,h_500,H⟩:=bs H
  obtain ⟨b_502,c_503,cs_504,hv_501,hr_505,hc_506,h_5000,h_5001⟩:=s.row_ix z0 (hq_23.mono hl_32.le) rfl rfl h_500
  obtain ⟨v_507,rfl,hs_508⟩:=hr_505
  refine zpw rfl q (wtt hb_498) (fun w s=>r_indexAddr_R underlying39 sizeOf31 hv_501 h_5000 h_5001 q rfl rfl) fun a q=>zpw rfl q (wtt hb_498) (fun w s=>r_load isAgg31 q rfl (s.row_cell z0 hv_501 (hc_506 0 _ rfl))) fun a q=>zpw rfl q (wtt hb_498) (fun w s=>r_move q rfl) fun a q=>zpw rfl q (wtt hb_498) (fun w s=>r_move q rfl) fun a q=>?_
  obtain ⟨y_509,h_510,H⟩:=bs H
  obtain ⟨b_512,c_513,cs_514,hv_511,hr_515,hc_516,h_5100,h_5101⟩:=s.row_ix z1 hq_36 rfl rfl h_510
  obtain ⟨v_517,rfl,hs_518⟩:=hr_515
  refine zpw rfl q (wtt hb_498) (fun w s=>r_indexAddr_R underlying39 sizeOf31 hv_511 h_5100 h_5101 q rfl rfl) fun a q=>zpw rfl q (wtt hb_498) (fun w s=>r_load isAgg31 q rfl (s.row_cell z1 hv_511 (hc_516 0 _ rfl))) fun a q=>?_
  refine thenL_nil ?_
  obtain ⟨y_519,h_520,H⟩:=bs H
  refine sl_callV call37 s q (by decide) (wtt hb_498) rfl rfl (ref02_Row.calls y_499 y_509 (lentOf_sub [] _) (hs_508.mono s.rLe0) (hs_518.mono s.rLe0) h_520) fun a w s q=>?_
  refine zw q (wtt hb_498) (r_ibin q rfl rfl rfl) fun a q=>zw q (wff hb_497) (r_pick_t hb_498 q rfl rfl) fun a q=>zl q (r_pick_f hb_497 q rfl rfl) fun a q=>?_
  refine wpList_nil (NoP_nil ?_)
  have s:=s.pk2
  have s:=s.pk2
  have s:=s.pk2
  exact ⟨(decide (y_519 ≤ 0)),H,q.sub (zc (zc (zc (zc (zc (zc zz)))))),s⟩
  rw [ifb_f hb_498] at H
  refine zps rfl q (wtf hb_498) fun a q=>zps rfl q (wtf hb_498) fun a q=>zps rfl q (wtf hb_498) fun a q=>zps rfl q (wtf hb_498) fun a q=>zps rfl q (wtf hb_498) fun a q=>zps rfl q (wtf hb_498) fun a q=>zps rfl q (wtf hb_498) fun a q=>zps rfl q (wtf hb_498) fun a q=>?_
  refine thenL_nil ?_
  refine zsw q (wtf hb_498) fun a q=>zsw q (wtf hb_498) fun a q=>zw q (wff hb_497) (r_pick_f hb_498 q rfl rfl) fun a q=>zl q (r_pick_f hb_497 q rfl rfl) fun a q=>?_
  refine wpList_nil (NoP_nil ?_)
  have s:=s.pk2
  have s:=s.pk2
  have s:=s.pk2
  exact ⟨false,H,q.sub (zc (zc (zc (zc (zc (zc zz)))))),s⟩
  rintro a w ⟨x_471,H,q,s⟩
  unfold ref02_sorted.j2 at H
  refine wp_mid (fun a w=>∃ (x_557 : List (List api_Value)) (x_561 : Int) (x_562 : Int) (v_558 : Value) (cs_559 : List Value),ref02_sorted.j3 (ref02_sorted.l0 y_16 y_29 k_l0) y_16 y_29 x_557 x_561 x_562 = some r ∧ Reps (tySl ty_api_Value) R_31 cs_559 x_557 ∧ Kn 77 a [(3,v_21),(4,v_34),(5,v_558),(6,I6 x_561),(7,I6 x_562)] ∧ St [] w0 w R_31 [.row 31 1 v_21 y_16.length cs_22,.row 31 1 v_34 y_29.length cs_35,.row 31 1 v_558 x_557.length cs_559]) ?_ ?_
  refine wp_cond_split (q.ev rfl) (fun (hb_564 : x_471 = true)=>?_) fun hb_564=>?_
  rw [ifb_t hb_564] at H
  refine zq<|zr<|zm q rfl fun a q=>zm q rfl fun a q=>zm q rfl fun a q=>?_
  obtain ⟨y_565,h_566,H⟩:=bs H
  obtain ⟨b_568,c_569,cs_570,hv_567,hr_571,hc_572,h_5660,h_5661⟩:=s.row_ix z0 (hq_23.mono hl_32.le) rfl rfl h_566
  obtain ⟨v_573,rfl,hs_574⟩:=hr_571
  refine zl q (r_indexAddr_R underlying39 sizeOf31 hv_567 h_5660 h_5661 q rfl rfl) fun a q=>zl q (r_load isAgg31 q rfl (s.row_cell z0 hv_567 (hc_572 0 _ rfl))) fun a q=>?_
  refine sl_buildSliceF (zc:=[.slice none 0 0]) (ps:=[(0,v_573)]) (c:=[v_573]) [[v_573]] underlying39 sizeOf31 zeroValue31 rfl (pc_cons (cells1 hs_574.one) pc_nil) rfl rfl (Nat.le_of_ble_eq_true rfl) rfl (zc zz) rfl s q (by decide) rfl fun a w b_575 s q=>?_
  obtain ⟨y_576,h_577,H⟩:=bs H
  have s:=s.pk3
  refine sl_append_L (ty:=(tySl ty_api_Value)) (ys:=[y_565]) elT39 (by decide) rfl hq_231 rfl (Reps.cons (show Ty.rep (tySl ty_api_Value) _ [v_573] y_565 from ⟨_,rfl,hs_574⟩) (Reps.nil _ _)) rfl h_577 s q (by decide) rfl rfl rfl fun a w v_578 cs_579 hq_580 s q=>?_
  refine za q rfl fun a q=>zn<|zr<|zm q rfl fun a q=>zl q (r_ibin q rfl rfl rfl) fun a q=>za q rfl fun a q=>zn ?_
  have s:=s.pk2
  have s:=s.pk2
  exact ⟨y_576,(IntKind.i64.wrap (x_232 + 1)),x_233,_,_,H,hq_580,q.sub (zc (zc (zc (zc (zc zz))))),s⟩
  rw [ifb_f hb_564] at H
  refine zq<|zr<|zm q rfl fun a q=>zm q rfl fun a q=>zm q rfl fun a q=>?_
  obtain ⟨y_582,h_583,H⟩:=bs H
  obtain ⟨b_585,c_586,cs_587,hv_584,hr_588,hc_589,h_5830,h_5831⟩:=s.row_ix z1 hq_36 rfl rfl h_583
  obtain ⟨v_590,rfl,hs_591⟩:=hr_588
  refine zl q (r_indexAddr_R underlying39 sizeOf31 hv_584 h_5830 h_5831 q rfl rfl) fun a q=>zl q (r_load isAgg31 q rfl (s.row_cell z1 hv_584 (hc_589 0 _ rfl))) fun a q=>?_
  refine sl_buildSliceF (zc:=[.slice none 0 0]) (ps:=[(0,v_590)]) (c:=[v_590]) [[v_590]] underlying39 sizeOf31 zeroValue31 rfl (pc_cons (cells1 hs_591.one) pc_nil) rfl rfl (Nat.le_of_ble_eq_true rfl) rfl (zc zz) rfl s q (by decide) rfl fun a w b_592 s q=>?_
  obtain ⟨y_593,h_594,H⟩:=bs H
  have s:=s.pk3
  refine sl_append_L (ty:=(tySl ty_api_Value)) (ys:=[y_582]) elT39 (by decide) rfl hq_231 rfl (Reps.cons (show Ty.rep (tySl ty_api_Value) _ [v_590] y_582 from ⟨_,rfl,hs_591⟩) (Reps.nil _ _)) rfl h_594 s q (by decide) rfl rfl rfl fun a w v_595 cs_596 hq_597 s q=>?_
  refine za q rfl fun a q=>zn<|zr<|zm q rfl fun a q=>zl q (r_ibin q rfl rfl rfl) fun a q=>za q rfl fun a q=>zn ?_
  have s:=s.pk2
  have s:=s.pk2
  exact ⟨y_593,x_232,(IntKind.i64.wrap (x_233 + 1)),_,_,H,hq_597,q.sub (zc (zc (zc (zc (zc zz))))),s⟩
  rintro a w ⟨x_557,x_561,x_562,v_558,cs_559,H,hq_560,q,s⟩
  unfold ref02_sorted.j3 at H
  have s:=s.pk2
  have s:=s.pk2
  have s:=s.pk2
  exact ⟨_,Nat.lt_succ_self _,x_557,x_561,x_562,_,_,H,hq_560,q.sub (zc (zc (zc (zc (zc zz))))),s⟩
  rw [ifb_f hb_422] at H
  refine wp_exit ?_
  refine zq<|zr<|zm q rfl fun a q=>za q rfl fun a q=>zn ?_
  obtain rfl:=Option.some.inj H
  refine wp_ret ?_
  repeat first | refine zt ?_ | refine zb ?_ | refine zo ?_
  exact ret_1 results64 q (rv_tmp q rfl) ⟨_,rfl,_,_,_,rfl,(s.pk2.trunc 1),hRL,hq_231⟩
theorem ref02_sorted.calls (a0 : List (List api_Value)) {w0 : World} {R : Hp} {v0_0 : Value} (hR : R.sub w0) (h0_0 : SlR (tySl ty_api_Value) R v0_0 a0) {r : List (List api_Value)} (H : ref02_sorted a0 = some r) : Calls prog 64 #[v0_0] w0 (Rets fun v w'=>∃ (R' : Hp) (u0 : Value) (cu0 : List Value),v = u0 ∧ St [] w0 w' R' [.row 31 1 u0 r.length cu0] ∧ RLe [] w0 R R' ∧ Reps (tySl ty_api_Value) R' cu0 r):=ref02_sorted.r_calls _ a0 hR h0_0 H
theorem ref02_Canon.calls (a0 : api_Table) {w0 : World} {R : Hp} {v0_0 : Value} {v0_1 : Value} (hR : R.sub w0) (h0_0 : SlR ty_api_Col R v0_0 a0.Cols) (h0_1 : SlR (tySl ty_api_Value) R v0_1 a0.Rows) {r : api_Table} (H : ref02_Canon a0 = some r) : Calls prog 39 #[.agg #[v0_0,v0_1]] w0 (Rets fun v w'=>∃ (R' : Hp) (u0 : Value) (cu0 : List Value) (u1 : Value) (cu1 : List Value),v = .agg #[u0,u1] ∧ St [] w0 w' R' [.row 65 2 u0 r.Cols.length cu0,.row 31 1 u1 r.Rows.length cu1] ∧ RLe [] w0 R R' ∧ Reps ty_api_Col R' cu0 r.Cols ∧ Reps (tySl ty_api_Value) R' cu1 r.Rows):=by
 unfold ref02_Canon at H
 refine enter (args:=[.agg #[v0_0,v0_1]]) func39 rfl ntmps39 rfl fun a q=>?_
 have s:=St.init hR
 have hRL:=RLe.refl (M:=[]) w0 R
 refine zq<|zr ?_
 refine sl_box s q (by decide) rfl rfl (c:=[v0_0,v0_1]) rfl fun a w b_1 s q=>?_
 refine sl_alloc zeroValue41 s q (by decide) rfl rfl fun a w b_2 s q=>?_
 refine zn<|zq ?_
 refine parT_region (C:=fun w=>St [] w0 w R [.cells b_2 [.slice none 0 0,.slice none 0 0] 41,.cells b_1 [v0_0,v0_1] 41]) 6 [(1,true),(2,true),(4,true),(5,true),(0,false),(3,false)] mixed (by kernel_rfl) s (fun w s=>s) fun w s=>?_
 refine zp rfl q (fun w s=>r_fieldAddr underlying41 rfl sizeOf38 q rfl) fun a q=>zp rfl q (fun w s=>r_load isAgg38 q rfl (s.cell z1 rfl)) fun a q=>zp rfl q (fun w s=>r_fieldAddr underlying41 rfl sizeOf39 q rfl) fun a q=>zp rfl q (fun w s=>r_load isAgg39 q rfl (s.cell z1 rfl)) fun a q=>?_
 refine spw (k:=0) rfl rfl s ?_
 refine sl_buildSliceC (zc:=[.string (⟨#[]⟩ : ByteArray),I6 0]) (zs:=[]) (ps:=[]) (c:=[]) underlying38 sizeOf65 zeroValue65 rfl pc_nil rfl rfl (by decide) (by kernel_rfl) rfl s q (by decide) rfl fun a w b_22 s q=>?_
 refine parK_nil (s.pk2.pk2.trunc 2) ?_
 refine spw (k:=3) rfl rfl (s.pk2.pk2.trunc 2) ?_
 obtain ⟨y_25,h_26,H⟩:=bs H
 have s:=s.row_lit (size:=2) (m:=0) rfl (by decide)
 have hq_24 : Reps ty_api_Col R [] ([] : List api_Col):=(Reps.nil _ _)
 refine sl_append_R elT38 (by decide) rfl hq_24 rfl h0_0 h_26 s q (by decide) rfl rfl rfl fun a w v_27 cs_28 hq_29 s q=>?_
 refine parK_nil (s.pk2.pk2.trunc 2) ?_
 refine thenL_nil ?_
 obtain ⟨y_31,h_32,H⟩:=bs H
 refine sl_call call64 q (by decide) rfl rfl rfl (ref02_sorted.calls a0.Rows s.sub h0_1 h_32) fun a v_ w hv_ q=>?_
 obtain ⟨R_33,v_36,cs_37,hv_,hr_,hl_34,hq_38⟩:=hv_
 have hv_:=hv_.symm
 subst hv_
 obtain ⟨s,hl_34⟩:=s.sp0.back hr_ hl_34
 have s:=s.un1
 have hRL:=hRL.trans hl_34
 have ho_39:=s.row_one z1
 have ho_40:=s.row_one z0
 refine zl q (r_buildC (ps:=[(0,v_27),(1,v_36)]) (c:=[v_27,v_36]) underlying41 zeroValue41 places41 q rfl (pc_cons (cells1 ho_39) (pc_cons (cells1 ho_40) pc_nil)) rfl rfl) fun a q=>?_
 have s:=s.pk2
 refine sl_storeA (vs:=[v_27,v_36]) (c':=[v_27,v_36]) sizeOf41 s q rfl rfl rfl rfl (all_cons (s.row_one z2) (all_cons (s.row_one z1) zz)) (Nat.le_of_ble_eq_true rfl) rfl fun a w s q=>?_
 refine wpList_nil (NoP_nil ?_)
 obtain rfl:=Option.some.inj H
 refine wp_ret ?_
 repeat first | refine zt ?_ | refine zb ?_ | refine zo ?_
 exact ret_1 results39 q (rv_cell (c:=[v_27,v_36]) isAgg41 sizeOf41 s z0 rfl q rfl) ⟨_,rfl,_,_,_,_,_,rfl,(s.pk1.pk2.trunc 2),hRL,(hq_29.mono hl_34.le),hq_38⟩
theorem ref02_Union.calls (a0 : api_Table) (a1 : api_Table) {w0 : World} {R : Hp} {v0_0 : Value} {v0_1 : Value} {v1_0 : Value} {v1_1 : Value} (hR : R.sub w0) (h0_0 : SlR ty_api_Col R v0_0 a0.Cols) (h0_1 : SlR (tySl ty_api_Value) R v0_1 a0.Rows) (h1_0 : SlR ty_api_Col R v1_0 a1.Cols) (h1_1 : SlR (tySl ty_api_Value) R v1_1 a1.Rows) {r : api_Table × Int} (H : ref02_Union a0 a1 = some r) : Calls prog 15 #[.agg #[v0_0,v0_1],.agg #[v1_0,v1_1]] w0 (Rets fun v w'=>∃ (R' : Hp) (u0 : Value) (cu0 : List Value) (u1 : Value) (cu1 : List Value),v = .tuple #[.agg #[u0,u1],I6 r.2] ∧ St [] w0 w' R' [.row 65 2 u0 r.1.Cols.length cu0,.row 31 1 u1 r.1.Rows.length cu1] ∧ RLe [] w0 R R' ∧ Reps ty_api_Col R' cu0 r.1.Cols ∧ Reps (tySl ty_api_Value) R' cu1 r.1.Rows):=by
 unfold ref02_Union at H
 refine enter (args:=[.agg #[v0_0,v0_1],.agg #[v1_0,v1_1]]) func15 rfl ntmps15 rfl fun a q=>?_
 have s:=St.init hR
 have hRL:=RLe.refl (M:=[]) w0 R
 refine zq<|zr ?_
 refine sl_box s q (by decide) rfl rfl (c:=[v0_0,v0_1]) rfl fun a w b_1 s q=>?_
 refine sl_box s q (by decide) rfl rfl (c:=[v1_0,v1_1]) rfl fun a w b_2 s q=>?_
 refine sl_alloc zeroValue41 s q (by decide) rfl rfl fun a w b_3 s q=>?_
 refine za q rfl fun a q=>zn<|zq<|zr<|zl q (r_loadA (cs:=[v0_0,v0_1]) isAgg41 sizeOf41 rfl q rfl (s.cells_of (m:=2) z2 rfl)) fun a q=>?_
 obtain ⟨y_4,h_5,H⟩:=bs H
 refine sl_callV call38 s q (by decide) rfl rfl rfl (ref02_Check.calls a0 (lentOf_sub [] _) (h0_0.mono s.rLe0) (h0_1.mono s.rLe0) h_5) fun a w s q=>?_
 refine za q rfl fun a q=>zn<|zq<|zq<|zr<|zm q rfl fun a q=>zl q (r_ibin q rfl rfl rfl) fun a q=>zn ?_
 refine wp_mid (fun a w=>∃ (x_9 : Int),ref02_Union.j0 a0 a1 x_9 = some r ∧ Kn 35 a [(2,.pointer (some ⟨b_1,0,none⟩)),(3,.pointer (some ⟨b_2,0,none⟩)),(4,.pointer (some ⟨b_3,0,none⟩)),(6,I6 x_9)] ∧ St [] w0 w R [.cells b_1 [v0_0,v0_1] 41,.cells b_2 [v1_0,v1_1] 41,.cells b_3 [.slice none 0 0,.slice none 0 0] 41]) ?_ ?_
 refine wp_cond_split (q.ev rfl) (fun (hb_11 : (y_4 == 0) = true)=>?_) fun hb_11=>?_
 rw [ifb_t hb_11] at H
 refine zr<|zl q (r_loadA (cs:=[v1_0,v1_1]) isAgg41 sizeOf41 rfl q rfl (s.cells_of (m:=2) z1 rfl)) fun a q=>?_
 obtain ⟨y_12,h_13,H⟩:=bs H
 refine sl_callV call38 s q (by decide) rfl rfl rfl (ref02_Check.calls a1 (lentOf_sub [] _) (h1_0.mono s.rLe0) (h1_1.mono s.rLe0) h_13) fun a w s q=>?_
 refine za q rfl fun a q=>zn ?_
 have s:=s.pk1
 have s:=s.pk2
 exact ⟨y_12,H,q.sub (zc (zc (zc (zc zz)))),s⟩
 rw [ifb_f hb_11] at H
 refine wp_skip ?_
 have s:=s.pk1
 have s:=s.pk2
 exact ⟨y_4,H,q.sub (zc (zc (zc (zc zz)))),s⟩
 rintro a w ⟨x_9,H,q,s⟩
 unfold ref02_Union.j0 at H
 refine zq<|zq<|zr<|zm q rfl fun a q=>zl q (r_ibin q rfl rfl rfl) fun a q=>zn ?_
 refine wp_cond_split (q.ev rfl) (fun (hb_14 : (x_9 != 0) = true)=>?_) fun hb_14=>?_
 rw [ifb_t hb_14] at H
 refine zq<|zr<|zl q (r_buildC (ps:=[]) (c:=[.slice none 0 0,.slice none 0 0]) underlying41 zeroValue41 places41 q rfl pc_nil rfl rfl) fun a q=>zm q rfl fun a q=>?_
 have s:=s.pk2
 refine sl_storeA (vs:=[.slice none 0 0,.slice none 0 0]) (c':=[.slice none 0 0,.slice none 0 0]) sizeOf41 s q rfl rfl rfl rfl (zc (zc zz)) (Nat.le_of_ble_eq_true rfl) rfl fun a w s q=>?_
 refine za q rfl fun a q=>zn ?_
 have s:=s.row_nil 65 2
 have hq_16 : Reps ty_api_Col R [] ([] : List api_Col):=Reps.nil _ _
 have s:=s.row_nil 31 1
 have hq_18 : Reps (tySl ty_api_Value) R [] ([] : List (List api_Value)):=Reps.nil _ _
 obtain rfl:=Option.some.inj H
 refine wp_ret ?_
 repeat first | refine zt ?_ | refine zb ?_ | refine zo ?_
 exact ret_2 results15 q (rv_cell (c:=[(.slice none 0 0),(.slice none 0 0)]) isAgg41 sizeOf41 s z2 rfl q rfl) (rv_tmp q rfl) ⟨_,rfl,_,_,_,_,_,rfl,(s.pk1.trunc 2),hRL,hq_16,hq_18⟩
 rw [ifb_f hb_14] at H
 refine wp_skip<|zq<|zq<|zr<|zl q (r_fieldAddr underlying41 rfl sizeOf38 q rfl) fun a q=>zl q (r_load isAgg38 q rfl (s.cell z0 rfl)) fun a q=>zl q (r_fieldAddr underlying41 rfl sizeOf38 q rfl) fun a q=>zl q (r_load isAgg38 q rfl (s.cell z1 rfl)) fun a q=>?_
 obtain ⟨y_19,h_20,H⟩:=bs H
 refine sl_callV call36 s q (by decide) rfl rfl rfl (ref02_SameCols.calls a0.Cols a1.Cols (lentOf_sub [] _) (h0_0.mono s.rLe0) (h1_0.mono s.rLe0) h_20) fun a w s q=>?_
 refine zl q (r_un q rfl (u_not _)) fun a q=>zn ?_
 refine wp_cond_split (q.ev rfl) (fun (hb_21 : (!y_19) = true)=>?_) fun hb_21=>?_
 rw [ifb_t hb_21] at H
 refine zq<|zr<|zl q (r_buildC (ps:=[]) (c:=[.slice none 0 0,.slice none 0 0]) underlying41 zeroValue41 places41 q rfl pc_nil rfl rfl) fun a q=>?_
 have s:=s.pk2
 refine sl_storeA (vs:=[.slice none 0 0,.slice none 0 0]) (c':=[.slice none 0 0,.slice none 0 0]) sizeOf41 s q rfl rfl rfl rfl (zc (zc zz)) (Nat.le_of_ble_eq_true rfl) rfl fun a w s q=>?_
 refine za q rfl fun a q=>zn ?_
 have s:=s.row_nil 65 2
 have hq_23 : Reps ty_api_Col R [] ([] : List api_Col):=Reps.nil _ _
 have s:=s.row_nil 31 1
 have hq_25 : Reps (tySl ty_api_Value) R [] ([] : List (List api_Value)):=Reps.nil _ _
 obtain rfl:=Option.some.inj H
 refine wp_ret ?_
 repeat first | refine zt ?_ | refine zb ?_ | refine zo ?_
 exact ret_2 results15 q (rv_cell (c:=[(.slice none 0 0),(.slice none 0 0)]) isAgg41 sizeOf41 s z2 rfl q rfl) (rv_tmp q rfl) ⟨_,rfl,_,_,_,_,_,rfl,(s.pk1.trunc 2),hRL,hq_23,hq_25⟩
 rw [ifb_f hb_21] at H
 refine wp_skip<|zq ?_
 refine parT_region (C:=fun w=>St [] w0 w R [.cells b_1 [v0_0,v0_1] 41,.cells b_2 [v1_0,v1_1] 41,.cells b_3 [.slice none 0 0,.slice none 0 0] 41]) 9 [(0,true),(1,true),(3,true),(4,true),(6,true),(7,true),(2,false),(5,false),(8,false)] mixed (by kernel_rfl) s (fun w s=>s) fun w s=>?_
 refine zp rfl q (fun w s=>r_fieldAddr underlying41 rfl sizeOf38 q rfl) fun a q=>zp rfl q (fun w s=>r_load isAgg38 q rfl (s.cell z0 rfl)) fun a q=>zp rfl q (fun w s=>r_fieldAddr underlying41 rfl sizeOf39 q rfl) fun a q=>zp rfl q (fun w s=>r_load isAgg39 q rfl (s.cell z0 rfl)) fun a q=>zp rfl q (fun w s=>r_fieldAddr underlying41 rfl sizeOf39 q rfl) fun a q=>zp rfl q (fun w s=>r_load isAgg39 q rfl (s.cell z1 rfl)) fun a q=>?_
 refine spw (k:=2) rfl rfl s ?_
 refine sl_buildSliceC (zc:=[.slice none 0 0]) (zs:=[]) (ps:=[]) (c:=[]) underlying39 sizeOf31 zeroValue31 rfl pc_nil rfl rfl (by decide) (by kernel_rfl) rfl s q (by decide) rfl fun a w b_57 s q=>?_
 refine parK_nil (s.pk3.pk3.pk3.trunc 3) ?_
 refine spw (k:=5) rfl rfl (s.pk3.pk3.pk3.trunc 3) ?_
 obtain ⟨y_60,h_61,H⟩:=bs H
 have s:=s.row_lit (size:=1) (m:=0) rfl (by decide)
 have hq_59 : Reps (tySl ty_api_Value) R [] ([] : List (List api_Value)):=(Reps.nil _ _)
 refine sl_append_R elT39 (by decide) rfl hq_59 rfl h0_1 h_61 s q (by decide) rfl rfl rfl fun a w v_62 cs_63 hq_64 s q=>?_
 refine parK_nil (s.pk3.pk3.pk3.trunc 3) ?_
 refine spw (k:=8) rfl rfl (s.pk3.pk3.pk3.trunc 3) ?_
 obtain ⟨y_66,h_67,H⟩:=bs H
 refine sl_append_R elT39 (by decide) rfl hq_64 rfl h1_1 h_67 s q (by decide) rfl rfl rfl fun a w v_68 cs_69 hq_70 s q=>?_
 refine parK_nil (s.pk3.pk3.pk3.trunc 3) ?_
 refine thenL_nil ?_
 have ho_72:=s.row_one z0
 refine zl q (r_buildC (ps:=[(0,v0_0),(1,v_68)]) (c:=[v0_0,v_68]) underlying41 zeroValue41 places41 q rfl (pc_cons (cells1 h0_0.one) (pc_cons (cells1 ho_72) pc_nil)) rfl rfl) fun a q=>?_
 obtain ⟨R_73,s,hl_75,hs_74⟩:=s.fz_row hq_70 rfl rfl
 have hRL:=hRL.trans hl_75
 obtain ⟨y_76,h_77,H⟩:=bs H
 refine sl_call call39 q (by decide) rfl rfl rfl (ref02_Canon.calls (⟨a0.Cols,y_66⟩ : api_Table) s.sub (h0_0.mono hl_75.le) hs_74 h_77) fun a v_ w hv_ q=>?_
 obtain ⟨R_78,v_81,cs_82,v_85,cs_86,hv_,hr_,hl_79,hq_83,hq_87⟩:=hv_
 have hv_:=hv_.symm
 subst hv_
 obtain ⟨s,hl_79⟩:=s.sp0.back hr_ hl_79
 have s:=s.un2
 have hRL:=hRL.trans hl_79
 have s:=s.pk4
 refine sl_storeA (vs:=[v_81,v_85]) (c':=[v_81,v_85]) sizeOf41 s q rfl rfl rfl rfl (all_cons (s.row_one z1) (all_cons (s.row_one z2) zz)) (Nat.le_of_ble_eq_true rfl) rfl fun a w s q=>?_
 refine za q rfl fun a q=>?_
 refine wpList_nil (NoP_nil ?_)
 obtain rfl:=Option.some.inj H
 refine wp_ret ?_
 repeat first | refine zt ?_ | refine zb ?_ | refine zo ?_
 exact ret_2 results15 q (rv_cell (c:=[v_81,v_85]) isAgg41 sizeOf41 s z0 rfl q rfl) (rv_tmp q rfl) ⟨_,rfl,_,_,_,_,_,rfl,(s.pk2.pk2.trunc 2),hRL,hq_83,hq_87⟩
theorem law08_LeafTimes.calls (a0 : List api_Schema) (a1 : List api_Point) (a2 : Int) {w0 : World} {R : Hp} {RA : Hp} {v0_0 : Value} {v1_0 : Value} (hRA : RA.sub w0) (hR : R.sub w0) (h0_0 : SlR ty_api_Schema R v0_0 a0) (h1_0 : SlR ty_api_Point RA v1_0 a1) (hG : GF RA) (H : law08_LeafTimes a0 a1 a2 = some true) : CallsV prog 5 #[v0_0,v1_0,I6 a2] w0 (.bool true):=by
 unfold law08_LeafTimes at H
 refine enter (args:=[v0_0,v1_0,I6 a2]) func5 rfl ntmps5 rfl fun a q=>?_
 have s:=St.init hR
 have hRL:=RLe.refl (M:=[]) w0 R
 refine zq<|zr<|za q rfl fun a q=>zn<|zq<|zr ?_
 obtain ⟨y_1,h_2,H⟩:=bs H
 refine sl_callV call7 s q (by decide) rfl rfl rfl (law08_shown.calls (lentOf_sub [] _) (GF.mono (s.raLe0 hRA nil_not) hG) h_2) fun a w s q=>?_
 refine za q rfl fun a q=>zn<|zq<|zq<|zr<|zm q rfl fun a q=>zl q (r_len_R underlying28 h0_0 q rfl) fun a q=>zl q (r_ibin q rfl rfl rfl) fun a q=>zn ?_
 refine wp_mid (fun a w=>∃ (x_11 : List api_Schema) (v_9 : Value),law08_LeafTimes.j0 a1 y_1 a2 x_11 = some true ∧ SlR ty_api_Schema R v_9 x_11 ∧ Kn 137 a [(0,v_9),(1,v1_0),(2,I6 a2),(7,.bool y_1)] ∧ St [] w0 w R []) ?_ ?_
 refine wp_cond_split (q.ev rfl) (fun (hb_13 : (decide ((a0.length : Int) > 10)) = true)=>?_) fun hb_13=>?_
 rw [ifb_t hb_13] at H
 refine zr<|zm q rfl fun a q=>?_
 obtain ⟨y_14,h_15,H⟩:=bs H
 obtain ⟨v_16,hs_17,hr_18⟩:=r_slice_R (x:=.tmp 26) (lo:=none) (hi:=some (.const (I6 10))) underlying28 sizeOf49 h0_0 h_15 q rfl rfl ⟨_,rfl⟩
 refine zl q (hr_18 _ _ _ _ _ _ _ q) fun a q=>za q rfl fun a q=>zn ?_
 exact ⟨y_14,v_16,H,hs_17,q.sub (zc (zc (zc (zc zz)))),s⟩
 rw [ifb_f hb_13] at H
 refine wp_skip ?_
 exact ⟨a0,v0_0,H,h0_0,q.sub (zc (zc (zc (zc zz)))),s⟩
 rintro a w ⟨x_11,v_9,H,hs_10,q,s⟩
 unfold law08_LeafTimes.j0 at H
 refine zq<|zr<|zm q rfl fun a q=>?_
 obtain ⟨y_19,h_20,H⟩:=bs H
 refine sl_call call8 q (by decide) rfl rfl rfl (leaf_New.calls x_11 1000 (lentOf_sub [] _) s.sub hs_10 (GF.mono (s.raLe0 hRA nil_not) hG) h_20) fun a v_ w hv_ q=>?_
 rcases hv_ with ⟨h_36,R_38,hv_,hr_,hl_39⟩ | ⟨y_23,h_37,R_21,b_24,v_25,b_27,v_29,cs_30,mb_32,mb_33,E_34,hv_,hr_,hl_22,hs_26,hq_31,hm_35⟩
 rw [oel_none h_36] at H
 have hv_:=hv_.symm
 subst hv_
 obtain ⟨s,hl_39⟩:=s.sp0.back hr_ hl_39
 have s:=s.un0
 have hRL:=hRL.trans hl_39
 refine zm q rfl fun a q=>zl q (r_extract q rfl rfl) fun a q=>zl q (r_extract q rfl rfl) fun a q=>za q rfl fun a q=>za q rfl fun a q=>zn<|zq<|zq ?_
 refine wp_mid (fun a w=>∃ (x_41 : Bool),law08_LeafTimes.j1 x_41 = some true ∧ Kn 137 a [(0,v_9),(1,v1_0),(2,I6 a2),(8,.pointer none),(41,.bool x_41)] ∧ St [] w0 w R_38 []) ?_ ?_
 refine zr<|zm q rfl fun a q=>zl q (r_un q rfl (u_not _)) fun a q=>zm q rfl fun a q=>?_
 rcases or_b (!y_1) with hb_43 | hb_43
 rw [ifb_t hb_43] at H
 refine zsw q (wft hb_43) fun a q=>zsw q (wft hb_43) fun a q=>zsw q (wft hb_43) fun a q=>zsw q (wft hb_43) fun a q=>zsw q (wft hb_43) fun a q=>zl q (r_pick_t hb_43 q rfl rfl) fun a q=>zn ?_
 exact ⟨true,H,q.sub (zc (zc (zc (zc (zc zz))))),s⟩
 rw [ifb_f hb_43] at H
 refine zw q (wff hb_43) (r_move q rfl) fun a q=>zw q (wff hb_43) (r_pnn underlying24 q rfl rfl) fun a q=>zw q (wff hb_43) (r_move q rfl) fun a q=>zw q (wff hb_43) (r_ibin q rfl rfl rfl) fun a q=>zw q (wff hb_43) (r_bne underlying4 q rfl rfl) fun a q=>zl q (r_pick_f hb_43 q rfl rfl) fun a q=>zn ?_
 exact ⟨(!(true == (y_19.2 != 0))),H,q.sub (zc (zc (zc (zc (zc zz))))),s⟩
 rintro a w ⟨x_41,H,q,s⟩
 unfold law08_LeafTimes.j1 at H
 refine wp_cond_split (q.ev rfl) (fun (hb_44 : x_41 = true)=>?_) fun hb_44=>?_
 rw [ifb_t hb_44] at H
 refine zq<|zr<|za q rfl fun a q=>zn ?_
 exact absurd (Option.some.inj H) (by decide)
 rw [ifb_f hb_44] at H
 refine wp_skip<|zq<|zq<|zr<|zm q rfl fun a q=>zl q (r_pnn underlying24 q rfl rfl) fun a q=>zn ?_
 refine wp_cond_true (q.ev rfl) ?_
 refine zq<|zr<|za q rfl fun a q=>zn ?_
 refine wp_ret ?_
 repeat first | refine zt ?_ | refine zb ?_ | refine zo ?_
 exact ret_1 results5 q (rv_tmp q rfl) ⟨rfl,s.bel⟩
 rw [oel_some h_37] at H
 have hv_:=hv_.symm
 subst hv_
 obtain ⟨s,hl_22⟩:=s.sp0.back hr_ hl_22
 have s:=s.un5
 have hRL:=hRL.trans hl_22
 refine zm q rfl fun a q=>zl q (r_extract q rfl rfl) fun a q=>zl q (r_extract q rfl rfl) fun a q=>za q rfl fun a q=>za q rfl fun a q=>zn<|zq<|zq ?_
 refine wp_mid (fun a w=>∃ (x_46 : Bool),law08_LeafTimes.j2 a1 a2 x_11 y_23 x_46 = some true ∧ Kn 137 a [(0,v_9),(1,v1_0),(2,I6 a2),(8,.pointer (some ⟨b_24,0,none⟩)),(41,.bool x_46)] ∧ St [] w0 w R_21 [.row 113 2 v_29 y_23.dict.l.length cs_30,.mp mb_32 (kvs Value.string (Value.int .i64) y_23.dict.ids),.cells b_27 [I6 y_23.dict.most,v_29,.map (some mb_32)] 102,mbo mb_33 (kvs (Value.int .i64) id (mbp E_34)) 111 90 2 E_34,.cells b_24 [v_25,I6 y_23.room,I6 y_23.points,.pointer (some ⟨b_27,0,none⟩),.map (some mb_33)] 70]) ?_ ?_
 refine zr<|zm q rfl fun a q=>zl q (r_un q rfl (u_not _)) fun a q=>zm q rfl fun a q=>?_
 rcases or_b (!y_1) with hb_48 | hb_48
 rw [ifb_t hb_48] at H
 refine zsw q (wft hb_48) fun a q=>zsw q (wft hb_48) fun a q=>zsw q (wft hb_48) fun a q=>zsw q (wft hb_48) fun a q=>zsw q (wft hb_48) fun a q=>zl q (r_pick_t hb_48 q rfl rfl) fun a q=>zn ?_
 have s:=s.pk4
 have s:=s.pk2
 have s:=s.pk4
 have s:=s.pk4
 exact ⟨true,H,q.sub (zc (zc (zc (zc (zc zz))))),s⟩
 rw [ifb_f hb_48] at H
 refine zw q (wff hb_48) (r_move q rfl) fun a q=>zw q (wff hb_48) (r_peq underlying24 q rfl rfl) fun a q=>zw q (wff hb_48) (r_move q rfl) fun a q=>zw q (wff hb_48) (r_ibin q rfl rfl rfl) fun a q=>zw q (wff hb_48) (r_bne underlying4 q rfl rfl) fun a q=>zl q (r_pick_f hb_48 q rfl rfl) fun a q=>zn ?_
 have s:=s.pk4
 have s:=s.pk2
 have s:=s.pk4
 have s:=s.pk4
 exact ⟨(!(false == (y_19.2 != 0))),H,q.sub (zc (zc (zc (zc (zc zz))))),s⟩
 rintro a w ⟨x_46,H,q,s⟩
 unfold law08_LeafTimes.j2 at H
 refine wp_cond_split (q.ev rfl) (fun (hb_49 : x_46 = true)=>?_) fun hb_49=>?_
 rw [ifb_t hb_49] at H
 refine zq<|zr<|za q rfl fun a q=>zn ?_
 exact absurd (Option.some.inj H) (by decide)
 rw [ifb_f hb_49] at H
 refine wp_skip<|zq<|zq<|zr<|zm q rfl fun a q=>zl q (r_peq underlying24 q rfl rfl) fun a q=>zn ?_
 refine wp_cond_false (q.ev rfl) ?_
 refine wp_skip<|zq<|zq<|zr<|za q rfl fun a q=>zn ?_
 refine wp_block ?_
 refine wp_loop_k (fun k_l3 a w=>∃ (x_86 : List api_Schema) (x_87 : Int) (x_88 : Int) (x_90 : Int) (x_92 : List streams_stream) (x_97 : List (ByteArray × Int)) (x_99 : List (Int × runs_Run)) (x_102 : Int) (R_103 : Hp) (v_84 : Value) (v_93 : Value) (cs_94 : List Value) (E_100 : List (MB Int)) (b_96 : Nat) (b_89 : Nat) (b_98 : Nat),law08_LeafTimes.l3 a1 a2 x_11 k_l3 x_86 x_87 x_88 x_90 x_92 x_97 x_99 x_102 = some true ∧ RLe [] w0 R_21 R_103 ∧ SlR ty_api_Schema R_103 v_84 x_86 ∧ Reps ty_streams_stream R_103 cs_94 x_92 ∧ MBel ty_api_Sample runs_Run.l R_103 E_100 x_99 ∧ Kn 137 a [(0,v_9),(1,v1_0),(2,I6 a2),(8,.pointer (some ⟨b_24,0,none⟩)),(10,I6 x_102)] ∧ St [] w0 w R_103 [.row 113 2 v_93 x_92.length cs_94,.mp b_96 (kvs Value.string (Value.int .i64) x_97),.cells b_89 [I6 x_90,v_93,.map (some b_96)] 102,mbo b_98 (kvs (Value.int .i64) id (mbp E_100)) 111 90 2 E_100,.cells b_24 [v_84,I6 x_87,I6 x_88,.pointer (some ⟨b_89,0,none⟩),.map (some b_98)] 70]) (((a1.length : Int) - 0).toNat + 1) ?_ ?_
 have s:=s.pk4
 have s:=s.pk4
 have s:=s.pk4
 have s:=s.pk4
 have s:=s.pk4
 exact ⟨y_23.schemas,y_23.room,y_23.points,y_23.dict.most,y_23.dict.l,y_23.dict.ids,y_23.runs,0,_,v_25,_,_,_,_,_,_,H,(RLe.refl _ _),hs_26,hq_31,hm_35,q.sub (zc (zc (zc (zc (zc zz))))),s⟩
 rintro k_l3 a w ⟨x_86,x_87,x_88,x_90,x_92,x_97,x_99,x_102,R_103,v_84,v_93,cs_94,E_100,b_96,b_89,b_98,H,hl_104,hs_85,hq_95,hm_101,q,s⟩
 rcases k_l3 with _ | k_l3
 cases H
 rw [law08_LeafTimes.l3.eq_2] at H
 have hRL:=hRL.trans hl_104
 refine zq<|zq ?_
 refine wp_mid (fun a w=>∃ (x_140 : Bool),law08_LeafTimes.j4 (law08_LeafTimes.l3 a1 a2 x_11 k_l3) a1 a2 x_11 x_86 x_87 x_88 x_90 x_92 x_97 x_99 x_102 x_140 = some true ∧ Kn 137 a [(0,v_9),(1,v1_0),(2,I6 a2),(8,.pointer (some ⟨b_24,0,none⟩)),(10,I6 x_102),(51,.bool x_140)] ∧ St [] w0 w R_103 [.row 113 2 v_93 x_92.length cs_94,.mp b_96 (kvs Value.string (Value.int .i64) x_97),.cells b_89 [I6 x_90,v_93,.map (some b_96)] 102,mbo b_98 (kvs (Value.int .i64) id (mbp E_100)) 111 90 2 E_100,.cells b_24 [v_84,I6 x_87,I6 x_88,.pointer (some ⟨b_89,0,none⟩),.map (some b_98)] 70]) ?_ ?_
 refine zr<|zm q rfl fun a q=>zm q rfl fun a q=>zl q (r_len_R underlying30 h1_0 q rfl) fun a q=>zl q (r_ibin q rfl rfl rfl) fun a q=>zm q rfl fun a q=>?_
 rcases or_b (decide (x_102 < (a1.length : Int))) with hb_142 | hb_142
 rw [ifb_t hb_142] at H
 refine zw q (wtt hb_142) (r_move q rfl) fun a q=>zw q (wtt hb_142) (r_ibin q rfl rfl rfl) fun a q=>zl q (r_pick_t hb_142 q rfl rfl) fun a q=>zn ?_
 have s:=s.pk4
 have s:=s.pk4
 have s:=s.pk4
 have s:=s.pk4
 have s:=s.pk4
 exact ⟨(decide (x_102 < 100)),H,q.sub (zc (zc (zc (zc (zc (zc zz)))))),s⟩
 rw [ifb_f hb_142] at H
 refine zsw q (wtf hb_142) fun a q=>zsw q (wtf hb_142) fun a q=>zl q (r_pick_f hb_142 q rfl rfl) fun a q=>zn ?_
 have s:=s.pk4
 have s:=s.pk4
 have s:=s.pk4
 have s:=s.pk4
 have s:=s.pk4
 exact ⟨false,H,q.sub (zc (zc (zc (zc (zc (zc zz)))))),s⟩
 rintro a w ⟨x_140,H,q,s⟩
 unfold law08_LeafTimes.j4 at H
 refine wp_cond_split (q.ev rfl) (fun (hb_143 : x_140 = true)=>?_) fun hb_143=>?_
 rw [ifb_t hb_143] at H
 refine wp_skip<|zq ?_
 refine wp_block ?_
 refine zr<|zm q rfl fun a q=>zm q rfl fun a q=>zm q rfl fun a q=>?_
 obtain ⟨y_144,h_145,H⟩:=bs H
 obtain ⟨b_146,o_147,c_148,cs_149,hv_150,hr_151,hc_152,h_1450,h_1451⟩:=h1_0.ix h_145
 obtain ⟨v_153,v_155,rfl,hs_154,hs_156⟩:=hr_151
 refine zl q (r_indexAddr_R underlying30 sizeOf33 hv_150 h_1450 h_1451 q rfl rfl) fun a q=>zl q (r_loadA (cs:=[.string y_144.Schema,v_153,I6 y_144.Time,v_155]) isAgg33 sizeOf33 rfl q rfl (fun j v hv=>(s.ra hRA nil_not).cell (hc_152 j v hv))) fun a q=>?_
 obtain ⟨y_157,h_158,H⟩:=bs H
 have s:=s.pk3
 have s:=s.pk2
 have s:=s.pk2
 have s:=s.pk3
 have s:=s.pk4
 have hS1:=s.sp5
 refine sl_call call11 q (by decide) rfl rfl rfl (leaf_Leaf_Write.calls (⟨x_86,x_87,x_88,(⟨x_90,x_92,x_97⟩ : streams_Dict),x_99⟩ : leaf_Leaf) y_144 (lentOf_sub _ _) lentOf_not hS1.lend hs_85 hq_95 hm_101 (hs_154.mono (hS1.raLe hRA nil_not)) (hs_156.mono (hS1.raLe hRA nil_not)) (GF.mono (hS1.raLe hRA nil_not) hG) h_158) fun a v_ w hv_ q=>?_
 obtain ⟨R_159,v_161,b_163,v_165,cs_166,mb_168,mb_169,E_170,hv_,hr_,hl_160,hs_162,hq_167,hm_171⟩:=hv_
 have hv_:=hv_.symm
 subst hv_
 obtain ⟨s,hl_160⟩:=hS1.back hr_ hl_160
 have s:=s.un5
 have hRL:=hRL.trans hl_160
 refine zn<|zr<|zm q rfl fun a q=>zl q (r_ibin q rfl rfl rfl) fun a q=>za q rfl fun a q=>zn ?_
 have s:=s.pk4
 have s:=s.pk2
 have s:=s.pk4
 have s:=s.pk4
 exact ⟨_,Nat.lt_succ_self _,y_157.2.2.schemas,y_157.2.2.room,y_157.2.2.points,y_157.2.2.dict.most,y_157.2.2.dict.l,y_157.2.2.dict.ids,y_157.2.2.runs,(IntKind.i64.wrap (x_102 + 1)),_,v_161,_,_,_,_,_,_,H,(hl_104.trans hl_160),hs_162,hq_167,hm_171,q.sub (zc (zc (zc (zc (zc zz))))),s⟩
 rw [ifb_f hb_143] at H
 refine wp_exit ?_
 refine zq<|zq<|zr<|zm q rfl fun a q=>zl q (r_ibin q rfl rfl rfl) fun a q=>zn ?_
 refine wp_cond_split (q.ev rfl) (fun (hb_172 : (a2 == 9223372036854775807) = true)=>?_) fun hb_172=>?_
 rw [ifb_t hb_172] at H
 refine zq<|zr<|za q rfl fun a q=>zn ?_
 refine wp_ret ?_
 repeat first | refine zt ?_ | refine zb ?_ | refine zo ?_
 exact ret_1 results5 q (rv_tmp q rfl) ⟨rfl,s.bel⟩
 rw [ifb_f hb_172] at H
 refine wp_skip<|zq<|zr<|za q rfl fun a q=>zn<|zq<|zq<|zr<|za q rfl fun a q=>zn ?_
 refine wp_block ?_
 refine wp_loop_k (fun k_l5 a w=>∃ (x_326 : List api_Schema) (x_327 : Int) (x_328 : Int) (x_330 : Int) (x_332 : List streams_stream) (x_337 : List (ByteArray × Int)) (x_339 : List (Int × runs_Run)) (x_342 : Int) (x_343 : Int) (R_344 : Hp) (v_324 : Value) (v_333 : Value) (cs_334 : List Value) (E_340 : List (MB Int)) (b_336 : Nat) (b_329 : Nat) (b_338 : Nat),law08_LeafTimes.l5 a2 x_11 k_l5 x_326 x_327 x_328 x_330 x_332 x_337 x_339 x_342 x_343 = some true ∧ RLe [] w0 R_103 R_344 ∧ SlR ty_api_Schema R_344 v_324 x_326 ∧ Reps ty_streams_stream R_344 cs_334 x_332 ∧ MBel ty_api_Sample runs_Run.l R_344 E_340 x_339 ∧ Kn 137 a [(0,v_9),(2,I6 a2),(8,.pointer (some ⟨b_24,0,none⟩)),(11,I6 x_342),(12,I6 x_343)] ∧ St [] w0 w R_344 [.row 113 2 v_333 x_332.length cs_334,.mp b_336 (kvs Value.string (Value.int .i64) x_337),.cells b_329 [I6 x_330,v_333,.map (some b_336)] 102,mbo b_338 (kvs (Value.int .i64) id (mbp E_340)) 111 90 2 E_340,.cells b_24 [v_324,I6 x_327,I6 x_328,.pointer (some ⟨b_329,0,none⟩),.map (some b_338)] 70]) (((x_11.length : Int) - 0).toNat + 1) ?_ ?_
 have s:=s.pk4
 have s:=s.pk4
 have s:=s.pk4
 have s:=s.pk4
 have s:=s.pk4
 exact ⟨x_86,x_87,x_88,x_90,x_92,x_97,x_99,0,0,_,v_84,_,_,_,_,_,_,H,(RLe.refl _ _),hs_85,hq_95,hm_101,q.sub (zc (zc (zc (zc (zc zz))))),s⟩
 rintro k_l5 a w ⟨x_326,x_327,x_328,x_330,x_332,x_337,x_339,x_342,x_343,R_344,v_324,v_333,cs_334,E_340,b_336,b_329,b_338,H,hl_345,hs_325,hq_335,hm_341,q,s⟩
 rcases k_l5 with _ | k_l5
 cases H
 rw [law08_LeafTimes.l5.eq_2] at H
 have hRL:=hRL.trans hl_345
 refine zq<|zq<|zr<|zm q rfl fun a q=>zm q rfl fun a q=>zl q (r_len_R underlying28 hs_10 q rfl) fun a q=>zl q (r_ibin q rfl rfl rfl) fun a q=>zn ?_
 refine wp_cond_split (q.ev rfl) (fun (hb_496 : (decide (x_343 < (x_11.length : Int))) = true)=>?_) fun hb_496=>?_
 rw [ifb_t hb_496] at H
 refine wp_skip<|zq ?_
 refine wp_block ?_
 refine zq<|zr<|zm q rfl fun a q=>zm q rfl fun a q=>zm q rfl fun a q=>?_
 obtain ⟨y_497,h_498,H⟩:=bs H
 obtain ⟨b_499,o_500,c_501,cs_502,hv_503,hr_504,hc_505,h_4980,h_4981⟩:=hs_10.ix h_498
 obtain ⟨v_506,v_508,rfl,hs_507,hs_509⟩:=hr_504
 refine zl q (r_indexAddr_R underlying28 sizeOf49 hv_503 h_4980 h_4981 q rfl rfl) fun a q=>zl q (r_fieldAddr underlying49 rfl sizeOf9 q rfl) fun a q=>zl q (r_load isAgg9 q rfl ((s.sub.le (hl_22.le.trans (hl_104.le.trans hl_345.le))).cell (hc_505 0 _ rfl))) fun a q=>zm q rfl fun a q=>?_
 obtain ⟨y_510,h_511,H⟩:=bs H
 have s:=s.pk3
 have s:=s.pk2
 have s:=s.pk2
 have s:=s.pk3
 have s:=s.pk4
 have hS1:=s.sp5
 refine sl_call call12 q (by decide) rfl rfl rfl (leaf_Leaf_Scan.calls (⟨x_326,x_327,x_328,(⟨x_330,x_332,x_337⟩ : streams_Dict),x_339⟩ : leaf_Leaf) y_497.Name (-9223372036854775808) a2 hS1.lend hs_325 hq_335 hm_341 h_511) fun a v_ w hv_ q=>?_
 obtain ⟨R_512,v_515,cs_516,v_519,cs_520,v_522,b_524,v_526,cs_527,mb_529,mb_530,E_531,hv_,hr_,hl_513,hq_517,hq_521,hs_523,hq_528,hm_532⟩:=hv_
 have hv_:=hv_.symm
 subst hv_
 obtain ⟨s,hl_513⟩:=hS1.back hr_ hl_513
 have s:=s.un7
 have hRL:=hRL.trans hl_513
 refine zm q rfl fun a q=>zl q (r_extract q rfl rfl) fun a q=>zl q (r_extract q rfl rfl) fun a q=>?_
 refine sl_alloc zeroValue41 s q (by decide) rfl rfl fun a w b_533 s q=>?_
 refine sl_storeA (vs:=[v_515,v_519]) (c':=[v_515,v_519]) sizeOf41 s q rfl rfl rfl rfl (all_cons (s.row_one z1) (all_cons (s.row_one z2) zz)) (Nat.le_of_ble_eq_true rfl) rfl fun a w s q=>?_
 refine za q rfl fun a q=>zn<|zq<|zr<|zm q rfl fun a q=>zm q rfl fun a q=>zm q rfl fun a q=>?_
 obtain ⟨y_534,h_535,H⟩:=bs H
 obtain ⟨b_536,o_537,c_538,cs_539,hv_540,hr_541,hc_542,h_5350,h_5351⟩:=hs_10.ix h_535
 obtain ⟨v_543,v_545,rfl,hs_544,hs_546⟩:=hr_541
 refine zl q (r_indexAddr_R underlying28 sizeOf49 hv_540 h_5350 h_5351 q rfl rfl) fun a q=>zl q (r_fieldAddr underlying49 rfl sizeOf9 q rfl) fun a q=>zl q (r_load isAgg9 q rfl ((s.sub.le (hl_22.le.trans (hl_104.le.trans (hl_345.le.trans hl_513.le)))).cell (hc_542 0 _ rfl))) fun a q=>zm q rfl fun a q=>zl q (r_ibin q rfl rfl rfl) fun a q=>?_
 obtain ⟨y_547,h_548,H⟩:=bs H
 have s:=s.pk7
 have s:=s.pk7
 have s:=s.pk7
 have s:=s.pk7
 have s:=s.pk7
 have hS1:=s.sp5
 refine sl_call call12 q (by decide) rfl rfl rfl (leaf_Leaf_Scan.calls y_510.2.2 y_534.Name (IntKind.i64.wrap (a2 + 1)) 9223372036854775807 hS1.lend hs_523 hq_528 hm_532 h_548) fun a v_ w hv_ q=>?_
 obtain ⟨R_549,v_552,cs_553,v_556,cs_557,v_559,b_561,v_563,cs_564,mb_566,mb_567,E_568,hv_,hr_,hl_550,hq_554,hq_558,hs_560,hq_565,hm_569⟩:=hv_
 have hv_:=hv_.symm
 subst hv_
 obtain ⟨s,hl_550⟩:=hS1.back hr_ hl_550
 have s:=s.un7
 have hRL:=hRL.trans hl_550
 refine zm q rfl fun a q=>zl q (r_extract q rfl rfl) fun a q=>zl q (r_extract q rfl rfl) fun a q=>?_
 refine sl_alloc zeroValue41 s q (by decide) rfl rfl fun a w b_570 s q=>?_
 refine sl_storeA (vs:=[v_552,v_556]) (c':=[v_552,v_556]) sizeOf41 s q rfl rfl rfl rfl (all_cons (s.row_one z1) (all_cons (s.row_one z2) zz)) (Nat.le_of_ble_eq_true rfl) rfl fun a w s q=>?_
 refine za q rfl fun a q=>zn<|zq<|zr<|zm q rfl fun a q=>zm q rfl fun a q=>zm q rfl fun a q=>?_
 obtain ⟨y_571,h_572,H⟩:=bs H
 obtain ⟨b_573,o_574,c_575,cs_576,hv_577,hr_578,hc_579,h_5720,h_5721⟩:=hs_10.ix h_572
 obtain ⟨v_580,v_582,rfl,hs_581,hs_583⟩:=hr_578
 refine zl q (r_indexAddr_R underlying28 sizeOf49 hv_577 h_5720 h_5721 q rfl rfl) fun a q=>zl q (r_fieldAddr underlying49 rfl sizeOf9 q rfl) fun a q=>zl q (r_load isAgg9 q rfl ((s.sub.le (hl_22.le.trans (hl_104.le.trans (hl_345.le.trans (hl_513.le.trans hl_550.le))))).cell (hc_579 0 _ rfl))) fun a q=>?_
 obtain ⟨y_584,h_585,H⟩:=bs H
 have s:=s.pk7
 have s:=s.pk7
 have s:=s.pk7
 have s:=s.pk7
 have s:=s.pk7
 have hS1:=s.sp5
 refine sl_call call12 q (by decide) rfl rfl rfl (leaf_Leaf_Scan.calls y_547.2.2 y_571.Name (-9223372036854775808) 9223372036854775807 hS1.lend hs_560 hq_565 hm_569 h_585) fun a v_ w hv_ q=>?_
 obtain ⟨R_586,v_589,cs_590,v_593,cs_594,v_596,b_598,v_600,cs_601,mb_603,mb_604,E_605,hv_,hr_,hl_587,hq_591,hq_595,hs_597,hq_602,hm_606⟩:=hv_
 have hv_:=hv_.symm
 subst hv_
 obtain ⟨s,hl_587⟩:=hS1.back hr_ hl_587
 have s:=s.un7
 have hRL:=hRL.trans hl_587
 refine zm q rfl fun a q=>zl q (r_extract q rfl rfl) fun a q=>zl q (r_extract q rfl rfl) fun a q=>?_
 refine sl_alloc zeroValue41 s q (by decide) rfl rfl fun a w b_607 s q=>?_
 refine sl_storeA (vs:=[v_589,v_593]) (c':=[v_589,v_593]) sizeOf41 s q rfl rfl rfl rfl (all_cons (s.row_one z1) (all_cons (s.row_one z2) zz)) (Nat.le_of_ble_eq_true rfl) rfl fun a w s q=>?_
 refine za q rfl fun a q=>zn<|zq<|zr<|zl q (r_loadA (cs:=[v_515,v_519]) isAgg41 sizeOf41 rfl q rfl (s.cells_of (m:=2) (.tail _ (.tail _ (.tail _ z8))) rfl)) fun a q=>zl q (r_loadA (cs:=[v_552,v_556]) isAgg41 sizeOf41 rfl q rfl (s.cells_of (m:=2) z8 rfl)) fun a q=>?_
 have s:=s.pk12
 obtain ⟨R_608,s,hl_610,hs_609⟩:=s.fz_row (hq_517.mono (hl_550.le.trans hl_587.le)) rfl rfl
 have hRL:=hRL.trans hl_610
 have s:=s.pk12
 obtain ⟨R_611,s,hl_613,hs_612⟩:=s.fz_row (hq_521.mono (hl_550.le.trans (hl_587.le.trans hl_610.le))) rfl rfl
 have hRL:=hRL.trans hl_613
 have s:=s.pk9
 obtain ⟨R_614,s,hl_616,hs_615⟩:=s.fz_row (hq_554.mono (hl_587.le.trans (hl_610.le.trans hl_613.le))) rfl rfl
 have hRL:=hRL.trans hl_616
 have s:=s.pk9
 obtain ⟨R_617,s,hl_619,hs_618⟩:=s.fz_row (hq_558.mono (hl_587.le.trans (hl_610.le.trans (hl_613.le.trans hl_616.le)))) rfl rfl
 have hRL:=hRL.trans hl_619
 obtain ⟨y_620,h_621,H⟩:=bs H
 refine sl_call call15 q (by decide) rfl rfl rfl (ref02_Union.calls y_510.1 y_547.1 s.sub (hs_609.mono (hl_613.le.trans (hl_616.le.trans hl_619.le))) (hs_612.mono (hl_616.le.trans hl_619.le)) (hs_615.mono hl_619.le) hs_618 h_621) fun a v_ w hv_ q=>?_
 obtain ⟨R_622,v_625,cs_626,v_629,cs_630,hv_,hr_,hl_623,hq_627,hq_631⟩:=hv_
 have hv_:=hv_.symm
 subst hv_
 obtain ⟨s,hl_623⟩:=s.sp0.back hr_ hl_623
 have s:=s.un2
 have hRL:=hRL.trans hl_623
 refine zm q rfl fun a q=>zl q (r_extract q rfl rfl) fun a q=>zl q (r_extract q rfl rfl) fun a q=>?_
 refine sl_alloc zeroValue41 s q (by decide) rfl rfl fun a w b_632 s q=>?_
 refine sl_storeA (vs:=[v_625,v_629]) (c':=[v_625,v_629]) sizeOf41 s q rfl rfl rfl rfl (all_cons (s.row_one z1) (all_cons (s.row_one z2) zz)) (Nat.le_of_ble_eq_true rfl) rfl fun a w s q=>?_
 refine za q rfl fun a q=>zn<|zq<|zr<|zl q (r_loadA (cs:=[v_625,v_629]) isAgg41 sizeOf41 rfl q rfl (s.cells_of (m:=2) z0 rfl)) fun a q=>zl q (r_loadA (cs:=[v_589,v_593]) isAgg41 sizeOf41 rfl q rfl (s.cells_of (m:=2) z3 rfl)) fun a q=>?_
 obtain ⟨y_633,h_634,H⟩:=bs H
 refine sl_callV call13 s q (by decide) rfl rfl rfl (ref02_Same.calls y_620.1 y_584.1 (lentOf_sub [] _) (s.lend_row0 z1 hq_627 rfl rfl) (s.lend_row0 z2 hq_631 rfl rfl) (s.lend_row0 z4 (hq_591.mono (hl_610.le.trans (hl_613.le.trans (hl_616.le.trans (hl_619.le.trans hl_623.le))))) rfl rfl) (s.lend_row0 z5 (hq_595.mono (hl_610.le.trans (hl_613.le.trans (hl_616.le.trans (hl_619.le.trans hl_623.le))))) rfl rfl) h_634) fun a w s q=>?_
 refine za q rfl fun a q=>zn<|zq<|zq ?_
 refine wp_mid (fun a w=>∃ (x_639 : Bool),law08_LeafTimes.j6 (law08_LeafTimes.l5 a2 x_11 k_l5) x_11 x_342 x_343 y_584 x_639 = some true ∧ Kn 137 a [(0,v_9),(2,I6 a2),(8,.pointer (some ⟨b_24,0,none⟩)),(11,I6 x_342),(12,I6 x_343),(17,.pointer (some ⟨b_607,0,none⟩)),(127,.bool x_639)] ∧ St [] w0 w R_622 [.row 113 2 v_600 y_584.2.2.dict.l.length cs_601,.mp mb_603 (kvs Value.string (Value.int .i64) y_584.2.2.dict.ids),.cells b_598 [I6 y_584.2.2.dict.most,v_600,.map (some mb_603)] 102,mbo mb_604 (kvs (Value.int .i64) id (mbp E_605)) 111 90 2 E_605,.cells b_24 [v_596,I6 y_584.2.2.room,I6 y_584.2.2.points,.pointer (some ⟨b_598,0,none⟩),.map (some mb_604)] 70,.row 65 2 v_589 y_584.1.Cols.length cs_590,.row 31 1 v_593 y_584.1.Rows.length cs_594,.cells b_607 [v_589,v_593] 41]) ?_ ?_
 refine zr<|zm q rfl fun a q=>zl q (r_ibin q rfl rfl rfl) fun a q=>zm q rfl fun a q=>?_
 rcases or_b (y_510.2.1 != 0) with hb_641 | hb_641
 rw [ifb_t hb_641] at H
 refine zsw q (wft hb_641) fun a q=>zsw q (wft hb_641) fun a q=>zl q (r_pick_t hb_641 q rfl rfl) fun a q=>zm q rfl fun a q=>zs q fun a q=>zs q fun a q=>zl q (r_pick q rfl rfl rfl) fun a q=>zm q rfl fun a q=>zs q fun a q=>zs q fun a q=>zl q (r_pick q rfl rfl rfl) fun a q=>zm q rfl fun a q=>zs q fun a q=>zs q fun a q=>zl q (r_pick q rfl rfl rfl) fun a q=>zn ?_
 have s:=s.pk3
 have s:=s.pk5
 have s:=s.pk5
 have s:=s.pk6
 have s:=s.pk10
 have s:=s.pk8
 have s:=s.pk10
 have s:=s.pk10
 exact ⟨true,H,q.sub (zc (zc (zc (zc (zc (zc (zc zz))))))),s.trunc 8⟩
 rw [ifb_f hb_641] at H
 refine zw q (wff hb_641) (r_move q rfl) fun a q=>zw q (wff hb_641) (r_ibin q rfl rfl rfl) fun a q=>zl q (r_pick_f hb_641 q rfl rfl) fun a q=>zm q rfl fun a q=>?_
 rcases or_b (y_547.2.1 != 0) with hb_642 | hb_642
 rw [ifb_t hb_642] at H
 refine zsw q (wft hb_642) fun a q=>zsw q (wft hb_642) fun a q=>zl q (r_pick_t hb_642 q rfl rfl) fun a q=>zm q rfl fun a q=>zs q fun a q=>zs q fun a q=>zl q (r_pick q rfl rfl rfl) fun a q=>zm q rfl fun a q=>zs q fun a q=>zs q fun a q=>zl q (r_pick q rfl rfl rfl) fun a q=>zn ?_
 have s:=s.pk3
 have s:=s.pk5
 have s:=s.pk5
 have s:=s.pk6
 have s:=s.pk10
 have s:=s.pk8
 have s:=s.pk10
 have s:=s.pk10
 exact ⟨true,H,q.sub (zc (zc (zc (zc (zc (zc (zc zz))))))),s.trunc 8⟩
 rw [ifb_f hb_642] at H
 refine zw q (wff hb_642) (r_move q rfl) fun a q=>zw q (wff hb_642) (r_ibin q rfl rfl rfl) fun a q=>zl q (r_pick_f hb_642 q rfl rfl) fun a q=>zm q rfl fun a q=>?_
 rcases or_b (y_584.2.1 != 0) with hb_643 | hb_643
 rw [ifb_t hb_643] at H
 refine zsw q (wft hb_643) fun a q=>zsw q (wft hb_643) fun a q=>zl q (r_pick_t hb_643 q rfl rfl) fun a q=>zm q rfl fun a q=>zs q fun a q=>zs q fun a q=>zl q (r_pick q rfl rfl rfl) fun a q=>zn ?_
 have s:=s.pk3
 have s:=s.pk5
 have s:=s.pk5
 have s:=s.pk6
 have s:=s.pk10
 have s:=s.pk8
 have s:=s.pk10
 have s:=s.pk10
 exact ⟨true,H,q.sub (zc (zc (zc (zc (zc (zc (zc zz))))))),s.trunc 8⟩
 rw [ifb_f hb_643] at H
 refine zw q (wff hb_643) (r_move q rfl) fun a q=>zw q (wff hb_643) (r_ibin q rfl rfl rfl) fun a q=>zl q (r_pick_f hb_643 q rfl rfl) fun a q=>zm q rfl fun a q=>?_
 rcases or_b (y_620.2 != 0) with hb_644 | hb_644
 rw [ifb_t hb_644] at H
 refine zsw q (wft hb_644) fun a q=>zsw q (wft hb_644) fun a q=>zl q (r_pick_t hb_644 q rfl rfl) fun a q=>zn ?_
 have s:=s.pk3
 have s:=s.pk5
 have s:=s.pk5
 have s:=s.pk6
 have s:=s.pk10
 have s:=s.pk8
 have s:=s.pk10
 have s:=s.pk10
 exact ⟨true,H,q.sub (zc (zc (zc (zc (zc (zc (zc zz))))))),s.trunc 8⟩
 rw [ifb_f hb_644] at H
 refine zw q (wff hb_644) (r_move q rfl) fun a q=>zw q (wff hb_644) (r_un q rfl (u_not _)) fun a q=>zl q (r_pick_f hb_644 q rfl rfl) fun a q=>zn ?_
 have s:=s.pk3
 have s:=s.pk5
 have s:=s.pk5
 have s:=s.pk6
 have s:=s.pk10
 have s:=s.pk8
 have s:=s.pk10
 have s:=s.pk10
 exact ⟨(!y_633),H,q.sub (zc (zc (zc (zc (zc (zc (zc zz))))))),s.trunc 8⟩
 rintro a w ⟨x_639,H,q,s⟩
 unfold law08_LeafTimes.j6 at H
 refine wp_cond_split (q.ev rfl) (fun (hb_645 : x_639 = true)=>?_) fun hb_645=>?_
 rw [ifb_t hb_645] at H
 refine zq<|zr<|za q rfl fun a q=>zn ?_
 exact absurd (Option.some.inj H) (by decide)
 rw [ifb_f hb_645] at H
 refine wp_skip<|zr<|zm q rfl fun a q=>zl q (r_fieldAddr underlying41 rfl sizeOf39 q rfl) fun a q=>zl q (r_load isAgg39 q rfl (s.cell z7 rfl)) fun a q=>zl q (r_len_O underlying39 s z6 q rfl) fun a q=>zl q (r_ibin q rfl rfl rfl) fun a q=>za q rfl fun a q=>zn<|zr<|zm q rfl fun a q=>zl q (r_ibin q rfl rfl rfl) fun a q=>za q rfl fun a q=>zn ?_
 have s:=s.pk4
 have s:=s.pk4
 have s:=s.pk4
 have s:=s.pk4
 have s:=s.pk4
 exact ⟨_,Nat.lt_succ_self _,y_584.2.2.schemas,y_584.2.2.room,y_584.2.2.points,y_584.2.2.dict.most,y_584.2.2.dict.l,y_584.2.2.dict.ids,y_584.2.2.runs,(IntKind.i64.wrap (x_342 + (y_584.1.Rows.length : Int))),(IntKind.i64.wrap (x_343 + 1)),_,v_596,_,_,_,_,_,_,H,(hl_345.trans (hl_513.trans (hl_550.trans (hl_587.trans (hl_610.trans (hl_613.trans (hl_616.trans (hl_619.trans hl_623)))))))),(hs_597.mono (hl_610.le.trans (hl_613.le.trans (hl_616.le.trans (hl_619.le.trans hl_623.le))))),(hq_602.mono (hl_610.le.trans (hl_613.le.trans (hl_616.le.trans (hl_619.le.trans hl_623.le))))),(hm_606.mono (hl_610.le.trans (hl_613.le.trans (hl_616.le.trans (hl_619.le.trans hl_623.le))))),q.sub (zc (zc (zc (zc (zc zz))))),s.trunc 5⟩
 rw [ifb_f hb_496] at H
 refine wp_exit ?_
 refine zq<|zr<|zm q rfl fun a q=>zm q rfl fun a q=>?_
 obtain ⟨y_646,h_647,H⟩:=bs H
 have s:=s.pk3
 have s:=s.pk2
 have s:=s.pk2
 have s:=s.pk3
 have s:=s.pk4
 have hS1:=s.sp5
 refine sl_call call14 q (by decide) rfl rfl rfl (leaf_Leaf_Points.calls (⟨x_326,x_327,x_328,(⟨x_330,x_332,x_337⟩ : streams_Dict),x_339⟩ : leaf_Leaf) hS1.lend hs_325 hq_335 hm_341 h_647) fun a v_ w hv_ q=>?_
 obtain ⟨R_648,v_650,b_652,v_654,cs_655,mb_657,mb_658,E_659,hv_,hr_,hl_649,hs_651,hq_656,hm_660⟩:=hv_
 have hv_:=hv_.symm
 subst hv_
 obtain ⟨s,hl_649⟩:=hS1.back hr_ hl_649
 have s:=s.un5
 have hRL:=hRL.trans hl_649
 refine zl q (r_ibin q rfl rfl rfl) fun a q=>za q rfl fun a q=>zn ?_
 have hr_:=Option.some.inj H
 refine wp_ret ?_
 repeat first | refine zt ?_ | refine zb ?_ | refine zo ?_
 exact ret_1 results5 q (rv_tmp q rfl) ⟨congrArg (fun b=>Ending.returned (Value.bool b)) hr_,s.bel⟩
end Go.Proofs.YtchgiggipimigaaGreatDoor.M
end
