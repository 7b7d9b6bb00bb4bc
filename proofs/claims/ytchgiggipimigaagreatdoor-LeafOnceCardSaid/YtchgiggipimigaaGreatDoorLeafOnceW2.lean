/- For the law LeafOnce: each Go function answers as its plain Lean function tells, wherever that tells something; without further condition. -/
import Derived.Test.YtchgiggipimigaaGreatDoorLeafOnceW1
section
namespace Go.Proofs.YtchgiggipimigaaGreatDoor.M
open Go Go.Eng Go.Proofs Go.RowKit
set_option linter.unusedVariables false
set_option linter.unusedSimpArgs false
open Go.Proofs.Tryz
set_option maxHeartbeats 4000000
set_option maxRecDepth 100000
theorem slices_Compare_int_int.calls (a0 : List Int) (a1 : List Int) {w0 : World} {RA : Hp} {v0_0 : Value} {v1_0 : Value} (hRA : RA.sub w0) (h0_0 : SlR (tyInt .i64) RA v0_0 a0) (h1_0 : SlR (tyInt .i64) RA v1_0 a1) {r : Int} (H : slices_Compare_int_int a0 a1 = some r) : CallsV prog 116 #[v0_0,v1_0] w0 (I6 r):=by
 unfold slices_Compare_int_int at H
 refine enter (args:=[v0_0,v1_0]) func116 rfl ntmps116 rfl fun a q=>?_
 have s:=St.init (R:=fun _=>none) (w:=w0) (fun _ _ h=>by cases h)
 have hRL:=RLe.refl (M:=[]) w0 (fun _=>none)
 refine zq<|zr<|za q rfl fun a q=>zn<|zq<|zq<|zr<|zm q rfl fun a q=>zl q (r_len_R underlying22 h0_0 q rfl) fun a q=>zm q rfl fun a q=>zn ?_
 refine wp_block ?_
 refine wp_loop_k (fun k_l0 a w=>∃ (x_25 : Int),slices_Compare_int_int.l0 a0 a1 k_l0 x_25 = some r ∧ Kn 36 a [(0,v0_0),(1,v1_0),(9,v0_0),(10,I6 (a0.length : Int)),(11,I6 x_25)] ∧ St [] w0 w (fun _=>none) []) (((a0.length : Int) - 0).toNat + 1) ?_ ?_
 exact ⟨0,H,q.sub (zc (zc (zc (zc (zc zz))))),s⟩
 rintro k_l0 a w ⟨x_25,H,q,s⟩
 rcases k_l0 with _ | k_l0
 cases H
 rw [slices_Compare_int_int.l0.eq_2] at H
 refine zq<|zr<|zl q (r_ibin q rfl rfl rfl) fun a q=>zn<|zq ?_
 refine wp_cond_split (q.ev rfl) (fun (hb_50 : (decide (x_25 < (a0.length : Int))) = true)=>?_) fun hb_50=>?_
 rw [ifb_t hb_50] at H
 refine wp_skip<|zq ?_
 refine wp_block ?_
 refine zq<|zr<|zm q rfl fun a q=>?_
 obtain ⟨y_51,h_52,H⟩:=bs H
 obtain ⟨b_53,o_54,c_55,cs_56,hv_57,hr_58,hc_59,h_520,h_521⟩:=h0_0.ix h_52
 subst hr_58
 refine zl q (r_indexAddr_R underlying22 sizeOf3 hv_57 h_520 h_521 q rfl rfl) fun a q=>zl q (r_load isAgg3 q rfl ((s.ra hRA nil_not).cell (hc_59 0 _ rfl))) fun a q=>za q rfl fun a q=>za q rfl fun a q=>zn<|zq<|zq<|zr<|zm q rfl fun a q=>zm q rfl fun a q=>zl q (r_len_R underlying22 h1_0 q rfl) fun a q=>zl q (r_ibin q rfl rfl rfl) fun a q=>zn ?_
 refine wp_cond_split (q.ev rfl) (fun (hb_60 : (decide (x_25 ≥ (a1.length : Int))) = true)=>?_) fun hb_60=>?_
 rw [ifb_t hb_60] at H
 refine zq<|zr<|za q rfl fun a q=>zn ?_
 obtain rfl:=Option.some.inj H
 refine wp_ret ?_
 repeat first | refine zt ?_ | refine zb ?_ | refine zo ?_
 exact ret_1 results116 q (rv_tmp q rfl) ⟨rfl,s.bel⟩
 rw [ifb_f hb_60] at H
 refine wp_skip<|zq<|zr<|zm q rfl fun a q=>zm q rfl fun a q=>?_
 obtain ⟨y_61,h_62,H⟩:=bs H
 obtain ⟨b_63,o_64,c_65,cs_66,hv_67,hr_68,hc_69,h_620,h_621⟩:=h1_0.ix h_62
 subst hr_68
 refine zl q (r_indexAddr_R underlying22 sizeOf3 hv_67 h_620 h_621 q rfl rfl) fun a q=>zl q (r_load isAgg3 q rfl ((s.ra hRA nil_not).cell (hc_69 0 _ rfl))) fun a q=>za q rfl fun a q=>zn<|zq<|zr<|zm q rfl fun a q=>zm q rfl fun a q=>?_
 obtain ⟨y_70,h_71,H⟩:=bs H
 refine sl_callV call83 s q (by decide) rfl rfl rfl (cmp_Compare_int.calls y_51 y_61 h_71 _) fun a w s q=>?_
 refine za q rfl fun a q=>zn<|zq<|zr<|zm q rfl fun a q=>zl q (r_ibin q rfl rfl rfl) fun a q=>zn ?_
 refine wp_cond_split (q.ev rfl) (fun (hb_72 : (y_70 != 0) = true)=>?_) fun hb_72=>?_
 rw [ifb_t hb_72] at H
 refine zq<|zr<|zm q rfl fun a q=>za q rfl fun a q=>zn ?_
 obtain rfl:=Option.some.inj H
 refine wp_ret ?_
 repeat first | refine zt ?_ | refine zb ?_ | refine zo ?_
 exact ret_1 results116 q (rv_tmp q rfl) ⟨rfl,s.bel⟩
 rw [ifb_f hb_72] at H
 refine wp_skip<|zr<|zl q (r_ibin q rfl rfl rfl) fun a q=>zm q rfl fun a q=>zn ?_
 exact ⟨_,Nat.lt_succ_self _,(IntKind.i64.wrap (x_25 + 1)),H,q.sub (zc (zc (zc (zc (zc zz))))),s⟩
 rw [ifb_f hb_50] at H
 refine wp_exit ?_
 refine zq<|zq<|zr<|zm q rfl fun a q=>zl q (r_len_R underlying22 h0_0 q rfl) fun a q=>zm q rfl fun a q=>zl q (r_len_R underlying22 h1_0 q rfl) fun a q=>zl q (r_ibin q rfl rfl rfl) fun a q=>zn ?_
 refine wp_cond_split (q.ev rfl) (fun (hb_73 : (decide ((a0.length : Int) < (a1.length : Int))) = true)=>?_) fun hb_73=>?_
 rw [ifb_t hb_73] at H
 refine zq<|zr<|za q rfl fun a q=>zn ?_
 obtain rfl:=Option.some.inj H
 refine wp_ret ?_
 repeat first | refine zt ?_ | refine zb ?_ | refine zo ?_
 exact ret_1 results116 q (rv_tmp q rfl) ⟨rfl,s.bel⟩
 rw [ifb_f hb_73] at H
 refine wp_skip<|zq<|zr<|za q rfl fun a q=>zn ?_
 obtain rfl:=Option.some.inj H
 refine wp_ret ?_
 repeat first | refine zt ?_ | refine zb ?_ | refine zo ?_
 exact ret_1 results116 q (rv_tmp q rfl) ⟨rfl,s.bel⟩
theorem cmp_Or_int.calls (a0 : List Int) {w0 : World} {RA : Hp} {v0_0 : Value} (hRA : RA.sub w0) (h0_0 : SlR (tyInt .i64) RA v0_0 a0) {r : Int} (H : cmp_Or_int a0 = some r) : CallsV prog 114 #[v0_0] w0 (I6 r):=by
 unfold cmp_Or_int at H
 refine enter (args:=[v0_0]) func114 rfl ntmps114 rfl fun a q=>?_
 have s:=St.init (R:=fun _=>none) (w:=w0) (fun _ _ h=>by cases h)
 have hRL:=RLe.refl (M:=[]) w0 (fun _=>none)
 refine zq<|zr<|za q rfl fun a q=>zn<|zq<|zr<|za q rfl fun a q=>zn<|zq<|zq<|zr<|zm q rfl fun a q=>zl q (r_len_R underlying22 h0_0 q rfl) fun a q=>zm q rfl fun a q=>zn ?_
 refine wp_block ?_
 refine wp_loop_k (fun k_l0 a w=>∃ (x_13 : Int),cmp_Or_int.l0 a0 k_l0 x_13 = some r ∧ Kn 18 a [(3,I6 0),(6,v0_0),(7,I6 (a0.length : Int)),(8,I6 x_13)] ∧ St [] w0 w (fun _=>none) []) (((a0.length : Int) - 0).toNat + 1) ?_ ?_
 exact ⟨0,H,q.sub (zc (zc (zc (zc zz)))),s⟩
 rintro k_l0 a w ⟨x_13,H,q,s⟩
 rcases k_l0 with _ | k_l0
 cases H
 rw [cmp_Or_int.l0.eq_2] at H
 refine zq<|zr<|zl q (r_ibin q rfl rfl rfl) fun a q=>zn<|zq ?_
 refine wp_cond_split (q.ev rfl) (fun (hb_26 : (decide (x_13 < (a0.length : Int))) = true)=>?_) fun hb_26=>?_
 rw [ifb_t hb_26] at H
 refine wp_skip<|zq ?_
 refine wp_block ?_
 refine zq<|zr ?_
 obtain ⟨y_27,h_28,H⟩:=bs H
 obtain ⟨b_29,o_30,c_31,cs_32,hv_33,hr_34,hc_35,h_280,h_281⟩:=h0_0.ix h_28
 subst hr_34
 refine zl q (r_indexAddr_R underlying22 sizeOf3 hv_33 h_280 h_281 q rfl rfl) fun a q=>zl q (r_load isAgg3 q rfl ((s.ra hRA nil_not).cell (hc_35 0 _ rfl))) fun a q=>za q rfl fun a q=>zn<|zq<|zr<|zm q rfl fun a q=>zm q rfl fun a q=>zl q (r_ibin q rfl rfl rfl) fun a q=>zn ?_
 refine wp_cond_split (q.ev rfl) (fun (hb_36 : (y_27 != 0) = true)=>?_) fun hb_36=>?_
 rw [ifb_t hb_36] at H
 refine zq<|zr<|zm q rfl fun a q=>za q rfl fun a q=>zn ?_
 obtain rfl:=Option.some.inj H
 refine wp_ret ?_
 repeat first | refine zt ?_ | refine zb ?_ | refine zo ?_
 exact ret_1 results114 q (rv_tmp q rfl) ⟨rfl,s.bel⟩
 rw [ifb_f hb_36] at H
 refine wp_skip<|zr<|zl q (r_ibin q rfl rfl rfl) fun a q=>zm q rfl fun a q=>zn ?_
 exact ⟨_,Nat.lt_succ_self _,(IntKind.i64.wrap (x_13 + 1)),H,q.sub (zc (zc (zc (zc zz)))),s⟩
 rw [ifb_f hb_26] at H
 refine wp_exit ?_
 refine zq<|zr<|zm q rfl fun a q=>za q rfl fun a q=>zn ?_
 obtain rfl:=Option.some.inj H
 refine wp_ret ?_
 repeat first | refine zt ?_ | refine zb ?_ | refine zo ?_
 exact ret_1 results114 q (rv_tmp q rfl) ⟨rfl,s.bel⟩
theorem value_Compare.calls (a0 : api_Value) (a1 : api_Value) {r : Int} (H : value_Compare a0 a1 = some r) (w0 : World) : CallsV prog 90 #[.agg ⟨cV a0⟩,.agg ⟨cV a1⟩] w0 (I6 r):=by
 unfold value_Compare at H
 refine enter (args:=[.agg ⟨cV a0⟩,.agg ⟨cV a1⟩]) func90 rfl ntmps90 rfl fun a q=>?_
 have s:=St.init (R:=fun _=>none) (w:=w0) (fun _ _ h=>by cases h)
 have hRL:=RLe.refl (M:=[]) w0 (fun _=>none)
 refine zq<|zr ?_
 refine sl_box s q (by decide) rfl rfl (c:=(cV a0)) rfl fun a w b_1 s q=>?_
 refine sl_box s q (by decide) rfl rfl (c:=(cV a1)) rfl fun a w b_2 s q=>?_
 refine za q rfl fun a q=>zn<|zq ?_
 refine parT_region (C:=fun w=>St [] w0 w (fun _=>none) [.cells b_2 (cV a1) 58,.cells b_1 (cV a0) 58]) 19 [(0,true),(1,true),(2,true),(3,true),(5,true),(6,true),(7,true),(8,true),(10,true),(11,true),(12,true),(13,true),(15,true),(16,true),(17,true),(18,true),(4,false),(9,false),(14,false)] mixed (by kernel_rfl) s (fun w s=>s) fun w s=>?_
 refine zp rfl q (fun w s=>r_fieldAddr underlying58 rfl sizeOf3 q rfl) fun a q=>zp rfl q (fun w s=>r_load isAgg3 q rfl (s.cell z1 rfl)) fun a q=>zp rfl q (fun w s=>r_fieldAddr underlying58 rfl sizeOf3 q rfl) fun a q=>zp rfl q (fun w s=>r_load isAgg3 q rfl (s.cell z0 rfl)) fun a q=>zp rfl q (fun w s=>r_fieldAddr underlying58 rfl sizeOf3 q rfl) fun a q=>zp rfl q (fun w s=>r_load isAgg3 q rfl (s.cell z1 rfl)) fun a q=>zp rfl q (fun w s=>r_fieldAddr underlying58 rfl sizeOf3 q rfl) fun a q=>zp rfl q (fun w s=>r_load isAgg3 q rfl (s.cell z0 rfl)) fun a q=>zp rfl q (fun w s=>r_fieldAddr underlying58 rfl sizeOf9 q rfl) fun a q=>?_
 refine zp rfl q (fun w s=>r_load isAgg9 q rfl (s.cell z1 rfl)) fun a q=>zp rfl q (fun w s=>r_fieldAddr underlying58 rfl sizeOf9 q rfl) fun a q=>zp rfl q (fun w s=>r_load isAgg9 q rfl (s.cell z0 rfl)) fun a q=>zp rfl q (fun w s=>r_fieldAddr underlying58 rfl sizeOf56 q rfl) fun a q=>zp rfl q (fun w s=>r_slice_arr0 underlying56 sizeOf3 q rfl) fun a q=>zp rfl q (fun w s=>r_fieldAddr underlying58 rfl sizeOf56 q rfl) fun a q=>zp rfl q (fun w s=>r_slice_arr0 underlying56 sizeOf3 q rfl) fun a q=>?_
 refine spw (k:=4) rfl rfl s ?_
 obtain ⟨y_14,h_15,H⟩:=bs H
 refine sl_callV call83 s q (by decide) rfl rfl rfl (cmp_Compare_int.calls a0.Kind a1.Kind h_15 _) fun a w s q=>?_
 refine parK_nil s ?_
 refine spw (k:=9) rfl rfl s ?_
 obtain ⟨y_16,h_17,H⟩:=bs H
 refine sl_callV call83 s q (by decide) rfl rfl rfl (cmp_Compare_int.calls a0.N a1.N h_17 _) fun a w s q=>?_
 refine parK_nil s ?_
 refine spw (k:=14) rfl rfl s ?_
 obtain ⟨y_18,h_19,H⟩:=bs H
 refine sl_callV call115 s q (by decide) rfl rfl rfl (strings_Compare.calls a0.S a1.S h_19 _) fun a w s q=>?_
 refine parK_nil s ?_
 refine thenL_nil ?_
 obtain ⟨y_20,h_21,H⟩:=bs H
 refine sl_callV call116 s q (by decide) rfl rfl rfl (slices_Compare_int_int.calls a0.H.list a1.H.list (lentOf_sub [] _) (s.lend_part0 z1 (xs:=a0.H.list) rfl (Nat.le_refl _)) (s.lend_part0 z0 (xs:=a1.H.list) rfl (Nat.le_refl _)) h_21) fun a w s q=>?_
 refine sl_buildSliceF (zc:=[I6 0]) (ps:=[(0,I6 y_14),(1,I6 y_16),(2,I6 y_18),(3,I6 y_20)]) (c:=[I6 y_14,I6 y_16,I6 y_18,I6 y_20]) [[I6 y_14],[I6 y_16],[I6 y_18],[I6 y_20]] underlying22 sizeOf3 zeroValue3 rfl (pc_cons rfl (pc_cons rfl (pc_cons rfl (pc_cons rfl pc_nil)))) rfl rfl (Nat.le_of_ble_eq_true rfl) rfl (zc (zc (zc (zc zz)))) rfl s q (by decide) rfl fun a w b_22 s q=>?_
 obtain ⟨y_23,h_24,H⟩:=bs H
 refine sl_callV call114 s q (by decide) rfl rfl rfl (cmp_Or_int.calls [y_14,y_16,y_18,y_20] (lentOf_sub [] _) (s.lend_lit0 (ty:=(tyInt .i64)) (xs:=[y_14,y_16,y_18,y_20]) z0 (Reps.cons (show Ty.rep (tyInt .i64) _ [I6 y_14] y_14 from rfl) (Reps.cons (show Ty.rep (tyInt .i64) _ [I6 y_16] y_16 from rfl) (Reps.cons (show Ty.rep (tyInt .i64) _ [I6 y_18] y_18 from rfl) (Reps.cons (show Ty.rep (tyInt .i64) _ [I6 y_20] y_20 from rfl) (Reps.nil _ _))))) rfl) h_24) fun a w s q=>?_
 refine za q rfl fun a q=>?_
 refine wpList_nil (NoP_nil ?_)
 obtain rfl:=Option.some.inj H
 refine wp_ret ?_
 repeat first | refine zt ?_ | refine zb ?_ | refine zo ?_
 exact ret_1 results90 q (rv_tmp q rfl) ⟨rfl,s.bel⟩
theorem slices_CompareFunc_api_Value_api_Value_api_Value_api_Value_f_value_Compare.calls (a0 : List api_Value) (a1 : List api_Value) {w0 : World} {RA : Hp} {v0_0 : Value} {v1_0 : Value} (hRA : RA.sub w0) (h0_0 : SlR ty_api_Value RA v0_0 a0) (h1_0 : SlR ty_api_Value RA v1_0 a1) {r : Int} (H : slices_CompareFunc_api_Value_api_Value_api_Value_api_Value_f_value_Compare a0 a1 = some r) : CallsV prog 89 #[v0_0,v1_0,.func (.func 90) #[] #[]] w0 (I6 r):=by
 unfold slices_CompareFunc_api_Value_api_Value_api_Value_api_Value_f_value_Compare at H
 refine enter (args:=[v0_0,v1_0,.func (.func 90) #[] #[]]) func89 rfl ntmps89 rfl fun a q=>?_
 have s:=St.init (R:=fun _=>none) (w:=w0) (fun _ _ h=>by cases h)
 have hRL:=RLe.refl (M:=[]) w0 (fun _=>none)
 refine zq<|zr<|za q rfl fun a q=>zn<|zq<|zq<|zr<|zm q rfl fun a q=>zl q (r_len_R underlying31 h0_0 q rfl) fun a q=>zm q rfl fun a q=>zn ?_
 refine wp_block ?_
 refine wp_loop_k (fun k_l0 a w=>∃ (x_27 : Int),slices_CompareFunc_api_Value_api_Value_api_Value_api_Value_f_value_Compare.l0 a0 a1 k_l0 x_27 = some r ∧ Kn 39 a [(0,v0_0),(1,v1_0),(2,.func (.func 90) #[] #[]),(11,v0_0),(12,I6 (a0.length : Int)),(13,I6 x_27)] ∧ St [] w0 w (fun _=>none) []) (((a0.length : Int) - 0).toNat + 1) ?_ ?_
 exact ⟨0,H,q.sub (zc (zc (zc (zc (zc (zc zz)))))),s⟩
 rintro k_l0 a w ⟨x_27,H,q,s⟩
 rcases k_l0 with _ | k_l0
 cases H
 rw [slices_CompareFunc_api_Value_api_Value_api_Value_api_Value_f_value_Compare.l0.eq_2] at H
 refine zq<|zr<|zl q (r_ibin q rfl rfl rfl) fun a q=>zn<|zq ?_
 refine wp_cond_split (q.ev rfl) (fun (hb_54 : (decide (x_27 < (a0.length : Int))) = true)=>?_) fun hb_54=>?_
 rw [ifb_t hb_54] at H
 refine wp_skip<|zq ?_
 refine wp_block ?_
 refine zq<|zr<|zm q rfl fun a q=>?_
 obtain ⟨y_55,h_56,H⟩:=bs H
 obtain ⟨b_57,o_58,c_59,cs_60,hv_61,hr_62,hc_63,h_560,h_561⟩:=h0_0.ix h_56
 subst hr_62
 refine zl q (r_indexAddr_R underlying31 sizeOf58 hv_61 h_560 h_561 q rfl rfl) fun a q=>zl q (r_loadA (cs:=(cV y_55)) isAgg58 sizeOf58 rfl q rfl (fun j v hv=>(s.ra hRA nil_not).cell (hc_63 j v hv))) fun a q=>?_
 refine sl_alloc zeroValue58 s q (by decide) rfl rfl fun a w b_64 s q=>?_
 refine za q rfl fun a q=>?_
 refine sl_storeA (vs:=(cV y_55)) (c':=(cV y_55)) sizeOf58 s q rfl rfl rfl rfl (zc (zc (zc (zc (zc (zc (zc (zc (zc (zc (zc zz))))))))))) (Nat.le_of_ble_eq_true rfl) rfl fun a w s q=>?_
 refine zn<|zq<|zq<|zr<|zm q rfl fun a q=>zm q rfl fun a q=>zl q (r_len_R underlying31 h1_0 q rfl) fun a q=>zl q (r_ibin q rfl rfl rfl) fun a q=>zn ?_
 refine wp_cond_split (q.ev rfl) (fun (hb_65 : (decide (x_27 ≥ (a1.length : Int))) = true)=>?_) fun hb_65=>?_
 rw [ifb_t hb_65] at H
 refine zq<|zr<|za q rfl fun a q=>zn ?_
 obtain rfl:=Option.some.inj H
 refine wp_ret ?_
 repeat first | refine zt ?_ | refine zb ?_ | refine zo ?_
 exact ret_1 results89 q (rv_tmp q rfl) ⟨rfl,s.bel⟩
 rw [ifb_f hb_65] at H
 refine wp_skip<|zq<|zr<|zm q rfl fun a q=>zm q rfl fun a q=>?_
 obtain ⟨y_66,h_67,H⟩:=bs H
 obtain ⟨b_68,o_69,c_70,cs_71,hv_72,hr_73,hc_74,h_670,h_671⟩:=h1_0.ix h_67
 subst hr_73
 refine zl q (r_indexAddr_R underlying31 sizeOf58 hv_72 h_670 h_671 q rfl rfl) fun a q=>zl q (r_loadA (cs:=(cV y_66)) isAgg58 sizeOf58 rfl q rfl (fun j v hv=>(s.ra hRA nil_not).cell (hc_74 j v hv))) fun a q=>?_
 refine sl_alloc zeroValue58 s q (by decide) rfl rfl fun a w b_75 s q=>?_
 refine sl_storeA (vs:=(cV y_66)) (c':=(cV y_66)) sizeOf58 s q rfl rfl rfl rfl (zc (zc (zc (zc (zc (zc (zc (zc (zc (zc (zc zz))))))))))) (Nat.le_of_ble_eq_true rfl) rfl fun a w s q=>?_
 refine zn<|zq<|zr<|zm q rfl fun a q=>zl q (r_loadA (cs:=(cV y_55)) isAgg58 sizeOf58 rfl q rfl (s.cells_of (m:=11) z1 rfl)) fun a q=>zl q (r_loadA (cs:=(cV y_66)) isAgg58 sizeOf58 rfl q rfl (s.cells_of (m:=11) z0 rfl)) fun a q=>?_
 obtain ⟨y_76,h_77,H⟩:=bs H
 refine sl_callV call90 s q (by decide) rfl rfl rfl (value_Compare.calls y_55 y_66 h_77 _) fun a w s q=>?_
 refine za q rfl fun a q=>zn<|zq<|zr<|zm q rfl fun a q=>zl q (r_ibin q rfl rfl rfl) fun a q=>zn ?_
 refine wp_cond_split (q.ev rfl) (fun (hb_78 : (y_76 != 0) = true)=>?_) fun hb_78=>?_
 rw [ifb_t hb_78] at H
 refine zq<|zr<|zm q rfl fun a q=>za q rfl fun a q=>zn ?_
 obtain rfl:=Option.some.inj H
 refine wp_ret ?_
 repeat first | refine zt ?_ | refine zb ?_ | refine zo ?_
 exact ret_1 results89 q (rv_tmp q rfl) ⟨rfl,s.bel⟩
 rw [ifb_f hb_78] at H
 refine wp_skip<|zr<|zl q (r_ibin q rfl rfl rfl) fun a q=>zm q rfl fun a q=>zn ?_
 exact ⟨_,Nat.lt_succ_self _,(IntKind.i64.wrap (x_27 + 1)),H,q.sub (zc (zc (zc (zc (zc (zc zz)))))),s.trunc 0⟩
 rw [ifb_f hb_54] at H
 refine wp_exit ?_
 refine zq<|zq<|zr<|zm q rfl fun a q=>zl q (r_len_R underlying31 h0_0 q rfl) fun a q=>zm q rfl fun a q=>zl q (r_len_R underlying31 h1_0 q rfl) fun a q=>zl q (r_ibin q rfl rfl rfl) fun a q=>zn ?_
 refine wp_cond_split (q.ev rfl) (fun (hb_79 : (decide ((a0.length : Int) < (a1.length : Int))) = true)=>?_) fun hb_79=>?_
 rw [ifb_t hb_79] at H
 refine zq<|zr<|za q rfl fun a q=>zn ?_
 obtain rfl:=Option.some.inj H
 refine wp_ret ?_
 repeat first | refine zt ?_ | refine zb ?_ | refine zo ?_
 exact ret_1 results89 q (rv_tmp q rfl) ⟨rfl,s.bel⟩
 rw [ifb_f hb_79] at H
 refine wp_skip<|zq<|zr<|za q rfl fun a q=>zn ?_
 obtain rfl:=Option.some.inj H
 refine wp_ret ?_
 repeat first | refine zt ?_ | refine zb ?_ | refine zo ?_
 exact ret_1 results89 q (rv_tmp q rfl) ⟨rfl,s.bel⟩
theorem table_order.calls (a0 : List api_Value) (a1 : List api_Value) {w0 : World} {RA : Hp} {v0_0 : Value} {v1_0 : Value} (hRA : RA.sub w0) (h0_0 : SlR ty_api_Value RA v0_0 a0) (h1_0 : SlR ty_api_Value RA v1_0 a1) {r : Int} (H : table_order a0 a1 = some r) : CallsV prog 60 #[v0_0,v1_0] w0 (I6 r):=by
 unfold table_order at H
 refine enter (args:=[v0_0,v1_0]) func60 rfl ntmps60 rfl fun a q=>?_
 have s:=St.init (R:=fun _=>none) (w:=w0) (fun _ _ h=>by cases h)
 have hRL:=RLe.refl (M:=[]) w0 (fun _=>none)
 refine zq<|zr<|za q rfl fun a q=>zn<|zq<|zr<|zm q rfl fun a q=>zm q rfl fun a q=>?_
 obtain ⟨y_1,h_2,H⟩:=bs H
 refine sl_callV call89 s q (by decide) rfl rfl rfl (slices_CompareFunc_api_Value_api_Value_api_Value_api_Value_f_value_Compare.calls a0 a1 (lentOf_sub [] _) (h0_0.mono (s.raLe0 hRA nil_not)) (h1_0.mono (s.raLe0 hRA nil_not)) h_2) fun a w s q=>?_
 refine za q rfl fun a q=>zn ?_
 obtain rfl:=Option.some.inj H
 refine wp_ret ?_
 repeat first | refine zt ?_ | refine zb ?_ | refine zo ?_
 exact ret_1 results60 q (rv_tmp q rfl) ⟨rfl,s.bel⟩
set_option maxHeartbeats 4000000 in
set_option maxRecDepth 100000 in
theorem slices_SortFunc_api_Value_api_Value_f_table_order.calls (a0 : List (List api_Value)) {w0 : World} {R : Hp} {M : List Own} {v0 : Value} {cs0 : List Value} (hS0 : St M w0 w0 R [.row 31 1 v0 a0.length cs0]) (h0 : Reps (tySl ty_api_Value) R cs0 a0) {r : List (List api_Value)} (H : slices_SortFunc_api_Value_api_Value_f_table_order a0 = some r) :
    Calls Tryz.prog 59 #[v0, .func (.func 60) #[] #[]] w0 (Rets fun v w' => ∃ (R' : Hp) (cu0 : List Value), v = .tuple #[] ∧ St M w0 w' R' [.row 31 1 v0 r.length cu0] ∧ RLe M w0 R R' ∧ Reps (tySl ty_api_Value) R' cu0 r ∧ cu0.Perm cs0) := by
  unfold slices_SortFunc_api_Value_api_Value_f_table_order at H
  exact sort_calls sortL59 (ty := (tySl ty_api_Value)) rfl Tryz.call60 hS0 h0 (fun w hsub u1 u2 x y i hx hy hi => by
    obtain ⟨v1, e1, s1⟩ := hx
    obtain ⟨v2, e2, s2⟩ := hy
    cases e1; cases e2
    exact table_order.calls x y hsub s1 s2 hi) H
theorem table_Canon.calls (a0 : api_Table) {w0 : World} {R : Hp} {RA : Hp} {v0_0 : Value} {v0_1 : Value} (hRA : RA.sub w0) (hR : R.sub w0) (h0_0 : SlR ty_api_Col RA v0_0 a0.Cols) (h0_1 : SlR (tySl ty_api_Value) RA v0_1 a0.Rows) {r : api_Table} (H : table_Canon a0 = some r) : Calls prog 35 #[.agg #[v0_0,v0_1]] w0 (Rets fun v w'=>∃ (R' : Hp) (u0 : Value) (cu0 : List Value) (u1 : Value) (cu1 : List Value),v = .agg #[u0,u1] ∧ St [] w0 w' R' [.row 65 2 u0 r.Cols.length cu0,.row 31 1 u1 r.Rows.length cu1] ∧ RLe [] w0 R R' ∧ Reps ty_api_Col R' cu0 r.Cols ∧ Reps (tySl ty_api_Value) R' cu1 r.Rows ∧ Apart R R' cu1):=by
 unfold table_Canon at H
 refine enter (args:=[.agg #[v0_0,v0_1]]) func35 rfl ntmps35 rfl fun a q=>?_
 have s:=St.init hR
 have hRL:=RLe.refl (M:=[]) w0 R
 refine zq<|zr ?_
 refine sl_box s q (by decide) rfl rfl (c:=[v0_0,v0_1]) rfl fun a w b_1 s q=>?_
 refine sl_alloc zeroValue41 s q (by decide) rfl rfl fun a w b_2 s q=>?_
 refine zn<|zq<|zr<|zl q (r_fieldAddr underlying41 rfl sizeOf38 q rfl) fun a q=>zl q (r_load isAgg38 q rfl (s.cell z1 rfl)) fun a q=>?_
 obtain ⟨y_3,h_4,H⟩:=bs H
 refine sl_call call21 q (by decide) rfl rfl rfl (slices_Clone_api_Col_api_Col.calls a0.Cols (lentOf_sub [] _) s.sub (h0_0.mono (s.raLe0 hRA nil_not)) h_4) fun a v_ w hv_ q=>?_
 obtain ⟨R_5,v_8,cs_9,hv_,hr_,hl_6,hq_10⟩:=hv_
 have hv_:=hv_.symm
 subst hv_
 obtain ⟨s,hl_6⟩:=s.sp0.back hr_ hl_6
 have s:=s.un1
 have hRL:=hRL.trans hl_6
 have ho_11:=s.row_one z0
 refine zl q (r_buildC (ps:=[(0,v_8)]) (c:=[v_8,.slice none 0 0]) underlying41 zeroValue41 places41 q rfl (pc_cons (cells1 ho_11) pc_nil) rfl rfl) fun a q=>?_
 refine sl_alloc zeroValue41 s q (by decide) rfl rfl fun a w b_12 s q=>?_
 refine sl_storeA (vs:=[v_8,.slice none 0 0]) (c':=[v_8,.slice none 0 0]) sizeOf41 s q rfl rfl rfl rfl (all_cons (s.row_one z1) (zc zz)) (Nat.le_of_ble_eq_true rfl) rfl fun a w s q=>?_
 refine zn<|zq<|zq<|zr<|zl q (r_fieldAddr underlying41 rfl sizeOf39 q rfl) fun a q=>zl q (r_load isAgg39 q rfl (s.cell z3 rfl)) fun a q=>zl q (r_len_R underlying39 h0_1 q rfl) fun a q=>zm q rfl fun a q=>zn ?_
 refine wp_block ?_
 refine wp_loop_k (fun k_l0 a w=>∃ (x_79 : List (List api_Value)) (x_84 : Int) (R_85 : Hp) (v_80 : Value) (cs_81 : List Value),table_Canon.l0 a0 y_3 k_l0 x_79 x_84 = some r ∧ RLe [] w0 R_5 R_85 ∧ Reps (tySl ty_api_Value) R_85 cs_81 x_79 ∧ Apart R R_85 cs_81 ∧ Kn 29 a [(2,.pointer (some ⟨b_2,0,none⟩)),(3,.pointer (some ⟨b_12,0,none⟩)),(11,v0_1),(12,I6 (a0.Rows.length : Int)),(13,I6 x_84)] ∧ St [] w0 w R_85 [.cells b_2 [.slice none 0 0,.slice none 0 0] 41,.row 65 2 v_8 y_3.length cs_9,.row 31 1 v_80 x_79.length cs_81,.cells b_12 [v_8,v_80] 41]) (((a0.Rows.length : Int) - 0).toNat + 1) ?_ ?_
 have s:=s.row_nil 31 1
 have hq_144 : Reps (tySl ty_api_Value) R_5 [] ([] : List (List api_Value)):=Reps.nil _ _
 have s:=s.pk1
 have s:=s.pk1
 have s:=s.pk2
 have s:=s.pk3
 exact ⟨[],0,_,_,_,H,(RLe.refl _ _),hq_144,(Apart.nil _ _),q.sub (zc (zc (zc (zc (zc zz))))),s.trunc 4⟩
 rintro k_l0 a w ⟨x_79,x_84,R_85,v_80,cs_81,H,hl_86,hq_82,hap_83,q,s⟩
 rcases k_l0 with _ | k_l0
 cases H
 rw [table_Canon.l0.eq_2] at H
 have hRL:=hRL.trans hl_86
 refine zq<|zr<|zl q (r_ibin q rfl rfl rfl) fun a q=>zn<|zq ?_
 refine wp_cond_split (q.ev rfl) (fun (hb_145 : (decide (x_84 < (a0.Rows.length : Int))) = true)=>?_) fun hb_145=>?_
 rw [ifb_t hb_145] at H
 refine wp_skip<|zq ?_
 refine wp_block ?_
 refine zq<|zr ?_
 obtain ⟨y_146,h_147,H⟩:=bs H
 obtain ⟨b_148,o_149,c_150,cs_151,hv_152,hr_153,hc_154,h_1470,h_1471⟩:=h0_1.ix h_147
 obtain ⟨v_155,rfl,hs_156⟩:=hr_153
 refine zl q (r_indexAddr_R underlying39 sizeOf31 hv_152 h_1470 h_1471 q rfl rfl) fun a q=>zl q (r_load isAgg31 q rfl ((s.ra hRA nil_not).cell (hc_154 0 _ rfl))) fun a q=>za q rfl fun a q=>zn ?_
 refine parT_region (C:=fun w=>St [] w0 w R_85 [.cells b_2 [.slice none 0 0,.slice none 0 0] 41,.row 65 2 v_8 y_3.length cs_9,.row 31 1 v_80 x_79.length cs_81,.cells b_12 [v_8,v_80] 41]) 5 [(0,true),(1,true),(2,true),(3,false),(4,false)] mixed (by kernel_rfl) s (fun w s=>s) fun w s=>?_
 refine zp rfl q (fun w s=>r_fieldAddr underlying41 rfl sizeOf39 q rfl) fun a q=>zp rfl q (fun w s=>r_load isAgg39 q rfl (s.cell z3 rfl)) fun a q=>zp rfl q (fun w s=>r_move q rfl) fun a q=>?_
 refine spw (k:=3) rfl rfl s ?_
 obtain ⟨y_179,h_180,H⟩:=bs H
 refine sl_call call55 q (by decide) rfl rfl rfl (slices_Clone_api_Value_api_Value.calls y_146 (lentOf_sub [] _) s.sub (hs_156.mono (s.raLe0 hRA nil_not)) h_180) fun a v_ w hv_ q=>?_
 obtain ⟨R_181,v_184,cs_185,hv_,hr_,hl_182,hq_186⟩:=hv_
 have hv_:=hv_.symm
 subst hv_
 obtain ⟨s,hl_182⟩:=s.sp0.back hr_ hl_182
 have s:=s.un1
 have hRL:=hRL.trans hl_182
 refine parK_nil ((s.pk4.pk4.pk4.pk4.trunc 4).lower hl_182.le) ?_
 refine spw (k:=4) rfl rfl ((s.pk4.pk4.pk4.pk4.trunc 4).lower hl_182.le) ?_
 have ho_187:=s.row_one z0
 refine sl_buildSliceF (zc:=[.slice none 0 0]) (ps:=[(0,v_184)]) (c:=[v_184]) [[v_184]] underlying39 sizeOf31 zeroValue31 rfl (pc_cons (cells1 ho_187) pc_nil) rfl rfl (Nat.le_of_ble_eq_true rfl) rfl (zc zz) rfl s q (by decide) rfl fun a w b_188 s q=>?_
 refine parK_nil ((s.pk5.pk5.pk5.pk5.trunc 4).lower hl_182.le) ?_
 refine thenL_nil ?_
 have s:=s.pk4
 have s:=s.pk2
 obtain ⟨R_189,s,hl_191,hs_190,hn_192⟩:=s.fz_rowN hq_186 rfl rfl
 have hRL:=hRL.trans hl_191
 obtain ⟨y_193,h_194,H⟩:=bs H
 refine sl_append_LA (ty:=(tySl ty_api_Value)) (ys:=[y_179]) elT39 (by decide) rfl (hq_82.mono (hl_182.le.trans hl_191.le)) rfl (Reps.cons (show Ty.rep (tySl ty_api_Value) _ [v_184] y_179 from ⟨_,rfl,hs_190⟩) (Reps.nil _ _)) rfl h_194 s q (by decide) rfl rfl rfl fun a w v_195 cs_196 hcq_199 hq_197 s q=>?_
 have hap_200 : Apart R R_189 cs_196:=by rw [hcq_199]; exact (Apart.app (hap_83.mono hl_182.le) (hl_6.le.trans (hl_86.le.trans hl_182.le)) hl_191.le hn_192)
 refine zl q (r_fieldAddr underlying41 rfl sizeOf39 q rfl) fun a q=>?_
 have s:=s.pk3
 refine sl_store1 (c':=[v_8,v_195]) sizeOf39 s q rfl rfl rfl (s.row_one z1) (Nat.le_of_ble_eq_true rfl) rfl fun a w s q=>?_
 refine wpList_nil (NoP_nil ?_)
 refine zr<|zl q (r_ibin q rfl rfl rfl) fun a q=>zm q rfl fun a q=>zn ?_
 have s:=s.pk1
 have s:=s.pk3
 have s:=s.pk3
 exact ⟨_,Nat.lt_succ_self _,y_193,(IntKind.i64.wrap (x_84 + 1)),_,_,_,H,(hl_86.trans (hl_182.trans hl_191)),hq_197,hap_200,q.sub (zc (zc (zc (zc (zc zz))))),s⟩
 rw [ifb_f hb_145] at H
 refine wp_exit ?_
 refine zq<|zr<|zl q (r_fieldAddr underlying41 rfl sizeOf39 q rfl) fun a q=>zl q (r_load isAgg39 q rfl (s.cell z3 rfl)) fun a q=>?_
 obtain ⟨y_201,h_202,H⟩:=bs H
 have s:=s.pk2
 have hS1:=s.sp1
 refine sl_call call59 q (by decide) rfl rfl rfl (slices_SortFunc_api_Value_api_Value_f_table_order.calls x_79 hS1.lend hq_82 h_202) fun a v_ w hv_ q=>?_
 obtain ⟨R_203,cs_206,hv_,hr_,hl_204,hq_207,hp_208⟩:=hv_
 have hv_:=hv_.symm
 subst hv_
 obtain ⟨s,hl_204⟩:=hS1.back hr_ hl_204
 have s:=s.un1
 have hRL:=hRL.trans hl_204
 refine zn<|zq<|zr<|zl q (r_loadA (cs:=[v_8,v_80]) isAgg41 sizeOf41 rfl q rfl (s.cells_of (m:=2) z3 rfl)) fun a q=>?_
 have s:=s.pk1
 refine sl_storeA (vs:=[v_8,v_80]) (c':=[v_8,v_80]) sizeOf41 s q rfl rfl rfl rfl (all_cons (s.row_one z2) (all_cons (s.row_one z1) zz)) (Nat.le_of_ble_eq_true rfl) rfl fun a w s q=>?_
 refine zn ?_
 obtain rfl:=Option.some.inj H
 refine wp_ret ?_
 repeat first | refine zt ?_ | refine zb ?_ | refine zo ?_
 exact ret_1 results35 q (rv_cell (c:=[v_8,v_80]) isAgg41 sizeOf41 s z0 rfl q rfl) ⟨_,rfl,_,_,_,_,_,rfl,(s.pk1.pk2.trunc 2),hRL,(hq_10.mono (hl_86.le.trans hl_204.le)),hq_207,((Apart.perm hap_83 hp_208).mono hl_204.le)⟩
theorem leaf_Leaf_Scan.calls (a0 : leaf_Leaf) (a1 : ByteArray) (a2 : Int) (a3 : Int) {w0 : World} {R : Hp} {M : List Own} {b0 : Nat} {v0_0 : Value} {nb0_1 : Nat} {v0p1_0 : Value} {cs0p1_0 : List Value} {mb0p1_1 : Nat} {mb0_2 : Nat} {E0_2 : List (MB Int)} (hS0 : St M w0 w0 R [.cells b0 [v0_0,I6 a0.room,I6 a0.points,.pointer (some ⟨nb0_1,0,none⟩),.map (some mb0_2)] 70,.cells nb0_1 [I6 a0.dict.most,v0p1_0,.map (some mb0p1_1)] 102,.row 113 2 v0p1_0 a0.dict.l.length cs0p1_0,.mp mb0p1_1 (kvs Value.string (Value.int .i64) a0.dict.ids),mbo mb0_2 (kvs (Value.int .i64) id (mbp E0_2)) 111 90 2 E0_2]) (h0_0 : SlR ty_api_Schema R v0_0 a0.schemas) (h0p1_0 : Reps ty_streams_stream R cs0p1_0 a0.dict.l) (h0_2 : MBel ty_api_Sample runs_Run.l R E0_2 a0.runs) {r : api_Table × Int × leaf_Leaf} (H : leaf_Leaf_Scan a0 a1 a2 a3 = some r) : Calls prog 12 #[.pointer (some ⟨b0,0,none⟩),.string a1,I6 a2,I6 a3] w0 (Rets fun v w'=>∃ (R' : Hp) (u0 : Value) (cu0 : List Value) (u1 : Value) (cu1 : List Value) (u2 : Value) (B3 : Nat) (u4 : Value) (cu4 : List Value) (B5 : Nat) (B6 : Nat) (E6 : List (MB Int)),v = .tuple #[.agg #[u0,u1],I6 r.2.1] ∧ St M w0 w' R' [.row 65 2 u0 r.1.Cols.length cu0,.row 31 1 u1 r.1.Rows.length cu1,.cells b0 [u2,I6 r.2.2.room,I6 r.2.2.points,.pointer (some ⟨B3,0,none⟩),.map (some B6)] 70,.cells B3 [I6 r.2.2.dict.most,u4,.map (some B5)] 102,.row 113 2 u4 r.2.2.dict.l.length cu4,.mp B5 (kvs Value.string (Value.int .i64) r.2.2.dict.ids),mbo B6 (kvs (Value.int .i64) id (mbp E6)) 111 90 2 E6] ∧ RLe M w0 R R' ∧ Reps ty_api_Col R' cu0 r.1.Cols ∧ Reps (tySl ty_api_Value) R' cu1 r.1.Rows ∧ SlR ty_api_Schema R' u2 r.2.2.schemas ∧ Reps ty_streams_stream R' cu4 r.2.2.dict.l ∧ MBel ty_api_Sample runs_Run.l R' E6 r.2.2.runs):=by
 unfold leaf_Leaf_Scan at H
 refine enter (args:=[.pointer (some ⟨b0,0,none⟩),.string a1,I6 a2,I6 a3]) func12 rfl ntmps12 rfl fun a q=>?_
 have s:=hS0
 have hRL:=RLe.refl (M:=M) w0 R
 refine zq<|zr ?_
 refine sl_alloc zeroValue41 s q (by decide) rfl rfl fun a w b_1 s q=>?_
 refine za q rfl fun a q=>zn<|zq<|zr<|zm q rfl fun a q=>zl q (r_nilCheck q rfl) fun a q=>zl q (r_fieldAddr underlying70 rfl sizeOf28 q rfl) fun a q=>zl q (r_load isAgg28 q rfl (s.cell z1 rfl)) fun a q=>zm q rfl fun a q=>?_
 obtain ⟨y_2,h_3,H⟩:=bs H
 refine sl_call call29 q (by decide) rfl rfl rfl (schema_Find.calls a0.schemas a1 s.sub h0_0 h_3) fun a v_ w hv_ q=>?_
 obtain ⟨R_4,v_6,v_8,hv_,hr_,hl_5,hs_7,hs_9⟩:=hv_
 have hv_:=hv_.symm
 subst hv_
 obtain ⟨s,hl_5⟩:=s.sp0.back hr_ hl_5
 have s:=s.un0
 have hRL:=hRL.trans hl_5
 refine zm q rfl fun a q=>zl q (r_extract q rfl rfl) fun a q=>zl q (r_extract q rfl rfl) fun a q=>?_
 refine sl_alloc zeroValue49 s q (by decide) rfl rfl fun a w b_10 s q=>?_
 refine sl_storeA (vs:=[.string y_2.1.Name,v_6,v_8]) (c':=[.string y_2.1.Name,v_6,v_8]) sizeOf49 s q rfl rfl rfl rfl (zc (all_cons hs_7.one (all_cons hs_9.one zz))) (Nat.le_of_ble_eq_true rfl) rfl fun a w s q=>?_
 refine za q rfl fun a q=>zn<|zq<|zq<|zr<|zm q rfl fun a q=>zl q (r_un q rfl (u_not _)) fun a q=>zn ?_
 refine wp_cond_split (q.ev rfl) (fun (hb_11 : (!y_2.2) = true)=>?_) fun hb_11=>?_
 rw [ifb_t hb_11] at H
 refine zq<|zr<|zl q (r_buildC (ps:=[]) (c:=[.slice none 0 0,.slice none 0 0]) underlying41 zeroValue41 places41 q rfl pc_nil rfl rfl) fun a q=>?_
 have s:=s.pk1
 refine sl_storeA (vs:=[.slice none 0 0,.slice none 0 0]) (c':=[.slice none 0 0,.slice none 0 0]) sizeOf41 s q rfl rfl rfl rfl (zc (zc zz)) (Nat.le_of_ble_eq_true rfl) rfl fun a w s q=>?_
 refine za q rfl fun a q=>zn ?_
 have s:=s.row_nil 65 2
 have hq_13 : Reps ty_api_Col R_4 [] ([] : List api_Col):=Reps.nil _ _
 have s:=s.row_nil 31 1
 have hq_15 : Reps (tySl ty_api_Value) R_4 [] ([] : List (List api_Value)):=Reps.nil _ _
 obtain rfl:=Option.some.inj H
 refine wp_ret ?_
 repeat first | refine zt ?_ | refine zb ?_ | refine zo ?_
 exact ret_2 results12 q (rv_cell (c:=[(.slice none 0 0),(.slice none 0 0)]) isAgg41 sizeOf41 s z2 rfl q rfl) (rv_tmp q rfl) ⟨_,rfl,_,_,_,_,_,_,_,_,_,_,_,_,rfl,(s.pk8.pk8.pk8.pk8.pk8.pk5.pk6.trunc 7),hRL,hq_13,hq_15,(h0_0.mono hl_5.le),(h0p1_0.mono hl_5.le),(h0_2.mono hl_5.le)⟩
 rw [ifb_f hb_11] at H
 refine wp_skip<|zq<|zr<|zl q (r_loadA (cs:=[.string y_2.1.Name,v_6,v_8]) isAgg49 sizeOf49 rfl q rfl (s.cells_of (m:=3) z0 rfl)) fun a q=>?_
 obtain ⟨y_16,h_17,H⟩:=bs H
 refine sl_call call30 q (by decide) rfl rfl rfl (schema_Cols.calls y_2.1 s.sub hs_7 hs_9 h_17) fun a v_ w hv_ q=>?_
 obtain ⟨R_18,v_21,cs_22,hv_,hr_,hl_19,hq_23⟩:=hv_
 have hv_:=hv_.symm
 subst hv_
 obtain ⟨s,hl_19⟩:=s.sp0.back hr_ hl_19
 have s:=s.un1
 have hRL:=hRL.trans hl_19
 have ho_24:=s.row_one z0
 refine zl q (r_buildC (ps:=[(0,v_21)]) (c:=[v_21,.slice none 0 0]) underlying41 zeroValue41 places41 q rfl (pc_cons (cells1 ho_24) pc_nil) rfl rfl) fun a q=>?_
 refine sl_alloc zeroValue41 s q (by decide) rfl rfl fun a w b_25 s q=>?_
 refine sl_storeA (vs:=[v_21,.slice none 0 0]) (c':=[v_21,.slice none 0 0]) sizeOf41 s q rfl rfl rfl rfl (all_cons (s.row_one z1) (zc zz)) (Nat.le_of_ble_eq_true rfl) rfl fun a w s q=>?_
 refine zn<|zq<|zq<|zr<|zm q rfl fun a q=>zl q (r_nilCheck q rfl) fun a q=>zl q (r_fieldAddr underlying70 rfl sizeOf66 q rfl) fun a q=>zl q (r_load isAgg66 q rfl (s.cell z4 rfl)) fun a q=>zm q rfl fun a q=>?_
 obtain ⟨y_26,h_27,H⟩:=bs H
 refine sl_call call31 q (by decide) rfl rfl rfl (streams_Dict_Of.calls a0.dict a1 (lentOf_sub [] _) s.sub (s.lend_box0 z5) (s.lend_row0 z6 (h0p1_0.mono (hl_5.le.trans hl_19.le)) rfl rfl) (s.lend_map0 z7) h_27) fun a v_ w hv_ q=>?_
 obtain ⟨R_28,v_31,cs_32,hv_,hr_,hl_29,hq_33⟩:=hv_
 have hv_:=hv_.symm
 subst hv_
 obtain ⟨s,hl_29⟩:=s.sp0.back hr_ hl_29
 have s:=s.un1
 have hRL:=hRL.trans hl_29
 refine zl q (r_len_O underlying22 s z0 q rfl) fun a q=>zm q rfl fun a q=>zn ?_
 refine wp_block ?_
 refine wp_loop_k (fun k_l0 a w=>∃ (x_289 : List (List api_Value)) (x_293 : Int) (R_294 : Hp) (v_290 : Value) (cs_291 : List Value) (E_286 : List (MB Int)),leaf_Leaf_Scan.l0 a0 a2 a3 y_16 y_26 k_l0 x_289 x_293 = some r ∧ RLe M w0 R_28 R_294 ∧ Reps (tySl ty_api_Value) R_294 cs_291 x_289 ∧ MBel ty_api_Sample runs_Run.l R_294 E_286 a0.runs ∧ Kn 88 a [(0,.pointer (some ⟨b0,0,none⟩)),(2,I6 a2),(3,I6 a3),(8,.pointer (some ⟨b_1,0,none⟩)),(12,.pointer (some ⟨b_25,0,none⟩)),(40,v_31),(41,I6 (y_26.length : Int)),(42,I6 x_293)] ∧ St M w0 w R_294 [.row 113 2 v0p1_0 a0.dict.l.length cs0p1_0,.mp mb0p1_1 (kvs Value.string (Value.int .i64) a0.dict.ids),.cells nb0_1 [I6 a0.dict.most,v0p1_0,.map (some mb0p1_1)] 102,mbo mb0_2 (kvs (Value.int .i64) id (mbp E_286)) 111 90 2 E_286,.cells b0 [v0_0,I6 a0.room,I6 a0.points,.pointer (some ⟨nb0_1,0,none⟩),.map (some mb0_2)] 70,.cells b_1 [.slice none 0 0,.slice none 0 0] 41,.row 65 2 v_21 y_16.length cs_22,.row 31 1 v_290 x_289.length cs_291,.cells b_25 [v_21,v_290] 41,.row 3 1 v_31 y_26.length cs_32]) (((y_26.length : Int) - 0).toNat + 1) ?_ ?_
 have s:=s.row_nil 31 1
 have hq_538 : Reps (tySl ty_api_Value) R_28 [] ([] : List (List api_Value)):=Reps.nil _ _
 have s:=s.pk1
 have s:=s.pk2
 have s:=s.pk2
 have s:=s.pk3
 have s:=s.pk5
 have s:=s.pk6
 have s:=s.pk10
 have s:=s.pk8
 have s:=s.pk10
 have s:=s.pk10
 exact ⟨[],0,_,_,_,_,H,(RLe.refl _ _),hq_538,(h0_2.mono (hl_5.le.trans (hl_19.le.trans hl_29.le))),q.sub (zc (zc (zc (zc (zc (zc (zc (zc zz)))))))),s.trunc 10⟩
 rintro k_l0 a w ⟨x_289,x_293,R_294,v_290,cs_291,E_286,H,hl_295,hq_292,hm_287,q,s⟩
 rcases k_l0 with _ | k_l0
 cases H
 rw [leaf_Leaf_Scan.l0.eq_2] at H
 have hRL:=hRL.trans hl_295
 refine zq<|zr<|zl q (r_ibin q rfl rfl rfl) fun a q=>zn<|zq ?_
 refine wp_cond_split (q.ev rfl) (fun (hb_539 : (decide (x_293 < (y_26.length : Int))) = true)=>?_) fun hb_539=>?_
 rw [ifb_t hb_539] at H
 refine wp_skip<|zq ?_
 refine wp_block ?_
 refine zq<|zr ?_
 obtain ⟨y_540,h_541,H⟩:=bs H
 obtain ⟨b_543,c_544,cs_545,hv_542,hr_546,hc_547,h_5410,h_5411⟩:=s.row_ix (.tail _ z8) (hq_33.mono hl_295.le) rfl rfl h_541
 subst hr_546
 refine zl q (r_indexAddr_R underlying22 sizeOf3 hv_542 h_5410 h_5411 q rfl rfl) fun a q=>zl q (r_load isAgg3 q rfl (s.row_cell (.tail _ z8) hv_542 (hc_547 0 _ rfl))) fun a q=>za q rfl fun a q=>zn<|zq<|zr<|zm q rfl fun a q=>zl q (r_nilCheck q rfl) fun a q=>zl q (r_fieldAddr underlying70 rfl sizeOf66 q rfl) fun a q=>zl q (r_load isAgg66 q rfl (s.cell z4 rfl)) fun a q=>zm q rfl fun a q=>?_
 obtain ⟨y_548,h_549,H⟩:=bs H
 refine sl_call call32 q (by decide) rfl rfl rfl (streams_Dict_Keys.calls a0.dict y_540 (lentOf_sub [] _) s.sub (s.lend_box0 z2) (s.lend_row0 z0 (h0p1_0.mono (hl_5.le.trans (hl_19.le.trans (hl_29.le.trans hl_295.le)))) rfl rfl) (s.lend_map0 z1) h_549) fun a v_ w hv_ q=>?_
 obtain ⟨R_550,v_553,cs_554,hv_,hr_,hl_551,hq_555⟩:=hv_
 have hv_:=hv_.symm
 subst hv_
 obtain ⟨s,hl_551⟩:=s.sp0.back hr_ hl_551
 have s:=s.un1
 have hRL:=hRL.trans hl_551
 refine zm q rfl fun a q=>zl q (r_extract q rfl rfl) fun a q=>zl q (r_extract q rfl rfl) fun a q=>zl q (r_extract q rfl rfl) fun a q=>za q rfl fun a q=>za q rfl fun a q=>za q rfl fun a q=>zn<|zq<|zr<|zm q rfl fun a q=>zl q (r_nilCheck q rfl) fun a q=>zl q (r_fieldAddr underlying70 rfl sizeOf68 q rfl) fun a q=>zl q (r_load isAgg68 q rfl (s.cell z5 rfl)) fun a q=>zm q rfl fun a q=>zl q (r_lookup_B (x:=y_540) underlying68 underlying3 (key_int .i64) zeroValue75 s z4 q rfl rfl) fun a q=>zm q rfl fun a q=>zm q rfl fun a q=>?_
 obtain ⟨y_556,h_557,H⟩:=bs H
 have s:=s.pk4
 obtain ⟨b_558,v_559,cs_560,s,hq_561,hk_562⟩:=St.btake (hm_287.mono hl_551.le) h_557 s
 rw [bhd_of hk_562] at q
 have s : St M w0 w R_550 [.cells b_558 [v_559] 111,.row 90 2 v_559 y_556.l.length cs_560,mbo mb0_2 (kvs (Value.int .i64) id (mbp E_286)) 111 90 2 (bdel E_286 y_540),.row 58 11 v_553 y_548.2.1.length cs_554,.row 113 2 v0p1_0 a0.dict.l.length cs0p1_0,.mp mb0p1_1 (kvs Value.string (Value.int .i64) a0.dict.ids),.cells nb0_1 [I6 a0.dict.most,v0p1_0,.map (some mb0p1_1)] 102,.cells b0 [v0_0,I6 a0.room,I6 a0.points,.pointer (some ⟨nb0_1,0,none⟩),.map (some mb0_2)] 70,.cells b_1 [.slice none 0 0,.slice none 0 0] 41,.row 65 2 v_21 y_16.length cs_22,.row 31 1 v_290 x_289.length cs_291,.cells b_25 [v_21,v_290] 41,.row 3 1 v_31 y_26.length cs_32]:=s
 obtain ⟨y_564,h_565,H⟩:=bs H
 refine sl_call call33 q (by decide) rfl rfl rfl (runs_Run_Range.calls y_556 a2 a3 (lentOf_sub [] _) s.sub (s.lend_box0 z0) (s.lend_row0 z1 hq_561 rfl rfl) h_565) fun a v_ w hv_ q=>?_
 obtain ⟨R_566,v_569,cs_570,hv_,hr_,hl_567,hq_571,hap_572⟩:=hv_
 have hv_:=hv_.symm
 subst hv_
 obtain ⟨s,hl_567⟩:=s.sp0.back hr_ hl_567
 have s:=s.un1
 have hRL:=hRL.trans hl_567
 have s:=s.pk3
 have s:=s.pk3
 have s:=s.pk3
 obtain ⟨E_573,s,hm_574⟩:=St.bput (y:=y_556) (hm_287.mono (hl_551.le.trans hl_567.le)) hk_562 (hq_561.mono hl_567.le) rfl s
 rw [mset_same h_557] at hm_574
 have s : St M w0 w R_566 [mbo mb0_2 (kvs (Value.int .i64) id (mbp E_573)) 111 90 2 E_573,.row 90 2 v_569 y_564.length cs_570,.row 58 11 v_553 y_548.2.1.length cs_554,.row 113 2 v0p1_0 a0.dict.l.length cs0p1_0,.mp mb0p1_1 (kvs Value.string (Value.int .i64) a0.dict.ids),.cells nb0_1 [I6 a0.dict.most,v0p1_0,.map (some mb0p1_1)] 102,.cells b0 [v0_0,I6 a0.room,I6 a0.points,.pointer (some ⟨nb0_1,0,none⟩),.map (some mb0_2)] 70,.cells b_1 [.slice none 0 0,.slice none 0 0] 41,.row 65 2 v_21 y_16.length cs_22,.row 31 1 v_290 x_289.length cs_291,.cells b_25 [v_21,v_290] 41,.row 3 1 v_31 y_26.length cs_32]:=s
 refine zl q (r_len_O underlying87 s z1 q rfl) fun a q=>zm q rfl fun a q=>zn ?_
 refine wp_block ?_
 refine wp_loop_k (fun k_l1 a w=>∃ (x_648 : List (List api_Value)) (x_654 : Int) (R_655 : Hp) (v_652 : Value) (v_649 : Value) (cs_650 : List Value),leaf_Leaf_Scan.l1 (leaf_Leaf_Scan.l0 a0 a2 a3 y_16 y_26 k_l0) y_26 x_293 y_548 y_564 k_l1 x_648 x_654 = some r ∧ RLe M w0 R_566 R_655 ∧ SlR ty_api_Value R_655 v_652 y_548.2.1 ∧ Reps (tySl ty_api_Value) R_655 cs_650 x_648 ∧ Kn 88 a [(0,.pointer (some ⟨b0,0,none⟩)),(2,I6 a2),(3,I6 a3),(8,.pointer (some ⟨b_1,0,none⟩)),(12,.pointer (some ⟨b_25,0,none⟩)),(16,v_652),(40,v_31),(41,I6 (y_26.length : Int)),(42,I6 x_293),(64,v_569),(65,I6 (y_564.length : Int)),(66,I6 x_654)] ∧ St M w0 w R_655 [.row 113 2 v0p1_0 a0.dict.l.length cs0p1_0,.mp mb0p1_1 (kvs Value.string (Value.int .i64) a0.dict.ids),.cells nb0_1 [I6 a0.dict.most,v0p1_0,.map (some mb0p1_1)] 102,mbo mb0_2 (kvs (Value.int .i64) id (mbp E_573)) 111 90 2 E_573,.cells b0 [v0_0,I6 a0.room,I6 a0.points,.pointer (some ⟨nb0_1,0,none⟩),.map (some mb0_2)] 70,.cells b_1 [.slice none 0 0,.slice none 0 0] 41,.row 65 2 v_21 y_16.length cs_22,.row 31 1 v_649 x_648.length cs_650,.cells b_25 [v_21,v_649] 41,.row 3 1 v_31 y_26.length cs_32,.row 90 2 v_569 y_564.length cs_570]) (((y_564.length : Int) - 0).toNat + 1) ?_ ?_
 have s:=s.pk2
 obtain ⟨R_717,s,hl_719,hs_718⟩:=s.fz_row (hq_555.mono hl_567.le) rfl rfl
 have hRL:=hRL.trans hl_719
 have s:=s.pk1
 have s:=s.pk10
 have s:=s.pk10
 have s:=s.pk10
 have s:=s.pk10
 have s:=s.pk10
 have s:=s.pk10
 have s:=s.pk7
 have s:=s.pk10
 have s:=s.pk10
 have s:=s.pk10
 exact ⟨x_289,0,_,v_553,_,_,H,hl_719,hs_718,(hq_292.mono (hl_551.le.trans (hl_567.le.trans hl_719.le))),q.sub (zc (zc (zc (zc (zc (zc (zc (zc (zc (zc (zc (zc zz)))))))))))),s⟩
 rintro k_l1 a w ⟨x_648,x_654,R_655,v_652,v_649,cs_650,H,hl_656,hs_653,hq_651,q,s⟩
 rcases k_l1 with _ | k_l1
 cases H
 rw [leaf_Leaf_Scan.l1.eq_2] at H
 have hRL:=hRL.trans hl_656
 refine zq<|zr<|zl q (r_ibin q rfl rfl rfl) fun a q=>zn<|zq ?_
 refine wp_cond_split (q.ev rfl) (fun (hb_720 : (decide (x_654 < (y_564.length : Int))) = true)=>?_) fun hb_720=>?_
 rw [ifb_t hb_720] at H
 refine wp_skip<|zq ?_
 refine wp_block ?_
 refine zq<|zr ?_
 obtain ⟨y_721,h_722,H⟩:=bs H
 obtain ⟨b_724,c_725,cs_726,hv_723,hr_727,hc_728,h_7220,h_7221⟩:=s.row_ix (.tail _ (.tail _ z8)) (hq_571.mono hl_656.le) rfl rfl h_722
 obtain ⟨v_729,rfl,hs_730⟩:=hr_727
 refine zl q (r_indexAddr_R underlying87 sizeOf90 hv_723 h_7220 h_7221 q rfl rfl) fun a q=>zl q (r_loadA (cs:=[I6 y_721.Time,v_729]) isAgg90 sizeOf90 rfl q rfl (fun j v hv=>by have:=s.row_cell (.tail _ (.tail _ z8)) hv_723 (hc_728 j v hv); simpa [Nat.add_assoc] using this)) fun a q=>?_
 refine sl_alloc zeroValue90 s q (by decide) rfl rfl fun a w b_731 s q=>?_
 refine sl_storeA (vs:=[I6 y_721.Time,v_729]) (c':=[I6 y_721.Time,v_729]) sizeOf90 s q rfl rfl rfl rfl (zc (all_cons hs_730.one zz)) (Nat.le_of_ble_eq_true rfl) rfl fun a w s q=>?_
 refine zn ?_
 refine parT_region (C:=fun w=>St M w0 w R_655 [.cells b_731 [I6 y_721.Time,v_729] 90,.row 113 2 v0p1_0 a0.dict.l.length cs0p1_0,.mp mb0p1_1 (kvs Value.string (Value.int .i64) a0.dict.ids),.cells nb0_1 [I6 a0.dict.most,v0p1_0,.map (some mb0p1_1)] 102,mbo mb0_2 (kvs (Value.int .i64) id (mbp E_573)) 111 90 2 E_573,.cells b0 [v0_0,I6 a0.room,I6 a0.points,.pointer (some ⟨nb0_1,0,none⟩),.map (some mb0_2)] 70,.cells b_1 [.slice none 0 0,.slice none 0 0] 41,.row 65 2 v_21 y_16.length cs_22,.row 31 1 v_649 x_648.length cs_650,.cells b_25 [v_21,v_649] 41,.row 3 1 v_31 y_26.length cs_32,.row 90 2 v_569 y_564.length cs_570]) 12 [(0,true),(1,true),(2,true),(3,true),(4,true),(6,true),(7,true),(8,true),(5,false),(9,false),(10,false),(11,false)] mixed (by kernel_rfl) s (fun w s=>s) fun w s=>?_
 refine zp rfl q (fun w s=>r_fieldAddr underlying41 rfl sizeOf39 q rfl) fun a q=>zp rfl q (fun w s=>r_load isAgg39 q rfl (s.cell (.tail _ z8) rfl)) fun a q=>zp rfl q (fun w s=>r_fieldAddr underlying90 rfl sizeOf3 q rfl) fun a q=>zp rfl q (fun w s=>r_load isAgg3 q rfl (s.cell z0 rfl)) fun a q=>zp rfl q (fun w s=>r_buildC (ps:=[(0,I6 1),(1,I6 y_721.Time)]) (c:=[I6 1,I6 y_721.Time,.string (⟨#[]⟩ : ByteArray),I6 0,I6 0,I6 0,I6 0,I6 0,I6 0,I6 0,I6 0]) underlying58 zeroValue58 places58 q rfl (pc_cons rfl (pc_cons rfl pc_nil)) rfl rfl) fun a q=>zp rfl q (fun w s=>r_move q rfl) fun a q=>?_
 refine zp rfl q (fun w s=>r_fieldAddr underlying90 rfl sizeOf31 q rfl) fun a q=>zp rfl q (fun w s=>r_load isAgg31 q rfl (s.cell z0 rfl)) fun a q=>?_
 refine spw (k:=5) rfl rfl s ?_
 refine sl_buildSliceF (zc:=[I6 0,I6 0,.string (⟨#[]⟩ : ByteArray),I6 0,I6 0,I6 0,I6 0,I6 0,I6 0,I6 0,I6 0]) (ps:=[(0,.agg #[I6 1,I6 y_721.Time,.string (⟨#[]⟩ : ByteArray),I6 0,I6 0,I6 0,I6 0,I6 0,I6 0,I6 0,I6 0])]) (c:=[I6 1,I6 y_721.Time,.string (⟨#[]⟩ : ByteArray),I6 0,I6 0,I6 0,I6 0,I6 0,I6 0,I6 0,I6 0]) [[I6 1,I6 y_721.Time,.string (⟨#[]⟩ : ByteArray),I6 0,I6 0,I6 0,I6 0,I6 0,I6 0,I6 0,I6 0]] underlying31 sizeOf58 zeroValue58 rfl (pc_cons rfl pc_nil) rfl rfl (Nat.le_of_ble_eq_true rfl) rfl (zc zz) rfl s q (by decide) rfl fun a w b_756 s q=>?_
 refine parK_nil (s.pk12.pk12.pk12.pk12.pk12.pk12.pk12.pk12.pk12.pk12.pk12.pk12.trunc 12) ?_
 refine spw (k:=9) rfl rfl (s.pk12.pk12.pk12.pk12.pk12.pk12.pk12.pk12.pk12.pk12.pk12.pk12.trunc 12) ?_
 refine sl_buildSliceF (zc:=[.slice none 0 0]) (ps:=[(0,.slice (some ⟨b_756,0,none⟩) 1 1),(1,v_652),(2,v_729)]) (c:=[.slice (some ⟨b_756,0,none⟩) 1 1,v_652,v_729]) [[.slice (some ⟨b_756,0,none⟩) 1 1],[v_652],[v_729]] underlying39 sizeOf31 zeroValue31 rfl (pc_cons rfl (pc_cons (cells1 hs_653.one) (pc_cons (cells1 hs_730.one) pc_nil))) rfl rfl (Nat.le_of_ble_eq_true rfl) rfl (zc (zc (zc zz))) rfl s q (by decide) rfl fun a w b_757 s q=>?_
 refine parK_nil (s.pk13.pk13.pk13.pk13.pk13.pk13.pk13.pk13.pk13.pk13.pk13.pk13.trunc 12) ?_
 refine spw (k:=10) rfl rfl (s.pk13.pk13.pk13.pk13.pk13.pk13.pk13.pk13.pk13.pk13.pk13.pk13.trunc 12) ?_
 have s:=s.pk1
 obtain ⟨R_758,s,hl_760,hs_759⟩:=s.fz_lit (ty:=ty_api_Value) (xs:=[(⟨1,y_721.Time,(⟨#[]⟩ : ByteArray),(⟨0,0,0,0,0,0,0,0⟩ : Arr8)⟩ : api_Value)]) (Reps.cons (show Ty.rep ty_api_Value _ [I6 1,I6 y_721.Time,.string (⟨#[]⟩ : ByteArray),I6 0,I6 0,I6 0,I6 0,I6 0,I6 0,I6 0,I6 0] (⟨1,y_721.Time,(⟨#[]⟩ : ByteArray),(⟨0,0,0,0,0,0,0,0⟩ : Arr8)⟩ : api_Value) from rfl) (Reps.nil _ _)) rfl
 have hRL:=hRL.trans hl_760
 obtain ⟨y_761,h_762,H⟩:=bs H
 refine sl_call call34 q (by decide) rfl rfl rfl (slices_Concat_api_Value_api_Value.calls [[(⟨1,y_721.Time,(⟨#[]⟩ : ByteArray),(⟨0,0,0,0,0,0,0,0⟩ : Arr8)⟩ : api_Value)],y_548.2.1,y_721.Vals] (lentOf_sub [] _) s.sub (s.lend_lit0 (ty:=(tySl ty_api_Value)) (xs:=[[(⟨1,y_721.Time,(⟨#[]⟩ : ByteArray),(⟨0,0,0,0,0,0,0,0⟩ : Arr8)⟩ : api_Value)],y_548.2.1,y_721.Vals]) z0 (Reps.cons (show Ty.rep (tySl ty_api_Value) _ [(.slice (some ⟨b_756,0,none⟩) 1 1)] [(⟨1,y_721.Time,(⟨#[]⟩ : ByteArray),(⟨0,0,0,0,0,0,0,0⟩ : Arr8)⟩ : api_Value)] from ⟨_,rfl,hs_759⟩) (Reps.cons (show Ty.rep (tySl ty_api_Value) _ [v_652] y_548.2.1 from ⟨_,rfl,(hs_653.mono hl_760.le)⟩) (Reps.cons (show Ty.rep (tySl ty_api_Value) _ [v_729] y_721.Vals from ⟨_,rfl,(hs_730.mono hl_760.le)⟩) (Reps.nil _ _)))) rfl) h_762) fun a v_ w hv_ q=>?_
 obtain ⟨R_763,v_766,cs_767,hv_,hr_,hl_764,hq_768⟩:=hv_
 have hv_:=hv_.symm
 subst hv_
 obtain ⟨s,hl_764⟩:=s.sp0.back hr_ hl_764
 have s:=s.un1
 have hRL:=hRL.trans hl_764
 refine parK_nil ((s.pk13.pk13.pk13.pk13.pk13.pk13.pk13.pk13.pk13.pk13.pk13.pk13.trunc 12).lower (hl_760.le.trans hl_764.le)) ?_
 refine spw (k:=11) rfl rfl ((s.pk13.pk13.pk13.pk13.pk13.pk13.pk13.pk13.pk13.pk13.pk13.pk13.trunc 12).lower (hl_760.le.trans hl_764.le)) ?_
 have ho_769:=s.row_one z0
 refine sl_buildSliceF (zc:=[.slice none 0 0]) (ps:=[(0,v_766)]) (c:=[v_766]) [[v_766]] underlying39 sizeOf31 zeroValue31 rfl (pc_cons (cells1 ho_769) pc_nil) rfl rfl (Nat.le_of_ble_eq_true rfl) rfl (zc zz) rfl s q (by decide) rfl fun a w b_770 s q=>?_
 refine parK_nil ((s.pk14.pk14.pk14.pk14.pk14.pk14.pk14.pk14.pk14.pk14.pk14.pk14.trunc 12).lower (hl_760.le.trans hl_764.le)) ?_
 refine thenL_nil ?_
 have s:=s.pk11
 have s:=s.pk2
 obtain ⟨R_771,s,hl_773,hs_772⟩:=s.fz_row hq_768 rfl rfl
 have hRL:=hRL.trans hl_773
 obtain ⟨y_774,h_775,H⟩:=bs H
 refine sl_append_L (ty:=(tySl ty_api_Value)) (ys:=[y_761]) elT39 (by decide) rfl (hq_651.mono (hl_760.le.trans (hl_764.le.trans hl_773.le))) rfl (Reps.cons (show Ty.rep (tySl ty_api_Value) _ [v_766] y_761 from ⟨_,rfl,hs_772⟩) (Reps.nil _ _)) rfl h_775 s q (by decide) rfl rfl rfl fun a w v_776 cs_777 hq_778 s q=>?_
 refine zl q (r_fieldAddr underlying41 rfl sizeOf39 q rfl) fun a q=>?_
 have s:=s.pk10
 refine sl_store1 (c':=[v_21,v_776]) sizeOf39 s q rfl rfl rfl (s.row_one z1) (Nat.le_of_ble_eq_true rfl) rfl fun a w s q=>?_
 refine wpList_nil (NoP_nil ?_)
 refine zr<|zl q (r_ibin q rfl rfl rfl) fun a q=>zm q rfl fun a q=>zn ?_
 have s:=s.pk12
 have s:=s.pk12
 have s:=s.pk2
 have s:=s.pk3
 have s:=s.pk12
 have s:=s.pk12
 have s:=s.pk12
 have s:=s.pk12
 have s:=s.pk12
 have s:=s.pk12
 have s:=s.pk12
 exact ⟨_,Nat.lt_succ_self _,y_774,(IntKind.i64.wrap (x_654 + 1)),_,v_652,_,_,H,(hl_656.trans (hl_760.trans (hl_764.trans hl_773))),(hs_653.mono (hl_760.le.trans (hl_764.le.trans hl_773.le))),hq_778,q.sub (zc (zc (zc (zc (zc (zc (zc (zc (zc (zc (zc (zc zz)))))))))))),s.trunc 11⟩
 rw [ifb_f hb_720] at H
 refine wp_exit ?_
 refine zr<|zl q (r_ibin q rfl rfl rfl) fun a q=>zm q rfl fun a q=>zn ?_
 have s:=s.pk9
 have s:=s.pk9
 have s:=s.pk9
 have s:=s.pk9
 have s:=s.pk9
 have s:=s.pk9
 have s:=s.pk9
 have s:=s.pk9
 have s:=s.pk9
 have s:=s.pk9
 exact ⟨_,Nat.lt_succ_self _,x_648,(IntKind.i64.wrap (x_293 + 1)),_,_,_,_,H,(hl_295.trans (hl_551.trans (hl_567.trans hl_656))),hq_651,(hm_574.mono hl_656.le),q.sub (zc (zc (zc (zc (zc (zc (zc (zc zz)))))))),s.trunc 10⟩
 rw [ifb_f hb_539] at H
 refine wp_exit ?_
 refine zq<|zr<|zl q (r_loadA (cs:=[v_21,v_290]) isAgg41 sizeOf41 rfl q rfl (s.cells_of (m:=2) z8 rfl)) fun a q=>?_
 obtain ⟨y_780,h_781,H⟩:=bs H
 refine sl_call call35 q (by decide) rfl rfl rfl (table_Canon.calls (⟨y_16,x_289⟩ : api_Table) (lentOf_sub [] _) s.sub (s.lend_row0 z6 (hq_23.mono (hl_29.le.trans hl_295.le)) rfl rfl) (s.lend_row0 z7 hq_292 rfl rfl) h_781) fun a v_ w hv_ q=>?_
 obtain ⟨R_782,v_785,cs_786,v_789,cs_790,hv_,hr_,hl_783,hq_787,hq_791,hap_792⟩:=hv_
 have hv_:=hv_.symm
 subst hv_
 obtain ⟨s,hl_783⟩:=s.sp0.back hr_ hl_783
 have s:=s.un2
 have hRL:=hRL.trans hl_783
 have s:=s.pk7
 refine sl_storeA (vs:=[v_785,v_789]) (c':=[v_785,v_789]) sizeOf41 s q rfl rfl rfl rfl (all_cons (s.row_one z1) (all_cons (s.row_one z2) zz)) (Nat.le_of_ble_eq_true rfl) rfl fun a w s q=>?_
 refine za q rfl fun a q=>zn ?_
 obtain rfl:=Option.some.inj H
 refine wp_ret ?_
 repeat first | refine zt ?_ | refine zb ?_ | refine zo ?_
 exact ret_2 results12 q (rv_cell (c:=[v_785,v_789]) isAgg41 sizeOf41 s z0 rfl q rfl) (rv_tmp q rfl) ⟨_,rfl,_,_,_,_,_,_,_,_,_,_,_,_,rfl,(s.pk6.pk5.pk5.pk6.pk7.pk7.pk7.trunc 7),hRL,hq_787,hq_791,(h0_0.mono (hl_5.le.trans (hl_19.le.trans (hl_29.le.trans (hl_295.le.trans hl_783.le))))),(h0p1_0.mono (hl_5.le.trans (hl_19.le.trans (hl_29.le.trans (hl_295.le.trans hl_783.le))))),(hm_287.mono hl_783.le)⟩
theorem leaf_Leaf_Points.calls (a0 : leaf_Leaf) {w0 : World} {R : Hp} {M : List Own} {b0 : Nat} {v0_0 : Value} {nb0_1 : Nat} {v0p1_0 : Value} {cs0p1_0 : List Value} {mb0p1_1 : Nat} {mb0_2 : Nat} {E0_2 : List (MB Int)} (hS0 : St M w0 w0 R [.cells b0 [v0_0,I6 a0.room,I6 a0.points,.pointer (some ⟨nb0_1,0,none⟩),.map (some mb0_2)] 70,.cells nb0_1 [I6 a0.dict.most,v0p1_0,.map (some mb0p1_1)] 102,.row 113 2 v0p1_0 a0.dict.l.length cs0p1_0,.mp mb0p1_1 (kvs Value.string (Value.int .i64) a0.dict.ids),mbo mb0_2 (kvs (Value.int .i64) id (mbp E0_2)) 111 90 2 E0_2]) (h0_0 : SlR ty_api_Schema R v0_0 a0.schemas) (h0p1_0 : Reps ty_streams_stream R cs0p1_0 a0.dict.l) (h0_2 : MBel ty_api_Sample runs_Run.l R E0_2 a0.runs) {r : Int × leaf_Leaf} (H : leaf_Leaf_Points a0 = some r) : Calls prog 14 #[.pointer (some ⟨b0,0,none⟩)] w0 (Rets fun v w'=>∃ (R' : Hp) (u0 : Value) (B1 : Nat) (u2 : Value) (cu2 : List Value) (B3 : Nat) (B4 : Nat) (E4 : List (MB Int)),v = I6 r.1 ∧ St M w0 w' R' [.cells b0 [u0,I6 r.2.room,I6 r.2.points,.pointer (some ⟨B1,0,none⟩),.map (some B4)] 70,.cells B1 [I6 r.2.dict.most,u2,.map (some B3)] 102,.row 113 2 u2 r.2.dict.l.length cu2,.mp B3 (kvs Value.string (Value.int .i64) r.2.dict.ids),mbo B4 (kvs (Value.int .i64) id (mbp E4)) 111 90 2 E4] ∧ RLe M w0 R R' ∧ SlR ty_api_Schema R' u0 r.2.schemas ∧ Reps ty_streams_stream R' cu2 r.2.dict.l ∧ MBel ty_api_Sample runs_Run.l R' E4 r.2.runs):=by
 unfold leaf_Leaf_Points at H
 refine enter (args:=[.pointer (some ⟨b0,0,none⟩)]) func14 rfl ntmps14 rfl fun a q=>?_
 have s:=hS0
 have hRL:=RLe.refl (M:=M) w0 R
 refine zq<|zr<|za q rfl fun a q=>zn<|zq<|zr<|zm q rfl fun a q=>zl q (r_nilCheck q rfl) fun a q=>zl q (r_fieldAddr underlying70 rfl sizeOf3 q rfl) fun a q=>zl q (r_load isAgg3 q rfl (s.cell z0 rfl)) fun a q=>za q rfl fun a q=>zn ?_
 obtain rfl:=Option.some.inj H
 refine wp_ret ?_
 repeat first | refine zt ?_ | refine zb ?_ | refine zo ?_
 exact ret_1 results14 q (rv_tmp q rfl) ⟨_,rfl,_,_,_,_,_,_,_,_,rfl,s,hRL,h0_0,h0p1_0,h0_2⟩
theorem law08_shown.calls {w0 : World} {RA : Hp} (hRA : RA.sub w0) (hG : GF RA) {r : Bool} (H : law08_shown  = some r) : CallsV prog 7 #[] w0 (.bool r):=by
 unfold law08_shown at H
 refine enter (args:=[]) func7 rfl ntmps7 rfl fun a q=>?_
 have s:=St.init (R:=fun _=>none) (w:=w0) (fun _ _ h=>by cases h)
 have hRL:=RLe.refl (M:=[]) w0 (fun _=>none)
 refine zq<|zr<|za q rfl fun a q=>zn<|zq<|zr ?_
 obtain ⟨y_1,h_2,H⟩:=bs H
 refine sl_call call9 q (by decide) rfl rfl rfl (law08_load.calls s.sub h_2) fun a v_ w hv_ q=>?_
 obtain ⟨R_3,v_6,cs_7,hv_,hr_,hl_4,hq_8⟩:=hv_
 have hv_:=hv_.symm
 subst hv_
 obtain ⟨s,hl_4⟩:=s.sp0.back hr_ hl_4
 have s:=s.un1
 have hRL:=hRL.trans hl_4
 obtain ⟨R_9,s,hl_11,hs_10⟩:=s.fz_row hq_8 rfl rfl
 have hRL:=hRL.trans hl_11
 obtain ⟨y_12,h_13,H⟩:=bs H
 refine sl_call call8 q (by decide) rfl rfl rfl (leaf_New.calls y_1 2 (lentOf_sub [] _) s.sub hs_10 (GF.mono (s.raLe0 hRA nil_not) hG) h_13) fun a v_ w hv_ q=>?_
 rcases hv_ with ⟨h_29,R_31,hv_,hr_,hl_32⟩ | ⟨y_16,h_30,R_14,b_17,v_18,b_20,v_22,cs_23,mb_25,mb_26,E_27,hv_,hr_,hl_15,hs_19,hq_24,hm_28⟩
 rw [oel_none h_29] at H
 have hv_:=hv_.symm
 subst hv_
 obtain ⟨s,hl_32⟩:=s.sp0.back hr_ hl_32
 have s:=s.un0
 have hRL:=hRL.trans hl_32
 refine zm q rfl fun a q=>zl q (r_extract q rfl rfl) fun a q=>zl q (r_extract q rfl rfl) fun a q=>za q rfl fun a q=>za q rfl fun a q=>zn<|zq<|zr ?_
 obtain ⟨y_33,h_34,H⟩:=bs H
 refine sl_call call8 q (by decide) rfl rfl rfl (leaf_New.calls ([] : List api_Schema) 2 (lentOf_sub [] _) s.sub (SlR.nil ty_api_Schema _) (GF.mono (s.raLe0 hRA nil_not) hG) h_34) fun a v_ w hv_ q=>?_
 rcases hv_ with ⟨h_50,R_52,hv_,hr_,hl_53⟩ | ⟨y_37,h_51,R_35,b_38,v_39,b_41,v_43,cs_44,mb_46,mb_47,E_48,hv_,hr_,hl_36,hs_40,hq_45,hm_49⟩
 rw [oel_none h_50] at H
 have hv_:=hv_.symm
 subst hv_
 obtain ⟨s,hl_53⟩:=s.sp0.back hr_ hl_53
 have s:=s.un0
 have hRL:=hRL.trans hl_53
 refine zm q rfl fun a q=>zl q (r_extract q rfl rfl) fun a q=>zl q (r_extract q rfl rfl) fun a q=>za q rfl fun a q=>za q rfl fun a q=>zn<|zq<|zq<|zr<|zm q rfl fun a q=>zl q (r_pnn underlying24 q rfl rfl) fun a q=>zm q rfl fun a q=>zs q fun a q=>zs q fun a q=>zl q (r_pick q rfl rfl rfl) fun a q=>zm q rfl fun a q=>zs q fun a q=>zs q fun a q=>zl q (r_pick q rfl rfl rfl) fun a q=>zn ?_
 refine wp_cond_true (q.ev rfl) ?_
 refine zq<|zr<|za q rfl fun a q=>zn ?_
 obtain rfl:=Option.some.inj H
 refine wp_ret ?_
 repeat first | refine zt ?_ | refine zb ?_ | refine zo ?_
 exact ret_1 results7 q (rv_tmp q rfl) ⟨rfl,s.bel⟩
 rw [oel_some h_51] at H
 have hv_:=hv_.symm
 subst hv_
 obtain ⟨s,hl_36⟩:=s.sp0.back hr_ hl_36
 have s:=s.un5
 have hRL:=hRL.trans hl_36
 refine zm q rfl fun a q=>zl q (r_extract q rfl rfl) fun a q=>zl q (r_extract q rfl rfl) fun a q=>za q rfl fun a q=>za q rfl fun a q=>zn<|zq<|zq<|zr<|zm q rfl fun a q=>zl q (r_pnn underlying24 q rfl rfl) fun a q=>zm q rfl fun a q=>zs q fun a q=>zs q fun a q=>zl q (r_pick q rfl rfl rfl) fun a q=>zm q rfl fun a q=>zs q fun a q=>zs q fun a q=>zl q (r_pick q rfl rfl rfl) fun a q=>zn ?_
 refine wp_cond_true (q.ev rfl) ?_
 refine zq<|zr<|za q rfl fun a q=>zn ?_
 obtain rfl:=Option.some.inj H
 refine wp_ret ?_
 repeat first | refine zt ?_ | refine zb ?_ | refine zo ?_
 exact ret_1 results7 q (rv_tmp q rfl) ⟨rfl,s.bel⟩
 rw [oel_some h_30] at H
 have hv_:=hv_.symm
 subst hv_
 obtain ⟨s,hl_15⟩:=s.sp0.back hr_ hl_15
 have s:=s.un5
 have hRL:=hRL.trans hl_15
 refine zm q rfl fun a q=>zl q (r_extract q rfl rfl) fun a q=>zl q (r_extract q rfl rfl) fun a q=>za q rfl fun a q=>za q rfl fun a q=>zn<|zq<|zr ?_
 obtain ⟨y_54,h_55,H⟩:=bs H
 refine sl_call call8 q (by decide) rfl rfl rfl (leaf_New.calls ([] : List api_Schema) 2 (lentOf_sub [] _) s.sub (SlR.nil ty_api_Schema _) (GF.mono (s.raLe0 hRA nil_not) hG) h_55) fun a v_ w hv_ q=>?_
 rcases hv_ with ⟨h_71,R_73,hv_,hr_,hl_74⟩ | ⟨y_58,h_72,R_56,b_59,v_60,b_62,v_64,cs_65,mb_67,mb_68,E_69,hv_,hr_,hl_57,hs_61,hq_66,hm_70⟩
 rw [oel_none h_71] at H
 have hv_:=hv_.symm
 subst hv_
 obtain ⟨s,hl_74⟩:=s.sp0.back hr_ hl_74
 have s:=s.un0
 have hRL:=hRL.trans hl_74
 refine zm q rfl fun a q=>zl q (r_extract q rfl rfl) fun a q=>zl q (r_extract q rfl rfl) fun a q=>za q rfl fun a q=>za q rfl fun a q=>zn<|zq<|zq ?_
 refine wp_mid (fun a w=>∃ (x_76 : Bool),law08_shown.j0 y_16 x_76 = some r ∧ Kn 154 a [(1,.pointer (some ⟨b_17,0,none⟩)),(37,.bool x_76)] ∧ St [] w0 w R_73 [.row 113 2 v_22 y_16.dict.l.length cs_23,.mp mb_25 (kvs Value.string (Value.int .i64) y_16.dict.ids),.cells b_20 [I6 y_16.dict.most,v_22,.map (some mb_25)] 102,mbo mb_26 (kvs (Value.int .i64) id (mbp E_27)) 111 90 2 E_27,.cells b_17 [v_18,I6 y_16.room,I6 y_16.points,.pointer (some ⟨b_20,0,none⟩),.map (some mb_26)] 70]) ?_ ?_
 refine zr<|zm q rfl fun a q=>zl q (r_peq underlying24 q rfl rfl) fun a q=>zm q rfl fun a q=>zm q rfl fun a q=>zl q (r_ibin q rfl rfl rfl) fun a q=>zl q (r_pick q rfl rfl rfl) fun a q=>zm q rfl fun a q=>?_
 rcases or_b (y_12.2 != 0) with hb_78 | hb_78
 rw [ifb_t hb_78] at H
 refine zsw q (wft hb_78) fun a q=>zsw q (wft hb_78) fun a q=>zl q (r_pick_t hb_78 q rfl rfl) fun a q=>zn ?_
 have s:=s.pk4
 have s:=s.pk2
 have s:=s.pk4
 have s:=s.pk4
 exact ⟨true,H,q.sub (zc (zc zz)),s⟩
 rw [ifb_f hb_78] at H
 refine zw q (wff hb_78) (r_move q rfl) fun a q=>zw q (wff hb_78) (r_ibin q rfl rfl rfl) fun a q=>zl q (r_pick_f hb_78 q rfl rfl) fun a q=>zn ?_
 have s:=s.pk4
 have s:=s.pk2
 have s:=s.pk4
 have s:=s.pk4
 exact ⟨(y_54.2 != 50),H,q.sub (zc (zc zz)),s⟩
 rintro a w ⟨x_76,H,q,s⟩
 unfold law08_shown.j0 at H
 refine wp_cond_split (q.ev rfl) (fun (hb_79 : x_76 = true)=>?_) fun hb_79=>?_
 rw [ifb_t hb_79] at H
 refine zq<|zr<|za q rfl fun a q=>zn ?_
 obtain rfl:=Option.some.inj H
 refine wp_ret ?_
 repeat first | refine zt ?_ | refine zb ?_ | refine zo ?_
 exact ret_1 results7 q (rv_tmp q rfl) ⟨rfl,s.bel⟩
 rw [ifb_f hb_79] at H
 refine wp_skip<|zq<|zr<|zm q rfl fun a q=>?_
 obtain ⟨y_80,h_81,H⟩:=bs H
 refine sl_call call10 q (by decide) rfl rfl rfl (law08_point.calls (⟨#[97]⟩ : ByteArray) 5 7 s.sub h_81) fun a v_ w hv_ q=>?_
 obtain ⟨R_82,v_85,cs_86,v_89,cs_90,hv_,hr_,hl_83,hq_87,hq_91⟩:=hv_
 have hv_:=hv_.symm
 subst hv_
 obtain ⟨s,hl_83⟩:=s.sp0.back hr_ hl_83
 have s:=s.un2
 have hRL:=hRL.trans hl_83
 obtain ⟨y_92,h_93,H⟩:=bs H
 have s:=s.pk5
 have s:=s.pk4
 have s:=s.pk4
 have s:=s.pk5
 have s:=s.pk6
 have hS1:=s.sp5
 refine sl_call call11 q (by decide) rfl rfl rfl (leaf_Leaf_Write.calls y_16 y_80 (lentOf_sub _ _) lentOf_not hS1.lend (hs_19.mono (hl_74.le.trans hl_83.le)) (hq_24.mono (hl_74.le.trans hl_83.le)) (hm_28.mono (hl_74.le.trans hl_83.le)) (hS1.lend_row z0 hq_87 rfl rfl) (hS1.lend_row z1 hq_91 rfl rfl) (GF.mono (hS1.raLe hRA nil_not) hG) h_93) fun a v_ w hv_ q=>?_
 obtain ⟨R_94,v_96,b_98,v_100,cs_101,mb_103,mb_104,E_105,hv_,hr_,hl_95,hs_97,hq_102,hm_106⟩:=hv_
 have hv_:=hv_.symm
 subst hv_
 obtain ⟨s,hl_95⟩:=hS1.back hr_ hl_95
 have s:=s.un5
 have hRL:=hRL.trans hl_95
 refine zm q rfl fun a q=>zl q (r_extract q rfl rfl) fun a q=>zl q (r_extract q rfl rfl) fun a q=>za q rfl fun a q=>za q rfl fun a q=>zn<|zq<|zr<|zm q rfl fun a q=>?_
 obtain ⟨y_107,h_108,H⟩:=bs H
 refine sl_call call10 q (by decide) rfl rfl rfl (law08_point.calls (⟨#[97]⟩ : ByteArray) 5 8 s.sub h_108) fun a v_ w hv_ q=>?_
 obtain ⟨R_109,v_112,cs_113,v_116,cs_117,hv_,hr_,hl_110,hq_114,hq_118⟩:=hv_
 have hv_:=hv_.symm
 subst hv_
 obtain ⟨s,hl_110⟩:=s.sp0.back hr_ hl_110
 have s:=s.un2
 have hRL:=hRL.trans hl_110
 obtain ⟨y_119,h_120,H⟩:=bs H
 have s:=s.pk6
 have s:=s.pk6
 have s:=s.pk6
 have s:=s.pk6
 have s:=s.pk6
 have hS1:=s.sp5
 refine sl_call call11 q (by decide) rfl rfl rfl (leaf_Leaf_Write.calls y_92.2.2 y_107 (lentOf_sub _ _) lentOf_not hS1.lend (hs_97.mono hl_110.le) (hq_102.mono hl_110.le) (hm_106.mono hl_110.le) (hS1.lend_row z0 hq_114 rfl rfl) (hS1.lend_row z1 hq_118 rfl rfl) (GF.mono (hS1.raLe hRA nil_not) hG) h_120) fun a v_ w hv_ q=>?_
 obtain ⟨R_121,v_123,b_125,v_127,cs_128,mb_130,mb_131,E_132,hv_,hr_,hl_122,hs_124,hq_129,hm_133⟩:=hv_
 have hv_:=hv_.symm
 subst hv_
 obtain ⟨s,hl_122⟩:=hS1.back hr_ hl_122
 have s:=s.un5
 have hRL:=hRL.trans hl_122
 refine zm q rfl fun a q=>zl q (r_extract q rfl rfl) fun a q=>zl q (r_extract q rfl rfl) fun a q=>za q rfl fun a q=>za q rfl fun a q=>zn<|zq<|zr<|zm q rfl fun a q=>?_
 obtain ⟨y_134,h_135,H⟩:=bs H
 refine sl_call call10 q (by decide) rfl rfl rfl (law08_point.calls (⟨#[98]⟩ : ByteArray) 3 1 s.sub h_135) fun a v_ w hv_ q=>?_
 obtain ⟨R_136,v_139,cs_140,v_143,cs_144,hv_,hr_,hl_137,hq_141,hq_145⟩:=hv_
 have hv_:=hv_.symm
 subst hv_
 obtain ⟨s,hl_137⟩:=s.sp0.back hr_ hl_137
 have s:=s.un2
 have hRL:=hRL.trans hl_137
 obtain ⟨y_146,h_147,H⟩:=bs H
 have s:=s.pk6
 have s:=s.pk6
 have s:=s.pk6
 have s:=s.pk6
 have s:=s.pk6
 have hS1:=s.sp5
 refine sl_call call11 q (by decide) rfl rfl rfl (leaf_Leaf_Write.calls y_119.2.2 y_134 (lentOf_sub _ _) lentOf_not hS1.lend (hs_124.mono hl_137.le) (hq_129.mono hl_137.le) (hm_133.mono hl_137.le) (hS1.lend_row z0 hq_141 rfl rfl) (hS1.lend_row z1 hq_145 rfl rfl) (GF.mono (hS1.raLe hRA nil_not) hG) h_147) fun a v_ w hv_ q=>?_
 obtain ⟨R_148,v_150,b_152,v_154,cs_155,mb_157,mb_158,E_159,hv_,hr_,hl_149,hs_151,hq_156,hm_160⟩:=hv_
 have hv_:=hv_.symm
 subst hv_
 obtain ⟨s,hl_149⟩:=hS1.back hr_ hl_149
 have s:=s.un5
 have hRL:=hRL.trans hl_149
 refine zm q rfl fun a q=>zl q (r_extract q rfl rfl) fun a q=>zl q (r_extract q rfl rfl) fun a q=>za q rfl fun a q=>za q rfl fun a q=>zn<|zq<|zr<|zm q rfl fun a q=>?_
 obtain ⟨y_161,h_162,H⟩:=bs H
 refine sl_call call10 q (by decide) rfl rfl rfl (law08_point.calls (⟨#[99]⟩ : ByteArray) 1 1 s.sub h_162) fun a v_ w hv_ q=>?_
 obtain ⟨R_163,v_166,cs_167,v_170,cs_171,hv_,hr_,hl_164,hq_168,hq_172⟩:=hv_
 have hv_:=hv_.symm
 subst hv_
 obtain ⟨s,hl_164⟩:=s.sp0.back hr_ hl_164
 have s:=s.un2
 have hRL:=hRL.trans hl_164
 obtain ⟨y_173,h_174,H⟩:=bs H
 have s:=s.pk6
 have s:=s.pk6
 have s:=s.pk6
 have s:=s.pk6
 have s:=s.pk6
 have hS1:=s.sp5
 refine sl_call call11 q (by decide) rfl rfl rfl (leaf_Leaf_Write.calls y_146.2.2 y_161 (lentOf_sub _ _) lentOf_not hS1.lend (hs_151.mono hl_164.le) (hq_156.mono hl_164.le) (hm_160.mono hl_164.le) (hS1.lend_row z0 hq_168 rfl rfl) (hS1.lend_row z1 hq_172 rfl rfl) (GF.mono (hS1.raLe hRA nil_not) hG) h_174) fun a v_ w hv_ q=>?_
 obtain ⟨R_175,v_177,b_179,v_181,cs_182,mb_184,mb_185,E_186,hv_,hr_,hl_176,hs_178,hq_183,hm_187⟩:=hv_
 have hv_:=hv_.symm
 subst hv_
 obtain ⟨s,hl_176⟩:=hS1.back hr_ hl_176
 have s:=s.un5
 have hRL:=hRL.trans hl_176
 refine zm q rfl fun a q=>zl q (r_extract q rfl rfl) fun a q=>zl q (r_extract q rfl rfl) fun a q=>za q rfl fun a q=>za q rfl fun a q=>zn<|zq<|zr<|zm q rfl fun a q=>?_
 obtain ⟨y_188,h_189,H⟩:=bs H
 have s:=s.pk4
 have s:=s.pk4
 have s:=s.pk4
 have s:=s.pk4
 have s:=s.pk4
 have hS1:=s.sp5
 refine sl_call call12 q (by decide) rfl rfl rfl (leaf_Leaf_Scan.calls y_173.2.2 (⟨#[108,111,97,100]⟩ : ByteArray) 0 9 hS1.lend hs_178 hq_183 hm_187 h_189) fun a v_ w hv_ q=>?_
 obtain ⟨R_190,v_193,cs_194,v_197,cs_198,v_200,b_202,v_204,cs_205,mb_207,mb_208,E_209,hv_,hr_,hl_191,hq_195,hq_199,hs_201,hq_206,hm_210⟩:=hv_
 have hv_:=hv_.symm
 subst hv_
 obtain ⟨s,hl_191⟩:=hS1.back hr_ hl_191
 have s:=s.un7
 have hRL:=hRL.trans hl_191
 refine zm q rfl fun a q=>zl q (r_extract q rfl rfl) fun a q=>zl q (r_extract q rfl rfl) fun a q=>?_
 refine sl_alloc zeroValue41 s q (by decide) rfl rfl fun a w b_211 s q=>?_
 refine sl_storeA (vs:=[v_193,v_197]) (c':=[v_193,v_197]) sizeOf41 s q rfl rfl rfl rfl (all_cons (s.row_one z1) (all_cons (s.row_one z2) zz)) (Nat.le_of_ble_eq_true rfl) rfl fun a w s q=>?_
 refine za q rfl fun a q=>zn<|zq<|zr<|zm q rfl fun a q=>?_
 obtain ⟨y_212,h_213,H⟩:=bs H
 have s:=s.pk7
 have s:=s.pk7
 have s:=s.pk7
 have s:=s.pk7
 have s:=s.pk7
 have hS1:=s.sp5
 refine sl_call call12 q (by decide) rfl rfl rfl (leaf_Leaf_Scan.calls y_188.2.2 (⟨#[108,111,97,100]⟩ : ByteArray) 4 9 hS1.lend hs_201 hq_206 hm_210 h_213) fun a v_ w hv_ q=>?_
 obtain ⟨R_214,v_217,cs_218,v_221,cs_222,v_224,b_226,v_228,cs_229,mb_231,mb_232,E_233,hv_,hr_,hl_215,hq_219,hq_223,hs_225,hq_230,hm_234⟩:=hv_
 have hv_:=hv_.symm
 subst hv_
 obtain ⟨s,hl_215⟩:=hS1.back hr_ hl_215
 have s:=s.un7
 have hRL:=hRL.trans hl_215
 refine zm q rfl fun a q=>zl q (r_extract q rfl rfl) fun a q=>zl q (r_extract q rfl rfl) fun a q=>?_
 refine sl_alloc zeroValue41 s q (by decide) rfl rfl fun a w b_235 s q=>?_
 refine sl_storeA (vs:=[v_217,v_221]) (c':=[v_217,v_221]) sizeOf41 s q rfl rfl rfl rfl (all_cons (s.row_one z1) (all_cons (s.row_one z2) zz)) (Nat.le_of_ble_eq_true rfl) rfl fun a w s q=>?_
 refine za q rfl fun a q=>zn<|zq<|zr<|zm q rfl fun a q=>?_
 obtain ⟨y_236,h_237,H⟩:=bs H
 have s:=s.pk7
 have s:=s.pk7
 have s:=s.pk7
 have s:=s.pk7
 have s:=s.pk7
 have hS1:=s.sp5
 refine sl_call call12 q (by decide) rfl rfl rfl (leaf_Leaf_Scan.calls y_212.2.2 (⟨#[120]⟩ : ByteArray) 0 9 hS1.lend hs_225 hq_230 hm_234 h_237) fun a v_ w hv_ q=>?_
 obtain ⟨R_238,v_241,cs_242,v_245,cs_246,v_248,b_250,v_252,cs_253,mb_255,mb_256,E_257,hv_,hr_,hl_239,hq_243,hq_247,hs_249,hq_254,hm_258⟩:=hv_
 have hv_:=hv_.symm
 subst hv_
 obtain ⟨s,hl_239⟩:=hS1.back hr_ hl_239
 have s:=s.un7
 have hRL:=hRL.trans hl_239
 refine zm q rfl fun a q=>zl q (r_extract q rfl rfl) fun a q=>zl q (r_extract q rfl rfl) fun a q=>?_
 refine sl_alloc zeroValue41 s q (by decide) rfl rfl fun a w b_259 s q=>?_
 refine sl_storeA (vs:=[v_241,v_245]) (c':=[v_241,v_245]) sizeOf41 s q rfl rfl rfl rfl (all_cons (s.row_one z1) (all_cons (s.row_one z2) zz)) (Nat.le_of_ble_eq_true rfl) rfl fun a w s q=>?_
 refine za q rfl fun a q=>zn<|zq<|zr<|zm q rfl fun a q=>zm q rfl fun a q=>?_
 rcases or_b y_92.1 with hb_260 | hb_260
 rw [ifb_t hb_260] at H
 refine zw q (wtt hb_260) (r_move q rfl) fun a q=>zw q (wtt hb_260) (r_ibin q rfl rfl rfl) fun a q=>zl q (r_pick_t hb_260 q rfl rfl) fun a q=>zm q rfl fun a q=>?_
 rcases or_b (y_92.2.1 == 0) with hb_261 | hb_261
 rw [ifb_t hb_261] at H
 refine zw q (wtt hb_261) (r_move q rfl) fun a q=>zw q (wtt hb_261) (r_un q rfl (u_not _)) fun a q=>zl q (r_pick_t hb_261 q rfl rfl) fun a q=>zm q rfl fun a q=>?_
 rcases or_b (!y_119.1) with hb_262 | hb_262
 rw [ifb_t hb_262] at H
 refine zw q (wtt hb_262) (r_move q rfl) fun a q=>zw q (wtt hb_262) (r_ibin q rfl rfl rfl) fun a q=>zl q (r_pick_t hb_262 q rfl rfl) fun a q=>zm q rfl fun a q=>?_
 rcases or_b (y_119.2.1 == 0) with hb_263 | hb_263
 rw [ifb_t hb_263] at H
 refine zw q (wtt hb_263) (r_move q rfl) fun a q=>zl q (r_pick_t hb_263 q rfl rfl) fun a q=>zm q rfl fun a q=>?_
 rcases or_b y_146.1 with hb_264 | hb_264
 rw [ifb_t hb_264] at H
 refine zw q (wtt hb_264) (r_move q rfl) fun a q=>zw q (wtt hb_264) (r_ibin q rfl rfl rfl) fun a q=>zl q (r_pick_t hb_264 q rfl rfl) fun a q=>zm q rfl fun a q=>?_
 rcases or_b (y_146.2.1 == 0) with hb_265 | hb_265
 rw [ifb_t hb_265] at H
 refine zw q (wtt hb_265) (r_move q rfl) fun a q=>zw q (wtt hb_265) (r_un q rfl (u_not _)) fun a q=>zl q (r_pick_t hb_265 q rfl rfl) fun a q=>zm q rfl fun a q=>?_
 rcases or_b (!y_173.1) with hb_266 | hb_266
 rw [ifb_t hb_266] at H
 refine zw q (wtt hb_266) (r_move q rfl) fun a q=>zw q (wtt hb_266) (r_ibin q rfl rfl rfl) fun a q=>zl q (r_pick_t hb_266 q rfl rfl) fun a q=>zm q rfl fun a q=>?_
 rcases or_b (y_173.2.1 == 80) with hb_267 | hb_267
 rw [ifb_t hb_267] at H
 refine zw q (wtt hb_267) (r_move q rfl) fun a q=>zw q (wtt hb_267) (r_ibin q rfl rfl rfl) fun a q=>zl q (r_pick_t hb_267 q rfl rfl) fun a q=>zm q rfl fun a q=>?_
 rcases or_b (y_188.2.1 == 0) with hb_268 | hb_268
 rw [ifb_t hb_268] at H
 refine zw q (wtt hb_268) (r_fieldAddr underlying41 rfl sizeOf39 q rfl) fun a q=>zw q (wtt hb_268) (r_load isAgg39 q rfl (s.cell (.tail _ (.tail _ (.tail _ z8))) rfl)) fun a q=>zw q (wtt hb_268) (r_len_O underlying39 s (.tail _ (.tail _ (.tail _ (.tail _ (.tail _ z8))))) q rfl) fun a q=>zw q (wtt hb_268) (r_ibin q rfl rfl rfl) fun a q=>zl q (r_pick_t hb_268 q rfl rfl) fun a q=>zm q rfl fun a q=>?_
 rcases or_b ((y_188.1.Rows.length : Int) == 2) with hb_269 | hb_269
 rw [ifb_t hb_269] at H
 refine zw q (wtt hb_269) (r_fieldAddr underlying41 rfl sizeOf39 q rfl) fun a q=>zw q (wtt hb_269) (r_load isAgg39 q rfl (s.cell (.tail _ (.tail _ (.tail _ z8))) rfl)) fun a q=>?_
 obtain ⟨y_270,h_271,H⟩:=bs H
 obtain ⟨b_273,c_274,cs_275,hv_272,hr_276,hc_277,h_2710,h_2711⟩:=s.row_ix (.tail _ (.tail _ (.tail _ (.tail _ (.tail _ z8))))) (hq_199.mono (hl_215.le.trans hl_239.le)) rfl rfl h_271
 obtain ⟨v_278,rfl,hs_279⟩:=hr_276
 refine zw q (wtt hb_269) (r_indexAddr_R underlying39 sizeOf31 hv_272 h_2710 h_2711 q rfl rfl) fun a q=>zw q (wtt hb_269) (r_load isAgg31 q rfl (s.row_cell (.tail _ (.tail _ (.tail _ (.tail _ (.tail _ z8))))) hv_272 (hc_277 0 _ rfl))) fun a q=>?_
 obtain ⟨y_280,h_281,H⟩:=bs H
 obtain ⟨b_282,o_283,c_284,cs_285,hv_286,hr_287,hc_288,h_2810,h_2811⟩:=hs_279.ix h_281
 subst hr_287
 refine zw q (wtt hb_269) (r_indexAddr_R underlying31 sizeOf58 hv_286 h_2810 h_2811 q rfl rfl) fun a q=>zw q (wtt hb_269) (r_fieldAddr underlying58 rfl sizeOf3 q rfl) fun a q=>zw q (wtt hb_269) (r_load isAgg3 q rfl (s.sub.cell (hc_288 1 _ rfl))) fun a q=>zw q (wtt hb_269) (r_ibin q rfl rfl rfl) fun a q=>zl q (r_pick_t hb_269 q rfl rfl) fun a q=>zm q rfl fun a q=>?_
 rcases or_b (y_280.N == 3) with hb_289 | hb_289
 rw [ifb_t hb_289] at H
 refine zw q (wtt hb_289) (r_fieldAddr underlying41 rfl sizeOf39 q rfl) fun a q=>zw q (wtt hb_289) (r_load isAgg39 q rfl (s.cell (.tail _ (.tail _ (.tail _ z8))) rfl)) fun a q=>?_
 obtain ⟨y_290,h_291,H⟩:=bs H
 obtain ⟨b_293,c_294,cs_295,hv_292,hr_296,hc_297,h_2910,h_2911⟩:=s.row_ix (.tail _ (.tail _ (.tail _ (.tail _ (.tail _ z8))))) (hq_199.mono (hl_215.le.trans hl_239.le)) rfl rfl h_291
 obtain ⟨v_298,rfl,hs_299⟩:=hr_296
 refine zw q (wtt hb_289) (r_indexAddr_R underlying39 sizeOf31 hv_292 h_2910 h_2911 q rfl rfl) fun a q=>zw q (wtt hb_289) (r_load isAgg31 q rfl (s.row_cell (.tail _ (.tail _ (.tail _ (.tail _ (.tail _ z8))))) hv_292 (hc_297 0 _ rfl))) fun a q=>?_
 obtain ⟨y_300,h_301,H⟩:=bs H
 obtain ⟨b_302,o_303,c_304,cs_305,hv_306,hr_307,hc_308,h_3010,h_3011⟩:=hs_299.ix h_301
 subst hr_307
 refine zw q (wtt hb_289) (r_indexAddr_R underlying31 sizeOf58 hv_306 h_3010 h_3011 q rfl rfl) fun a q=>zw q (wtt hb_289) (r_fieldAddr underlying58 rfl sizeOf3 q rfl) fun a q=>zw q (wtt hb_289) (r_load isAgg3 q rfl (s.sub.cell (hc_308 1 _ rfl))) fun a q=>zw q (wtt hb_289) (r_ibin q rfl rfl rfl) fun a q=>zl q (r_pick_t hb_289 q rfl rfl) fun a q=>zm q rfl fun a q=>?_
 rcases or_b (y_300.N == 7) with hb_309 | hb_309
 rw [ifb_t hb_309] at H
 refine zw q (wtt hb_309) (r_move q rfl) fun a q=>zw q (wtt hb_309) (r_ibin q rfl rfl rfl) fun a q=>zl q (r_pick_t hb_309 q rfl rfl) fun a q=>zm q rfl fun a q=>?_
 rcases or_b (y_212.2.1 == 0) with hb_310 | hb_310
 rw [ifb_t hb_310] at H
 refine zw q (wtt hb_310) (r_fieldAddr underlying41 rfl sizeOf39 q rfl) fun a q=>zw q (wtt hb_310) (r_load isAgg39 q rfl (s.cell z8 rfl)) fun a q=>zw q (wtt hb_310) (r_len_O underlying39 s (.tail _ (.tail _ z8)) q rfl) fun a q=>zw q (wtt hb_310) (r_ibin q rfl rfl rfl) fun a q=>zl q (r_pick_t hb_310 q rfl rfl) fun a q=>zm q rfl fun a q=>?_
 rcases or_b ((y_212.1.Rows.length : Int) == 1) with hb_311 | hb_311
 rw [ifb_t hb_311] at H
 refine zw q (wtt hb_311) (r_move q rfl) fun a q=>zw q (wtt hb_311) (r_ibin q rfl rfl rfl) fun a q=>zl q (r_pick_t hb_311 q rfl rfl) fun a q=>zm q rfl fun a q=>?_
 rcases or_b (y_236.2.1 == 50) with hb_312 | hb_312
 rw [ifb_t hb_312] at H
 refine zw q (wtt hb_312) (r_move q rfl) fun a q=>?_
 obtain ⟨y_313,h_314,H⟩:=bs H
 have s:=s.pk7
 have s:=s.pk7
 have s:=s.pk7
 have s:=s.pk7
 have s:=s.pk7
 have hS1:=s.sp5
 refine sl_call call14 q (by decide) (wtt hb_312) rfl rfl (leaf_Leaf_Points.calls y_236.2.2 hS1.lend hs_249 hq_254 hm_258 h_314) fun a v_ w hv_ q=>?_
 obtain ⟨R_315,v_317,b_319,v_321,cs_322,mb_324,mb_325,E_326,hv_,hr_,hl_316,hs_318,hq_323,hm_327⟩:=hv_
 have hv_:=hv_.symm
 subst hv_
 obtain ⟨s,hl_316⟩:=hS1.back hr_ hl_316
 have s:=s.un5
 have hRL:=hRL.trans hl_316
 refine zw q (wtt hb_312) (r_ibin q rfl rfl rfl) fun a q=>zl q (r_pick_t hb_312 q rfl rfl) fun a q=>za q rfl fun a q=>zn ?_
 obtain rfl:=Option.some.inj H
 refine wp_ret ?_
 repeat first | refine zt ?_ | refine zb ?_ | refine zo ?_
 exact ret_1 results7 q (rv_tmp q rfl) ⟨rfl,s.bel⟩
 rw [ifb_f hb_312] at H
 refine zsw q (wtf hb_312) fun a q=>zsw q (wtf hb_312) fun a q=>zsw q (wtf hb_312) fun a q=>zl q (r_pick_f hb_312 q rfl rfl) fun a q=>za q rfl fun a q=>zn ?_
 obtain rfl:=Option.some.inj H
 refine wp_ret ?_
 repeat first | refine zt ?_ | refine zb ?_ | refine zo ?_
 exact ret_1 results7 q (rv_tmp q rfl) ⟨rfl,s.bel⟩
 rw [ifb_f hb_311] at H
 refine zsw q (wtf hb_311) fun a q=>zsw q (wtf hb_311) fun a q=>zl q (r_pick_f hb_311 q rfl rfl) fun a q=>zm q rfl fun a q=>zs q fun a q=>zs q fun a q=>zs q fun a q=>zl q (r_pick q rfl rfl rfl) fun a q=>za q rfl fun a q=>zn ?_
 obtain rfl:=Option.some.inj H
 refine wp_ret ?_
 repeat first | refine zt ?_ | refine zb ?_ | refine zo ?_
 exact ret_1 results7 q (rv_tmp q rfl) ⟨rfl,s.bel⟩
 rw [ifb_f hb_310] at H
 refine zsw q (wtf hb_310) fun a q=>zsw q (wtf hb_310) fun a q=>zsw q (wtf hb_310) fun a q=>zsw q (wtf hb_310) fun a q=>zl q (r_pick_f hb_310 q rfl rfl) fun a q=>zm q rfl fun a q=>zs q fun a q=>zs q fun a q=>zl q (r_pick q rfl rfl rfl) fun a q=>zm q rfl fun a q=>zs q fun a q=>zs q fun a q=>zs q fun a q=>zl q (r_pick q rfl rfl rfl) fun a q=>za q rfl fun a q=>zn ?_
 obtain rfl:=Option.some.inj H
 refine wp_ret ?_
 repeat first | refine zt ?_ | refine zb ?_ | refine zo ?_
 exact ret_1 results7 q (rv_tmp q rfl) ⟨rfl,s.bel⟩
 rw [ifb_f hb_309] at H
 refine zsw q (wtf hb_309) fun a q=>zsw q (wtf hb_309) fun a q=>zl q (r_pick_f hb_309 q rfl rfl) fun a q=>zm q rfl fun a q=>zs q fun a q=>zs q fun a q=>zs q fun a q=>zs q fun a q=>zl q (r_pick q rfl rfl rfl) fun a q=>zm q rfl fun a q=>zs q fun a q=>zs q fun a q=>zl q (r_pick q rfl rfl rfl) fun a q=>zm q rfl fun a q=>zs q fun a q=>zs q fun a q=>zs q fun a q=>zl q (r_pick q rfl rfl rfl) fun a q=>za q rfl fun a q=>zn ?_
 obtain rfl:=Option.some.inj H
 refine wp_ret ?_
 repeat first | refine zt ?_ | refine zb ?_ | refine zo ?_
 exact ret_1 results7 q (rv_tmp q rfl) ⟨rfl,s.bel⟩
 rw [ifb_f hb_289] at H
 refine zsw q (wtf hb_289) fun a q=>zsw q (wtf hb_289) fun a q=>zsw q (wtf hb_289) fun a q=>zsw q (wtf hb_289) fun a q=>zsw q (wtf hb_289) fun a q=>zsw q (wtf hb_289) fun a q=>zsw q (wtf hb_289) fun a q=>zsw q (wtf hb_289) fun a q=>zl q (r_pick_f hb_289 q rfl rfl) fun a q=>zm q rfl fun a q=>zs q fun a q=>zs q fun a q=>zl q (r_pick q rfl rfl rfl) fun a q=>zm q rfl fun a q=>zs q fun a q=>zs q fun a q=>zs q fun a q=>zs q fun a q=>zl q (r_pick q rfl rfl rfl) fun a q=>zm q rfl fun a q=>zs q fun a q=>zs q fun a q=>zl q (r_pick q rfl rfl rfl) fun a q=>zm q rfl fun a q=>zs q fun a q=>zs q fun a q=>zs q fun a q=>zl q (r_pick q rfl rfl rfl) fun a q=>za q rfl fun a q=>zn ?_
 obtain rfl:=Option.some.inj H
 refine wp_ret ?_
 repeat first | refine zt ?_ | refine zb ?_ | refine zo ?_
 exact ret_1 results7 q (rv_tmp q rfl) ⟨rfl,s.bel⟩
 rw [ifb_f hb_269] at H
 refine zsw q (wtf hb_269) fun a q=>zsw q (wtf hb_269) fun a q=>zsw q (wtf hb_269) fun a q=>zsw q (wtf hb_269) fun a q=>zsw q (wtf hb_269) fun a q=>zsw q (wtf hb_269) fun a q=>zsw q (wtf hb_269) fun a q=>zsw q (wtf hb_269) fun a q=>zl q (r_pick_f hb_269 q rfl rfl) fun a q=>zm q rfl fun a q=>zs q fun a q=>zs q fun a q=>zs q fun a q=>zs q fun a q=>zs q fun a q=>zs q fun a q=>zs q fun a q=>zs q fun a q=>zl q (r_pick q rfl rfl rfl) fun a q=>zm q rfl fun a q=>zs q fun a q=>zs q fun a q=>zl q (r_pick q rfl rfl rfl) fun a q=>zm q rfl fun a q=>zs q fun a q=>zs q fun a q=>zs q fun a q=>zs q fun a q=>zl q (r_pick q rfl rfl rfl) fun a q=>zm q rfl fun a q=>zs q fun a q=>zs q fun a q=>zl q (r_pick q rfl rfl rfl) fun a q=>zm q rfl fun a q=>?_
 refine zs q fun a q=>zs q fun a q=>zs q fun a q=>zl q (r_pick q rfl rfl rfl) fun a q=>za q rfl fun a q=>zn ?_
 obtain rfl:=Option.some.inj H
 refine wp_ret ?_
 repeat first | refine zt ?_ | refine zb ?_ | refine zo ?_
 exact ret_1 results7 q (rv_tmp q rfl) ⟨rfl,s.bel⟩
 rw [ifb_f hb_268] at H
 refine zsw q (wtf hb_268) fun a q=>zsw q (wtf hb_268) fun a q=>zsw q (wtf hb_268) fun a q=>zsw q (wtf hb_268) fun a q=>zl q (r_pick_f hb_268 q rfl rfl) fun a q=>zm q rfl fun a q=>zs q fun a q=>zs q fun a q=>zs q fun a q=>zs q fun a q=>zs q fun a q=>zs q fun a q=>zs q fun a q=>zs q fun a q=>zl q (r_pick q rfl rfl rfl) fun a q=>zm q rfl fun a q=>zs q fun a q=>zs q fun a q=>zs q fun a q=>zs q fun a q=>zs q fun a q=>zs q fun a q=>zs q fun a q=>zs q fun a q=>zl q (r_pick q rfl rfl rfl) fun a q=>zm q rfl fun a q=>zs q fun a q=>zs q fun a q=>zl q (r_pick q rfl rfl rfl) fun a q=>zm q rfl fun a q=>zs q fun a q=>zs q fun a q=>zs q fun a q=>zs q fun a q=>zl q (r_pick q rfl rfl rfl) fun a q=>zm q rfl fun a q=>zs q fun a q=>?_
 refine zs q fun a q=>zl q (r_pick q rfl rfl rfl) fun a q=>zm q rfl fun a q=>zs q fun a q=>zs q fun a q=>zs q fun a q=>zl q (r_pick q rfl rfl rfl) fun a q=>za q rfl fun a q=>zn ?_
 obtain rfl:=Option.some.inj H
 refine wp_ret ?_
 repeat first | refine zt ?_ | refine zb ?_ | refine zo ?_
 exact ret_1 results7 q (rv_tmp q rfl) ⟨rfl,s.bel⟩
 rw [ifb_f hb_267] at H
 refine zsw q (wtf hb_267) fun a q=>zsw q (wtf hb_267) fun a q=>zl q (r_pick_f hb_267 q rfl rfl) fun a q=>zm q rfl fun a q=>zs q fun a q=>zs q fun a q=>zs q fun a q=>zs q fun a q=>zl q (r_pick q rfl rfl rfl) fun a q=>zm q rfl fun a q=>zs q fun a q=>zs q fun a q=>zs q fun a q=>zs q fun a q=>zs q fun a q=>zs q fun a q=>zs q fun a q=>zs q fun a q=>zl q (r_pick q rfl rfl rfl) fun a q=>zm q rfl fun a q=>zs q fun a q=>zs q fun a q=>zs q fun a q=>zs q fun a q=>zs q fun a q=>zs q fun a q=>zs q fun a q=>zs q fun a q=>zl q (r_pick q rfl rfl rfl) fun a q=>zm q rfl fun a q=>zs q fun a q=>zs q fun a q=>zl q (r_pick q rfl rfl rfl) fun a q=>zm q rfl fun a q=>zs q fun a q=>zs q fun a q=>zs q fun a q=>zs q fun a q=>?_
 refine zl q (r_pick q rfl rfl rfl) fun a q=>zm q rfl fun a q=>zs q fun a q=>zs q fun a q=>zl q (r_pick q rfl rfl rfl) fun a q=>zm q rfl fun a q=>zs q fun a q=>zs q fun a q=>zs q fun a q=>zl q (r_pick q rfl rfl rfl) fun a q=>za q rfl fun a q=>zn ?_
 obtain rfl:=Option.some.inj H
 refine wp_ret ?_
 repeat first | refine zt ?_ | refine zb ?_ | refine zo ?_
 exact ret_1 results7 q (rv_tmp q rfl) ⟨rfl,s.bel⟩
 rw [ifb_f hb_266] at H
 refine zsw q (wtf hb_266) fun a q=>zsw q (wtf hb_266) fun a q=>zl q (r_pick_f hb_266 q rfl rfl) fun a q=>zm q rfl fun a q=>zs q fun a q=>zs q fun a q=>zl q (r_pick q rfl rfl rfl) fun a q=>zm q rfl fun a q=>zs q fun a q=>zs q fun a q=>zs q fun a q=>zs q fun a q=>zl q (r_pick q rfl rfl rfl) fun a q=>zm q rfl fun a q=>zs q fun a q=>zs q fun a q=>zs q fun a q=>zs q fun a q=>zs q fun a q=>zs q fun a q=>zs q fun a q=>zs q fun a q=>zl q (r_pick q rfl rfl rfl) fun a q=>zm q rfl fun a q=>zs q fun a q=>zs q fun a q=>zs q fun a q=>zs q fun a q=>zs q fun a q=>zs q fun a q=>zs q fun a q=>zs q fun a q=>zl q (r_pick q rfl rfl rfl) fun a q=>zm q rfl fun a q=>zs q fun a q=>zs q fun a q=>zl q (r_pick q rfl rfl rfl) fun a q=>?_
 refine zm q rfl fun a q=>zs q fun a q=>zs q fun a q=>zs q fun a q=>zs q fun a q=>zl q (r_pick q rfl rfl rfl) fun a q=>zm q rfl fun a q=>zs q fun a q=>zs q fun a q=>zl q (r_pick q rfl rfl rfl) fun a q=>zm q rfl fun a q=>zs q fun a q=>zs q fun a q=>zs q fun a q=>zl q (r_pick q rfl rfl rfl) fun a q=>za q rfl fun a q=>zn ?_
 obtain rfl:=Option.some.inj H
 refine wp_ret ?_
 repeat first | refine zt ?_ | refine zb ?_ | refine zo ?_
 exact ret_1 results7 q (rv_tmp q rfl) ⟨rfl,s.bel⟩
 rw [ifb_f hb_265] at H
 refine zsw q (wtf hb_265) fun a q=>zsw q (wtf hb_265) fun a q=>zl q (r_pick_f hb_265 q rfl rfl) fun a q=>zm q rfl fun a q=>zs q fun a q=>zs q fun a q=>zl q (r_pick q rfl rfl rfl) fun a q=>zm q rfl fun a q=>zs q fun a q=>zs q fun a q=>zl q (r_pick q rfl rfl rfl) fun a q=>zm q rfl fun a q=>zs q fun a q=>zs q fun a q=>zs q fun a q=>zs q fun a q=>zl q (r_pick q rfl rfl rfl) fun a q=>zm q rfl fun a q=>zs q fun a q=>zs q fun a q=>zs q fun a q=>zs q fun a q=>zs q fun a q=>zs q fun a q=>zs q fun a q=>zs q fun a q=>zl q (r_pick q rfl rfl rfl) fun a q=>zm q rfl fun a q=>zs q fun a q=>zs q fun a q=>zs q fun a q=>zs q fun a q=>zs q fun a q=>zs q fun a q=>zs q fun a q=>zs q fun a q=>zl q (r_pick q rfl rfl rfl) fun a q=>?_
 refine zm q rfl fun a q=>zs q fun a q=>zs q fun a q=>zl q (r_pick q rfl rfl rfl) fun a q=>zm q rfl fun a q=>zs q fun a q=>zs q fun a q=>zs q fun a q=>zs q fun a q=>zl q (r_pick q rfl rfl rfl) fun a q=>zm q rfl fun a q=>zs q fun a q=>zs q fun a q=>zl q (r_pick q rfl rfl rfl) fun a q=>zm q rfl fun a q=>zs q fun a q=>zs q fun a q=>zs q fun a q=>zl q (r_pick q rfl rfl rfl) fun a q=>za q rfl fun a q=>zn ?_
 obtain rfl:=Option.some.inj H
 refine wp_ret ?_
 repeat first | refine zt ?_ | refine zb ?_ | refine zo ?_
 exact ret_1 results7 q (rv_tmp q rfl) ⟨rfl,s.bel⟩
 rw [ifb_f hb_264] at H
 refine zsw q (wtf hb_264) fun a q=>zsw q (wtf hb_264) fun a q=>zl q (r_pick_f hb_264 q rfl rfl) fun a q=>zm q rfl fun a q=>zs q fun a q=>zs q fun a q=>zl q (r_pick q rfl rfl rfl) fun a q=>zm q rfl fun a q=>zs q fun a q=>zs q fun a q=>zl q (r_pick q rfl rfl rfl) fun a q=>zm q rfl fun a q=>zs q fun a q=>zs q fun a q=>zl q (r_pick q rfl rfl rfl) fun a q=>zm q rfl fun a q=>zs q fun a q=>zs q fun a q=>zs q fun a q=>zs q fun a q=>zl q (r_pick q rfl rfl rfl) fun a q=>zm q rfl fun a q=>zs q fun a q=>zs q fun a q=>zs q fun a q=>zs q fun a q=>zs q fun a q=>zs q fun a q=>zs q fun a q=>zs q fun a q=>zl q (r_pick q rfl rfl rfl) fun a q=>zm q rfl fun a q=>zs q fun a q=>zs q fun a q=>zs q fun a q=>zs q fun a q=>zs q fun a q=>?_
 refine zs q fun a q=>zs q fun a q=>zs q fun a q=>zl q (r_pick q rfl rfl rfl) fun a q=>zm q rfl fun a q=>zs q fun a q=>zs q fun a q=>zl q (r_pick q rfl rfl rfl) fun a q=>zm q rfl fun a q=>zs q fun a q=>zs q fun a q=>zs q fun a q=>zs q fun a q=>zl q (r_pick q rfl rfl rfl) fun a q=>zm q rfl fun a q=>zs q fun a q=>zs q fun a q=>zl q (r_pick q rfl rfl rfl) fun a q=>zm q rfl fun a q=>zs q fun a q=>zs q fun a q=>zs q fun a q=>zl q (r_pick q rfl rfl rfl) fun a q=>za q rfl fun a q=>zn ?_
 obtain rfl:=Option.some.inj H
 refine wp_ret ?_
 repeat first | refine zt ?_ | refine zb ?_ | refine zo ?_
 exact ret_1 results7 q (rv_tmp q rfl) ⟨rfl,s.bel⟩
 rw [ifb_f hb_263] at H
 refine zsw q (wtf hb_263) fun a q=>zl q (r_pick_f hb_263 q rfl rfl) fun a q=>zm q rfl fun a q=>zs q fun a q=>zs q fun a q=>zl q (r_pick q rfl rfl rfl) fun a q=>zm q rfl fun a q=>zs q fun a q=>zs q fun a q=>zl q (r_pick q rfl rfl rfl) fun a q=>zm q rfl fun a q=>zs q fun a q=>zs q fun a q=>zl q (r_pick q rfl rfl rfl) fun a q=>zm q rfl fun a q=>zs q fun a q=>zs q fun a q=>zl q (r_pick q rfl rfl rfl) fun a q=>zm q rfl fun a q=>zs q fun a q=>zs q fun a q=>zs q fun a q=>zs q fun a q=>zl q (r_pick q rfl rfl rfl) fun a q=>zm q rfl fun a q=>zs q fun a q=>zs q fun a q=>zs q fun a q=>zs q fun a q=>zs q fun a q=>zs q fun a q=>zs q fun a q=>zs q fun a q=>zl q (r_pick q rfl rfl rfl) fun a q=>zm q rfl fun a q=>zs q fun a q=>zs q fun a q=>?_
 refine zs q fun a q=>zs q fun a q=>zs q fun a q=>zs q fun a q=>zs q fun a q=>zs q fun a q=>zl q (r_pick q rfl rfl rfl) fun a q=>zm q rfl fun a q=>zs q fun a q=>zs q fun a q=>zl q (r_pick q rfl rfl rfl) fun a q=>zm q rfl fun a q=>zs q fun a q=>zs q fun a q=>zs q fun a q=>zs q fun a q=>zl q (r_pick q rfl rfl rfl) fun a q=>zm q rfl fun a q=>zs q fun a q=>zs q fun a q=>zl q (r_pick q rfl rfl rfl) fun a q=>zm q rfl fun a q=>zs q fun a q=>zs q fun a q=>zs q fun a q=>zl q (r_pick q rfl rfl rfl) fun a q=>za q rfl fun a q=>zn ?_
 obtain rfl:=Option.some.inj H
 refine wp_ret ?_
 repeat first | refine zt ?_ | refine zb ?_ | refine zo ?_
 exact ret_1 results7 q (rv_tmp q rfl) ⟨rfl,s.bel⟩
 rw [ifb_f hb_262] at H
 refine zsw q (wtf hb_262) fun a q=>zsw q (wtf hb_262) fun a q=>zl q (r_pick_f hb_262 q rfl rfl) fun a q=>zm q rfl fun a q=>zs q fun a q=>zl q (r_pick q rfl rfl rfl) fun a q=>zm q rfl fun a q=>zs q fun a q=>zs q fun a q=>zl q (r_pick q rfl rfl rfl) fun a q=>zm q rfl fun a q=>zs q fun a q=>zs q fun a q=>zl q (r_pick q rfl rfl rfl) fun a q=>zm q rfl fun a q=>zs q fun a q=>zs q fun a q=>zl q (r_pick q rfl rfl rfl) fun a q=>zm q rfl fun a q=>zs q fun a q=>zs q fun a q=>zl q (r_pick q rfl rfl rfl) fun a q=>zm q rfl fun a q=>zs q fun a q=>zs q fun a q=>zs q fun a q=>zs q fun a q=>zl q (r_pick q rfl rfl rfl) fun a q=>zm q rfl fun a q=>zs q fun a q=>zs q fun a q=>zs q fun a q=>zs q fun a q=>zs q fun a q=>zs q fun a q=>zs q fun a q=>?_
 refine zs q fun a q=>zl q (r_pick q rfl rfl rfl) fun a q=>zm q rfl fun a q=>zs q fun a q=>zs q fun a q=>zs q fun a q=>zs q fun a q=>zs q fun a q=>zs q fun a q=>zs q fun a q=>zs q fun a q=>zl q (r_pick q rfl rfl rfl) fun a q=>zm q rfl fun a q=>zs q fun a q=>zs q fun a q=>zl q (r_pick q rfl rfl rfl) fun a q=>zm q rfl fun a q=>zs q fun a q=>zs q fun a q=>zs q fun a q=>zs q fun a q=>zl q (r_pick q rfl rfl rfl) fun a q=>zm q rfl fun a q=>zs q fun a q=>zs q fun a q=>zl q (r_pick q rfl rfl rfl) fun a q=>zm q rfl fun a q=>zs q fun a q=>zs q fun a q=>zs q fun a q=>zl q (r_pick q rfl rfl rfl) fun a q=>za q rfl fun a q=>zn ?_
 obtain rfl:=Option.some.inj H
 refine wp_ret ?_
 repeat first | refine zt ?_ | refine zb ?_ | refine zo ?_
 exact ret_1 results7 q (rv_tmp q rfl) ⟨rfl,s.bel⟩
 rw [ifb_f hb_261] at H
 refine zsw q (wtf hb_261) fun a q=>zsw q (wtf hb_261) fun a q=>zl q (r_pick_f hb_261 q rfl rfl) fun a q=>zm q rfl fun a q=>zs q fun a q=>zs q fun a q=>zl q (r_pick q rfl rfl rfl) fun a q=>zm q rfl fun a q=>zs q fun a q=>zl q (r_pick q rfl rfl rfl) fun a q=>zm q rfl fun a q=>zs q fun a q=>zs q fun a q=>zl q (r_pick q rfl rfl rfl) fun a q=>zm q rfl fun a q=>zs q fun a q=>zs q fun a q=>zl q (r_pick q rfl rfl rfl) fun a q=>zm q rfl fun a q=>zs q fun a q=>zs q fun a q=>zl q (r_pick q rfl rfl rfl) fun a q=>zm q rfl fun a q=>zs q fun a q=>zs q fun a q=>zl q (r_pick q rfl rfl rfl) fun a q=>zm q rfl fun a q=>zs q fun a q=>zs q fun a q=>zs q fun a q=>zs q fun a q=>zl q (r_pick q rfl rfl rfl) fun a q=>zm q rfl fun a q=>zs q fun a q=>?_
 refine zs q fun a q=>zs q fun a q=>zs q fun a q=>zs q fun a q=>zs q fun a q=>zs q fun a q=>zs q fun a q=>zl q (r_pick q rfl rfl rfl) fun a q=>zm q rfl fun a q=>zs q fun a q=>zs q fun a q=>zs q fun a q=>zs q fun a q=>zs q fun a q=>zs q fun a q=>zs q fun a q=>zs q fun a q=>zl q (r_pick q rfl rfl rfl) fun a q=>zm q rfl fun a q=>zs q fun a q=>zs q fun a q=>zl q (r_pick q rfl rfl rfl) fun a q=>zm q rfl fun a q=>zs q fun a q=>zs q fun a q=>zs q fun a q=>zs q fun a q=>zl q (r_pick q rfl rfl rfl) fun a q=>zm q rfl fun a q=>zs q fun a q=>zs q fun a q=>zl q (r_pick q rfl rfl rfl) fun a q=>zm q rfl fun a q=>zs q fun a q=>zs q fun a q=>zs q fun a q=>zl q (r_pick q rfl rfl rfl) fun a q=>za q rfl fun a q=>zn ?_
 obtain rfl:=Option.some.inj H
 refine wp_ret ?_
 repeat first | refine zt ?_ | refine zb ?_ | refine zo ?_
 exact ret_1 results7 q (rv_tmp q rfl) ⟨rfl,s.bel⟩
 rw [ifb_f hb_260] at H
 refine zsw q (wtf hb_260) fun a q=>zsw q (wtf hb_260) fun a q=>zl q (r_pick_f hb_260 q rfl rfl) fun a q=>zm q rfl fun a q=>zs q fun a q=>zs q fun a q=>zl q (r_pick q rfl rfl rfl) fun a q=>zm q rfl fun a q=>zs q fun a q=>zs q fun a q=>zl q (r_pick q rfl rfl rfl) fun a q=>zm q rfl fun a q=>zs q fun a q=>zl q (r_pick q rfl rfl rfl) fun a q=>zm q rfl fun a q=>zs q fun a q=>zs q fun a q=>zl q (r_pick q rfl rfl rfl) fun a q=>zm q rfl fun a q=>zs q fun a q=>zs q fun a q=>zl q (r_pick q rfl rfl rfl) fun a q=>zm q rfl fun a q=>zs q fun a q=>zs q fun a q=>zl q (r_pick q rfl rfl rfl) fun a q=>zm q rfl fun a q=>zs q fun a q=>zs q fun a q=>zl q (r_pick q rfl rfl rfl) fun a q=>zm q rfl fun a q=>zs q fun a q=>zs q fun a q=>zs q fun a q=>?_
 refine zs q fun a q=>zl q (r_pick q rfl rfl rfl) fun a q=>zm q rfl fun a q=>zs q fun a q=>zs q fun a q=>zs q fun a q=>zs q fun a q=>zs q fun a q=>zs q fun a q=>zs q fun a q=>zs q fun a q=>zl q (r_pick q rfl rfl rfl) fun a q=>zm q rfl fun a q=>zs q fun a q=>zs q fun a q=>zs q fun a q=>zs q fun a q=>zs q fun a q=>zs q fun a q=>zs q fun a q=>zs q fun a q=>zl q (r_pick q rfl rfl rfl) fun a q=>zm q rfl fun a q=>zs q fun a q=>zs q fun a q=>zl q (r_pick q rfl rfl rfl) fun a q=>zm q rfl fun a q=>zs q fun a q=>zs q fun a q=>zs q fun a q=>zs q fun a q=>zl q (r_pick q rfl rfl rfl) fun a q=>zm q rfl fun a q=>zs q fun a q=>zs q fun a q=>zl q (r_pick q rfl rfl rfl) fun a q=>zm q rfl fun a q=>zs q fun a q=>zs q fun a q=>?_
 refine zs q fun a q=>zl q (r_pick q rfl rfl rfl) fun a q=>za q rfl fun a q=>zn ?_
 obtain rfl:=Option.some.inj H
 refine wp_ret ?_
 repeat first | refine zt ?_ | refine zb ?_ | refine zo ?_
 exact ret_1 results7 q (rv_tmp q rfl) ⟨rfl,s.bel⟩
 rw [oel_some h_72] at H
 have hv_:=hv_.symm
 subst hv_
 obtain ⟨s,hl_57⟩:=s.sp0.back hr_ hl_57
 have s:=s.un5
 have hRL:=hRL.trans hl_57
 refine zm q rfl fun a q=>zl q (r_extract q rfl rfl) fun a q=>zl q (r_extract q rfl rfl) fun a q=>za q rfl fun a q=>za q rfl fun a q=>zn<|zq<|zq ?_
 refine wp_mid (fun a w=>∃ (x_329 : Bool),law08_shown.j1 y_16 x_329 = some r ∧ Kn 154 a [(1,.pointer (some ⟨b_17,0,none⟩)),(37,.bool x_329)] ∧ St [] w0 w R_56 [.row 113 2 v_22 y_16.dict.l.length cs_23,.mp mb_25 (kvs Value.string (Value.int .i64) y_16.dict.ids),.cells b_20 [I6 y_16.dict.most,v_22,.map (some mb_25)] 102,mbo mb_26 (kvs (Value.int .i64) id (mbp E_27)) 111 90 2 E_27,.cells b_17 [v_18,I6 y_16.room,I6 y_16.points,.pointer (some ⟨b_20,0,none⟩),.map (some mb_26)] 70]) ?_ ?_
 refine zr<|zm q rfl fun a q=>zl q (r_peq underlying24 q rfl rfl) fun a q=>zm q rfl fun a q=>zm q rfl fun a q=>zl q (r_ibin q rfl rfl rfl) fun a q=>zl q (r_pick q rfl rfl rfl) fun a q=>zm q rfl fun a q=>?_
 rcases or_b (y_12.2 != 0) with hb_331 | hb_331
 rw [ifb_t hb_331] at H
 refine zsw q (wft hb_331) fun a q=>zsw q (wft hb_331) fun a q=>zl q (r_pick_t hb_331 q rfl rfl) fun a q=>zn ?_
 have s:=s.pk5
 have s:=s.pk9
 have s:=s.pk7
 have s:=s.pk9
 have s:=s.pk9
 exact ⟨true,H,q.sub (zc (zc zz)),s.trunc 5⟩
 rw [ifb_f hb_331] at H
 refine zw q (wff hb_331) (r_move q rfl) fun a q=>zw q (wff hb_331) (r_ibin q rfl rfl rfl) fun a q=>zl q (r_pick_f hb_331 q rfl rfl) fun a q=>zn ?_
 have s:=s.pk5
 have s:=s.pk9
 have s:=s.pk7
 have s:=s.pk9
 have s:=s.pk9
 exact ⟨(y_54.2 != 50),H,q.sub (zc (zc zz)),s.trunc 5⟩
 rintro a w ⟨x_329,H,q,s⟩
 unfold law08_shown.j1 at H
 refine wp_cond_split (q.ev rfl) (fun (hb_332 : x_329 = true)=>?_) fun hb_332=>?_
 rw [ifb_t hb_332] at H
 refine zq<|zr<|za q rfl fun a q=>zn ?_
 obtain rfl:=Option.some.inj H
 refine wp_ret ?_
 repeat first | refine zt ?_ | refine zb ?_ | refine zo ?_
 exact ret_1 results7 q (rv_tmp q rfl) ⟨rfl,s.bel⟩
 rw [ifb_f hb_332] at H
 refine wp_skip<|zq<|zr<|zm q rfl fun a q=>?_
 obtain ⟨y_333,h_334,H⟩:=bs H
 refine sl_call call10 q (by decide) rfl rfl rfl (law08_point.calls (⟨#[97]⟩ : ByteArray) 5 7 s.sub h_334) fun a v_ w hv_ q=>?_
 obtain ⟨R_335,v_338,cs_339,v_342,cs_343,hv_,hr_,hl_336,hq_340,hq_344⟩:=hv_
 have hv_:=hv_.symm
 subst hv_
 obtain ⟨s,hl_336⟩:=s.sp0.back hr_ hl_336
 have s:=s.un2
 have hRL:=hRL.trans hl_336
 obtain ⟨y_345,h_346,H⟩:=bs H
 have s:=s.pk5
 have s:=s.pk4
 have s:=s.pk4
 have s:=s.pk5
 have s:=s.pk6
 have hS1:=s.sp5
 refine sl_call call11 q (by decide) rfl rfl rfl (leaf_Leaf_Write.calls y_16 y_333 (lentOf_sub _ _) lentOf_not hS1.lend (hs_19.mono (hl_57.le.trans hl_336.le)) (hq_24.mono (hl_57.le.trans hl_336.le)) (hm_28.mono (hl_57.le.trans hl_336.le)) (hS1.lend_row z0 hq_340 rfl rfl) (hS1.lend_row z1 hq_344 rfl rfl) (GF.mono (hS1.raLe hRA nil_not) hG) h_346) fun a v_ w hv_ q=>?_
 obtain ⟨R_347,v_349,b_351,v_353,cs_354,mb_356,mb_357,E_358,hv_,hr_,hl_348,hs_350,hq_355,hm_359⟩:=hv_
 have hv_:=hv_.symm
 subst hv_
 obtain ⟨s,hl_348⟩:=hS1.back hr_ hl_348
 have s:=s.un5
 have hRL:=hRL.trans hl_348
 refine zm q rfl fun a q=>zl q (r_extract q rfl rfl) fun a q=>zl q (r_extract q rfl rfl) fun a q=>za q rfl fun a q=>za q rfl fun a q=>zn<|zq<|zr<|zm q rfl fun a q=>?_
 obtain ⟨y_360,h_361,H⟩:=bs H
 refine sl_call call10 q (by decide) rfl rfl rfl (law08_point.calls (⟨#[97]⟩ : ByteArray) 5 8 s.sub h_361) fun a v_ w hv_ q=>?_
 obtain ⟨R_362,v_365,cs_366,v_369,cs_370,hv_,hr_,hl_363,hq_367,hq_371⟩:=hv_
 have hv_:=hv_.symm
 subst hv_
 obtain ⟨s,hl_363⟩:=s.sp0.back hr_ hl_363
 have s:=s.un2
 have hRL:=hRL.trans hl_363
 obtain ⟨y_372,h_373,H⟩:=bs H
 have s:=s.pk6
 have s:=s.pk6
 have s:=s.pk6
 have s:=s.pk6
 have s:=s.pk6
 have hS1:=s.sp5
 refine sl_call call11 q (by decide) rfl rfl rfl (leaf_Leaf_Write.calls y_345.2.2 y_360 (lentOf_sub _ _) lentOf_not hS1.lend (hs_350.mono hl_363.le) (hq_355.mono hl_363.le) (hm_359.mono hl_363.le) (hS1.lend_row z0 hq_367 rfl rfl) (hS1.lend_row z1 hq_371 rfl rfl) (GF.mono (hS1.raLe hRA nil_not) hG) h_373) fun a v_ w hv_ q=>?_
 obtain ⟨R_374,v_376,b_378,v_380,cs_381,mb_383,mb_384,E_385,hv_,hr_,hl_375,hs_377,hq_382,hm_386⟩:=hv_
 have hv_:=hv_.symm
 subst hv_
 obtain ⟨s,hl_375⟩:=hS1.back hr_ hl_375
 have s:=s.un5
 have hRL:=hRL.trans hl_375
 refine zm q rfl fun a q=>zl q (r_extract q rfl rfl) fun a q=>zl q (r_extract q rfl rfl) fun a q=>za q rfl fun a q=>za q rfl fun a q=>zn<|zq<|zr<|zm q rfl fun a q=>?_
 obtain ⟨y_387,h_388,H⟩:=bs H
 refine sl_call call10 q (by decide) rfl rfl rfl (law08_point.calls (⟨#[98]⟩ : ByteArray) 3 1 s.sub h_388) fun a v_ w hv_ q=>?_
 obtain ⟨R_389,v_392,cs_393,v_396,cs_397,hv_,hr_,hl_390,hq_394,hq_398⟩:=hv_
 have hv_:=hv_.symm
 subst hv_
 obtain ⟨s,hl_390⟩:=s.sp0.back hr_ hl_390
 have s:=s.un2
 have hRL:=hRL.trans hl_390
 obtain ⟨y_399,h_400,H⟩:=bs H
 have s:=s.pk6
 have s:=s.pk6
 have s:=s.pk6
 have s:=s.pk6
 have s:=s.pk6
 have hS1:=s.sp5
 refine sl_call call11 q (by decide) rfl rfl rfl (leaf_Leaf_Write.calls y_372.2.2 y_387 (lentOf_sub _ _) lentOf_not hS1.lend (hs_377.mono hl_390.le) (hq_382.mono hl_390.le) (hm_386.mono hl_390.le) (hS1.lend_row z0 hq_394 rfl rfl) (hS1.lend_row z1 hq_398 rfl rfl) (GF.mono (hS1.raLe hRA nil_not) hG) h_400) fun a v_ w hv_ q=>?_
 obtain ⟨R_401,v_403,b_405,v_407,cs_408,mb_410,mb_411,E_412,hv_,hr_,hl_402,hs_404,hq_409,hm_413⟩:=hv_
 have hv_:=hv_.symm
 subst hv_
 obtain ⟨s,hl_402⟩:=hS1.back hr_ hl_402
 have s:=s.un5
 have hRL:=hRL.trans hl_402
 refine zm q rfl fun a q=>zl q (r_extract q rfl rfl) fun a q=>zl q (r_extract q rfl rfl) fun a q=>za q rfl fun a q=>za q rfl fun a q=>zn<|zq<|zr<|zm q rfl fun a q=>?_
 obtain ⟨y_414,h_415,H⟩:=bs H
 refine sl_call call10 q (by decide) rfl rfl rfl (law08_point.calls (⟨#[99]⟩ : ByteArray) 1 1 s.sub h_415) fun a v_ w hv_ q=>?_
 obtain ⟨R_416,v_419,cs_420,v_423,cs_424,hv_,hr_,hl_417,hq_421,hq_425⟩:=hv_
 have hv_:=hv_.symm
 subst hv_
 obtain ⟨s,hl_417⟩:=s.sp0.back hr_ hl_417
 have s:=s.un2
 have hRL:=hRL.trans hl_417
 obtain ⟨y_426,h_427,H⟩:=bs H
 have s:=s.pk6
 have s:=s.pk6
 have s:=s.pk6
 have s:=s.pk6
 have s:=s.pk6
 have hS1:=s.sp5
 refine sl_call call11 q (by decide) rfl rfl rfl (leaf_Leaf_Write.calls y_399.2.2 y_414 (lentOf_sub _ _) lentOf_not hS1.lend (hs_404.mono hl_417.le) (hq_409.mono hl_417.le) (hm_413.mono hl_417.le) (hS1.lend_row z0 hq_421 rfl rfl) (hS1.lend_row z1 hq_425 rfl rfl) (GF.mono (hS1.raLe hRA nil_not) hG) h_427) fun a v_ w hv_ q=>?_
 obtain ⟨R_428,v_430,b_432,v_434,cs_435,mb_437,mb_438,E_439,hv_,hr_,hl_429,hs_431,hq_436,hm_440⟩:=hv_
 have hv_:=hv_.symm
 subst hv_
 obtain ⟨s,hl_429⟩:=hS1.back hr_ hl_429
 have s:=s.un5
 have hRL:=hRL.trans hl_429
 refine zm q rfl fun a q=>zl q (r_extract q rfl rfl) fun a q=>zl q (r_extract q rfl rfl) fun a q=>za q rfl fun a q=>za q rfl fun a q=>zn<|zq<|zr<|zm q rfl fun a q=>?_
 obtain ⟨y_441,h_442,H⟩:=bs H
 have s:=s.pk4
 have s:=s.pk4
 have s:=s.pk4
 have s:=s.pk4
 have s:=s.pk4
 have hS1:=s.sp5
 refine sl_call call12 q (by decide) rfl rfl rfl (leaf_Leaf_Scan.calls y_426.2.2 (⟨#[108,111,97,100]⟩ : ByteArray) 0 9 hS1.lend hs_431 hq_436 hm_440 h_442) fun a v_ w hv_ q=>?_
 obtain ⟨R_443,v_446,cs_447,v_450,cs_451,v_453,b_455,v_457,cs_458,mb_460,mb_461,E_462,hv_,hr_,hl_444,hq_448,hq_452,hs_454,hq_459,hm_463⟩:=hv_
 have hv_:=hv_.symm
 subst hv_
 obtain ⟨s,hl_444⟩:=hS1.back hr_ hl_444
 have s:=s.un7
 have hRL:=hRL.trans hl_444
 refine zm q rfl fun a q=>zl q (r_extract q rfl rfl) fun a q=>zl q (r_extract q rfl rfl) fun a q=>?_
 refine sl_alloc zeroValue41 s q (by decide) rfl rfl fun a w b_464 s q=>?_
 refine sl_storeA (vs:=[v_446,v_450]) (c':=[v_446,v_450]) sizeOf41 s q rfl rfl rfl rfl (all_cons (s.row_one z1) (all_cons (s.row_one z2) zz)) (Nat.le_of_ble_eq_true rfl) rfl fun a w s q=>?_
 refine za q rfl fun a q=>zn<|zq<|zr<|zm q rfl fun a q=>?_
 obtain ⟨y_465,h_466,H⟩:=bs H
 have s:=s.pk7
 have s:=s.pk7
 have s:=s.pk7
 have s:=s.pk7
 have s:=s.pk7
 have hS1:=s.sp5
 refine sl_call call12 q (by decide) rfl rfl rfl (leaf_Leaf_Scan.calls y_441.2.2 (⟨#[108,111,97,100]⟩ : ByteArray) 4 9 hS1.lend hs_454 hq_459 hm_463 h_466) fun a v_ w hv_ q=>?_
 obtain ⟨R_467,v_470,cs_471,v_474,cs_475,v_477,b_479,v_481,cs_482,mb_484,mb_485,E_486,hv_,hr_,hl_468,hq_472,hq_476,hs_478,hq_483,hm_487⟩:=hv_
 have hv_:=hv_.symm
 subst hv_
 obtain ⟨s,hl_468⟩:=hS1.back hr_ hl_468
 have s:=s.un7
 have hRL:=hRL.trans hl_468
 refine zm q rfl fun a q=>zl q (r_extract q rfl rfl) fun a q=>zl q (r_extract q rfl rfl) fun a q=>?_
 refine sl_alloc zeroValue41 s q (by decide) rfl rfl fun a w b_488 s q=>?_
 refine sl_storeA (vs:=[v_470,v_474]) (c':=[v_470,v_474]) sizeOf41 s q rfl rfl rfl rfl (all_cons (s.row_one z1) (all_cons (s.row_one z2) zz)) (Nat.le_of_ble_eq_true rfl) rfl fun a w s q=>?_
 refine za q rfl fun a q=>zn<|zq<|zr<|zm q rfl fun a q=>?_
 obtain ⟨y_489,h_490,H⟩:=bs H
 have s:=s.pk7
 have s:=s.pk7
 have s:=s.pk7
 have s:=s.pk7
 have s:=s.pk7
 have hS1:=s.sp5
 refine sl_call call12 q (by decide) rfl rfl rfl (leaf_Leaf_Scan.calls y_465.2.2 (⟨#[120]⟩ : ByteArray) 0 9 hS1.lend hs_478 hq_483 hm_487 h_490) fun a v_ w hv_ q=>?_
 obtain ⟨R_491,v_494,cs_495,v_498,cs_499,v_501,b_503,v_505,cs_506,mb_508,mb_509,E_510,hv_,hr_,hl_492,hq_496,hq_500,hs_502,hq_507,hm_511⟩:=hv_
 have hv_:=hv_.symm
 subst hv_
 obtain ⟨s,hl_492⟩:=hS1.back hr_ hl_492
 have s:=s.un7
 have hRL:=hRL.trans hl_492
 refine zm q rfl fun a q=>zl q (r_extract q rfl rfl) fun a q=>zl q (r_extract q rfl rfl) fun a q=>?_
 refine sl_alloc zeroValue41 s q (by decide) rfl rfl fun a w b_512 s q=>?_
 refine sl_storeA (vs:=[v_494,v_498]) (c':=[v_494,v_498]) sizeOf41 s q rfl rfl rfl rfl (all_cons (s.row_one z1) (all_cons (s.row_one z2) zz)) (Nat.le_of_ble_eq_true rfl) rfl fun a w s q=>?_
 refine za q rfl fun a q=>zn<|zq<|zr<|zm q rfl fun a q=>zm q rfl fun a q=>?_
 rcases or_b y_345.1 with hb_513 | hb_513
 rw [ifb_t hb_513] at H
 refine zw q (wtt hb_513) (r_move q rfl) fun a q=>zw q (wtt hb_513) (r_ibin q rfl rfl rfl) fun a q=>zl q (r_pick_t hb_513 q rfl rfl) fun a q=>zm q rfl fun a q=>?_
 rcases or_b (y_345.2.1 == 0) with hb_514 | hb_514
 rw [ifb_t hb_514] at H
 refine zw q (wtt hb_514) (r_move q rfl) fun a q=>zw q (wtt hb_514) (r_un q rfl (u_not _)) fun a q=>zl q (r_pick_t hb_514 q rfl rfl) fun a q=>zm q rfl fun a q=>?_
 rcases or_b (!y_372.1) with hb_515 | hb_515
 rw [ifb_t hb_515] at H
 refine zw q (wtt hb_515) (r_move q rfl) fun a q=>zw q (wtt hb_515) (r_ibin q rfl rfl rfl) fun a q=>zl q (r_pick_t hb_515 q rfl rfl) fun a q=>zm q rfl fun a q=>?_
 rcases or_b (y_372.2.1 == 0) with hb_516 | hb_516
 rw [ifb_t hb_516] at H
 refine zw q (wtt hb_516) (r_move q rfl) fun a q=>zl q (r_pick_t hb_516 q rfl rfl) fun a q=>zm q rfl fun a q=>?_
 rcases or_b y_399.1 with hb_517 | hb_517
 rw [ifb_t hb_517] at H
 refine zw q (wtt hb_517) (r_move q rfl) fun a q=>zw q (wtt hb_517) (r_ibin q rfl rfl rfl) fun a q=>zl q (r_pick_t hb_517 q rfl rfl) fun a q=>zm q rfl fun a q=>?_
 rcases or_b (y_399.2.1 == 0) with hb_518 | hb_518
 rw [ifb_t hb_518] at H
 refine zw q (wtt hb_518) (r_move q rfl) fun a q=>zw q (wtt hb_518) (r_un q rfl (u_not _)) fun a q=>zl q (r_pick_t hb_518 q rfl rfl) fun a q=>zm q rfl fun a q=>?_
 rcases or_b (!y_426.1) with hb_519 | hb_519
 rw [ifb_t hb_519] at H
 refine zw q (wtt hb_519) (r_move q rfl) fun a q=>zw q (wtt hb_519) (r_ibin q rfl rfl rfl) fun a q=>zl q (r_pick_t hb_519 q rfl rfl) fun a q=>zm q rfl fun a q=>?_
 rcases or_b (y_426.2.1 == 80) with hb_520 | hb_520
 rw [ifb_t hb_520] at H
 refine zw q (wtt hb_520) (r_move q rfl) fun a q=>zw q (wtt hb_520) (r_ibin q rfl rfl rfl) fun a q=>zl q (r_pick_t hb_520 q rfl rfl) fun a q=>zm q rfl fun a q=>?_
 rcases or_b (y_441.2.1 == 0) with hb_521 | hb_521
 rw [ifb_t hb_521] at H
 refine zw q (wtt hb_521) (r_fieldAddr underlying41 rfl sizeOf39 q rfl) fun a q=>zw q (wtt hb_521) (r_load isAgg39 q rfl (s.cell (.tail _ (.tail _ (.tail _ z8))) rfl)) fun a q=>zw q (wtt hb_521) (r_len_O underlying39 s (.tail _ (.tail _ (.tail _ (.tail _ (.tail _ z8))))) q rfl) fun a q=>zw q (wtt hb_521) (r_ibin q rfl rfl rfl) fun a q=>zl q (r_pick_t hb_521 q rfl rfl) fun a q=>zm q rfl fun a q=>?_
 rcases or_b ((y_441.1.Rows.length : Int) == 2) with hb_522 | hb_522
 rw [ifb_t hb_522] at H
 refine zw q (wtt hb_522) (r_fieldAddr underlying41 rfl sizeOf39 q rfl) fun a q=>zw q (wtt hb_522) (r_load isAgg39 q rfl (s.cell (.tail _ (.tail _ (.tail _ z8))) rfl)) fun a q=>?_
 obtain ⟨y_523,h_524,H⟩:=bs H
 obtain ⟨b_526,c_527,cs_528,hv_525,hr_529,hc_530,h_5240,h_5241⟩:=s.row_ix (.tail _ (.tail _ (.tail _ (.tail _ (.tail _ z8))))) (hq_452.mono (hl_468.le.trans hl_492.le)) rfl rfl h_524
 obtain ⟨v_531,rfl,hs_532⟩:=hr_529
 refine zw q (wtt hb_522) (r_indexAddr_R underlying39 sizeOf31 hv_525 h_5240 h_5241 q rfl rfl) fun a q=>zw q (wtt hb_522) (r_load isAgg31 q rfl (s.row_cell (.tail _ (.tail _ (.tail _ (.tail _ (.tail _ z8))))) hv_525 (hc_530 0 _ rfl))) fun a q=>?_
 obtain ⟨y_533,h_534,H⟩:=bs H
 obtain ⟨b_535,o_536,c_537,cs_538,hv_539,hr_540,hc_541,h_5340,h_5341⟩:=hs_532.ix h_534
 subst hr_540
 refine zw q (wtt hb_522) (r_indexAddr_R underlying31 sizeOf58 hv_539 h_5340 h_5341 q rfl rfl) fun a q=>zw q (wtt hb_522) (r_fieldAddr underlying58 rfl sizeOf3 q rfl) fun a q=>zw q (wtt hb_522) (r_load isAgg3 q rfl (s.sub.cell (hc_541 1 _ rfl))) fun a q=>zw q (wtt hb_522) (r_ibin q rfl rfl rfl) fun a q=>zl q (r_pick_t hb_522 q rfl rfl) fun a q=>zm q rfl fun a q=>?_
 rcases or_b (y_533.N == 3) with hb_542 | hb_542
 rw [ifb_t hb_542] at H
 refine zw q (wtt hb_542) (r_fieldAddr underlying41 rfl sizeOf39 q rfl) fun a q=>zw q (wtt hb_542) (r_load isAgg39 q rfl (s.cell (.tail _ (.tail _ (.tail _ z8))) rfl)) fun a q=>?_
 obtain ⟨y_543,h_544,H⟩:=bs H
 obtain ⟨b_546,c_547,cs_548,hv_545,hr_549,hc_550,h_5440,h_5441⟩:=s.row_ix (.tail _ (.tail _ (.tail _ (.tail _ (.tail _ z8))))) (hq_452.mono (hl_468.le.trans hl_492.le)) rfl rfl h_544
 obtain ⟨v_551,rfl,hs_552⟩:=hr_549
 refine zw q (wtt hb_542) (r_indexAddr_R underlying39 sizeOf31 hv_545 h_5440 h_5441 q rfl rfl) fun a q=>zw q (wtt hb_542) (r_load isAgg31 q rfl (s.row_cell (.tail _ (.tail _ (.tail _ (.tail _ (.tail _ z8))))) hv_545 (hc_550 0 _ rfl))) fun a q=>?_
 obtain ⟨y_553,h_554,H⟩:=bs H
 obtain ⟨b_555,o_556,c_557,cs_558,hv_559,hr_560,hc_561,h_5540,h_5541⟩:=hs_552.ix h_554
 subst hr_560
 refine zw q (wtt hb_542) (r_indexAddr_R underlying31 sizeOf58 hv_559 h_5540 h_5541 q rfl rfl) fun a q=>zw q (wtt hb_542) (r_fieldAddr underlying58 rfl sizeOf3 q rfl) fun a q=>zw q (wtt hb_542) (r_load isAgg3 q rfl (s.sub.cell (hc_561 1 _ rfl))) fun a q=>zw q (wtt hb_542) (r_ibin q rfl rfl rfl) fun a q=>zl q (r_pick_t hb_542 q rfl rfl) fun a q=>zm q rfl fun a q=>?_
 rcases or_b (y_553.N == 7) with hb_562 | hb_562
 rw [ifb_t hb_562] at H
 refine zw q (wtt hb_562) (r_move q rfl) fun a q=>zw q (wtt hb_562) (r_ibin q rfl rfl rfl) fun a q=>zl q (r_pick_t hb_562 q rfl rfl) fun a q=>zm q rfl fun a q=>?_
 rcases or_b (y_465.2.1 == 0) with hb_563 | hb_563
 rw [ifb_t hb_563] at H
 refine zw q (wtt hb_563) (r_fieldAddr underlying41 rfl sizeOf39 q rfl) fun a q=>zw q (wtt hb_563) (r_load isAgg39 q rfl (s.cell z8 rfl)) fun a q=>zw q (wtt hb_563) (r_len_O underlying39 s (.tail _ (.tail _ z8)) q rfl) fun a q=>zw q (wtt hb_563) (r_ibin q rfl rfl rfl) fun a q=>zl q (r_pick_t hb_563 q rfl rfl) fun a q=>zm q rfl fun a q=>?_
 rcases or_b ((y_465.1.Rows.length : Int) == 1) with hb_564 | hb_564
 rw [ifb_t hb_564] at H
 refine zw q (wtt hb_564) (r_move q rfl) fun a q=>zw q (wtt hb_564) (r_ibin q rfl rfl rfl) fun a q=>zl q (r_pick_t hb_564 q rfl rfl) fun a q=>zm q rfl fun a q=>?_
 rcases or_b (y_489.2.1 == 50) with hb_565 | hb_565
 rw [ifb_t hb_565] at H
 refine zw q (wtt hb_565) (r_move q rfl) fun a q=>?_
 obtain ⟨y_566,h_567,H⟩:=bs H
 have s:=s.pk7
 have s:=s.pk7
 have s:=s.pk7
 have s:=s.pk7
 have s:=s.pk7
 have hS1:=s.sp5
 refine sl_call call14 q (by decide) (wtt hb_565) rfl rfl (leaf_Leaf_Points.calls y_489.2.2 hS1.lend hs_502 hq_507 hm_511 h_567) fun a v_ w hv_ q=>?_
 obtain ⟨R_568,v_570,b_572,v_574,cs_575,mb_577,mb_578,E_579,hv_,hr_,hl_569,hs_571,hq_576,hm_580⟩:=hv_
 have hv_:=hv_.symm
 subst hv_
 obtain ⟨s,hl_569⟩:=hS1.back hr_ hl_569
 have s:=s.un5
 have hRL:=hRL.trans hl_569
 refine zw q (wtt hb_565) (r_ibin q rfl rfl rfl) fun a q=>zl q (r_pick_t hb_565 q rfl rfl) fun a q=>za q rfl fun a q=>zn ?_
 obtain rfl:=Option.some.inj H
 refine wp_ret ?_
 repeat first | refine zt ?_ | refine zb ?_ | refine zo ?_
 exact ret_1 results7 q (rv_tmp q rfl) ⟨rfl,s.bel⟩
 rw [ifb_f hb_565] at H
 refine zsw q (wtf hb_565) fun a q=>zsw q (wtf hb_565) fun a q=>zsw q (wtf hb_565) fun a q=>zl q (r_pick_f hb_565 q rfl rfl) fun a q=>za q rfl fun a q=>zn ?_
 obtain rfl:=Option.some.inj H
 refine wp_ret ?_
 repeat first | refine zt ?_ | refine zb ?_ | refine zo ?_
 exact ret_1 results7 q (rv_tmp q rfl) ⟨rfl,s.bel⟩
 rw [ifb_f hb_564] at H
 refine zsw q (wtf hb_564) fun a q=>zsw q (wtf hb_564) fun a q=>zl q (r_pick_f hb_564 q rfl rfl) fun a q=>zm q rfl fun a q=>zs q fun a q=>zs q fun a q=>zs q fun a q=>zl q (r_pick q rfl rfl rfl) fun a q=>za q rfl fun a q=>zn ?_
 obtain rfl:=Option.some.inj H
 refine wp_ret ?_
 repeat first | refine zt ?_ | refine zb ?_ | refine zo ?_
 exact ret_1 results7 q (rv_tmp q rfl) ⟨rfl,s.bel⟩
 rw [ifb_f hb_563] at H
 refine zsw q (wtf hb_563) fun a q=>zsw q (wtf hb_563) fun a q=>zsw q (wtf hb_563) fun a q=>zsw q (wtf hb_563) fun a q=>zl q (r_pick_f hb_563 q rfl rfl) fun a q=>zm q rfl fun a q=>zs q fun a q=>zs q fun a q=>zl q (r_pick q rfl rfl rfl) fun a q=>zm q rfl fun a q=>zs q fun a q=>zs q fun a q=>zs q fun a q=>zl q (r_pick q rfl rfl rfl) fun a q=>za q rfl fun a q=>zn ?_
 obtain rfl:=Option.some.inj H
 refine wp_ret ?_
 repeat first | refine zt ?_ | refine zb ?_ | refine zo ?_
 exact ret_1 results7 q (rv_tmp q rfl) ⟨rfl,s.bel⟩
 rw [ifb_f hb_562] at H
 refine zsw q (wtf hb_562) fun a q=>zsw q (wtf hb_562) fun a q=>zl q (r_pick_f hb_562 q rfl rfl) fun a q=>zm q rfl fun a q=>zs q fun a q=>zs q fun a q=>zs q fun a q=>zs q fun a q=>zl q (r_pick q rfl rfl rfl) fun a q=>zm q rfl fun a q=>zs q fun a q=>zs q fun a q=>zl q (r_pick q rfl rfl rfl) fun a q=>zm q rfl fun a q=>zs q fun a q=>zs q fun a q=>zs q fun a q=>zl q (r_pick q rfl rfl rfl) fun a q=>za q rfl fun a q=>zn ?_
 obtain rfl:=Option.some.inj H
 refine wp_ret ?_
 repeat first | refine zt ?_ | refine zb ?_ | refine zo ?_
 exact ret_1 results7 q (rv_tmp q rfl) ⟨rfl,s.bel⟩
 rw [ifb_f hb_542] at H
 refine zsw q (wtf hb_542) fun a q=>zsw q (wtf hb_542) fun a q=>zsw q (wtf hb_542) fun a q=>zsw q (wtf hb_542) fun a q=>zsw q (wtf hb_542) fun a q=>zsw q (wtf hb_542) fun a q=>zsw q (wtf hb_542) fun a q=>zsw q (wtf hb_542) fun a q=>zl q (r_pick_f hb_542 q rfl rfl) fun a q=>zm q rfl fun a q=>zs q fun a q=>zs q fun a q=>zl q (r_pick q rfl rfl rfl) fun a q=>zm q rfl fun a q=>zs q fun a q=>zs q fun a q=>zs q fun a q=>zs q fun a q=>zl q (r_pick q rfl rfl rfl) fun a q=>zm q rfl fun a q=>zs q fun a q=>zs q fun a q=>zl q (r_pick q rfl rfl rfl) fun a q=>zm q rfl fun a q=>zs q fun a q=>zs q fun a q=>zs q fun a q=>zl q (r_pick q rfl rfl rfl) fun a q=>za q rfl fun a q=>zn ?_
 obtain rfl:=Option.some.inj H
 refine wp_ret ?_
 repeat first | refine zt ?_ | refine zb ?_ | refine zo ?_
 exact ret_1 results7 q (rv_tmp q rfl) ⟨rfl,s.bel⟩
 rw [ifb_f hb_522] at H
 refine zsw q (wtf hb_522) fun a q=>zsw q (wtf hb_522) fun a q=>zsw q (wtf hb_522) fun a q=>zsw q (wtf hb_522) fun a q=>zsw q (wtf hb_522) fun a q=>zsw q (wtf hb_522) fun a q=>zsw q (wtf hb_522) fun a q=>zsw q (wtf hb_522) fun a q=>zl q (r_pick_f hb_522 q rfl rfl) fun a q=>zm q rfl fun a q=>zs q fun a q=>zs q fun a q=>zs q fun a q=>zs q fun a q=>zs q fun a q=>zs q fun a q=>zs q fun a q=>zs q fun a q=>zl q (r_pick q rfl rfl rfl) fun a q=>zm q rfl fun a q=>zs q fun a q=>zs q fun a q=>zl q (r_pick q rfl rfl rfl) fun a q=>zm q rfl fun a q=>zs q fun a q=>zs q fun a q=>zs q fun a q=>zs q fun a q=>zl q (r_pick q rfl rfl rfl) fun a q=>zm q rfl fun a q=>zs q fun a q=>zs q fun a q=>zl q (r_pick q rfl rfl rfl) fun a q=>zm q rfl fun a q=>?_
 refine zs q fun a q=>zs q fun a q=>zs q fun a q=>zl q (r_pick q rfl rfl rfl) fun a q=>za q rfl fun a q=>zn ?_
 obtain rfl:=Option.some.inj H
 refine wp_ret ?_
 repeat first | refine zt ?_ | refine zb ?_ | refine zo ?_
 exact ret_1 results7 q (rv_tmp q rfl) ⟨rfl,s.bel⟩
 rw [ifb_f hb_521] at H
 refine zsw q (wtf hb_521) fun a q=>zsw q (wtf hb_521) fun a q=>zsw q (wtf hb_521) fun a q=>zsw q (wtf hb_521) fun a q=>zl q (r_pick_f hb_521 q rfl rfl) fun a q=>zm q rfl fun a q=>zs q fun a q=>zs q fun a q=>zs q fun a q=>zs q fun a q=>zs q fun a q=>zs q fun a q=>zs q fun a q=>zs q fun a q=>zl q (r_pick q rfl rfl rfl) fun a q=>zm q rfl fun a q=>zs q fun a q=>zs q fun a q=>zs q fun a q=>zs q fun a q=>zs q fun a q=>zs q fun a q=>zs q fun a q=>zs q fun a q=>zl q (r_pick q rfl rfl rfl) fun a q=>zm q rfl fun a q=>zs q fun a q=>zs q fun a q=>zl q (r_pick q rfl rfl rfl) fun a q=>zm q rfl fun a q=>zs q fun a q=>zs q fun a q=>zs q fun a q=>zs q fun a q=>zl q (r_pick q rfl rfl rfl) fun a q=>zm q rfl fun a q=>zs q fun a q=>?_
 refine zs q fun a q=>zl q (r_pick q rfl rfl rfl) fun a q=>zm q rfl fun a q=>zs q fun a q=>zs q fun a q=>zs q fun a q=>zl q (r_pick q rfl rfl rfl) fun a q=>za q rfl fun a q=>zn ?_
 obtain rfl:=Option.some.inj H
 refine wp_ret ?_
 repeat first | refine zt ?_ | refine zb ?_ | refine zo ?_
 exact ret_1 results7 q (rv_tmp q rfl) ⟨rfl,s.bel⟩
 rw [ifb_f hb_520] at H
 refine zsw q (wtf hb_520) fun a q=>zsw q (wtf hb_520) fun a q=>zl q (r_pick_f hb_520 q rfl rfl) fun a q=>zm q rfl fun a q=>zs q fun a q=>zs q fun a q=>zs q fun a q=>zs q fun a q=>zl q (r_pick q rfl rfl rfl) fun a q=>zm q rfl fun a q=>zs q fun a q=>zs q fun a q=>zs q fun a q=>zs q fun a q=>zs q fun a q=>zs q fun a q=>zs q fun a q=>zs q fun a q=>zl q (r_pick q rfl rfl rfl) fun a q=>zm q rfl fun a q=>zs q fun a q=>zs q fun a q=>zs q fun a q=>zs q fun a q=>zs q fun a q=>zs q fun a q=>zs q fun a q=>zs q fun a q=>zl q (r_pick q rfl rfl rfl) fun a q=>zm q rfl fun a q=>zs q fun a q=>zs q fun a q=>zl q (r_pick q rfl rfl rfl) fun a q=>zm q rfl fun a q=>zs q fun a q=>zs q fun a q=>zs q fun a q=>zs q fun a q=>?_
 refine zl q (r_pick q rfl rfl rfl) fun a q=>zm q rfl fun a q=>zs q fun a q=>zs q fun a q=>zl q (r_pick q rfl rfl rfl) fun a q=>zm q rfl fun a q=>zs q fun a q=>zs q fun a q=>zs q fun a q=>zl q (r_pick q rfl rfl rfl) fun a q=>za q rfl fun a q=>zn ?_
 obtain rfl:=Option.some.inj H
 refine wp_ret ?_
 repeat first | refine zt ?_ | refine zb ?_ | refine zo ?_
 exact ret_1 results7 q (rv_tmp q rfl) ⟨rfl,s.bel⟩
 rw [ifb_f hb_519] at H
 refine zsw q (wtf hb_519) fun a q=>zsw q (wtf hb_519) fun a q=>zl q (r_pick_f hb_519 q rfl rfl) fun a q=>zm q rfl fun a q=>zs q fun a q=>zs q fun a q=>zl q (r_pick q rfl rfl rfl) fun a q=>zm q rfl fun a q=>zs q fun a q=>zs q fun a q=>zs q fun a q=>zs q fun a q=>zl q (r_pick q rfl rfl rfl) fun a q=>zm q rfl fun a q=>zs q fun a q=>zs q fun a q=>zs q fun a q=>zs q fun a q=>zs q fun a q=>zs q fun a q=>zs q fun a q=>zs q fun a q=>zl q (r_pick q rfl rfl rfl) fun a q=>zm q rfl fun a q=>zs q fun a q=>zs q fun a q=>zs q fun a q=>zs q fun a q=>zs q fun a q=>zs q fun a q=>zs q fun a q=>zs q fun a q=>zl q (r_pick q rfl rfl rfl) fun a q=>zm q rfl fun a q=>zs q fun a q=>zs q fun a q=>zl q (r_pick q rfl rfl rfl) fun a q=>?_
 refine zm q rfl fun a q=>zs q fun a q=>zs q fun a q=>zs q fun a q=>zs q fun a q=>zl q (r_pick q rfl rfl rfl) fun a q=>zm q rfl fun a q=>zs q fun a q=>zs q fun a q=>zl q (r_pick q rfl rfl rfl) fun a q=>zm q rfl fun a q=>zs q fun a q=>zs q fun a q=>zs q fun a q=>zl q (r_pick q rfl rfl rfl) fun a q=>za q rfl fun a q=>zn ?_
 obtain rfl:=Option.some.inj H
 refine wp_ret ?_
 repeat first | refine zt ?_ | refine zb ?_ | refine zo ?_
 exact ret_1 results7 q (rv_tmp q rfl) ⟨rfl,s.bel⟩
 rw [ifb_f hb_518] at H
 refine zsw q (wtf hb_518) fun a q=>zsw q (wtf hb_518) fun a q=>zl q (r_pick_f hb_518 q rfl rfl) fun a q=>zm q rfl fun a q=>zs q fun a q=>zs q fun a q=>zl q (r_pick q rfl rfl rfl) fun a q=>zm q rfl fun a q=>zs q fun a q=>zs q fun a q=>zl q (r_pick q rfl rfl rfl) fun a q=>zm q rfl fun a q=>zs q fun a q=>zs q fun a q=>zs q fun a q=>zs q fun a q=>zl q (r_pick q rfl rfl rfl) fun a q=>zm q rfl fun a q=>zs q fun a q=>zs q fun a q=>zs q fun a q=>zs q fun a q=>zs q fun a q=>zs q fun a q=>zs q fun a q=>zs q fun a q=>zl q (r_pick q rfl rfl rfl) fun a q=>zm q rfl fun a q=>zs q fun a q=>zs q fun a q=>zs q fun a q=>zs q fun a q=>zs q fun a q=>zs q fun a q=>zs q fun a q=>zs q fun a q=>zl q (r_pick q rfl rfl rfl) fun a q=>?_
 refine zm q rfl fun a q=>zs q fun a q=>zs q fun a q=>zl q (r_pick q rfl rfl rfl) fun a q=>zm q rfl fun a q=>zs q fun a q=>zs q fun a q=>zs q fun a q=>zs q fun a q=>zl q (r_pick q rfl rfl rfl) fun a q=>zm q rfl fun a q=>zs q fun a q=>zs q fun a q=>zl q (r_pick q rfl rfl rfl) fun a q=>zm q rfl fun a q=>zs q fun a q=>zs q fun a q=>zs q fun a q=>zl q (r_pick q rfl rfl rfl) fun a q=>za q rfl fun a q=>zn ?_
 obtain rfl:=Option.some.inj H
 refine wp_ret ?_
 repeat first | refine zt ?_ | refine zb ?_ | refine zo ?_
 exact ret_1 results7 q (rv_tmp q rfl) ⟨rfl,s.bel⟩
 rw [ifb_f hb_517] at H
 refine zsw q (wtf hb_517) fun a q=>zsw q (wtf hb_517) fun a q=>zl q (r_pick_f hb_517 q rfl rfl) fun a q=>zm q rfl fun a q=>zs q fun a q=>zs q fun a q=>zl q (r_pick q rfl rfl rfl) fun a q=>zm q rfl fun a q=>zs q fun a q=>zs q fun a q=>zl q (r_pick q rfl rfl rfl) fun a q=>zm q rfl fun a q=>zs q fun a q=>zs q fun a q=>zl q (r_pick q rfl rfl rfl) fun a q=>zm q rfl fun a q=>zs q fun a q=>zs q fun a q=>zs q fun a q=>zs q fun a q=>zl q (r_pick q rfl rfl rfl) fun a q=>zm q rfl fun a q=>zs q fun a q=>zs q fun a q=>zs q fun a q=>zs q fun a q=>zs q fun a q=>zs q fun a q=>zs q fun a q=>zs q fun a q=>zl q (r_pick q rfl rfl rfl) fun a q=>zm q rfl fun a q=>zs q fun a q=>zs q fun a q=>zs q fun a q=>zs q fun a q=>zs q fun a q=>?_
 refine zs q fun a q=>zs q fun a q=>zs q fun a q=>zl q (r_pick q rfl rfl rfl) fun a q=>zm q rfl fun a q=>zs q fun a q=>zs q fun a q=>zl q (r_pick q rfl rfl rfl) fun a q=>zm q rfl fun a q=>zs q fun a q=>zs q fun a q=>zs q fun a q=>zs q fun a q=>zl q (r_pick q rfl rfl rfl) fun a q=>zm q rfl fun a q=>zs q fun a q=>zs q fun a q=>zl q (r_pick q rfl rfl rfl) fun a q=>zm q rfl fun a q=>zs q fun a q=>zs q fun a q=>zs q fun a q=>zl q (r_pick q rfl rfl rfl) fun a q=>za q rfl fun a q=>zn ?_
 obtain rfl:=Option.some.inj H
 refine wp_ret ?_
 repeat first | refine zt ?_ | refine zb ?_ | refine zo ?_
 exact ret_1 results7 q (rv_tmp q rfl) ⟨rfl,s.bel⟩
 rw [ifb_f hb_516] at H
 refine zsw q (wtf hb_516) fun a q=>zl q (r_pick_f hb_516 q rfl rfl) fun a q=>zm q rfl fun a q=>zs q fun a q=>zs q fun a q=>zl q (r_pick q rfl rfl rfl) fun a q=>zm q rfl fun a q=>zs q fun a q=>zs q fun a q=>zl q (r_pick q rfl rfl rfl) fun a q=>zm q rfl fun a q=>zs q fun a q=>zs q fun a q=>zl q (r_pick q rfl rfl rfl) fun a q=>zm q rfl fun a q=>zs q fun a q=>zs q fun a q=>zl q (r_pick q rfl rfl rfl) fun a q=>zm q rfl fun a q=>zs q fun a q=>zs q fun a q=>zs q fun a q=>zs q fun a q=>zl q (r_pick q rfl rfl rfl) fun a q=>zm q rfl fun a q=>zs q fun a q=>zs q fun a q=>zs q fun a q=>zs q fun a q=>zs q fun a q=>zs q fun a q=>zs q fun a q=>zs q fun a q=>zl q (r_pick q rfl rfl rfl) fun a q=>zm q rfl fun a q=>zs q fun a q=>zs q fun a q=>?_
 refine zs q fun a q=>zs q fun a q=>zs q fun a q=>zs q fun a q=>zs q fun a q=>zs q fun a q=>zl q (r_pick q rfl rfl rfl) fun a q=>zm q rfl fun a q=>zs q fun a q=>zs q fun a q=>zl q (r_pick q rfl rfl rfl) fun a q=>zm q rfl fun a q=>zs q fun a q=>zs q fun a q=>zs q fun a q=>zs q fun a q=>zl q (r_pick q rfl rfl rfl) fun a q=>zm q rfl fun a q=>zs q fun a q=>zs q fun a q=>zl q (r_pick q rfl rfl rfl) fun a q=>zm q rfl fun a q=>zs q fun a q=>zs q fun a q=>zs q fun a q=>zl q (r_pick q rfl rfl rfl) fun a q=>za q rfl fun a q=>zn ?_
 obtain rfl:=Option.some.inj H
 refine wp_ret ?_
 repeat first | refine zt ?_ | refine zb ?_ | refine zo ?_
 exact ret_1 results7 q (rv_tmp q rfl) ⟨rfl,s.bel⟩
 rw [ifb_f hb_515] at H
 refine zsw q (wtf hb_515) fun a q=>zsw q (wtf hb_515) fun a q=>zl q (r_pick_f hb_515 q rfl rfl) fun a q=>zm q rfl fun a q=>zs q fun a q=>zl q (r_pick q rfl rfl rfl) fun a q=>zm q rfl fun a q=>zs q fun a q=>zs q fun a q=>zl q (r_pick q rfl rfl rfl) fun a q=>zm q rfl fun a q=>zs q fun a q=>zs q fun a q=>zl q (r_pick q rfl rfl rfl) fun a q=>zm q rfl fun a q=>zs q fun a q=>zs q fun a q=>zl q (r_pick q rfl rfl rfl) fun a q=>zm q rfl fun a q=>zs q fun a q=>zs q fun a q=>zl q (r_pick q rfl rfl rfl) fun a q=>zm q rfl fun a q=>zs q fun a q=>zs q fun a q=>zs q fun a q=>zs q fun a q=>zl q (r_pick q rfl rfl rfl) fun a q=>zm q rfl fun a q=>zs q fun a q=>zs q fun a q=>zs q fun a q=>zs q fun a q=>zs q fun a q=>zs q fun a q=>zs q fun a q=>?_
 refine zs q fun a q=>zl q (r_pick q rfl rfl rfl) fun a q=>zm q rfl fun a q=>zs q fun a q=>zs q fun a q=>zs q fun a q=>zs q fun a q=>zs q fun a q=>zs q fun a q=>zs q fun a q=>zs q fun a q=>zl q (r_pick q rfl rfl rfl) fun a q=>zm q rfl fun a q=>zs q fun a q=>zs q fun a q=>zl q (r_pick q rfl rfl rfl) fun a q=>zm q rfl fun a q=>zs q fun a q=>zs q fun a q=>zs q fun a q=>zs q fun a q=>zl q (r_pick q rfl rfl rfl) fun a q=>zm q rfl fun a q=>zs q fun a q=>zs q fun a q=>zl q (r_pick q rfl rfl rfl) fun a q=>zm q rfl fun a q=>zs q fun a q=>zs q fun a q=>zs q fun a q=>zl q (r_pick q rfl rfl rfl) fun a q=>za q rfl fun a q=>zn ?_
 obtain rfl:=Option.some.inj H
 refine wp_ret ?_
 repeat first | refine zt ?_ | refine zb ?_ | refine zo ?_
 exact ret_1 results7 q (rv_tmp q rfl) ⟨rfl,s.bel⟩
 rw [ifb_f hb_514] at H
 refine zsw q (wtf hb_514) fun a q=>zsw q (wtf hb_514) fun a q=>zl q (r_pick_f hb_514 q rfl rfl) fun a q=>zm q rfl fun a q=>zs q fun a q=>zs q fun a q=>zl q (r_pick q rfl rfl rfl) fun a q=>zm q rfl fun a q=>zs q fun a q=>zl q (r_pick q rfl rfl rfl) fun a q=>zm q rfl fun a q=>zs q fun a q=>zs q fun a q=>zl q (r_pick q rfl rfl rfl) fun a q=>zm q rfl fun a q=>zs q fun a q=>zs q fun a q=>zl q (r_pick q rfl rfl rfl) fun a q=>zm q rfl fun a q=>zs q fun a q=>zs q fun a q=>zl q (r_pick q rfl rfl rfl) fun a q=>zm q rfl fun a q=>zs q fun a q=>zs q fun a q=>zl q (r_pick q rfl rfl rfl) fun a q=>zm q rfl fun a q=>zs q fun a q=>zs q fun a q=>zs q fun a q=>zs q fun a q=>zl q (r_pick q rfl rfl rfl) fun a q=>zm q rfl fun a q=>zs q fun a q=>?_
 refine zs q fun a q=>zs q fun a q=>zs q fun a q=>zs q fun a q=>zs q fun a q=>zs q fun a q=>zs q fun a q=>zl q (r_pick q rfl rfl rfl) fun a q=>zm q rfl fun a q=>zs q fun a q=>zs q fun a q=>zs q fun a q=>zs q fun a q=>zs q fun a q=>zs q fun a q=>zs q fun a q=>zs q fun a q=>zl q (r_pick q rfl rfl rfl) fun a q=>zm q rfl fun a q=>zs q fun a q=>zs q fun a q=>zl q (r_pick q rfl rfl rfl) fun a q=>zm q rfl fun a q=>zs q fun a q=>zs q fun a q=>zs q fun a q=>zs q fun a q=>zl q (r_pick q rfl rfl rfl) fun a q=>zm q rfl fun a q=>zs q fun a q=>zs q fun a q=>zl q (r_pick q rfl rfl rfl) fun a q=>zm q rfl fun a q=>zs q fun a q=>zs q fun a q=>zs q fun a q=>zl q (r_pick q rfl rfl rfl) fun a q=>za q rfl fun a q=>zn ?_
 obtain rfl:=Option.some.inj H
 refine wp_ret ?_
 repeat first | refine zt ?_ | refine zb ?_ | refine zo ?_
 exact ret_1 results7 q (rv_tmp q rfl) ⟨rfl,s.bel⟩
 rw [ifb_f hb_513] at H
 refine zsw q (wtf hb_513) fun a q=>zsw q (wtf hb_513) fun a q=>zl q (r_pick_f hb_513 q rfl rfl) fun a q=>zm q rfl fun a q=>zs q fun a q=>zs q fun a q=>zl q (r_pick q rfl rfl rfl) fun a q=>zm q rfl fun a q=>zs q fun a q=>zs q fun a q=>zl q (r_pick q rfl rfl rfl) fun a q=>zm q rfl fun a q=>zs q fun a q=>zl q (r_pick q rfl rfl rfl) fun a q=>zm q rfl fun a q=>zs q fun a q=>zs q fun a q=>zl q (r_pick q rfl rfl rfl) fun a q=>zm q rfl fun a q=>zs q fun a q=>zs q fun a q=>zl q (r_pick q rfl rfl rfl) fun a q=>zm q rfl fun a q=>zs q fun a q=>zs q fun a q=>zl q (r_pick q rfl rfl rfl) fun a q=>zm q rfl fun a q=>zs q fun a q=>zs q fun a q=>zl q (r_pick q rfl rfl rfl) fun a q=>zm q rfl fun a q=>zs q fun a q=>zs q fun a q=>zs q fun a q=>?_
 refine zs q fun a q=>zl q (r_pick q rfl rfl rfl) fun a q=>zm q rfl fun a q=>zs q fun a q=>zs q fun a q=>zs q fun a q=>zs q fun a q=>zs q fun a q=>zs q fun a q=>zs q fun a q=>zs q fun a q=>zl q (r_pick q rfl rfl rfl) fun a q=>zm q rfl fun a q=>zs q fun a q=>zs q fun a q=>zs q fun a q=>zs q fun a q=>zs q fun a q=>zs q fun a q=>zs q fun a q=>zs q fun a q=>zl q (r_pick q rfl rfl rfl) fun a q=>zm q rfl fun a q=>zs q fun a q=>zs q fun a q=>zl q (r_pick q rfl rfl rfl) fun a q=>zm q rfl fun a q=>zs q fun a q=>zs q fun a q=>zs q fun a q=>zs q fun a q=>zl q (r_pick q rfl rfl rfl) fun a q=>zm q rfl fun a q=>zs q fun a q=>zs q fun a q=>zl q (r_pick q rfl rfl rfl) fun a q=>zm q rfl fun a q=>zs q fun a q=>zs q fun a q=>?_
 refine zs q fun a q=>zl q (r_pick q rfl rfl rfl) fun a q=>za q rfl fun a q=>zn ?_
 obtain rfl:=Option.some.inj H
 refine wp_ret ?_
 repeat first | refine zt ?_ | refine zb ?_ | refine zo ?_
 exact ret_1 results7 q (rv_tmp q rfl) ⟨rfl,s.bel⟩
theorem ref02_SameCols.calls (a0 : List api_Col) (a1 : List api_Col) {w0 : World} {RA : Hp} {v0_0 : Value} {v1_0 : Value} (hRA : RA.sub w0) (h0_0 : SlR ty_api_Col RA v0_0 a0) (h1_0 : SlR ty_api_Col RA v1_0 a1) {r : Bool} (H : ref02_SameCols a0 a1 = some r) : CallsV prog 36 #[v0_0,v1_0] w0 (.bool r):=by
 unfold ref02_SameCols at H
 refine enter (args:=[v0_0,v1_0]) func36 rfl ntmps36 rfl fun a q=>?_
 have s:=St.init (R:=fun _=>none) (w:=w0) (fun _ _ h=>by cases h)
 have hRL:=RLe.refl (M:=[]) w0 (fun _=>none)
 refine zq<|zr<|za q rfl fun a q=>zn<|zq<|zq<|zr<|zm q rfl fun a q=>zl q (r_len_R underlying38 h0_0 q rfl) fun a q=>zm q rfl fun a q=>zl q (r_len_R underlying38 h1_0 q rfl) fun a q=>zl q (r_ibin q rfl rfl rfl) fun a q=>zn ?_
 refine wp_cond_split (q.ev rfl) (fun (hb_1 : ((a0.length : Int) != (a1.length : Int)) = true)=>?_) fun hb_1=>?_
 rw [ifb_t hb_1] at H
 refine zq<|zr<|za q rfl fun a q=>zn ?_
 obtain rfl:=Option.some.inj H
 refine wp_ret ?_
 repeat first | refine zt ?_ | refine zb ?_ | refine zo ?_
 exact ret_1 results36 q (rv_tmp q rfl) ⟨rfl,s.bel⟩
 rw [ifb_f hb_1] at H
 refine wp_skip<|zq<|zq<|zr<|za q rfl fun a q=>zn ?_
 refine wp_block ?_
 refine wp_loop_k (fun k_l0 a w=>∃ (x_41 : Int),ref02_SameCols.l0 a0 a1 k_l0 x_41 = some r ∧ Kn 26 a [(0,v0_0),(1,v1_0),(5,I6 x_41)] ∧ St [] w0 w (fun _=>none) []) (((a0.length : Int) - 0).toNat + 1) ?_ ?_
 exact ⟨0,H,q.sub (zc (zc (zc zz))),s⟩
 rintro k_l0 a w ⟨x_41,H,q,s⟩
 rcases k_l0 with _ | k_l0
 cases H
 rw [ref02_SameCols.l0.eq_2] at H
 refine zq<|zq<|zr<|zm q rfl fun a q=>zm q rfl fun a q=>zl q (r_len_R underlying38 h0_0 q rfl) fun a q=>zl q (r_ibin q rfl rfl rfl) fun a q=>zn ?_
 refine wp_cond_split (q.ev rfl) (fun (hb_81 : (decide (x_41 < (a0.length : Int))) = true)=>?_) fun hb_81=>?_
 rw [ifb_t hb_81] at H
 refine wp_skip<|zq ?_
 refine wp_block ?_
 refine zq ?_
 refine par_region (C:=fun w=>St [] w0 w (fun _=>none) []) [(0,true),(1,true),(2,true),(3,true),(4,true),(5,true),(6,true),(7,true),(8,true)] mixed (by kernel_rfl) s (fun w s=>s) fun w s=>?_
 refine zp rfl q (fun w s=>r_move q rfl) fun a q=>zp rfl q (fun w s=>r_move q rfl) fun a q=>?_
 obtain ⟨y_100,h_101,H⟩:=bs H
 obtain ⟨b_102,o_103,c_104,cs_105,hv_106,hr_107,hc_108,h_1010,h_1011⟩:=h0_0.ix h_101
 subst hr_107
 refine zp rfl q (fun w s=>r_indexAddr_R underlying38 sizeOf65 hv_106 h_1010 h_1011 q rfl rfl) fun a q=>zp rfl q (fun w s=>r_loadA (cs:=[.string y_100.Name,I6 y_100.Kind]) isAgg65 sizeOf65 rfl q rfl (fun j v hv=>(s.ra hRA nil_not).cell (hc_108 j v hv))) fun a q=>zp rfl q (fun w s=>r_move q rfl) fun a q=>zp rfl q (fun w s=>r_move q rfl) fun a q=>?_
 obtain ⟨y_109,h_110,H⟩:=bs H
 obtain ⟨b_111,o_112,c_113,cs_114,hv_115,hr_116,hc_117,h_1100,h_1101⟩:=h1_0.ix h_110
 subst hr_116
 refine zp rfl q (fun w s=>r_indexAddr_R underlying38 sizeOf65 hv_115 h_1100 h_1101 q rfl rfl) fun a q=>zp rfl q (fun w s=>r_loadA (cs:=[.string y_109.Name,I6 y_109.Kind]) isAgg65 sizeOf65 rfl q rfl (fun j v hv=>(s.ra hRA nil_not).cell (hc_117 j v hv))) fun a q=>zp rfl q (fun w s=>r_sne (by kernel_rfl) (eqs65 y_100 y_109) q rfl rfl) fun a q=>?_
 refine wpPar_nil (NoP_nil ?_)
 refine wp_cond_split (q.ev rfl) (fun (hb_118 : (!decide (y_100 = y_109)) = true)=>?_) fun hb_118=>?_
 rw [ifb_t hb_118] at H
 refine zq<|zr<|za q rfl fun a q=>zn ?_
 obtain rfl:=Option.some.inj H
 refine wp_ret ?_
 repeat first | refine zt ?_ | refine zb ?_ | refine zo ?_
 exact ret_1 results36 q (rv_tmp q rfl) ⟨rfl,s.bel⟩
 rw [ifb_f hb_118] at H
 refine wp_skip<|zr<|zm q rfl fun a q=>zl q (r_ibin q rfl rfl rfl) fun a q=>za q rfl fun a q=>zn ?_
 exact ⟨_,Nat.lt_succ_self _,(IntKind.i64.wrap (x_41 + 1)),H,q.sub (zc (zc (zc zz))),s⟩
 rw [ifb_f hb_81] at H
 refine wp_exit ?_
 refine zq<|zr<|za q rfl fun a q=>zn ?_
 obtain rfl:=Option.some.inj H
 refine wp_ret ?_
 repeat first | refine zt ?_ | refine zb ?_ | refine zo ?_
 exact ret_1 results36 q (rv_tmp q rfl) ⟨rfl,s.bel⟩
theorem ref01_order.calls (a0 : Int) (a1 : Int) {r : Int} (H : ref01_order a0 a1 = some r) (w0 : World) : CallsV prog 91 #[I6 a0,I6 a1] w0 (I6 r):=by
 unfold ref01_order at H
 refine enter (args:=[I6 a0,I6 a1]) func91 rfl ntmps91 rfl fun a q=>?_
 have s:=St.init (R:=fun _=>none) (w:=w0) (fun _ _ h=>by cases h)
 have hRL:=RLe.refl (M:=[]) w0 (fun _=>none)
 refine zq<|zr<|za q rfl fun a q=>zn<|zq<|zq<|zr<|zm q rfl fun a q=>zm q rfl fun a q=>zl q (r_ibin q rfl rfl rfl) fun a q=>zn ?_
 refine wp_cond_split (q.ev rfl) (fun (hb_1 : (decide (a0 < a1)) = true)=>?_) fun hb_1=>?_
 rw [ifb_t hb_1] at H
 refine zq<|zr<|za q rfl fun a q=>zn ?_
 obtain rfl:=Option.some.inj H
 refine wp_ret ?_
 repeat first | refine zt ?_ | refine zb ?_ | refine zo ?_
 exact ret_1 results91 q (rv_tmp q rfl) ⟨rfl,s.bel⟩
 rw [ifb_f hb_1] at H
 refine wp_skip<|zq<|zq<|zr<|zm q rfl fun a q=>zm q rfl fun a q=>zl q (r_ibin q rfl rfl rfl) fun a q=>zn ?_
 refine wp_cond_split (q.ev rfl) (fun (hb_2 : (decide (a0 > a1)) = true)=>?_) fun hb_2=>?_
 rw [ifb_t hb_2] at H
 refine zq<|zr<|za q rfl fun a q=>zn ?_
 obtain rfl:=Option.some.inj H
 refine wp_ret ?_
 repeat first | refine zt ?_ | refine zb ?_ | refine zo ?_
 exact ret_1 results91 q (rv_tmp q rfl) ⟨rfl,s.bel⟩
 rw [ifb_f hb_2] at H
 refine wp_skip<|zq<|zr<|za q rfl fun a q=>zn ?_
 obtain rfl:=Option.some.inj H
 refine wp_ret ?_
 repeat first | refine zt ?_ | refine zb ?_ | refine zo ?_
 exact ret_1 results91 q (rv_tmp q rfl) ⟨rfl,s.bel⟩
theorem ref01_Compare.calls (a0 : api_Value) (a1 : api_Value) {r : Int} (H : ref01_Compare a0 a1 = some r) (w0 : World) : CallsV prog 61 #[.agg ⟨cV a0⟩,.agg ⟨cV a1⟩] w0 (I6 r):=by
 unfold ref01_Compare at H
 refine enter (args:=[.agg ⟨cV a0⟩,.agg ⟨cV a1⟩]) func61 rfl ntmps61 rfl fun a q=>?_
 have s:=St.init (R:=fun _=>none) (w:=w0) (fun _ _ h=>by cases h)
 have hRL:=RLe.refl (M:=[]) w0 (fun _=>none)
 refine zq<|zr ?_
 refine sl_box s q (by decide) rfl rfl (c:=(cV a0)) rfl fun a w b_1 s q=>?_
 refine sl_box s q (by decide) rfl rfl (c:=(cV a1)) rfl fun a w b_2 s q=>?_
 refine za q rfl fun a q=>zn<|zq<|zq<|zr<|zl q (r_fieldAddr underlying58 rfl sizeOf3 q rfl) fun a q=>zl q (r_load isAgg3 q rfl (s.cell z1 rfl)) fun a q=>zl q (r_fieldAddr underlying58 rfl sizeOf3 q rfl) fun a q=>zl q (r_load isAgg3 q rfl (s.cell z0 rfl)) fun a q=>zl q (r_ibin q rfl rfl rfl) fun a q=>zn ?_
 refine wp_cond_split (q.ev rfl) (fun (hb_3 : (a0.Kind != a1.Kind) = true)=>?_) fun hb_3=>?_
 rw [ifb_t hb_3] at H
 refine zq<|zr<|zl q (r_fieldAddr underlying58 rfl sizeOf3 q rfl) fun a q=>zl q (r_load isAgg3 q rfl (s.cell z1 rfl)) fun a q=>zl q (r_fieldAddr underlying58 rfl sizeOf3 q rfl) fun a q=>zl q (r_load isAgg3 q rfl (s.cell z0 rfl)) fun a q=>?_
 obtain ⟨y_4,h_5,H⟩:=bs H
 refine sl_callV call91 s q (by decide) rfl rfl rfl (ref01_order.calls a0.Kind a1.Kind h_5 _) fun a w s q=>?_
 refine za q rfl fun a q=>zn ?_
 obtain rfl:=Option.some.inj H
 refine wp_ret ?_
 repeat first | refine zt ?_ | refine zb ?_ | refine zo ?_
 exact ret_1 results61 q (rv_tmp q rfl) ⟨rfl,s.bel⟩
 rw [ifb_f hb_3] at H
 refine wp_skip<|zq<|zq<|zr<|zl q (r_fieldAddr underlying58 rfl sizeOf3 q rfl) fun a q=>zl q (r_load isAgg3 q rfl (s.cell z1 rfl)) fun a q=>zl q (r_fieldAddr underlying58 rfl sizeOf3 q rfl) fun a q=>zl q (r_load isAgg3 q rfl (s.cell z0 rfl)) fun a q=>zl q (r_ibin q rfl rfl rfl) fun a q=>zn ?_
 refine wp_cond_split (q.ev rfl) (fun (hb_6 : (a0.N != a1.N) = true)=>?_) fun hb_6=>?_
 rw [ifb_t hb_6] at H
 refine zq<|zr<|zl q (r_fieldAddr underlying58 rfl sizeOf3 q rfl) fun a q=>zl q (r_load isAgg3 q rfl (s.cell z1 rfl)) fun a q=>zl q (r_fieldAddr underlying58 rfl sizeOf3 q rfl) fun a q=>zl q (r_load isAgg3 q rfl (s.cell z0 rfl)) fun a q=>?_
 obtain ⟨y_7,h_8,H⟩:=bs H
 refine sl_callV call91 s q (by decide) rfl rfl rfl (ref01_order.calls a0.N a1.N h_8 _) fun a w s q=>?_
 refine za q rfl fun a q=>zn ?_
 obtain rfl:=Option.some.inj H
 refine wp_ret ?_
 repeat first | refine zt ?_ | refine zb ?_ | refine zo ?_
 exact ret_1 results61 q (rv_tmp q rfl) ⟨rfl,s.bel⟩
 rw [ifb_f hb_6] at H
 refine wp_skip<|zq<|zq<|zr<|za q rfl fun a q=>zn ?_
 refine wp_block ?_
 refine wp_loop_k (fun k_l0 a w=>∃ (x_36 : Int),ref01_Compare.l0 a0 a1 k_l0 x_36 = some r ∧ Kn 97 a [(2,.pointer (some ⟨b_1,0,none⟩)),(3,.pointer (some ⟨b_2,0,none⟩)),(5,I6 x_36)] ∧ St [] w0 w (fun _=>none) [.cells b_1 (cV a0) 58,.cells b_2 (cV a1) 58]) (((a0.S.size : Int) - 0).toNat + 1) ?_ ?_
 have s:=s.pk1
 exact ⟨0,H,q.sub (zc (zc (zc zz))),s⟩
 rintro k_l0 a w ⟨x_36,H,q,s⟩
 rcases k_l0 with _ | k_l0
 cases H
 rw [ref01_Compare.l0.eq_2] at H
 refine zq<|zq ?_
 refine wp_mid (fun a w=>∃ (x_66 : Bool),ref01_Compare.j1 (ref01_Compare.l0 a0 a1 k_l0) a0 a1 x_36 x_66 = some r ∧ Kn 97 a [(2,.pointer (some ⟨b_1,0,none⟩)),(3,.pointer (some ⟨b_2,0,none⟩)),(5,I6 x_36),(38,.bool x_66)] ∧ St [] w0 w (fun _=>none) [.cells b_1 (cV a0) 58,.cells b_2 (cV a1) 58]) ?_ ?_
 refine zr<|zm q rfl fun a q=>zl q (r_fieldAddr underlying58 rfl sizeOf9 q rfl) fun a q=>zl q (r_load isAgg9 q rfl (s.cell z0 rfl)) fun a q=>zl q (r_len_str underlying9 q rfl) fun a q=>zl q (r_ibin q rfl rfl rfl) fun a q=>zm q rfl fun a q=>?_
 rcases or_b (decide (x_36 < (a0.S.size : Int))) with hb_68 | hb_68
 rw [ifb_t hb_68] at H
 refine zw q (wtt hb_68) (r_move q rfl) fun a q=>zw q (wtt hb_68) (r_fieldAddr underlying58 rfl sizeOf9 q rfl) fun a q=>zw q (wtt hb_68) (r_load isAgg9 q rfl (s.cell z1 rfl)) fun a q=>zw q (wtt hb_68) (r_len_str underlying9 q rfl) fun a q=>zw q (wtt hb_68) (r_ibin q rfl rfl rfl) fun a q=>zl q (r_pick_t hb_68 q rfl rfl) fun a q=>zn ?_
 have s:=s.pk1
 have s:=s.pk1
 exact ⟨(decide (x_36 < (a1.S.size : Int))),H,q.sub (zc (zc (zc (zc zz)))),s⟩
 rw [ifb_f hb_68] at H
 refine zsw q (wtf hb_68) fun a q=>zsw q (wtf hb_68) fun a q=>zsw q (wtf hb_68) fun a q=>zsw q (wtf hb_68) fun a q=>zsw q (wtf hb_68) fun a q=>zl q (r_pick_f hb_68 q rfl rfl) fun a q=>zn ?_
 have s:=s.pk1
 have s:=s.pk1
 exact ⟨false,H,q.sub (zc (zc (zc (zc zz)))),s⟩
 rintro a w ⟨x_66,H,q,s⟩
 unfold ref01_Compare.j1 at H
 refine wp_cond_split (q.ev rfl) (fun (hb_69 : x_66 = true)=>?_) fun hb_69=>?_
 rw [ifb_t hb_69] at H
 refine wp_skip<|zq ?_
 refine wp_block ?_
 refine zq ?_
 refine par_region (C:=fun w=>St [] w0 w (fun _=>none) [.cells b_1 (cV a0) 58,.cells b_2 (cV a1) 58]) [(0,true),(1,true),(2,true),(3,true),(4,true),(5,true),(6,true),(7,true),(8,true)] mixed (by kernel_rfl) s (fun w s=>s) fun w s=>?_
 refine zp rfl q (fun w s=>r_fieldAddr underlying58 rfl sizeOf9 q rfl) fun a q=>zp rfl q (fun w s=>r_load isAgg9 q rfl (s.cell z0 rfl)) fun a q=>zp rfl q (fun w s=>r_move q rfl) fun a q=>?_
 obtain ⟨y_74,h_75,H⟩:=bs H
 refine zp rfl q (fun w s=>r_index_str' underlying9 h_75 q rfl rfl) fun a q=>zp rfl q (fun w s=>r_fieldAddr underlying58 rfl sizeOf9 q rfl) fun a q=>zp rfl q (fun w s=>r_load isAgg9 q rfl (s.cell z1 rfl)) fun a q=>zp rfl q (fun w s=>r_move q rfl) fun a q=>?_
 obtain ⟨y_76,h_77,H⟩:=bs H
 refine zp rfl q (fun w s=>r_index_str' underlying9 h_77 q rfl rfl) fun a q=>zp rfl q (fun w s=>r_ibin q rfl rfl rfl) fun a q=>?_
 refine wpPar_nil (NoP_nil ?_)
 refine wp_cond_split (q.ev rfl) (fun (hb_78 : (y_74 != y_76) = true)=>?_) fun hb_78=>?_
 rw [ifb_t hb_78] at H
 refine zq ?_
 refine parT_region (C:=fun w=>St [] w0 w (fun _=>none) [.cells b_1 (cV a0) 58,.cells b_2 (cV a1) 58]) 10 [(0,true),(1,true),(2,true),(3,true),(4,true),(5,true),(6,true),(7,true),(8,true),(9,true)] mixed (by kernel_rfl) s (fun w s=>s) fun w s=>?_
 refine zp rfl q (fun w s=>r_fieldAddr underlying58 rfl sizeOf9 q rfl) fun a q=>zp rfl q (fun w s=>r_load isAgg9 q rfl (s.cell z0 rfl)) fun a q=>zp rfl q (fun w s=>r_move q rfl) fun a q=>?_
 obtain ⟨y_85,h_86,H⟩:=bs H
 refine zp rfl q (fun w s=>r_index_str' underlying9 h_86 q rfl rfl) fun a q=>zp rfl q (fun w s=>r_conv underlying5 underlying3 q rfl) fun a q=>zp rfl q (fun w s=>r_fieldAddr underlying58 rfl sizeOf9 q rfl) fun a q=>zp rfl q (fun w s=>r_load isAgg9 q rfl (s.cell z1 rfl)) fun a q=>zp rfl q (fun w s=>r_move q rfl) fun a q=>?_
 obtain ⟨y_87,h_88,H⟩:=bs H
 refine zp rfl q (fun w s=>r_index_str' underlying9 h_88 q rfl rfl) fun a q=>zp rfl q (fun w s=>r_conv underlying5 underlying3 q rfl) fun a q=>?_
 refine thenL_nil ?_
 obtain ⟨y_89,h_90,H⟩:=bs H
 refine sl_callV call91 s q (by decide) rfl rfl rfl (ref01_order.calls (IntKind.i64.wrap y_85) (IntKind.i64.wrap y_87) h_90 _) fun a w s q=>?_
 refine za q rfl fun a q=>?_
 refine wpList_nil (NoP_nil ?_)
 obtain rfl:=Option.some.inj H
 refine wp_ret ?_
 repeat first | refine zt ?_ | refine zb ?_ | refine zo ?_
 exact ret_1 results61 q (rv_tmp q rfl) ⟨rfl,s.bel⟩
 rw [ifb_f hb_78] at H
 refine wp_skip<|zr<|zm q rfl fun a q=>zl q (r_ibin q rfl rfl rfl) fun a q=>za q rfl fun a q=>zn ?_
 have s:=s.pk1
 have s:=s.pk1
 exact ⟨_,Nat.lt_succ_self _,(IntKind.i64.wrap (x_36 + 1)),H,q.sub (zc (zc (zc zz))),s⟩
 rw [ifb_f hb_69] at H
 refine wp_exit ?_
 refine zq<|zq<|zr<|zl q (r_fieldAddr underlying58 rfl sizeOf9 q rfl) fun a q=>zl q (r_load isAgg9 q rfl (s.cell z0 rfl)) fun a q=>zl q (r_len_str underlying9 q rfl) fun a q=>zl q (r_fieldAddr underlying58 rfl sizeOf9 q rfl) fun a q=>zl q (r_load isAgg9 q rfl (s.cell z1 rfl)) fun a q=>zl q (r_len_str underlying9 q rfl) fun a q=>zl q (r_ibin q rfl rfl rfl) fun a q=>zn ?_
 refine wp_cond_split (q.ev rfl) (fun (hb_91 : ((a0.S.size : Int) != (a1.S.size : Int)) = true)=>?_) fun hb_91=>?_
 rw [ifb_t hb_91] at H
 refine zq<|zr<|zl q (r_fieldAddr underlying58 rfl sizeOf9 q rfl) fun a q=>zl q (r_load isAgg9 q rfl (s.cell z0 rfl)) fun a q=>zl q (r_len_str underlying9 q rfl) fun a q=>zl q (r_fieldAddr underlying58 rfl sizeOf9 q rfl) fun a q=>zl q (r_load isAgg9 q rfl (s.cell z1 rfl)) fun a q=>zl q (r_len_str underlying9 q rfl) fun a q=>?_
 obtain ⟨y_92,h_93,H⟩:=bs H
 refine sl_callV call91 s q (by decide) rfl rfl rfl (ref01_order.calls (a0.S.size : Int) (a1.S.size : Int) h_93 _) fun a w s q=>?_
 refine za q rfl fun a q=>zn ?_
 obtain rfl:=Option.some.inj H
 refine wp_ret ?_
 repeat first | refine zt ?_ | refine zb ?_ | refine zo ?_
 exact ret_1 results61 q (rv_tmp q rfl) ⟨rfl,s.bel⟩
 rw [ifb_f hb_91] at H
 refine wp_skip<|zq<|zq<|zr<|za q rfl fun a q=>zn ?_
 refine wp_block ?_
 refine wp_loop_k (fun k_l2 a w=>∃ (x_100 : Int),ref01_Compare.l2 a0 a1 k_l2 x_100 = some r ∧ Kn 97 a [(2,.pointer (some ⟨b_1,0,none⟩)),(3,.pointer (some ⟨b_2,0,none⟩)),(6,I6 x_100)] ∧ St [] w0 w (fun _=>none) [.cells b_1 (cV a0) 58,.cells b_2 (cV a1) 58]) (((8 : Int) - 0).toNat + 1) ?_ ?_
 have s:=s.pk1
 have s:=s.pk1
 exact ⟨0,H,q.sub (zc (zc (zc zz))),s⟩
 rintro k_l2 a w ⟨x_100,H,q,s⟩
 rcases k_l2 with _ | k_l2
 cases H
 rw [ref01_Compare.l2.eq_2] at H
 refine zq<|zq<|zr<|zm q rfl fun a q=>zl q (r_ibin q rfl rfl rfl) fun a q=>zn ?_
 refine wp_cond_split (q.ev rfl) (fun (hb_124 : (decide (x_100 < 8)) = true)=>?_) fun hb_124=>?_
 rw [ifb_t hb_124] at H
 refine wp_skip<|zq ?_
 refine wp_block ?_
 refine zq ?_
 refine par_region (C:=fun w=>St [] w0 w (fun _=>none) [.cells b_1 (cV a0) 58,.cells b_2 (cV a1) 58]) [(0,true),(1,true),(2,true),(3,true),(4,true),(5,true),(6,true),(7,true),(8,true)] mixed (by kernel_rfl) s (fun w s=>s) fun w s=>?_
 refine zp rfl q (fun w s=>r_move q rfl) fun a q=>zp rfl q (fun w s=>r_fieldAddr underlying58 rfl sizeOf56 q rfl) fun a q=>?_
 obtain ⟨y_129,h_130,H⟩:=bs H
 refine zp rfl q (fun w s=>r_indexAddr_arr underlying56 sizeOf3 q rfl rfl (Arr8.ix_lt h_130).1 (Arr8.ix_lt h_130).2) fun a q=>zp rfl q (fun w s=>r_load isAgg3 q rfl (s.cell z0 (Arr8.ix_cells h_130 [I6 a0.Kind,I6 a0.N,.string a0.S] [] rfl))) fun a q=>zp rfl q (fun w s=>r_move q rfl) fun a q=>zp rfl q (fun w s=>r_fieldAddr underlying58 rfl sizeOf56 q rfl) fun a q=>?_
 obtain ⟨y_131,h_132,H⟩:=bs H
 refine zp rfl q (fun w s=>r_indexAddr_arr underlying56 sizeOf3 q rfl rfl (Arr8.ix_lt h_132).1 (Arr8.ix_lt h_132).2) fun a q=>zp rfl q (fun w s=>r_load isAgg3 q rfl (s.cell z1 (Arr8.ix_cells h_132 [I6 a1.Kind,I6 a1.N,.string a1.S] [] rfl))) fun a q=>zp rfl q (fun w s=>r_ibin q rfl rfl rfl) fun a q=>?_
 refine wpPar_nil (NoP_nil ?_)
 refine wp_cond_split (q.ev rfl) (fun (hb_133 : (y_129 != y_131) = true)=>?_) fun hb_133=>?_
 rw [ifb_t hb_133] at H
 refine zq ?_
 refine parT_region (C:=fun w=>St [] w0 w (fun _=>none) [.cells b_1 (cV a0) 58,.cells b_2 (cV a1) 58]) 8 [(0,true),(1,true),(2,true),(3,true),(4,true),(5,true),(6,true),(7,true)] mixed (by kernel_rfl) s (fun w s=>s) fun w s=>?_
 refine zp rfl q (fun w s=>r_move q rfl) fun a q=>zp rfl q (fun w s=>r_fieldAddr underlying58 rfl sizeOf56 q rfl) fun a q=>?_
 obtain ⟨y_140,h_141,H⟩:=bs H
 refine zp rfl q (fun w s=>r_indexAddr_arr underlying56 sizeOf3 q rfl rfl (Arr8.ix_lt h_141).1 (Arr8.ix_lt h_141).2) fun a q=>zp rfl q (fun w s=>r_load isAgg3 q rfl (s.cell z0 (Arr8.ix_cells h_141 [I6 a0.Kind,I6 a0.N,.string a0.S] [] rfl))) fun a q=>zp rfl q (fun w s=>r_move q rfl) fun a q=>zp rfl q (fun w s=>r_fieldAddr underlying58 rfl sizeOf56 q rfl) fun a q=>?_
 obtain ⟨y_142,h_143,H⟩:=bs H
 refine zp rfl q (fun w s=>r_indexAddr_arr underlying56 sizeOf3 q rfl rfl (Arr8.ix_lt h_143).1 (Arr8.ix_lt h_143).2) fun a q=>zp rfl q (fun w s=>r_load isAgg3 q rfl (s.cell z1 (Arr8.ix_cells h_143 [I6 a1.Kind,I6 a1.N,.string a1.S] [] rfl))) fun a q=>?_
 refine thenL_nil ?_
 obtain ⟨y_144,h_145,H⟩:=bs H
 refine sl_callV call91 s q (by decide) rfl rfl rfl (ref01_order.calls y_140 y_142 h_145 _) fun a w s q=>?_
 refine za q rfl fun a q=>?_
 refine wpList_nil (NoP_nil ?_)
 obtain rfl:=Option.some.inj H
 refine wp_ret ?_
 repeat first | refine zt ?_ | refine zb ?_ | refine zo ?_
 exact ret_1 results61 q (rv_tmp q rfl) ⟨rfl,s.bel⟩
 rw [ifb_f hb_133] at H
 refine wp_skip<|zr<|zm q rfl fun a q=>zl q (r_ibin q rfl rfl rfl) fun a q=>za q rfl fun a q=>zn ?_
 have s:=s.pk1
 have s:=s.pk1
 exact ⟨_,Nat.lt_succ_self _,(IntKind.i64.wrap (x_100 + 1)),H,q.sub (zc (zc (zc zz))),s⟩
 rw [ifb_f hb_124] at H
 refine wp_exit ?_
 refine zq<|zr<|za q rfl fun a q=>zn ?_
 obtain rfl:=Option.some.inj H
 refine wp_ret ?_
 repeat first | refine zt ?_ | refine zb ?_ | refine zo ?_
 exact ret_1 results61 q (rv_tmp q rfl) ⟨rfl,s.bel⟩
theorem ref02_Row.calls (a0 : List api_Value) (a1 : List api_Value) {w0 : World} {RA : Hp} {v0_0 : Value} {v1_0 : Value} (hRA : RA.sub w0) (h0_0 : SlR ty_api_Value RA v0_0 a0) (h1_0 : SlR ty_api_Value RA v1_0 a1) {r : Int} (H : ref02_Row a0 a1 = some r) : CallsV prog 37 #[v0_0,v1_0] w0 (I6 r):=by
 unfold ref02_Row at H
 refine enter (args:=[v0_0,v1_0]) func37 rfl ntmps37 rfl fun a q=>?_
 have s:=St.init (R:=fun _=>none) (w:=w0) (fun _ _ h=>by cases h)
 have hRL:=RLe.refl (M:=[]) w0 (fun _=>none)
 refine zq<|zr<|za q rfl fun a q=>zn<|zq<|zq<|zr<|za q rfl fun a q=>zn ?_
 refine wp_block ?_
 refine wp_loop_k (fun k_l0 a w=>∃ (x_48 : Int),ref02_Row.l0 a0 a1 k_l0 x_48 = some r ∧ Kn 41 a [(0,v0_0),(1,v1_0),(5,I6 x_48)] ∧ St [] w0 w (fun _=>none) []) (((a0.length : Int) - 0).toNat + 1) ?_ ?_
 exact ⟨0,H,q.sub (zc (zc (zc zz))),s⟩
 rintro k_l0 a w ⟨x_48,H,q,s⟩
 rcases k_l0 with _ | k_l0
 cases H
 rw [ref02_Row.l0.eq_2] at H
 refine zq<|zq ?_
 refine wp_mid (fun a w=>∃ (x_98 : Bool),ref02_Row.j1 (ref02_Row.l0 a0 a1 k_l0) a0 a1 x_48 x_98 = some r ∧ Kn 41 a [(0,v0_0),(1,v1_0),(5,I6 x_48),(16,.bool x_98)] ∧ St [] w0 w (fun _=>none) []) ?_ ?_
 refine zr<|zm q rfl fun a q=>zm q rfl fun a q=>zl q (r_len_R underlying31 h0_0 q rfl) fun a q=>zl q (r_ibin q rfl rfl rfl) fun a q=>zm q rfl fun a q=>?_
 rcases or_b (decide (x_48 < (a0.length : Int))) with hb_100 | hb_100
 rw [ifb_t hb_100] at H
 refine zw q (wtt hb_100) (r_move q rfl) fun a q=>zw q (wtt hb_100) (r_move q rfl) fun a q=>zw q (wtt hb_100) (r_len_R underlying31 h1_0 q rfl) fun a q=>zw q (wtt hb_100) (r_ibin q rfl rfl rfl) fun a q=>zl q (r_pick_t hb_100 q rfl rfl) fun a q=>zn ?_
 exact ⟨(decide (x_48 < (a1.length : Int))),H,q.sub (zc (zc (zc (zc zz)))),s⟩
 rw [ifb_f hb_100] at H
 refine zsw q (wtf hb_100) fun a q=>zsw q (wtf hb_100) fun a q=>zsw q (wtf hb_100) fun a q=>zsw q (wtf hb_100) fun a q=>zl q (r_pick_f hb_100 q rfl rfl) fun a q=>zn ?_
 exact ⟨false,H,q.sub (zc (zc (zc (zc zz)))),s⟩
 rintro a w ⟨x_98,H,q,s⟩
 unfold ref02_Row.j1 at H
 refine wp_cond_split (q.ev rfl) (fun (hb_101 : x_98 = true)=>?_) fun hb_101=>?_
 rw [ifb_t hb_101] at H
 refine wp_skip<|zq ?_
 refine wp_block ?_
 refine zq ?_
 refine parT_region (C:=fun w=>St [] w0 w (fun _=>none) []) 8 [(0,true),(1,true),(2,true),(3,true),(4,true),(5,true),(6,true),(7,true)] mixed (by kernel_rfl) s (fun w s=>s) fun w s=>?_
 refine zp rfl q (fun w s=>r_move q rfl) fun a q=>zp rfl q (fun w s=>r_move q rfl) fun a q=>?_
 obtain ⟨y_122,h_123,H⟩:=bs H
 obtain ⟨b_124,o_125,c_126,cs_127,hv_128,hr_129,hc_130,h_1230,h_1231⟩:=h0_0.ix h_123
 subst hr_129
 refine zp rfl q (fun w s=>r_indexAddr_R underlying31 sizeOf58 hv_128 h_1230 h_1231 q rfl rfl) fun a q=>zp rfl q (fun w s=>r_loadA (cs:=(cV y_122)) isAgg58 sizeOf58 rfl q rfl (fun j v hv=>(s.ra hRA nil_not).cell (hc_130 j v hv))) fun a q=>zp rfl q (fun w s=>r_move q rfl) fun a q=>zp rfl q (fun w s=>r_move q rfl) fun a q=>?_
 obtain ⟨y_131,h_132,H⟩:=bs H
 obtain ⟨b_133,o_134,c_135,cs_136,hv_137,hr_138,hc_139,h_1320,h_1321⟩:=h1_0.ix h_132
 subst hr_138
 refine zp rfl q (fun w s=>r_indexAddr_R underlying31 sizeOf58 hv_137 h_1320 h_1321 q rfl rfl) fun a q=>zp rfl q (fun w s=>r_loadA (cs:=(cV y_131)) isAgg58 sizeOf58 rfl q rfl (fun j v hv=>(s.ra hRA nil_not).cell (hc_139 j v hv))) fun a q=>?_
 refine thenL_nil ?_
 obtain ⟨y_140,h_141,H⟩:=bs H
 refine sl_callV call61 s q (by decide) rfl rfl rfl (ref01_Compare.calls y_122 y_131 h_141 _) fun a w s q=>?_
 refine za q rfl fun a q=>?_
 refine wpList_nil (NoP_nil ?_)
 refine zq<|zr<|zm q rfl fun a q=>zl q (r_ibin q rfl rfl rfl) fun a q=>zn ?_
 refine wp_cond_split (q.ev rfl) (fun (hb_142 : (y_140 != 0) = true)=>?_) fun hb_142=>?_
 rw [ifb_t hb_142] at H
 refine zq<|zr<|zm q rfl fun a q=>za q rfl fun a q=>zn ?_
 obtain rfl:=Option.some.inj H
 refine wp_ret ?_
 repeat first | refine zt ?_ | refine zb ?_ | refine zo ?_
 exact ret_1 results37 q (rv_tmp q rfl) ⟨rfl,s.bel⟩
 rw [ifb_f hb_142] at H
 refine wp_skip<|zr<|zm q rfl fun a q=>zl q (r_ibin q rfl rfl rfl) fun a q=>za q rfl fun a q=>zn ?_
 exact ⟨_,Nat.lt_succ_self _,(IntKind.i64.wrap (x_48 + 1)),H,q.sub (zc (zc (zc zz))),s⟩
 rw [ifb_f hb_101] at H
 refine wp_exit ?_
 refine zq<|zq<|zr<|zm q rfl fun a q=>zl q (r_len_R underlying31 h0_0 q rfl) fun a q=>zm q rfl fun a q=>zl q (r_len_R underlying31 h1_0 q rfl) fun a q=>zl q (r_ibin q rfl rfl rfl) fun a q=>zn ?_
 refine wp_cond_split (q.ev rfl) (fun (hb_143 : (decide ((a0.length : Int) < (a1.length : Int))) = true)=>?_) fun hb_143=>?_
 rw [ifb_t hb_143] at H
 refine zq<|zr<|za q rfl fun a q=>zn ?_
 obtain rfl:=Option.some.inj H
 refine wp_ret ?_
 repeat first | refine zt ?_ | refine zb ?_ | refine zo ?_
 exact ret_1 results37 q (rv_tmp q rfl) ⟨rfl,s.bel⟩
 rw [ifb_f hb_143] at H
 refine wp_skip<|zq<|zq<|zr<|zm q rfl fun a q=>zl q (r_len_R underlying31 h0_0 q rfl) fun a q=>zm q rfl fun a q=>zl q (r_len_R underlying31 h1_0 q rfl) fun a q=>zl q (r_ibin q rfl rfl rfl) fun a q=>zn ?_
 refine wp_cond_split (q.ev rfl) (fun (hb_144 : (decide ((a0.length : Int) > (a1.length : Int))) = true)=>?_) fun hb_144=>?_
 rw [ifb_t hb_144] at H
 refine zq<|zr<|za q rfl fun a q=>zn ?_
 obtain rfl:=Option.some.inj H
 refine wp_ret ?_
 repeat first | refine zt ?_ | refine zb ?_ | refine zo ?_
 exact ret_1 results37 q (rv_tmp q rfl) ⟨rfl,s.bel⟩
 rw [ifb_f hb_144] at H
 refine wp_skip<|zq<|zr<|za q rfl fun a q=>zn ?_
 obtain rfl:=Option.some.inj H
 refine wp_ret ?_
 repeat first | refine zt ?_ | refine zb ?_ | refine zo ?_
 exact ret_1 results37 q (rv_tmp q rfl) ⟨rfl,s.bel⟩
theorem ref02_Same.calls (a0 : api_Table) (a1 : api_Table) {w0 : World} {RA : Hp} {v0_0 : Value} {v0_1 : Value} {v1_0 : Value} {v1_1 : Value} (hRA : RA.sub w0) (h0_0 : SlR ty_api_Col RA v0_0 a0.Cols) (h0_1 : SlR (tySl ty_api_Value) RA v0_1 a0.Rows) (h1_0 : SlR ty_api_Col RA v1_0 a1.Cols) (h1_1 : SlR (tySl ty_api_Value) RA v1_1 a1.Rows) {r : Bool} (H : ref02_Same a0 a1 = some r) : CallsV prog 13 #[.agg #[v0_0,v0_1],.agg #[v1_0,v1_1]] w0 (.bool r):=by
 unfold ref02_Same at H
 refine enter (args:=[.agg #[v0_0,v0_1],.agg #[v1_0,v1_1]]) func13 rfl ntmps13 rfl fun a q=>?_
 have s:=St.init (R:=fun _=>none) (w:=w0) (fun _ _ h=>by cases h)
 have hRL:=RLe.refl (M:=[]) w0 (fun _=>none)
 refine zq<|zr ?_
 refine sl_box s q (by decide) rfl rfl (c:=[v0_0,v0_1]) rfl fun a w b_1 s q=>?_
 refine sl_box s q (by decide) rfl rfl (c:=[v1_0,v1_1]) rfl fun a w b_2 s q=>?_
 refine za q rfl fun a q=>zn<|zq<|zq ?_
 refine wp_mid (fun a w=>∃ (x_6 : Bool),ref02_Same.j0 a0 a1 x_6 = some r ∧ Kn 40 a [(2,.pointer (some ⟨b_1,0,none⟩)),(3,.pointer (some ⟨b_2,0,none⟩)),(20,.bool x_6)] ∧ St [] w0 w (fun _=>none) [.cells b_1 [v0_0,v0_1] 41,.cells b_2 [v1_0,v1_1] 41]) ?_ ?_
 refine zr<|zl q (r_fieldAddr underlying41 rfl sizeOf38 q rfl) fun a q=>zl q (r_load isAgg38 q rfl (s.cell z1 rfl)) fun a q=>zl q (r_fieldAddr underlying41 rfl sizeOf38 q rfl) fun a q=>zl q (r_load isAgg38 q rfl (s.cell z0 rfl)) fun a q=>?_
 obtain ⟨y_8,h_9,H⟩:=bs H
 refine sl_callV call36 s q (by decide) rfl rfl rfl (ref02_SameCols.calls a0.Cols a1.Cols (lentOf_sub [] _) (h0_0.mono (s.raLe0 hRA nil_not)) (h1_0.mono (s.raLe0 hRA nil_not)) h_9) fun a w s q=>?_
 refine zl q (r_un q rfl (u_not _)) fun a q=>zm q rfl fun a q=>?_
 rcases or_b (!y_8) with hb_10 | hb_10
 rw [ifb_t hb_10] at H
 refine zsw q (wft hb_10) fun a q=>zsw q (wft hb_10) fun a q=>zsw q (wft hb_10) fun a q=>zsw q (wft hb_10) fun a q=>zsw q (wft hb_10) fun a q=>zsw q (wft hb_10) fun a q=>zsw q (wft hb_10) fun a q=>zl q (r_pick_t hb_10 q rfl rfl) fun a q=>zn ?_
 have s:=s.pk1
 exact ⟨true,H,q.sub (zc (zc (zc zz))),s⟩
 rw [ifb_f hb_10] at H
 refine zw q (wff hb_10) (r_fieldAddr underlying41 rfl sizeOf39 q rfl) fun a q=>zw q (wff hb_10) (r_load isAgg39 q rfl (s.cell z1 rfl)) fun a q=>zw q (wff hb_10) (r_len_R underlying39 h0_1 q rfl) fun a q=>zw q (wff hb_10) (r_fieldAddr underlying41 rfl sizeOf39 q rfl) fun a q=>zw q (wff hb_10) (r_load isAgg39 q rfl (s.cell z0 rfl)) fun a q=>zw q (wff hb_10) (r_len_R underlying39 h1_1 q rfl) fun a q=>zw q (wff hb_10) (r_ibin q rfl rfl rfl) fun a q=>zl q (r_pick_f hb_10 q rfl rfl) fun a q=>zn ?_
 have s:=s.pk1
 exact ⟨((a0.Rows.length : Int) != (a1.Rows.length : Int)),H,q.sub (zc (zc (zc zz))),s⟩
 rintro a w ⟨x_6,H,q,s⟩
 unfold ref02_Same.j0 at H
 refine wp_cond_split (q.ev rfl) (fun (hb_11 : x_6 = true)=>?_) fun hb_11=>?_
 rw [ifb_t hb_11] at H
 refine zq<|zr<|za q rfl fun a q=>zn ?_
 obtain rfl:=Option.some.inj H
 refine wp_ret ?_
 repeat first | refine zt ?_ | refine zb ?_ | refine zo ?_
 exact ret_1 results13 q (rv_tmp q rfl) ⟨rfl,s.bel⟩
 rw [ifb_f hb_11] at H
 refine wp_skip<|zq<|zq<|zr<|za q rfl fun a q=>zn ?_
 refine wp_block ?_
 refine wp_loop_k (fun k_l1 a w=>∃ (x_63 : Int),ref02_Same.l1 a0 a1 k_l1 x_63 = some r ∧ Kn 40 a [(2,.pointer (some ⟨b_1,0,none⟩)),(3,.pointer (some ⟨b_2,0,none⟩)),(5,I6 x_63)] ∧ St [] w0 w (fun _=>none) [.cells b_1 [v0_0,v0_1] 41,.cells b_2 [v1_0,v1_1] 41]) (((a0.Rows.length : Int) - 0).toNat + 1) ?_ ?_
 have s:=s.pk1
 have s:=s.pk1
 exact ⟨0,H,q.sub (zc (zc (zc zz))),s⟩
 rintro k_l1 a w ⟨x_63,H,q,s⟩
 rcases k_l1 with _ | k_l1
 cases H
 rw [ref02_Same.l1.eq_2] at H
 refine zq<|zq<|zr<|zm q rfl fun a q=>zl q (r_fieldAddr underlying41 rfl sizeOf39 q rfl) fun a q=>zl q (r_load isAgg39 q rfl (s.cell z0 rfl)) fun a q=>zl q (r_len_R underlying39 h0_1 q rfl) fun a q=>zl q (r_ibin q rfl rfl rfl) fun a q=>zn ?_
 refine wp_cond_split (q.ev rfl) (fun (hb_115 : (decide (x_63 < (a0.Rows.length : Int))) = true)=>?_) fun hb_115=>?_
 rw [ifb_t hb_115] at H
 refine wp_skip<|zq ?_
 refine wp_block ?_
 refine zq ?_
 refine parT_region (C:=fun w=>St [] w0 w (fun _=>none) [.cells b_1 [v0_0,v0_1] 41,.cells b_2 [v1_0,v1_1] 41]) 10 [(0,true),(1,true),(2,true),(3,true),(4,true),(5,true),(6,true),(7,true),(8,true),(9,true)] mixed (by kernel_rfl) s (fun w s=>s) fun w s=>?_
 refine zp rfl q (fun w s=>r_fieldAddr underlying41 rfl sizeOf39 q rfl) fun a q=>zp rfl q (fun w s=>r_load isAgg39 q rfl (s.cell z0 rfl)) fun a q=>zp rfl q (fun w s=>r_move q rfl) fun a q=>?_
 obtain ⟨y_140,h_141,H⟩:=bs H
 obtain ⟨b_142,o_143,c_144,cs_145,hv_146,hr_147,hc_148,h_1410,h_1411⟩:=h0_1.ix h_141
 obtain ⟨v_149,rfl,hs_150⟩:=hr_147
 refine zp rfl q (fun w s=>r_indexAddr_R underlying39 sizeOf31 hv_146 h_1410 h_1411 q rfl rfl) fun a q=>zp rfl q (fun w s=>r_load isAgg31 q rfl ((s.ra hRA nil_not).cell (hc_148 0 _ rfl))) fun a q=>zp rfl q (fun w s=>r_fieldAddr underlying41 rfl sizeOf39 q rfl) fun a q=>zp rfl q (fun w s=>r_load isAgg39 q rfl (s.cell z1 rfl)) fun a q=>zp rfl q (fun w s=>r_move q rfl) fun a q=>?_
 obtain ⟨y_151,h_152,H⟩:=bs H
 obtain ⟨b_153,o_154,c_155,cs_156,hv_157,hr_158,hc_159,h_1520,h_1521⟩:=h1_1.ix h_152
 obtain ⟨v_160,rfl,hs_161⟩:=hr_158
 refine zp rfl q (fun w s=>r_indexAddr_R underlying39 sizeOf31 hv_157 h_1520 h_1521 q rfl rfl) fun a q=>zp rfl q (fun w s=>r_load isAgg31 q rfl ((s.ra hRA nil_not).cell (hc_159 0 _ rfl))) fun a q=>?_
 refine thenL_nil ?_
 obtain ⟨y_162,h_163,H⟩:=bs H
 refine sl_callV call37 s q (by decide) rfl rfl rfl (ref02_Row.calls y_140 y_151 (lentOf_sub [] _) (hs_150.mono (s.raLe0 hRA nil_not)) (hs_161.mono (s.raLe0 hRA nil_not)) h_163) fun a w s q=>?_
 refine zl q (r_ibin q rfl rfl rfl) fun a q=>?_
 refine wpList_nil (NoP_nil ?_)
 refine wp_cond_split (q.ev rfl) (fun (hb_164 : (y_162 != 0) = true)=>?_) fun hb_164=>?_
 rw [ifb_t hb_164] at H
 refine zq<|zr<|za q rfl fun a q=>zn ?_
 obtain rfl:=Option.some.inj H
 refine wp_ret ?_
 repeat first | refine zt ?_ | refine zb ?_ | refine zo ?_
 exact ret_1 results13 q (rv_tmp q rfl) ⟨rfl,s.bel⟩
 rw [ifb_f hb_164] at H
 refine wp_skip<|zr<|zm q rfl fun a q=>zl q (r_ibin q rfl rfl rfl) fun a q=>za q rfl fun a q=>zn ?_
 have s:=s.pk1
 have s:=s.pk1
 exact ⟨_,Nat.lt_succ_self _,(IntKind.i64.wrap (x_63 + 1)),H,q.sub (zc (zc (zc zz))),s⟩
 rw [ifb_f hb_115] at H
 refine wp_exit ?_
 refine zq<|zr<|za q rfl fun a q=>zn ?_
 obtain rfl:=Option.some.inj H
 refine wp_ret ?_
 repeat first | refine zt ?_ | refine zb ?_ | refine zo ?_
 exact ret_1 results13 q (rv_tmp q rfl) ⟨rfl,s.bel⟩
end Go.Proofs.YtchgiggipimigaaGreatDoor.M
end
section
namespace Go.Proofs.YtchgiggipimigaaGreatDoor.M
open Go Go.Eng Go.Proofs Go.RowKit
set_option linter.unusedVariables false
set_option linter.unusedSimpArgs false
open Go.Proofs.Tryz
set_option maxHeartbeats 4000000
set_option maxRecDepth 100000
theorem law08_LeafOnce.calls (a0 : List Int) (a1 : List Int) (a2 : Int) {w0 : World} {RA : Hp} {v0_0 : Value} {v1_0 : Value} (hRA : RA.sub w0) (h0_0 : SlR (tyInt .i64) RA v0_0 a0) (h1_0 : SlR (tyInt .i64) RA v1_0 a1) (hG : GF RA) (H : law08_LeafOnce a0 a1 a2 = some true) : CallsV prog 3 #[v0_0,v1_0,I6 a2] w0 (.bool true):=by
 unfold law08_LeafOnce at H
 refine enter (args:=[v0_0,v1_0,I6 a2]) func3 rfl ntmps3 rfl fun a q=>?_
 have s:=St.init (R:=fun _=>none) (w:=w0) (fun _ _ h=>by cases h)
 have hRL:=RLe.refl (M:=[]) w0 (fun _=>none)
 refine zq<|zr<|za q rfl fun a q=>zn<|zq<|zr ?_
 obtain ⟨y_1,h_2,H⟩:=bs H
 refine sl_callV call7 s q (by decide) rfl rfl rfl (law08_shown.calls (lentOf_sub [] _) (GF.mono (s.raLe0 hRA nil_not) hG) h_2) fun a w s q=>?_
 refine za q rfl fun a q=>zn<|zq<|zr ?_
 obtain ⟨y_3,h_4,H⟩:=bs H
 refine sl_call call9 q (by decide) rfl rfl rfl (law08_load.calls s.sub h_4) fun a v_ w hv_ q=>?_
 obtain ⟨R_5,v_8,cs_9,hv_,hr_,hl_6,hq_10⟩:=hv_
 have hv_:=hv_.symm
 subst hv_
 obtain ⟨s,hl_6⟩:=s.sp0.back hr_ hl_6
 have s:=s.un1
 have hRL:=hRL.trans hl_6
 obtain ⟨R_11,s,hl_13,hs_12⟩:=s.fz_row hq_10 rfl rfl
 have hRL:=hRL.trans hl_13
 obtain ⟨y_14,h_15,H⟩:=bs H
 refine sl_call call8 q (by decide) rfl rfl rfl (leaf_New.calls y_3 1000 (lentOf_sub [] _) s.sub hs_12 (GF.mono (s.raLe0 hRA nil_not) hG) h_15) fun a v_ w hv_ q=>?_
 rcases hv_ with ⟨h_31,R_33,hv_,hr_,hl_34⟩ | ⟨y_18,h_32,R_16,b_19,v_20,b_22,v_24,cs_25,mb_27,mb_28,E_29,hv_,hr_,hl_17,hs_21,hq_26,hm_30⟩
 rw [oel_none h_31] at H
 have hv_:=hv_.symm
 subst hv_
 obtain ⟨s,hl_34⟩:=s.sp0.back hr_ hl_34
 have s:=s.un0
 have hRL:=hRL.trans hl_34
 refine zm q rfl fun a q=>zl q (r_extract q rfl rfl) fun a q=>zl q (r_extract q rfl rfl) fun a q=>za q rfl fun a q=>za q rfl fun a q=>zn<|zq<|zr ?_
 obtain ⟨y_35,h_36,H⟩:=bs H
 refine sl_call call9 q (by decide) rfl rfl rfl (law08_load.calls s.sub h_36) fun a v_ w hv_ q=>?_
 obtain ⟨R_37,v_40,cs_41,hv_,hr_,hl_38,hq_42⟩:=hv_
 have hv_:=hv_.symm
 subst hv_
 obtain ⟨s,hl_38⟩:=s.sp0.back hr_ hl_38
 have s:=s.un1
 have hRL:=hRL.trans hl_38
 obtain ⟨R_43,s,hl_45,hs_44⟩:=s.fz_row hq_42 rfl rfl
 have hRL:=hRL.trans hl_45
 obtain ⟨y_46,h_47,H⟩:=bs H
 refine sl_call call8 q (by decide) rfl rfl rfl (leaf_New.calls y_35 1000 (lentOf_sub [] _) s.sub hs_44 (GF.mono (s.raLe0 hRA nil_not) hG) h_47) fun a v_ w hv_ q=>?_
 rcases hv_ with ⟨h_63,R_65,hv_,hr_,hl_66⟩ | ⟨y_50,h_64,R_48,b_51,v_52,b_54,v_56,cs_57,mb_59,mb_60,E_61,hv_,hr_,hl_49,hs_53,hq_58,hm_62⟩
 rw [oel_none h_63] at H
 have hv_:=hv_.symm
 subst hv_
 obtain ⟨s,hl_66⟩:=s.sp0.back hr_ hl_66
 have s:=s.un0
 have hRL:=hRL.trans hl_66
 refine zm q rfl fun a q=>zl q (r_extract q rfl rfl) fun a q=>zl q (r_extract q rfl rfl) fun a q=>za q rfl fun a q=>za q rfl fun a q=>zn<|zq<|zq ?_
 refine wp_mid (fun a w=>law08_LeafOnce.j0  = some true ∧ Kn 193 a [(0,v0_0),(1,v1_0),(2,I6 a2),(8,.pointer none),(10,.pointer none),(57,.bool true)] ∧ St [] w0 w R_65 []) ?_ ?_
 refine zr<|zm q rfl fun a q=>zl q (r_un q rfl (u_not _)) fun a q=>zm q rfl fun a q=>?_
 rcases or_b (!y_1) with hb_69 | hb_69
 rw [ifb_t hb_69] at H
 refine zsw q (wft hb_69) fun a q=>zsw q (wft hb_69) fun a q=>zl q (r_pick_t hb_69 q rfl rfl) fun a q=>zm q rfl fun a q=>zs q fun a q=>zs q fun a q=>zl q (r_pick q rfl rfl rfl) fun a q=>zm q rfl fun a q=>zs q fun a q=>zs q fun a q=>zl q (r_pick q rfl rfl rfl) fun a q=>zm q rfl fun a q=>zs q fun a q=>zs q fun a q=>zl q (r_pick q rfl rfl rfl) fun a q=>zn ?_
 exact ⟨H,q.sub (zc (zc (zc (zc (zc (zc zz)))))),s⟩
 rw [ifb_f hb_69] at H
 refine zw q (wff hb_69) (r_move q rfl) fun a q=>zw q (wff hb_69) (r_pnn underlying24 q rfl rfl) fun a q=>zl q (r_pick_f hb_69 q rfl rfl) fun a q=>zm q rfl fun a q=>zs q fun a q=>zs q fun a q=>zl q (r_pick q rfl rfl rfl) fun a q=>zm q rfl fun a q=>zs q fun a q=>zs q fun a q=>zl q (r_pick q rfl rfl rfl) fun a q=>zm q rfl fun a q=>zs q fun a q=>zs q fun a q=>zl q (r_pick q rfl rfl rfl) fun a q=>zn ?_
 exact ⟨H,q.sub (zc (zc (zc (zc (zc (zc zz)))))),s⟩
 rintro a w ⟨H,q,s⟩
 unfold law08_LeafOnce.j0 at H
 refine wp_cond_true (q.ev rfl) ?_
 refine zq<|zr<|za q rfl fun a q=>zn ?_
 exact absurd (Option.some.inj H) (by decide)
 rw [oel_some h_64] at H
 have hv_:=hv_.symm
 subst hv_
 obtain ⟨s,hl_49⟩:=s.sp0.back hr_ hl_49
 have s:=s.un5
 have hRL:=hRL.trans hl_49
 refine zm q rfl fun a q=>zl q (r_extract q rfl rfl) fun a q=>zl q (r_extract q rfl rfl) fun a q=>za q rfl fun a q=>za q rfl fun a q=>zn<|zq<|zq ?_
 refine wp_mid (fun a w=>law08_LeafOnce.j1  = some true ∧ Kn 193 a [(0,v0_0),(1,v1_0),(2,I6 a2),(8,.pointer none),(10,.pointer (some ⟨b_51,0,none⟩)),(57,.bool true)] ∧ St [] w0 w R_48 [.row 113 2 v_56 y_50.dict.l.length cs_57,.mp mb_59 (kvs Value.string (Value.int .i64) y_50.dict.ids),.cells b_54 [I6 y_50.dict.most,v_56,.map (some mb_59)] 102,mbo mb_60 (kvs (Value.int .i64) id (mbp E_61)) 111 90 2 E_61,.cells b_51 [v_52,I6 y_50.room,I6 y_50.points,.pointer (some ⟨b_54,0,none⟩),.map (some mb_60)] 70]) ?_ ?_
 refine zr<|zm q rfl fun a q=>zl q (r_un q rfl (u_not _)) fun a q=>zm q rfl fun a q=>?_
 rcases or_b (!y_1) with hb_72 | hb_72
 rw [ifb_t hb_72] at H
 refine zsw q (wft hb_72) fun a q=>zsw q (wft hb_72) fun a q=>zl q (r_pick_t hb_72 q rfl rfl) fun a q=>zm q rfl fun a q=>zs q fun a q=>zs q fun a q=>zl q (r_pick q rfl rfl rfl) fun a q=>zm q rfl fun a q=>zs q fun a q=>zs q fun a q=>zl q (r_pick q rfl rfl rfl) fun a q=>zm q rfl fun a q=>zs q fun a q=>zs q fun a q=>zl q (r_pick q rfl rfl rfl) fun a q=>zn ?_
 have s:=s.pk4
 have s:=s.pk2
 have s:=s.pk4
 have s:=s.pk4
 exact ⟨H,q.sub (zc (zc (zc (zc (zc (zc zz)))))),s⟩
 rw [ifb_f hb_72] at H
 refine zw q (wff hb_72) (r_move q rfl) fun a q=>zw q (wff hb_72) (r_pnn underlying24 q rfl rfl) fun a q=>zl q (r_pick_f hb_72 q rfl rfl) fun a q=>zm q rfl fun a q=>zs q fun a q=>zs q fun a q=>zl q (r_pick q rfl rfl rfl) fun a q=>zm q rfl fun a q=>zs q fun a q=>zs q fun a q=>zl q (r_pick q rfl rfl rfl) fun a q=>zm q rfl fun a q=>zs q fun a q=>zs q fun a q=>zl q (r_pick q rfl rfl rfl) fun a q=>zn ?_
 have s:=s.pk4
 have s:=s.pk2
 have s:=s.pk4
 have s:=s.pk4
 exact ⟨H,q.sub (zc (zc (zc (zc (zc (zc zz)))))),s⟩
 rintro a w ⟨H,q,s⟩
 unfold law08_LeafOnce.j1 at H
 refine wp_cond_true (q.ev rfl) ?_
 refine zq<|zr<|za q rfl fun a q=>zn ?_
 exact absurd (Option.some.inj H) (by decide)
 rw [oel_some h_32] at H
 have hv_:=hv_.symm
 subst hv_
 obtain ⟨s,hl_17⟩:=s.sp0.back hr_ hl_17
 have s:=s.un5
 have hRL:=hRL.trans hl_17
 refine zm q rfl fun a q=>zl q (r_extract q rfl rfl) fun a q=>zl q (r_extract q rfl rfl) fun a q=>za q rfl fun a q=>za q rfl fun a q=>zn<|zq<|zr ?_
 obtain ⟨y_73,h_74,H⟩:=bs H
 refine sl_call call9 q (by decide) rfl rfl rfl (law08_load.calls s.sub h_74) fun a v_ w hv_ q=>?_
 obtain ⟨R_75,v_78,cs_79,hv_,hr_,hl_76,hq_80⟩:=hv_
 have hv_:=hv_.symm
 subst hv_
 obtain ⟨s,hl_76⟩:=s.sp0.back hr_ hl_76
 have s:=s.un1
 have hRL:=hRL.trans hl_76
 obtain ⟨R_81,s,hl_83,hs_82⟩:=s.fz_row hq_80 rfl rfl
 have hRL:=hRL.trans hl_83
 obtain ⟨y_84,h_85,H⟩:=bs H
 refine sl_call call8 q (by decide) rfl rfl rfl (leaf_New.calls y_73 1000 (lentOf_sub [] _) s.sub hs_82 (GF.mono (s.raLe0 hRA nil_not) hG) h_85) fun a v_ w hv_ q=>?_
 rcases hv_ with ⟨h_101,R_103,hv_,hr_,hl_104⟩ | ⟨y_88,h_102,R_86,b_89,v_90,b_92,v_94,cs_95,mb_97,mb_98,E_99,hv_,hr_,hl_87,hs_91,hq_96,hm_100⟩
 rw [oel_none h_101] at H
 have hv_:=hv_.symm
 subst hv_
 obtain ⟨s,hl_104⟩:=s.sp0.back hr_ hl_104
 have s:=s.un0
 have hRL:=hRL.trans hl_104
 refine zm q rfl fun a q=>zl q (r_extract q rfl rfl) fun a q=>zl q (r_extract q rfl rfl) fun a q=>za q rfl fun a q=>za q rfl fun a q=>zn<|zq<|zq ?_
 refine wp_mid (fun a w=>law08_LeafOnce.j2  = some true ∧ Kn 193 a [(0,v0_0),(1,v1_0),(2,I6 a2),(8,.pointer (some ⟨b_19,0,none⟩)),(10,.pointer none),(57,.bool true)] ∧ St [] w0 w R_103 [.row 113 2 v_24 y_18.dict.l.length cs_25,.mp mb_27 (kvs Value.string (Value.int .i64) y_18.dict.ids),.cells b_22 [I6 y_18.dict.most,v_24,.map (some mb_27)] 102,mbo mb_28 (kvs (Value.int .i64) id (mbp E_29)) 111 90 2 E_29,.cells b_19 [v_20,I6 y_18.room,I6 y_18.points,.pointer (some ⟨b_22,0,none⟩),.map (some mb_28)] 70]) ?_ ?_
 refine zr<|zm q rfl fun a q=>zl q (r_un q rfl (u_not _)) fun a q=>zm q rfl fun a q=>?_
 rcases or_b (!y_1) with hb_107 | hb_107
 rw [ifb_t hb_107] at H
 refine zsw q (wft hb_107) fun a q=>zsw q (wft hb_107) fun a q=>zl q (r_pick_t hb_107 q rfl rfl) fun a q=>zm q rfl fun a q=>zs q fun a q=>zs q fun a q=>zl q (r_pick q rfl rfl rfl) fun a q=>zm q rfl fun a q=>zs q fun a q=>zs q fun a q=>zl q (r_pick q rfl rfl rfl) fun a q=>zm q rfl fun a q=>zs q fun a q=>zs q fun a q=>zl q (r_pick q rfl rfl rfl) fun a q=>zn ?_
 have s:=s.pk4
 have s:=s.pk2
 have s:=s.pk4
 have s:=s.pk4
 exact ⟨H,q.sub (zc (zc (zc (zc (zc (zc zz)))))),s⟩
 rw [ifb_f hb_107] at H
 refine zw q (wff hb_107) (r_move q rfl) fun a q=>zw q (wff hb_107) (r_peq underlying24 q rfl rfl) fun a q=>zl q (r_pick_f hb_107 q rfl rfl) fun a q=>zm q rfl fun a q=>zm q rfl fun a q=>zl q (r_pnn underlying24 q rfl rfl) fun a q=>zl q (r_pick q rfl rfl rfl) fun a q=>zm q rfl fun a q=>zs q fun a q=>zs q fun a q=>zl q (r_pick q rfl rfl rfl) fun a q=>zm q rfl fun a q=>zs q fun a q=>zs q fun a q=>zl q (r_pick q rfl rfl rfl) fun a q=>zn ?_
 have s:=s.pk4
 have s:=s.pk2
 have s:=s.pk4
 have s:=s.pk4
 exact ⟨H,q.sub (zc (zc (zc (zc (zc (zc zz)))))),s⟩
 rintro a w ⟨H,q,s⟩
 unfold law08_LeafOnce.j2 at H
 refine wp_cond_true (q.ev rfl) ?_
 refine zq<|zr<|za q rfl fun a q=>zn ?_
 exact absurd (Option.some.inj H) (by decide)
 rw [oel_some h_102] at H
 have hv_:=hv_.symm
 subst hv_
 obtain ⟨s,hl_87⟩:=s.sp0.back hr_ hl_87
 have s:=s.un5
 have hRL:=hRL.trans hl_87
 refine zm q rfl fun a q=>zl q (r_extract q rfl rfl) fun a q=>zl q (r_extract q rfl rfl) fun a q=>za q rfl fun a q=>za q rfl fun a q=>zn<|zq<|zq ?_
 refine wp_mid (fun a w=>∃ (x_110 : Bool),law08_LeafOnce.j3 a0 a1 a2 y_18 y_88 x_110 = some true ∧ Kn 193 a [(0,v0_0),(1,v1_0),(2,I6 a2),(8,.pointer (some ⟨b_19,0,none⟩)),(10,.pointer (some ⟨b_89,0,none⟩)),(57,.bool x_110)] ∧ St [] w0 w R_86 [.row 113 2 v_24 y_18.dict.l.length cs_25,.mp mb_27 (kvs Value.string (Value.int .i64) y_18.dict.ids),.cells b_22 [I6 y_18.dict.most,v_24,.map (some mb_27)] 102,mbo mb_28 (kvs (Value.int .i64) id (mbp E_29)) 111 90 2 E_29,.cells b_19 [v_20,I6 y_18.room,I6 y_18.points,.pointer (some ⟨b_22,0,none⟩),.map (some mb_28)] 70,.row 113 2 v_94 y_88.dict.l.length cs_95,.mp mb_97 (kvs Value.string (Value.int .i64) y_88.dict.ids),.cells b_92 [I6 y_88.dict.most,v_94,.map (some mb_97)] 102,mbo mb_98 (kvs (Value.int .i64) id (mbp E_99)) 111 90 2 E_99,.cells b_89 [v_90,I6 y_88.room,I6 y_88.points,.pointer (some ⟨b_92,0,none⟩),.map (some mb_98)] 70]) ?_ ?_
 refine zr<|zm q rfl fun a q=>zl q (r_un q rfl (u_not _)) fun a q=>zm q rfl fun a q=>?_
 rcases or_b (!y_1) with hb_112 | hb_112
 rw [ifb_t hb_112] at H
 refine zsw q (wft hb_112) fun a q=>zsw q (wft hb_112) fun a q=>zl q (r_pick_t hb_112 q rfl rfl) fun a q=>zm q rfl fun a q=>zs q fun a q=>zs q fun a q=>zl q (r_pick q rfl rfl rfl) fun a q=>zm q rfl fun a q=>zs q fun a q=>zs q fun a q=>zl q (r_pick q rfl rfl rfl) fun a q=>zm q rfl fun a q=>zs q fun a q=>zs q fun a q=>zl q (r_pick q rfl rfl rfl) fun a q=>zn ?_
 have s:=s.pk4
 have s:=s.pk2
 have s:=s.pk4
 have s:=s.pk4
 have s:=s.pk5
 have s:=s.pk9
 have s:=s.pk7
 have s:=s.pk9
 have s:=s.pk9
 exact ⟨true,H,q.sub (zc (zc (zc (zc (zc (zc zz)))))),s⟩
 rw [ifb_f hb_112] at H
 refine zw q (wff hb_112) (r_move q rfl) fun a q=>zw q (wff hb_112) (r_peq underlying24 q rfl rfl) fun a q=>zl q (r_pick_f hb_112 q rfl rfl) fun a q=>zm q rfl fun a q=>zm q rfl fun a q=>zl q (r_peq underlying24 q rfl rfl) fun a q=>zl q (r_pick q rfl rfl rfl) fun a q=>zm q rfl fun a q=>zm q rfl fun a q=>zl q (r_ibin q rfl rfl rfl) fun a q=>zl q (r_pick q rfl rfl rfl) fun a q=>zm q rfl fun a q=>?_
 rcases or_b (y_14.2 != 0) with hb_113 | hb_113
 rw [ifb_t hb_113] at H
 refine zsw q (wft hb_113) fun a q=>zsw q (wft hb_113) fun a q=>zl q (r_pick_t hb_113 q rfl rfl) fun a q=>zn ?_
 have s:=s.pk4
 have s:=s.pk2
 have s:=s.pk4
 have s:=s.pk4
 have s:=s.pk5
 have s:=s.pk9
 have s:=s.pk7
 have s:=s.pk9
 have s:=s.pk9
 exact ⟨true,H,q.sub (zc (zc (zc (zc (zc (zc zz)))))),s⟩
 rw [ifb_f hb_113] at H
 refine zw q (wff hb_113) (r_move q rfl) fun a q=>zw q (wff hb_113) (r_ibin q rfl rfl rfl) fun a q=>zl q (r_pick_f hb_113 q rfl rfl) fun a q=>zn ?_
 have s:=s.pk4
 have s:=s.pk2
 have s:=s.pk4
 have s:=s.pk4
 have s:=s.pk5
 have s:=s.pk9
 have s:=s.pk7
 have s:=s.pk9
 have s:=s.pk9
 exact ⟨(y_84.2 != 0),H,q.sub (zc (zc (zc (zc (zc (zc zz)))))),s⟩
 rintro a w ⟨x_110,H,q,s⟩
 unfold law08_LeafOnce.j3 at H
 refine wp_cond_split (q.ev rfl) (fun (hb_114 : x_110 = true)=>?_) fun hb_114=>?_
 rw [ifb_t hb_114] at H
 refine zq<|zr<|za q rfl fun a q=>zn ?_
 exact absurd (Option.some.inj H) (by decide)
 rw [ifb_f hb_114] at H
 refine wp_skip<|zq<|zr<|zm q rfl fun a q=>zl q (r_len_R underlying22 h0_0 q rfl) fun a q=>zm q rfl fun a q=>zl q (r_len_R underlying22 h1_0 q rfl) fun a q=>zl q (r_min3 q rfl rfl rfl) fun a q=>za q rfl fun a q=>zn<|zq<|zr ?_
 refine sl_buildSliceC (zc:=[.string (⟨#[]⟩ : ByteArray),.slice none 0 0,I6 0,.slice none 0 0]) (zs:=[]) (ps:=[]) (c:=[]) underlying30 sizeOf33 zeroValue33 rfl pc_nil rfl rfl (by decide) (by kernel_rfl) rfl s q (by decide) rfl fun a w b_115 s q=>?_
 refine za q rfl fun a q=>zn<|zq<|zq<|zr<|za q rfl fun a q=>zn ?_
 refine wp_block ?_
 refine wp_loop_k (fun k_l4 a w=>∃ (x_179 : List api_Point) (x_183 : Int) (R_184 : Hp) (v_180 : Value) (cs_181 : List Value),law08_LeafOnce.l4 a0 a1 a2 y_18 y_88 k_l4 x_179 x_183 = some true ∧ RLe [] w0 R_86 R_184 ∧ Reps ty_api_Point R_184 cs_181 x_179 ∧ Kn 193 a [(0,v0_0),(1,v1_0),(2,I6 a2),(8,.pointer (some ⟨b_19,0,none⟩)),(10,.pointer (some ⟨b_89,0,none⟩)),(12,I6 (min (min (a0.length : Int) (a1.length : Int)) 100)),(13,v_180),(14,I6 x_183)] ∧ St [] w0 w R_184 [.row 113 2 v_24 y_18.dict.l.length cs_25,.mp mb_27 (kvs Value.string (Value.int .i64) y_18.dict.ids),.cells b_22 [I6 y_18.dict.most,v_24,.map (some mb_27)] 102,mbo mb_28 (kvs (Value.int .i64) id (mbp E_29)) 111 90 2 E_29,.cells b_19 [v_20,I6 y_18.room,I6 y_18.points,.pointer (some ⟨b_22,0,none⟩),.map (some mb_28)] 70,.row 113 2 v_94 y_88.dict.l.length cs_95,.mp mb_97 (kvs Value.string (Value.int .i64) y_88.dict.ids),.cells b_92 [I6 y_88.dict.most,v_94,.map (some mb_97)] 102,mbo mb_98 (kvs (Value.int .i64) id (mbp E_99)) 111 90 2 E_99,.cells b_89 [v_90,I6 y_88.room,I6 y_88.points,.pointer (some ⟨b_92,0,none⟩),.map (some mb_98)] 70,.row 33 4 v_180 x_179.length cs_181]) (((min (min (a0.length : Int) (a1.length : Int)) 100) - 0).toNat + 1) ?_ ?_
 have s:=s.row_lit (size:=4) (m:=0) rfl (by decide)
 have hq_243 : Reps ty_api_Point R_86 [] ([] : List api_Point):=(Reps.nil _ _)
 have s:=s.pk10
 have s:=s.pk10
 have s:=s.pk10
 have s:=s.pk10
 have s:=s.pk10
 have s:=s.pk10
 have s:=s.pk10
 have s:=s.pk10
 have s:=s.pk10
 have s:=s.pk10
 exact ⟨[],0,_,_,_,H,(RLe.refl _ _),hq_243,q.sub (zc (zc (zc (zc (zc (zc (zc (zc zz)))))))),s⟩
 rintro k_l4 a w ⟨x_179,x_183,R_184,v_180,cs_181,H,hl_185,hq_182,q,s⟩
 rcases k_l4 with _ | k_l4
 cases H
 rw [law08_LeafOnce.l4.eq_2] at H
 have hRL:=hRL.trans hl_185
 refine zq<|zq<|zr<|zm q rfl fun a q=>zm q rfl fun a q=>zl q (r_ibin q rfl rfl rfl) fun a q=>zn ?_
 refine wp_cond_split (q.ev rfl) (fun (hb_244 : (decide (x_183 < (min (min (a0.length : Int) (a1.length : Int)) 100))) = true)=>?_) fun hb_244=>?_
 rw [ifb_t hb_244] at H
 refine wp_skip<|zq ?_
 refine wp_block ?_
 refine zq<|zr<|zm q rfl fun a q=>zm q rfl fun a q=>?_
 obtain ⟨y_245,h_246,H⟩:=bs H
 obtain ⟨b_247,o_248,c_249,cs_250,hv_251,hr_252,hc_253,h_2460,h_2461⟩:=h0_0.ix h_246
 subst hr_252
 refine zl q (r_indexAddr_R underlying22 sizeOf3 hv_251 h_2460 h_2461 q rfl rfl) fun a q=>zl q (r_load isAgg3 q rfl ((s.ra hRA nil_not).cell (hc_253 0 _ rfl))) fun a q=>zl q (r_rem q rfl rfl (by decide)) fun a q=>?_
 refine za q rfl fun a q=>zn<|zq<|zr<|zm q rfl fun a q=>zm q rfl fun a q=>?_
 obtain ⟨y_254,h_255,H⟩:=bs H
 obtain ⟨b_256,o_257,c_258,cs_259,hv_260,hr_261,hc_262,h_2550,h_2551⟩:=h1_0.ix h_255
 subst hr_261
 refine zl q (r_indexAddr_R underlying22 sizeOf3 hv_260 h_2550 h_2551 q rfl rfl) fun a q=>zl q (r_load isAgg3 q rfl ((s.ra hRA nil_not).cell (hc_262 0 _ rfl))) fun a q=>zl q (r_rem q rfl rfl (by decide)) fun a q=>?_
 refine za q rfl fun a q=>zn<|zq<|zq<|zr<|zm q rfl fun a q=>zl q (r_ibin q rfl rfl rfl) fun a q=>zn ?_
 refine wp_mid (fun a w=>∃ (x_264 : Int),law08_LeafOnce.j5 (law08_LeafOnce.l4 a0 a1 a2 y_18 y_88 k_l4) a0 a1 x_179 x_183 y_254 x_264 = some true ∧ Kn 193 a [(0,v0_0),(1,v1_0),(2,I6 a2),(8,.pointer (some ⟨b_19,0,none⟩)),(10,.pointer (some ⟨b_89,0,none⟩)),(12,I6 (min (min (a0.length : Int) (a1.length : Int)) 100)),(13,v_180),(14,I6 x_183),(15,I6 x_264),(16,I6 (y_254.tmod 50))] ∧ St [] w0 w R_184 [.row 113 2 v_24 y_18.dict.l.length cs_25,.mp mb_27 (kvs Value.string (Value.int .i64) y_18.dict.ids),.cells b_22 [I6 y_18.dict.most,v_24,.map (some mb_27)] 102,mbo mb_28 (kvs (Value.int .i64) id (mbp E_29)) 111 90 2 E_29,.cells b_19 [v_20,I6 y_18.room,I6 y_18.points,.pointer (some ⟨b_22,0,none⟩),.map (some mb_28)] 70,.row 113 2 v_94 y_88.dict.l.length cs_95,.mp mb_97 (kvs Value.string (Value.int .i64) y_88.dict.ids),.cells b_92 [I6 y_88.dict.most,v_94,.map (some mb_97)] 102,mbo mb_98 (kvs (Value.int .i64) id (mbp E_99)) 111 90 2 E_99,.cells b_89 [v_90,I6 y_88.room,I6 y_88.points,.pointer (some ⟨b_92,0,none⟩),.map (some mb_98)] 70,.row 33 4 v_180 x_179.length cs_181]) ?_ ?_
 refine wp_cond_split (q.ev rfl) (fun (hb_266 : (decide ((y_245.tmod 7) < 0)) = true)=>?_) fun hb_266=>?_
 rw [ifb_t hb_266] at H
 refine zr<|zm q rfl fun a q=>zl q (r_un q rfl (u_neg _ _)) fun a q=>za q rfl fun a q=>zn ?_
 have s:=s.pk10
 have s:=s.pk10
 have s:=s.pk10
 have s:=s.pk10
 have s:=s.pk10
 have s:=s.pk10
 have s:=s.pk10
 have s:=s.pk10
 have s:=s.pk10
 have s:=s.pk10
 have s:=s.pk10
 exact ⟨(IntKind.i64.wrap (0 - (y_245.tmod 7))),H,q.sub (zc (zc (zc (zc (zc (zc (zc (zc (zc (zc zz)))))))))),s⟩
 rw [ifb_f hb_266] at H
 refine wp_skip ?_
 have s:=s.pk10
 have s:=s.pk10
 have s:=s.pk10
 have s:=s.pk10
 have s:=s.pk10
 have s:=s.pk10
 have s:=s.pk10
 have s:=s.pk10
 have s:=s.pk10
 have s:=s.pk10
 have s:=s.pk10
 exact ⟨(y_245.tmod 7),H,q.sub (zc (zc (zc (zc (zc (zc (zc (zc (zc (zc zz)))))))))),s⟩
 rintro a w ⟨x_264,H,q,s⟩
 unfold law08_LeafOnce.j5 at H
 refine zq<|zq<|zr<|zm q rfl fun a q=>zl q (r_ibin q rfl rfl rfl) fun a q=>zn ?_
 refine wp_mid (fun a w=>∃ (x_268 : Int),law08_LeafOnce.j6 (law08_LeafOnce.l4 a0 a1 a2 y_18 y_88 k_l4) a0 a1 x_179 x_183 x_264 x_268 = some true ∧ Kn 193 a [(0,v0_0),(1,v1_0),(2,I6 a2),(8,.pointer (some ⟨b_19,0,none⟩)),(10,.pointer (some ⟨b_89,0,none⟩)),(12,I6 (min (min (a0.length : Int) (a1.length : Int)) 100)),(13,v_180),(14,I6 x_183),(15,I6 x_264),(16,I6 x_268)] ∧ St [] w0 w R_184 [.row 113 2 v_24 y_18.dict.l.length cs_25,.mp mb_27 (kvs Value.string (Value.int .i64) y_18.dict.ids),.cells b_22 [I6 y_18.dict.most,v_24,.map (some mb_27)] 102,mbo mb_28 (kvs (Value.int .i64) id (mbp E_29)) 111 90 2 E_29,.cells b_19 [v_20,I6 y_18.room,I6 y_18.points,.pointer (some ⟨b_22,0,none⟩),.map (some mb_28)] 70,.row 113 2 v_94 y_88.dict.l.length cs_95,.mp mb_97 (kvs Value.string (Value.int .i64) y_88.dict.ids),.cells b_92 [I6 y_88.dict.most,v_94,.map (some mb_97)] 102,mbo mb_98 (kvs (Value.int .i64) id (mbp E_99)) 111 90 2 E_99,.cells b_89 [v_90,I6 y_88.room,I6 y_88.points,.pointer (some ⟨b_92,0,none⟩),.map (some mb_98)] 70,.row 33 4 v_180 x_179.length cs_181]) ?_ ?_
 refine wp_cond_split (q.ev rfl) (fun (hb_270 : (decide ((y_254.tmod 50) < 0)) = true)=>?_) fun hb_270=>?_
 rw [ifb_t hb_270] at H
 refine zr<|zm q rfl fun a q=>zl q (r_un q rfl (u_neg _ _)) fun a q=>za q rfl fun a q=>zn ?_
 have s:=s.pk10
 have s:=s.pk10
 have s:=s.pk10
 have s:=s.pk10
 have s:=s.pk10
 have s:=s.pk10
 have s:=s.pk10
 have s:=s.pk10
 have s:=s.pk10
 have s:=s.pk10
 have s:=s.pk10
 exact ⟨(IntKind.i64.wrap (0 - (y_254.tmod 50))),H,q.sub (zc (zc (zc (zc (zc (zc (zc (zc (zc (zc zz)))))))))),s⟩
 rw [ifb_f hb_270] at H
 refine wp_skip ?_
 have s:=s.pk10
 have s:=s.pk10
 have s:=s.pk10
 have s:=s.pk10
 have s:=s.pk10
 have s:=s.pk10
 have s:=s.pk10
 have s:=s.pk10
 have s:=s.pk10
 have s:=s.pk10
 have s:=s.pk10
 exact ⟨(y_254.tmod 50),H,q.sub (zc (zc (zc (zc (zc (zc (zc (zc (zc (zc zz)))))))))),s⟩
 rintro a w ⟨x_268,H,q,s⟩
 unfold law08_LeafOnce.j6 at H
 refine zr<|zm q rfl fun a q=>zm q rfl fun a q=>zl q (r_ibin q rfl rfl rfl) fun a q=>zl q (r_conv underlying3 underlying5 q rfl) fun a q=>?_
 refine sl_buildSliceF (zc:=[.int .u8 0]) (ps:=[(0,.int .u8 (IntKind.u8.wrap (IntKind.i64.wrap (97 + x_264))))]) (c:=[.int .u8 (IntKind.u8.wrap (IntKind.i64.wrap (97 + x_264)))]) [[.int .u8 (IntKind.u8.wrap (IntKind.i64.wrap (97 + x_264)))]] underlying35 sizeOf5 zeroValue5 rfl (pc_cons rfl pc_nil) rfl rfl (Nat.le_of_ble_eq_true rfl) rfl (zc zz) rfl s q (by decide) rfl fun a w b_271 s q=>?_
 obtain ⟨R_272,s,hl_274,hs_273⟩:=s.fz_lit (ty:=(tyInt .u8)) (xs:=[IntKind.u8.wrap (IntKind.i64.wrap (97 + x_264))]) (Reps.cons (show Ty.rep (tyInt .u8) _ [.int .u8 (IntKind.u8.wrap (IntKind.i64.wrap (97 + x_264)))] (IntKind.u8.wrap (IntKind.i64.wrap (97 + x_264))) from rfl) (Reps.nil _ _)) rfl
 have hRL:=hRL.trans hl_274
 refine zl q (r_conv_bs underlying35 underlying9 underlying5 hs_273 q rfl s.sub) fun a q=>zm q rfl fun a q=>zm q rfl fun a q=>zl q (r_ibin q rfl rfl rfl) fun a q=>zm q rfl fun a q=>zl q (r_ibin q rfl rfl rfl) fun a q=>?_
 obtain ⟨y_275,h_276,H⟩:=bs H
 refine sl_call call10 q (by decide) rfl rfl rfl (law08_point.calls (bstr [IntKind.u8.wrap (IntKind.i64.wrap (97 + x_264))]) x_268 (IntKind.i64.wrap ((IntKind.i64.wrap (100 * x_264)) + x_268)) s.sub h_276) fun a v_ w hv_ q=>?_
 obtain ⟨R_277,v_280,cs_281,v_284,cs_285,hv_,hr_,hl_278,hq_282,hq_286⟩:=hv_
 have hv_:=hv_.symm
 subst hv_
 obtain ⟨s,hl_278⟩:=s.sp0.back hr_ hl_278
 have s:=s.un2
 have hRL:=hRL.trans hl_278
 refine sl_buildSliceF (zc:=[.string (⟨#[]⟩ : ByteArray),.slice none 0 0,I6 0,.slice none 0 0]) (ps:=[(0,.agg #[.string y_275.Schema,v_280,I6 y_275.Time,v_284])]) (c:=[.string y_275.Schema,v_280,I6 y_275.Time,v_284]) [[.string y_275.Schema,v_280,I6 y_275.Time,v_284]] underlying30 sizeOf33 zeroValue33 rfl (pc_cons rfl pc_nil) rfl rfl (Nat.le_of_ble_eq_true rfl) rfl (zc zz) rfl s q (by decide) rfl fun a w b_287 s q=>?_
 have s:=s.pk13
 have s:=s.pk2
 obtain ⟨R_288,s,hl_290,hs_289⟩:=s.fz_row hq_282 rfl rfl
 have hRL:=hRL.trans hl_290
 have s:=s.pk2
 obtain ⟨R_291,s,hl_293,hs_292⟩:=s.fz_row (hq_286.mono hl_290.le) rfl rfl
 have hRL:=hRL.trans hl_293
 obtain ⟨y_294,h_295,H⟩:=bs H
 refine sl_append_L (ty:=ty_api_Point) (ys:=[y_275]) elT30 (by decide) rfl (hq_182.mono (hl_274.le.trans (hl_278.le.trans (hl_290.le.trans hl_293.le)))) rfl (Reps.cons (show Ty.rep ty_api_Point _ [.string y_275.Schema,v_280,I6 y_275.Time,v_284] y_275 from ⟨_,_,rfl,(hs_289.mono hl_293.le),hs_292⟩) (Reps.nil _ _)) rfl h_295 s q (by decide) rfl rfl rfl fun a w v_296 cs_297 hq_298 s q=>?_
 refine za q rfl fun a q=>zn<|zr<|zm q rfl fun a q=>zl q (r_ibin q rfl rfl rfl) fun a q=>za q rfl fun a q=>zn ?_
 have s:=s.pk10
 have s:=s.pk10
 have s:=s.pk10
 have s:=s.pk10
 have s:=s.pk10
 have s:=s.pk10
 have s:=s.pk10
 have s:=s.pk10
 have s:=s.pk10
 have s:=s.pk10
 exact ⟨_,Nat.lt_succ_self _,y_294,(IntKind.i64.wrap (x_183 + 1)),_,_,_,H,(hl_185.trans (hl_274.trans (hl_278.trans (hl_290.trans hl_293)))),hq_298,q.sub (zc (zc (zc (zc (zc (zc (zc (zc zz)))))))),s⟩
 rw [ifb_f hb_244] at H
 refine wp_exit ?_
 refine zq<|zq<|zr<|zm q rfl fun a q=>zl q (r_ibin q rfl rfl rfl) fun a q=>zn ?_
 refine wp_mid (fun a w=>∃ (x_301 : Int),law08_LeafOnce.j7 a0 a1 y_18 y_88 x_179 x_301 = some true ∧ Kn 193 a [(2,I6 x_301),(8,.pointer (some ⟨b_19,0,none⟩)),(10,.pointer (some ⟨b_89,0,none⟩)),(12,I6 (min (min (a0.length : Int) (a1.length : Int)) 100)),(13,v_180)] ∧ St [] w0 w R_184 [.row 113 2 v_24 y_18.dict.l.length cs_25,.mp mb_27 (kvs Value.string (Value.int .i64) y_18.dict.ids),.cells b_22 [I6 y_18.dict.most,v_24,.map (some mb_27)] 102,mbo mb_28 (kvs (Value.int .i64) id (mbp E_29)) 111 90 2 E_29,.cells b_19 [v_20,I6 y_18.room,I6 y_18.points,.pointer (some ⟨b_22,0,none⟩),.map (some mb_28)] 70,.row 113 2 v_94 y_88.dict.l.length cs_95,.mp mb_97 (kvs Value.string (Value.int .i64) y_88.dict.ids),.cells b_92 [I6 y_88.dict.most,v_94,.map (some mb_97)] 102,mbo mb_98 (kvs (Value.int .i64) id (mbp E_99)) 111 90 2 E_99,.cells b_89 [v_90,I6 y_88.room,I6 y_88.points,.pointer (some ⟨b_92,0,none⟩),.map (some mb_98)] 70,.row 33 4 v_180 x_179.length cs_181]) ?_ ?_
 refine wp_cond_split (q.ev rfl) (fun (hb_303 : (decide (a2 < 0)) = true)=>?_) fun hb_303=>?_
 rw [ifb_t hb_303] at H
 refine zr<|zm q rfl fun a q=>zl q (r_ibin q rfl rfl rfl) fun a q=>zl q (r_un q rfl (u_neg _ _)) fun a q=>za q rfl fun a q=>zn ?_
 have s:=s.pk10
 have s:=s.pk10
 have s:=s.pk10
 have s:=s.pk10
 have s:=s.pk10
 have s:=s.pk10
 have s:=s.pk10
 have s:=s.pk10
 have s:=s.pk10
 have s:=s.pk10
 have s:=s.pk10
 exact ⟨(IntKind.i64.wrap (0 - (IntKind.i64.wrap (a2 + 1)))),H,q.sub (zc (zc (zc (zc (zc zz))))),s⟩
 rw [ifb_f hb_303] at H
 refine wp_skip ?_
 have s:=s.pk10
 have s:=s.pk10
 have s:=s.pk10
 have s:=s.pk10
 have s:=s.pk10
 have s:=s.pk10
 have s:=s.pk10
 have s:=s.pk10
 have s:=s.pk10
 have s:=s.pk10
 have s:=s.pk10
 exact ⟨a2,H,q.sub (zc (zc (zc (zc (zc zz))))),s⟩
 rintro a w ⟨x_301,H,q,s⟩
 unfold law08_LeafOnce.j7 at H
 refine zq<|zq<|zr<|za q rfl fun a q=>zn ?_
 refine wp_block ?_
 refine wp_loop_k (fun k_l8 a w=>∃ (x_364 : List api_Schema) (x_365 : Int) (x_366 : Int) (x_368 : Int) (x_370 : List streams_stream) (x_375 : List (ByteArray × Int)) (x_377 : List (Int × runs_Run)) (x_382 : List api_Schema) (x_383 : Int) (x_384 : Int) (x_386 : Int) (x_388 : List streams_stream) (x_393 : List (ByteArray × Int)) (x_395 : List (Int × runs_Run)) (x_398 : Int) (R_399 : Hp) (v_362 : Value) (v_380 : Value) (v_371 : Value) (cs_372 : List Value) (v_389 : Value) (cs_390 : List Value) (E_378 : List (MB Int)) (E_396 : List (MB Int)) (b_374 : Nat) (b_367 : Nat) (b_376 : Nat) (b_392 : Nat) (b_385 : Nat) (b_394 : Nat),law08_LeafOnce.l8 a0 a1 x_179 x_301 k_l8 x_364 x_365 x_366 x_368 x_370 x_375 x_377 x_382 x_383 x_384 x_386 x_388 x_393 x_395 x_398 = some true ∧ RLe [] w0 R_184 R_399 ∧ SlR ty_api_Schema R_399 v_362 x_364 ∧ SlR ty_api_Schema R_399 v_380 x_382 ∧ Reps ty_streams_stream R_399 cs_372 x_370 ∧ Reps ty_streams_stream R_399 cs_390 x_388 ∧ MBel ty_api_Sample runs_Run.l R_399 E_378 x_377 ∧ MBel ty_api_Sample runs_Run.l R_399 E_396 x_395 ∧ Kn 193 a [(2,I6 x_301),(8,.pointer (some ⟨b_19,0,none⟩)),(10,.pointer (some ⟨b_89,0,none⟩)),(12,I6 (min (min (a0.length : Int) (a1.length : Int)) 100)),(13,v_180),(17,I6 x_398)] ∧ St [] w0 w R_399 [.row 113 2 v_371 x_370.length cs_372,.mp b_374 (kvs Value.string (Value.int .i64) x_375),.cells b_367 [I6 x_368,v_371,.map (some b_374)] 102,mbo b_376 (kvs (Value.int .i64) id (mbp E_378)) 111 90 2 E_378,.cells b_19 [v_362,I6 x_365,I6 x_366,.pointer (some ⟨b_367,0,none⟩),.map (some b_376)] 70,.row 113 2 v_389 x_388.length cs_390,.mp b_392 (kvs Value.string (Value.int .i64) x_393),.cells b_385 [I6 x_386,v_389,.map (some b_392)] 102,mbo b_394 (kvs (Value.int .i64) id (mbp E_396)) 111 90 2 E_396,.cells b_89 [v_380,I6 x_383,I6 x_384,.pointer (some ⟨b_385,0,none⟩),.map (some b_394)] 70,.row 33 4 v_180 x_179.length cs_181]) (((min (min (a0.length : Int) (a1.length : Int)) 100) - 0).toNat + 1) ?_ ?_
 have s:=s.pk10
 have s:=s.pk10
 have s:=s.pk10
 have s:=s.pk10
 have s:=s.pk10
 have s:=s.pk10
 have s:=s.pk10
 have s:=s.pk10
 have s:=s.pk10
 have s:=s.pk10
 have s:=s.pk10
 exact ⟨y_18.schemas,y_18.room,y_18.points,y_18.dict.most,y_18.dict.l,y_18.dict.ids,y_18.runs,y_88.schemas,y_88.room,y_88.points,y_88.dict.most,y_88.dict.l,y_88.dict.ids,y_88.runs,0,_,v_20,v_90,_,_,_,_,_,_,_,_,_,_,_,_,H,(RLe.refl _ _),(hs_21.mono (hl_76.le.trans (hl_83.le.trans (hl_87.le.trans hl_185.le)))),(hs_91.mono hl_185.le),(hq_26.mono (hl_76.le.trans (hl_83.le.trans (hl_87.le.trans hl_185.le)))),(hq_96.mono hl_185.le),(hm_30.mono (hl_76.le.trans (hl_83.le.trans (hl_87.le.trans hl_185.le)))),(hm_100.mono hl_185.le),q.sub (zc (zc (zc (zc (zc (zc zz)))))),s⟩
 rintro k_l8 a w ⟨x_364,x_365,x_366,x_368,x_370,x_375,x_377,x_382,x_383,x_384,x_386,x_388,x_393,x_395,x_398,R_399,v_362,v_380,v_371,cs_372,v_389,cs_390,E_378,E_396,b_374,b_367,b_376,b_392,b_385,b_394,H,hl_400,hs_363,hs_381,hq_373,hq_391,hm_379,hm_397,q,s⟩
 rcases k_l8 with _ | k_l8
 cases H
 rw [law08_LeafOnce.l8.eq_2] at H
 have hRL:=hRL.trans hl_400
 refine zq<|zq<|zr<|zm q rfl fun a q=>zm q rfl fun a q=>zl q (r_ibin q rfl rfl rfl) fun a q=>zn ?_
 refine wp_cond_split (q.ev rfl) (fun (hb_458 : (decide (x_398 < (min (min (a0.length : Int) (a1.length : Int)) 100))) = true)=>?_) fun hb_458=>?_
 rw [ifb_t hb_458] at H
 refine wp_skip<|zq ?_
 refine wp_block ?_
 refine zq<|zr<|zm q rfl fun a q=>zm q rfl fun a q=>zm q rfl fun a q=>?_
 obtain ⟨y_459,h_460,H⟩:=bs H
 obtain ⟨b_462,c_463,cs_464,hv_461,hr_465,hc_466,h_4600,h_4601⟩:=s.row_ix (.tail _ (.tail _ z8)) (hq_182.mono hl_400.le) rfl rfl h_460
 obtain ⟨v_467,v_469,rfl,hs_468,hs_470⟩:=hr_465
 refine zl q (r_indexAddr_R underlying30 sizeOf33 hv_461 h_4600 h_4601 q rfl rfl) fun a q=>zl q (r_loadA (cs:=[.string y_459.Schema,v_467,I6 y_459.Time,v_469]) isAgg33 sizeOf33 rfl q rfl (fun j v hv=>by have:=s.row_cell (.tail _ (.tail _ z8)) hv_461 (hc_466 j v hv); simpa [Nat.add_assoc] using this)) fun a q=>?_
 obtain ⟨y_471,h_472,H⟩:=bs H
 have s:=s.pk3
 have s:=s.pk2
 have s:=s.pk2
 have s:=s.pk3
 have s:=s.pk4
 have hS1:=s.sp5
 refine sl_call call11 q (by decide) rfl rfl rfl (leaf_Leaf_Write.calls (⟨x_364,x_365,x_366,(⟨x_368,x_370,x_375⟩ : streams_Dict),x_377⟩ : leaf_Leaf) y_459 (lentOf_sub _ _) lentOf_not hS1.lend hs_363 hq_373 hm_379 (hs_468.mono hS1.rLe) (hs_470.mono hS1.rLe) (GF.mono (hS1.raLe hRA nil_not) hG) h_472) fun a v_ w hv_ q=>?_
 obtain ⟨R_473,v_475,b_477,v_479,cs_480,mb_482,mb_483,E_484,hv_,hr_,hl_474,hs_476,hq_481,hm_485⟩:=hv_
 have hv_:=hv_.symm
 subst hv_
 obtain ⟨s,hl_474⟩:=hS1.back hr_ hl_474
 have s:=s.un5
 have hRL:=hRL.trans hl_474
 refine zn<|zr<|zm q rfl fun a q=>zm q rfl fun a q=>zm q rfl fun a q=>zm q rfl fun a q=>zm q rfl fun a q=>?_
 rcases or_b ((min (min (a0.length : Int) (a1.length : Int)) 100) != 0) with hn_486 | hn_486
 rw [ifb_t hn_486] at H
 refine zl q (r_rem q rfl rfl (ne_of_bne hn_486)) fun a q=>zl q (r_ibin q rfl rfl rfl) fun a q=>zm q rfl fun a q=>?_
 rcases or_b ((min (min (a0.length : Int) (a1.length : Int)) 100) != 0) with hn_487 | hn_487
 rw [ifb_t hn_487] at H
 refine zl q (r_rem q rfl rfl (ne_of_bne hn_487)) fun a q=>?_
 obtain ⟨y_488,h_489,H⟩:=bs H
 obtain ⟨b_491,c_492,cs_493,hv_490,hr_494,hc_495,h_4890,h_4891⟩:=s.row_ix (.tail _ (.tail _ z8)) (hq_182.mono (hl_400.le.trans hl_474.le)) rfl rfl h_489
 obtain ⟨v_496,v_498,rfl,hs_497,hs_499⟩:=hr_494
 refine zl q (r_indexAddr_R underlying30 sizeOf33 hv_490 h_4890 h_4891 q rfl rfl) fun a q=>zl q (r_loadA (cs:=[.string y_488.Schema,v_496,I6 y_488.Time,v_498]) isAgg33 sizeOf33 rfl q rfl (fun j v hv=>by have:=s.row_cell (.tail _ (.tail _ z8)) hv_490 (hc_495 j v hv); simpa [Nat.add_assoc] using this)) fun a q=>?_
 obtain ⟨y_500,h_501,H⟩:=bs H
 have s:=s.pk8
 have s:=s.pk7
 have s:=s.pk7
 have s:=s.pk8
 have s:=s.pk9
 have hS1:=s.sp5
 refine sl_call call11 q (by decide) rfl rfl rfl (leaf_Leaf_Write.calls (⟨x_382,x_383,x_384,(⟨x_386,x_388,x_393⟩ : streams_Dict),x_395⟩ : leaf_Leaf) y_488 (lentOf_sub _ _) lentOf_not hS1.lend (hs_381.mono hl_474.le) (hq_391.mono hl_474.le) (hm_397.mono hl_474.le) (hs_497.mono hS1.rLe) (hs_499.mono hS1.rLe) (GF.mono (hS1.raLe hRA nil_not) hG) h_501) fun a v_ w hv_ q=>?_
 obtain ⟨R_502,v_504,b_506,v_508,cs_509,mb_511,mb_512,E_513,hv_,hr_,hl_503,hs_505,hq_510,hm_514⟩:=hv_
 have hv_:=hv_.symm
 subst hv_
 obtain ⟨s,hl_503⟩:=hS1.back hr_ hl_503
 have s:=s.un5
 have hRL:=hRL.trans hl_503
 refine zn<|zr<|zm q rfl fun a q=>zl q (r_ibin q rfl rfl rfl) fun a q=>za q rfl fun a q=>zn ?_
 have s:=s.pk10
 have s:=s.pk1
 have s:=s.pk5
 have s:=s.pk3
 have s:=s.pk5
 have s:=s.pk5
 have s:=s.pk6
 have s:=s.pk10
 have s:=s.pk8
 have s:=s.pk10
 have s:=s.pk10
 exact ⟨_,Nat.lt_succ_self _,y_471.2.2.schemas,y_471.2.2.room,y_471.2.2.points,y_471.2.2.dict.most,y_471.2.2.dict.l,y_471.2.2.dict.ids,y_471.2.2.runs,y_500.2.2.schemas,y_500.2.2.room,y_500.2.2.points,y_500.2.2.dict.most,y_500.2.2.dict.l,y_500.2.2.dict.ids,y_500.2.2.runs,(IntKind.i64.wrap (x_398 + 1)),_,v_475,v_504,_,_,_,_,_,_,_,_,_,_,_,_,H,(hl_400.trans (hl_474.trans hl_503)),(hs_476.mono hl_503.le),hs_505,(hq_481.mono hl_503.le),hq_510,(hm_485.mono hl_503.le),hm_514,q.sub (zc (zc (zc (zc (zc (zc zz)))))),s⟩
 rw [ifb_f hn_487] at H
 cases H
 rw [ifb_f hn_486] at H
 cases H
 rw [ifb_f hb_458] at H
 refine wp_exit ?_
 refine zq<|zr<|zm q rfl fun a q=>?_
 obtain ⟨y_515,h_516,H⟩:=bs H
 have s:=s.pk3
 have s:=s.pk2
 have s:=s.pk2
 have s:=s.pk3
 have s:=s.pk4
 have hS1:=s.sp5
 refine sl_call call12 q (by decide) rfl rfl rfl (leaf_Leaf_Scan.calls (⟨x_364,x_365,x_366,(⟨x_368,x_370,x_375⟩ : streams_Dict),x_377⟩ : leaf_Leaf) (⟨#[108,111,97,100]⟩ : ByteArray) 0 100 hS1.lend hs_363 hq_373 hm_379 h_516) fun a v_ w hv_ q=>?_
 obtain ⟨R_517,v_520,cs_521,v_524,cs_525,v_527,b_529,v_531,cs_532,mb_534,mb_535,E_536,hv_,hr_,hl_518,hq_522,hq_526,hs_528,hq_533,hm_537⟩:=hv_
 have hv_:=hv_.symm
 subst hv_
 obtain ⟨s,hl_518⟩:=hS1.back hr_ hl_518
 have s:=s.un7
 have hRL:=hRL.trans hl_518
 refine zm q rfl fun a q=>zl q (r_extract q rfl rfl) fun a q=>zl q (r_extract q rfl rfl) fun a q=>?_
 refine sl_alloc zeroValue41 s q (by decide) rfl rfl fun a w b_538 s q=>?_
 refine sl_storeA (vs:=[v_520,v_524]) (c':=[v_520,v_524]) sizeOf41 s q rfl rfl rfl rfl (all_cons (s.row_one z1) (all_cons (s.row_one z2) zz)) (Nat.le_of_ble_eq_true rfl) rfl fun a w s q=>?_
 refine za q rfl fun a q=>zn<|zq<|zq<|zr<|za q rfl fun a q=>zn ?_
 refine wp_block ?_
 refine wp_loop_k (fun k_l9 a w=>∃ (x_575 : List api_Schema) (x_576 : Int) (x_577 : Int) (x_579 : Int) (x_581 : List streams_stream) (x_586 : List (ByteArray × Int)) (x_588 : List (Int × runs_Run)) (x_591 : Int) (R_592 : Hp) (v_573 : Value) (v_582 : Value) (cs_583 : List Value) (E_589 : List (MB Int)) (b_585 : Nat) (b_578 : Nat) (b_587 : Nat),law08_LeafOnce.l9 a0 a1 x_179 x_382 x_383 x_384 x_386 x_388 x_393 x_395 y_515 k_l9 x_575 x_576 x_577 x_579 x_581 x_586 x_588 x_591 = some true ∧ RLe [] w0 R_517 R_592 ∧ SlR ty_api_Schema R_592 v_573 x_575 ∧ Reps ty_streams_stream R_592 cs_583 x_581 ∧ MBel ty_api_Sample runs_Run.l R_592 E_589 x_588 ∧ Kn 193 a [(8,.pointer (some ⟨b_19,0,none⟩)),(10,.pointer (some ⟨b_89,0,none⟩)),(12,I6 (min (min (a0.length : Int) (a1.length : Int)) 100)),(13,v_180),(18,.pointer (some ⟨b_538,0,none⟩)),(19,I6 y_515.2.1),(20,I6 x_591)] ∧ St [] w0 w R_592 [.row 113 2 v_582 x_581.length cs_583,.mp b_585 (kvs Value.string (Value.int .i64) x_586),.cells b_578 [I6 x_579,v_582,.map (some b_585)] 102,mbo b_587 (kvs (Value.int .i64) id (mbp E_589)) 111 90 2 E_589,.cells b_19 [v_573,I6 x_576,I6 x_577,.pointer (some ⟨b_578,0,none⟩),.map (some b_587)] 70,.row 113 2 v_389 x_388.length cs_390,.mp b_392 (kvs Value.string (Value.int .i64) x_393),.cells b_385 [I6 x_386,v_389,.map (some b_392)] 102,mbo b_394 (kvs (Value.int .i64) id (mbp E_396)) 111 90 2 E_396,.cells b_89 [v_380,I6 x_383,I6 x_384,.pointer (some ⟨b_385,0,none⟩),.map (some b_394)] 70,.row 33 4 v_180 x_179.length cs_181,.row 65 2 v_520 y_515.1.Cols.length cs_521,.row 31 1 v_524 y_515.1.Rows.length cs_525,.cells b_538 [v_520,v_524] 41]) (((min (min (a0.length : Int) (a1.length : Int)) 100) - 0).toNat + 1) ?_ ?_
 have s:=s.pk2
 have s:=s.pk2
 have s:=s.pk13
 have s:=s.pk13
 have s:=s.pk13
 have s:=s.pk13
 have s:=s.pk13
 have s:=s.pk13
 have s:=s.pk9
 have s:=s.pk13
 have s:=s.pk11
 have s:=s.pk13
 have s:=s.pk13
 exact ⟨y_515.2.2.schemas,y_515.2.2.room,y_515.2.2.points,y_515.2.2.dict.most,y_515.2.2.dict.l,y_515.2.2.dict.ids,y_515.2.2.runs,0,_,v_527,_,_,_,_,_,_,H,(RLe.refl _ _),hs_528,hq_533,hm_537,q.sub (zc (zc (zc (zc (zc (zc (zc zz))))))),s⟩
 rintro k_l9 a w ⟨x_575,x_576,x_577,x_579,x_581,x_586,x_588,x_591,R_592,v_573,v_582,cs_583,E_589,b_585,b_578,b_587,H,hl_593,hs_574,hq_584,hm_590,q,s⟩
 rcases k_l9 with _ | k_l9
 cases H
 rw [law08_LeafOnce.l9.eq_2] at H
 have hRL:=hRL.trans hl_593
 refine zq<|zq<|zr<|zm q rfl fun a q=>zm q rfl fun a q=>zl q (r_ibin q rfl rfl rfl) fun a q=>zn ?_
 refine wp_cond_split (q.ev rfl) (fun (hb_627 : (decide (x_591 < (min (min (a0.length : Int) (a1.length : Int)) 100))) = true)=>?_) fun hb_627=>?_
 rw [ifb_t hb_627] at H
 refine wp_skip<|zq ?_
 refine wp_block ?_
 refine zq<|zr<|zm q rfl fun a q=>zm q rfl fun a q=>zm q rfl fun a q=>?_
 obtain ⟨y_628,h_629,H⟩:=bs H
 obtain ⟨b_631,c_632,cs_633,hv_630,hr_634,hc_635,h_6290,h_6291⟩:=s.row_ix (.tail _ (.tail _ z8)) (hq_182.mono (hl_400.le.trans (hl_518.le.trans hl_593.le))) rfl rfl h_629
 obtain ⟨v_636,v_638,rfl,hs_637,hs_639⟩:=hr_634
 refine zl q (r_indexAddr_R underlying30 sizeOf33 hv_630 h_6290 h_6291 q rfl rfl) fun a q=>zl q (r_loadA (cs:=[.string y_628.Schema,v_636,I6 y_628.Time,v_638]) isAgg33 sizeOf33 rfl q rfl (fun j v hv=>by have:=s.row_cell (.tail _ (.tail _ z8)) hv_630 (hc_635 j v hv); simpa [Nat.add_assoc] using this)) fun a q=>?_
 obtain ⟨y_640,h_641,H⟩:=bs H
 have s:=s.pk3
 have s:=s.pk2
 have s:=s.pk2
 have s:=s.pk3
 have s:=s.pk4
 have hS1:=s.sp5
 refine sl_call call11 q (by decide) rfl rfl rfl (leaf_Leaf_Write.calls (⟨x_575,x_576,x_577,(⟨x_579,x_581,x_586⟩ : streams_Dict),x_588⟩ : leaf_Leaf) y_628 (lentOf_sub _ _) lentOf_not hS1.lend hs_574 hq_584 hm_590 (hs_637.mono hS1.rLe) (hs_639.mono hS1.rLe) (GF.mono (hS1.raLe hRA nil_not) hG) h_641) fun a v_ w hv_ q=>?_
 obtain ⟨R_642,v_644,b_646,v_648,cs_649,mb_651,mb_652,E_653,hv_,hr_,hl_643,hs_645,hq_650,hm_654⟩:=hv_
 have hv_:=hv_.symm
 subst hv_
 obtain ⟨s,hl_643⟩:=hS1.back hr_ hl_643
 have s:=s.un5
 have hRL:=hRL.trans hl_643
 refine zm q rfl fun a q=>zl q (r_extract q rfl rfl) fun a q=>zl q (r_extract q rfl rfl) fun a q=>za q rfl fun a q=>za q rfl fun a q=>zn<|zq ?_
 refine wp_mid (fun a w=>∃ (x_656 : Bool),law08_LeafOnce.j10 (law08_LeafOnce.l9 a0 a1 x_179 x_382 x_383 x_384 x_386 x_388 x_393 x_395 y_515 k_l9) a0 a1 x_591 y_640 x_656 = some true ∧ Kn 193 a [(8,.pointer (some ⟨b_19,0,none⟩)),(10,.pointer (some ⟨b_89,0,none⟩)),(12,I6 (min (min (a0.length : Int) (a1.length : Int)) 100)),(13,v_180),(18,.pointer (some ⟨b_538,0,none⟩)),(19,I6 y_515.2.1),(20,I6 x_591),(152,.bool x_656)] ∧ St [] w0 w R_642 [.row 113 2 v_648 y_640.2.2.dict.l.length cs_649,.mp mb_651 (kvs Value.string (Value.int .i64) y_640.2.2.dict.ids),.cells b_646 [I6 y_640.2.2.dict.most,v_648,.map (some mb_651)] 102,mbo mb_652 (kvs (Value.int .i64) id (mbp E_653)) 111 90 2 E_653,.cells b_19 [v_644,I6 y_640.2.2.room,I6 y_640.2.2.points,.pointer (some ⟨b_646,0,none⟩),.map (some mb_652)] 70,.row 113 2 v_389 x_388.length cs_390,.mp b_392 (kvs Value.string (Value.int .i64) x_393),.cells b_385 [I6 x_386,v_389,.map (some b_392)] 102,mbo b_394 (kvs (Value.int .i64) id (mbp E_396)) 111 90 2 E_396,.cells b_89 [v_380,I6 x_383,I6 x_384,.pointer (some ⟨b_385,0,none⟩),.map (some b_394)] 70,.row 33 4 v_180 x_179.length cs_181,.row 65 2 v_520 y_515.1.Cols.length cs_521,.row 31 1 v_524 y_515.1.Rows.length cs_525,.cells b_538 [v_520,v_524] 41]) ?_ ?_
 refine zr<|zm q rfl fun a q=>zm q rfl fun a q=>?_
 rcases or_b y_640.1 with hb_658 | hb_658
 rw [ifb_t hb_658] at H
 refine zsw q (wft hb_658) fun a q=>zsw q (wft hb_658) fun a q=>zl q (r_pick_t hb_658 q rfl rfl) fun a q=>zn ?_
 have s:=s.pk13
 have s:=s.pk13
 have s:=s.pk13
 have s:=s.pk13
 have s:=s.pk13
 have s:=s.pk13
 have s:=s.pk13
 have s:=s.pk13
 have s:=s.pk13
 have s:=s.pk9
 have s:=s.pk13
 have s:=s.pk11
 have s:=s.pk13
 have s:=s.pk13
 exact ⟨true,H,q.sub (zc (zc (zc (zc (zc (zc (zc (zc zz)))))))),s⟩
 rw [ifb_f hb_658] at H
 refine zw q (wff hb_658) (r_move q rfl) fun a q=>zw q (wff hb_658) (r_ibin q rfl rfl rfl) fun a q=>zl q (r_pick_f hb_658 q rfl rfl) fun a q=>zn ?_
 have s:=s.pk13
 have s:=s.pk13
 have s:=s.pk13
 have s:=s.pk13
 have s:=s.pk13
 have s:=s.pk13
 have s:=s.pk13
 have s:=s.pk13
 have s:=s.pk13
 have s:=s.pk9
 have s:=s.pk13
 have s:=s.pk11
 have s:=s.pk13
 have s:=s.pk13
 exact ⟨(y_640.2.1 != 0),H,q.sub (zc (zc (zc (zc (zc (zc (zc (zc zz)))))))),s⟩
 rintro a w ⟨x_656,H,q,s⟩
 unfold law08_LeafOnce.j10 at H
 refine wp_cond_split (q.ev rfl) (fun (hb_659 : x_656 = true)=>?_) fun hb_659=>?_
 rw [ifb_t hb_659] at H
 refine zq<|zr<|za q rfl fun a q=>zn ?_
 exact absurd (Option.some.inj H) (by decide)
 rw [ifb_f hb_659] at H
 refine wp_skip<|zr<|zm q rfl fun a q=>zl q (r_ibin q rfl rfl rfl) fun a q=>za q rfl fun a q=>zn ?_
 have s:=s.pk13
 have s:=s.pk13
 have s:=s.pk13
 have s:=s.pk13
 have s:=s.pk13
 have s:=s.pk13
 have s:=s.pk13
 have s:=s.pk13
 have s:=s.pk13
 have s:=s.pk13
 have s:=s.pk13
 have s:=s.pk13
 have s:=s.pk13
 have s:=s.pk13
 exact ⟨_,Nat.lt_succ_self _,y_640.2.2.schemas,y_640.2.2.room,y_640.2.2.points,y_640.2.2.dict.most,y_640.2.2.dict.l,y_640.2.2.dict.ids,y_640.2.2.runs,(IntKind.i64.wrap (x_591 + 1)),_,v_644,_,_,_,_,_,_,H,(hl_593.trans hl_643),hs_645,hq_650,hm_654,q.sub (zc (zc (zc (zc (zc (zc (zc zz))))))),s⟩
 rw [ifb_f hb_627] at H
 refine wp_exit ?_
 refine zq<|zr<|zm q rfl fun a q=>?_
 obtain ⟨y_660,h_661,H⟩:=bs H
 have s:=s.pk3
 have s:=s.pk2
 have s:=s.pk2
 have s:=s.pk3
 have s:=s.pk4
 have hS1:=s.sp5
 refine sl_call call12 q (by decide) rfl rfl rfl (leaf_Leaf_Scan.calls (⟨x_575,x_576,x_577,(⟨x_579,x_581,x_586⟩ : streams_Dict),x_588⟩ : leaf_Leaf) (⟨#[108,111,97,100]⟩ : ByteArray) 0 100 hS1.lend hs_574 hq_584 hm_590 h_661) fun a v_ w hv_ q=>?_
 obtain ⟨R_662,v_665,cs_666,v_669,cs_670,v_672,b_674,v_676,cs_677,mb_679,mb_680,E_681,hv_,hr_,hl_663,hq_667,hq_671,hs_673,hq_678,hm_682⟩:=hv_
 have hv_:=hv_.symm
 subst hv_
 obtain ⟨s,hl_663⟩:=hS1.back hr_ hl_663
 have s:=s.un7
 have hRL:=hRL.trans hl_663
 refine zm q rfl fun a q=>zl q (r_extract q rfl rfl) fun a q=>zl q (r_extract q rfl rfl) fun a q=>?_
 refine sl_alloc zeroValue41 s q (by decide) rfl rfl fun a w b_683 s q=>?_
 refine sl_storeA (vs:=[v_665,v_669]) (c':=[v_665,v_669]) sizeOf41 s q rfl rfl rfl rfl (all_cons (s.row_one z1) (all_cons (s.row_one z2) zz)) (Nat.le_of_ble_eq_true rfl) rfl fun a w s q=>?_
 refine za q rfl fun a q=>zn<|zq<|zr<|zm q rfl fun a q=>?_
 obtain ⟨y_684,h_685,H⟩:=bs H
 have s:=s.pk11
 have s:=s.pk10
 have s:=s.pk10
 have s:=s.pk11
 have s:=s.pk12
 have hS1:=s.sp5
 refine sl_call call12 q (by decide) rfl rfl rfl (leaf_Leaf_Scan.calls (⟨x_382,x_383,x_384,(⟨x_386,x_388,x_393⟩ : streams_Dict),x_395⟩ : leaf_Leaf) (⟨#[108,111,97,100]⟩ : ByteArray) 0 100 hS1.lend (hs_381.mono (hl_518.le.trans (hl_593.le.trans hl_663.le))) (hq_391.mono (hl_518.le.trans (hl_593.le.trans hl_663.le))) (hm_397.mono (hl_518.le.trans (hl_593.le.trans hl_663.le))) h_685) fun a v_ w hv_ q=>?_
 obtain ⟨R_686,v_689,cs_690,v_693,cs_694,v_696,b_698,v_700,cs_701,mb_703,mb_704,E_705,hv_,hr_,hl_687,hq_691,hq_695,hs_697,hq_702,hm_706⟩:=hv_
 have hv_:=hv_.symm
 subst hv_
 obtain ⟨s,hl_687⟩:=hS1.back hr_ hl_687
 have s:=s.un7
 have hRL:=hRL.trans hl_687
 refine zm q rfl fun a q=>zl q (r_extract q rfl rfl) fun a q=>zl q (r_extract q rfl rfl) fun a q=>?_
 refine sl_alloc zeroValue41 s q (by decide) rfl rfl fun a w b_707 s q=>?_
 refine sl_storeA (vs:=[v_689,v_693]) (c':=[v_689,v_693]) sizeOf41 s q rfl rfl rfl rfl (all_cons (s.row_one z1) (all_cons (s.row_one z2) zz)) (Nat.le_of_ble_eq_true rfl) rfl fun a w s q=>?_
 refine za q rfl fun a q=>zn<|zq<|zr<|zl q (r_loadA (cs:=[v_520,v_524]) isAgg41 sizeOf41 rfl q rfl (s.cells_of (m:=2) (.tail _ (.tail _ (.tail _ (.tail _ (.tail _ (.tail _ (.tail _ (.tail _ (.tail _ (.tail _ (.tail _ z8))))))))))) rfl)) fun a q=>zl q (r_loadA (cs:=[v_665,v_669]) isAgg41 sizeOf41 rfl q rfl (s.cells_of (m:=2) z8 rfl)) fun a q=>?_
 obtain ⟨y_708,h_709,H⟩:=bs H
 refine sl_callV call13 s q (by decide) rfl rfl rfl (ref02_Same.calls y_515.1 y_660.1 (lentOf_sub [] _) (s.lend_row0 (.tail _ (.tail _ (.tail _ (.tail _ (.tail _ (.tail _ (.tail _ (.tail _ (.tail _ z8))))))))) (hq_522.mono (hl_593.le.trans (hl_663.le.trans hl_687.le))) rfl rfl) (s.lend_row0 (.tail _ (.tail _ (.tail _ (.tail _ (.tail _ (.tail _ (.tail _ (.tail _ (.tail _ (.tail _ z8)))))))))) (hq_526.mono (hl_593.le.trans (hl_663.le.trans hl_687.le))) rfl rfl) (s.lend_row0 (.tail _ z8) (hq_667.mono hl_687.le) rfl rfl) (s.lend_row0 (.tail _ (.tail _ z8)) (hq_671.mono hl_687.le) rfl rfl) h_709) fun a w s q=>?_
 refine za q rfl fun a q=>zn<|zq<|zr<|zl q (r_loadA (cs:=[v_520,v_524]) isAgg41 sizeOf41 rfl q rfl (s.cells_of (m:=2) (.tail _ (.tail _ (.tail _ (.tail _ (.tail _ (.tail _ (.tail _ (.tail _ (.tail _ (.tail _ (.tail _ z8))))))))))) rfl)) fun a q=>zl q (r_loadA (cs:=[v_689,v_693]) isAgg41 sizeOf41 rfl q rfl (s.cells_of (m:=2) z0 rfl)) fun a q=>?_
 obtain ⟨y_710,h_711,H⟩:=bs H
 refine sl_callV call13 s q (by decide) rfl rfl rfl (ref02_Same.calls y_515.1 y_684.1 (lentOf_sub [] _) (s.lend_row0 (.tail _ (.tail _ (.tail _ (.tail _ (.tail _ (.tail _ (.tail _ (.tail _ (.tail _ z8))))))))) (hq_522.mono (hl_593.le.trans (hl_663.le.trans hl_687.le))) rfl rfl) (s.lend_row0 (.tail _ (.tail _ (.tail _ (.tail _ (.tail _ (.tail _ (.tail _ (.tail _ (.tail _ (.tail _ z8)))))))))) (hq_526.mono (hl_593.le.trans (hl_663.le.trans hl_687.le))) rfl rfl) (s.lend_row0 z1 hq_691 rfl rfl) (s.lend_row0 z2 hq_695 rfl rfl) h_711) fun a w s q=>?_
 refine za q rfl fun a q=>zn<|zq ?_
 refine parT_region (C:=fun w=>St [] w0 w R_686 [.cells b_707 [v_689,v_693] 41,.row 65 2 v_689 y_684.1.Cols.length cs_690,.row 31 1 v_693 y_684.1.Rows.length cs_694,.cells b_89 [v_696,I6 y_684.2.2.room,I6 y_684.2.2.points,.pointer (some ⟨b_698,0,none⟩),.map (some mb_704)] 70,.cells b_698 [I6 y_684.2.2.dict.most,v_700,.map (some mb_703)] 102,.row 113 2 v_700 y_684.2.2.dict.l.length cs_701,.mp mb_703 (kvs Value.string (Value.int .i64) y_684.2.2.dict.ids),mbo mb_704 (kvs (Value.int .i64) id (mbp E_705)) 111 90 2 E_705,.cells b_683 [v_665,v_669] 41,.row 65 2 v_665 y_660.1.Cols.length cs_666,.row 31 1 v_669 y_660.1.Rows.length cs_670,.row 33 4 v_180 x_179.length cs_181,.row 65 2 v_520 y_515.1.Cols.length cs_521,.row 31 1 v_524 y_515.1.Rows.length cs_525,.cells b_538 [v_520,v_524] 41]) 22 [(0,true),(1,true),(2,true),(3,true),(4,true),(5,true),(6,true),(7,true),(8,true),(9,true),(10,true),(11,true),(12,true),(13,true),(14,true),(15,true),(16,true),(17,true),(19,true),(20,true),(21,true),(18,false)] mixed (by kernel_rfl) s (fun w s=>(s.pk19.pk19.pk19.pk19.pk14.pk14.pk14.pk14.pk14.pk14.pk14.pk14.pk14.pk14.pk14.trunc 15)) fun w s=>?_
 refine zp rfl q (fun w s=>r_move q rfl) fun a q=>zp rfl q (fun w s=>r_ibin q rfl rfl rfl) fun a q=>zp rfl q (fun w s=>r_move q rfl) fun a q=>?_
 rcases or_b (y_515.2.1 == 0) with hb_732 | hb_732
 rw [ifb_t hb_732] at H
 refine zpw rfl q (wtt hb_732) (fun w s=>r_move q rfl) fun a q=>zpw rfl q (wtt hb_732) (fun w s=>r_ibin q rfl rfl rfl) fun a q=>zp rfl q (fun w s=>r_pick_t hb_732 q rfl rfl) fun a q=>zp rfl q (fun w s=>r_move q rfl) fun a q=>?_
 rcases or_b (y_660.2.1 == 0) with hb_733 | hb_733
 rw [ifb_t hb_733] at H
 refine zpw rfl q (wtt hb_733) (fun w s=>r_move q rfl) fun a q=>zpw rfl q (wtt hb_733) (fun w s=>r_ibin q rfl rfl rfl) fun a q=>zp rfl q (fun w s=>r_pick_t hb_733 q rfl rfl) fun a q=>zp rfl q (fun w s=>r_move q rfl) fun a q=>?_
 rcases or_b (y_684.2.1 == 0) with hb_734 | hb_734
 rw [ifb_t hb_734] at H
 refine zpw rfl q (wtt hb_734) (fun w s=>r_move q rfl) fun a q=>zp rfl q (fun w s=>r_pick_t hb_734 q rfl rfl) fun a q=>zp rfl q (fun w s=>r_move q rfl) fun a q=>?_
 rcases or_b y_708 with hb_735 | hb_735
 rw [ifb_t hb_735] at H
 refine zpw rfl q (wtt hb_735) (fun w s=>r_move q rfl) fun a q=>zp rfl q (fun w s=>r_pick_t hb_735 q rfl rfl) fun a q=>zp rfl q (fun w s=>r_move q rfl) fun a q=>?_
 rcases or_b y_710 with hb_736 | hb_736
 rw [ifb_t hb_736] at H
 refine zpw rfl q (wtt hb_736) (fun w s=>r_move q rfl) fun a q=>zpw rfl q (wtt hb_736) (fun w s=>r_fieldAddr underlying41 rfl sizeOf39 q rfl) fun a q=>zpw rfl q (wtt hb_736) (fun w s=>r_load isAgg39 q rfl (s.cell (.tail _ (.tail _ (.tail _ (.tail _ (.tail _ (.tail _ z8)))))) rfl)) fun a q=>zpw rfl q (wtt hb_736) (fun w s=>r_len_O underlying39 s (.tail _ (.tail _ (.tail _ (.tail _ (.tail _ z8))))) q rfl) fun a q=>?_
 refine spw (k:=18) rfl rfl (s.pk19.pk19.pk19.pk19.pk14.pk14.pk14.pk14.pk14.pk14.pk14.pk14.pk14.pk14.pk14.trunc 15) ?_
 obtain ⟨y_737,h_738,H⟩:=bs H
 have s:=s.pk15
 have s:=s.pk15
 have s:=s.pk15
 have s:=s.pk15
 have s:=s.pk15
 have hS1:=s.sp5
 refine sl_call call14 q (by decide) (wtt hb_736) rfl rfl (leaf_Leaf_Points.calls y_660.2.2 hS1.lend (hs_673.mono hl_687.le) (hq_678.mono hl_687.le) (hm_682.mono hl_687.le) h_738) fun a v_ w hv_ q=>?_
 obtain ⟨R_739,v_741,b_743,v_745,cs_746,mb_748,mb_749,E_750,hv_,hr_,hl_740,hs_742,hq_747,hm_751⟩:=hv_
 have hv_:=hv_.symm
 subst hv_
 obtain ⟨s,hl_740⟩:=hS1.back hr_ hl_740
 have s:=s.un5
 have hRL:=hRL.trans hl_740
 refine parK_nil ((s.pk19.pk19.pk19.pk19.pk19.pk19.pk19.pk19.pk19.pk19.pk19.pk19.pk19.pk19.pk19.trunc 15).lower hl_740.le) ?_
 refine thenL_nil ?_
 refine zw q (wtt hb_736) (r_ibin q rfl rfl rfl) fun a q=>zl q (r_pick_t hb_736 q rfl rfl) fun a q=>za q rfl fun a q=>?_
 refine wpList_nil (NoP_nil ?_)
 have hr_:=Option.some.inj H
 refine wp_ret ?_
 repeat first | refine zt ?_ | refine zb ?_ | refine zo ?_
 exact ret_1 results3 q (rv_tmp q rfl) ⟨congrArg (fun b=>Ending.returned (Value.bool b)) hr_,s.bel⟩
 rw [ifb_f hb_736] at H
 refine zps rfl q (wtf hb_736) fun a q=>zps rfl q (wtf hb_736) fun a q=>zps rfl q (wtf hb_736) fun a q=>zps rfl q (wtf hb_736) fun a q=>?_
 refine spw (k:=18) rfl rfl (s.pk19.pk19.pk19.pk19.pk14.pk14.pk14.pk14.pk14.pk14.pk14.pk14.pk14.pk14.pk14.trunc 15) ?_
 refine zsw q (wtf hb_736) fun a q=>?_
 refine parK_nil (s.pk19.pk19.pk19.pk19.pk14.pk14.pk14.pk14.pk14.pk14.pk14.pk14.pk14.pk14.pk14.trunc 15) ?_
 refine thenL_nil ?_
 refine zsw q (wtf hb_736) fun a q=>zl q (r_pick_f hb_736 q rfl rfl) fun a q=>za q rfl fun a q=>?_
 refine wpList_nil (NoP_nil ?_)
 exact absurd (Option.some.inj H) (by decide)
 rw [ifb_f hb_735] at H
 refine zps rfl q (wtf hb_735) fun a q=>zp rfl q (fun w s=>r_pick_f hb_735 q rfl rfl) fun a q=>zp rfl q (fun w s=>r_move q rfl) fun a q=>zps rfl q rfl fun a q=>zps rfl q rfl fun a q=>zps rfl q rfl fun a q=>zps rfl q rfl fun a q=>?_
 refine spw (k:=18) rfl rfl (s.pk19.pk19.pk19.pk19.pk14.pk14.pk14.pk14.pk14.pk14.pk14.pk14.pk14.pk14.pk14.trunc 15) ?_
 refine zs q fun a q=>?_
 refine parK_nil (s.pk19.pk19.pk19.pk19.pk14.pk14.pk14.pk14.pk14.pk14.pk14.pk14.pk14.pk14.pk14.trunc 15) ?_
 refine thenL_nil ?_
 refine zs q fun a q=>zl q (r_pick q rfl rfl rfl) fun a q=>za q rfl fun a q=>?_
 refine wpList_nil (NoP_nil ?_)
 exact absurd (Option.some.inj H) (by decide)
 rw [ifb_f hb_734] at H
 refine zps rfl q (wtf hb_734) fun a q=>zp rfl q (fun w s=>r_pick_f hb_734 q rfl rfl) fun a q=>zp rfl q (fun w s=>r_move q rfl) fun a q=>zps rfl q rfl fun a q=>zp rfl q (fun w s=>r_pick q rfl rfl rfl) fun a q=>zp rfl q (fun w s=>r_move q rfl) fun a q=>zps rfl q rfl fun a q=>zps rfl q rfl fun a q=>zps rfl q rfl fun a q=>zps rfl q rfl fun a q=>?_
 refine spw (k:=18) rfl rfl (s.pk19.pk19.pk19.pk19.pk14.pk14.pk14.pk14.pk14.pk14.pk14.pk14.pk14.pk14.pk14.trunc 15) ?_
 refine zs q fun a q=>?_
 refine parK_nil (s.pk19.pk19.pk19.pk19.pk14.pk14.pk14.pk14.pk14.pk14.pk14.pk14.pk14.pk14.pk14.trunc 15) ?_
 refine thenL_nil ?_
 refine zs q fun a q=>zl q (r_pick q rfl rfl rfl) fun a q=>za q rfl fun a q=>?_
 refine wpList_nil (NoP_nil ?_)
 exact absurd (Option.some.inj H) (by decide)
 rw [ifb_f hb_733] at H
 refine zps rfl q (wtf hb_733) fun a q=>zps rfl q (wtf hb_733) fun a q=>zp rfl q (fun w s=>r_pick_f hb_733 q rfl rfl) fun a q=>zp rfl q (fun w s=>r_move q rfl) fun a q=>zps rfl q rfl fun a q=>zp rfl q (fun w s=>r_pick q rfl rfl rfl) fun a q=>zp rfl q (fun w s=>r_move q rfl) fun a q=>zps rfl q rfl fun a q=>zp rfl q (fun w s=>r_pick q rfl rfl rfl) fun a q=>zp rfl q (fun w s=>r_move q rfl) fun a q=>zps rfl q rfl fun a q=>zps rfl q rfl fun a q=>zps rfl q rfl fun a q=>zps rfl q rfl fun a q=>?_
 refine spw (k:=18) rfl rfl (s.pk19.pk19.pk19.pk19.pk14.pk14.pk14.pk14.pk14.pk14.pk14.pk14.pk14.pk14.pk14.trunc 15) ?_
 refine zs q fun a q=>?_
 refine parK_nil (s.pk19.pk19.pk19.pk19.pk14.pk14.pk14.pk14.pk14.pk14.pk14.pk14.pk14.pk14.pk14.trunc 15) ?_
 refine thenL_nil ?_
 refine zs q fun a q=>zl q (r_pick q rfl rfl rfl) fun a q=>za q rfl fun a q=>?_
 refine wpList_nil (NoP_nil ?_)
 exact absurd (Option.some.inj H) (by decide)
 rw [ifb_f hb_732] at H
 refine zps rfl q (wtf hb_732) fun a q=>zps rfl q (wtf hb_732) fun a q=>zp rfl q (fun w s=>r_pick_f hb_732 q rfl rfl) fun a q=>zp rfl q (fun w s=>r_move q rfl) fun a q=>zps rfl q rfl fun a q=>zps rfl q rfl fun a q=>zp rfl q (fun w s=>r_pick q rfl rfl rfl) fun a q=>zp rfl q (fun w s=>r_move q rfl) fun a q=>zps rfl q rfl fun a q=>zp rfl q (fun w s=>r_pick q rfl rfl rfl) fun a q=>zp rfl q (fun w s=>r_move q rfl) fun a q=>zps rfl q rfl fun a q=>zp rfl q (fun w s=>r_pick q rfl rfl rfl) fun a q=>zp rfl q (fun w s=>r_move q rfl) fun a q=>zps rfl q rfl fun a q=>zps rfl q rfl fun a q=>zps rfl q rfl fun a q=>zps rfl q rfl fun a q=>?_
 refine spw (k:=18) rfl rfl (s.pk19.pk19.pk19.pk19.pk14.pk14.pk14.pk14.pk14.pk14.pk14.pk14.pk14.pk14.pk14.trunc 15) ?_
 refine zs q fun a q=>?_
 refine parK_nil (s.pk19.pk19.pk19.pk19.pk14.pk14.pk14.pk14.pk14.pk14.pk14.pk14.pk14.pk14.pk14.trunc 15) ?_
 refine thenL_nil ?_
 refine zs q fun a q=>zl q (r_pick q rfl rfl rfl) fun a q=>za q rfl fun a q=>?_
 refine wpList_nil (NoP_nil ?_)
 exact absurd (Option.some.inj H) (by decide)
end Go.Proofs.YtchgiggipimigaaGreatDoor.M
end
