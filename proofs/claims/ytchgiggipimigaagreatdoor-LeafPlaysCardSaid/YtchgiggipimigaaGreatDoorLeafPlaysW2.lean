/- For the law LeafPlays: each Go function answers as its plain Lean function tells, wherever that tells something; without further condition. -/
import Derived.Test.YtchgiggipimigaaGreatDoorLeafPlaysW1
section
namespace Go.Proofs.YtchgiggipimigaaGreatDoor.M
open Go Go.Eng Go.Proofs Go.RowKit
set_option linter.unusedVariables false
set_option linter.unusedSimpArgs false
open Go.Proofs.Tryz
set_option maxHeartbeats 4000000
set_option maxRecDepth 100000
theorem slices_Compare_int_int.calls (a0 : List Int) (a1 : List Int) {w0 : World} {RA : Hp} {v0_0 : Value} {v1_0 : Value} (hRA : RA.sub w0) (h0_0 : SlR (tyInt .i64) RA v0_0 a0) (h1_0 : SlR (tyInt .i64) RA v1_0 a1) {r : Int} (H : slices_Compare_int_int a0 a1 = some r) : CallsV prog 116 #[v0_0,v1_0] w0 (I6 r):=by
 unfold slices_Compare_int_int at H
 refine enter (args:=[v0_0,v1_0]) func116 rfl ntmps116 rfl fun a q=>?_
 have s:=St.init (R:=fun _=>none) (w:=w0) (fun _ _ h=>by cases h)
 have hRL:=RLe.refl (M:=[]) w0 (fun _=>none)
 refine zq<|zr<|za q rfl fun a q=>zn<|zq<|zq<|zr<|zm q rfl fun a q=>zl q (r_len_R underlying22 h0_0 q rfl) fun a q=>zm q rfl fun a q=>zn ?_
 refine wp_block ?_
 refine wp_loop_k (fun k_l0 a w=>∃ (x_25 : Int),slices_Compare_int_int.l0 a0 a1 k_l0 x_25 = some r ∧ Kn 36 a [(0,v0_0),(1,v1_0),(9,v0_0),(10,I6 (a0.length : Int)),(11,I6 x_25)] ∧ St [] w0 w (fun _=>none) []) (((a0.length : Int) - 0).toNat + 1) ?_ ?_
 exact ⟨0,H,q.sub (zc (zc (zc (zc (zc zz))))),s⟩
 rintro k_l0 a w ⟨x_25,H,q,s⟩
 rcases k_l0 with _ | k_l0
 cases H
 rw [slices_Compare_int_int.l0.eq_2] at H
 refine zq<|zr<|zl q (r_ibin q rfl rfl rfl) fun a q=>zn<|zq ?_
 refine wp_cond_split (q.ev rfl) (fun (hb_50 : (decide (x_25 < (a0.length : Int))) = true)=>?_) fun hb_50=>?_
 rw [ifb_t hb_50] at H
 refine wp_skip<|zq ?_
 refine wp_block ?_
 refine zq<|zr<|zm q rfl fun a q=>?_
 obtain ⟨y_51,h_52,H⟩:=bs H
 obtain ⟨b_53,o_54,c_55,cs_56,hv_57,hr_58,hc_59,h_520,h_521⟩:=h0_0.ix h_52
 subst hr_58
 refine zl q (r_indexAddr_R underlying22 sizeOf3 hv_57 h_520 h_521 q rfl rfl) fun a q=>zl q (r_load isAgg3 q rfl ((s.ra hRA nil_not).cell (hc_59 0 _ rfl))) fun a q=>za q rfl fun a q=>za q rfl fun a q=>zn<|zq<|zq<|zr<|zm q rfl fun a q=>zm q rfl fun a q=>zl q (r_len_R underlying22 h1_0 q rfl) fun a q=>zl q (r_ibin q rfl rfl rfl) fun a q=>zn ?_
 refine wp_cond_split (q.ev rfl) (fun (hb_60 : (decide (x_25 ≥ (a1.length : Int))) = true)=>?_) fun hb_60=>?_
 rw [ifb_t hb_60] at H
 refine zq<|zr<|za q rfl fun a q=>zn ?_
 obtain rfl:=Option.some.inj H
 refine wp_ret ?_
 repeat first | refine zt ?_ | refine zb ?_ | refine zo ?_
 exact ret_1 results116 q (rv_tmp q rfl) ⟨rfl,s.bel⟩
 rw [ifb_f hb_60] at H
 refine wp_skip<|zq<|zr<|zm q rfl fun a q=>zm q rfl fun a q=>?_
 obtain ⟨y_61,h_62,H⟩:=bs H
 obtain ⟨b_63,o_64,c_65,cs_66,hv_67,hr_68,hc_69,h_620,h_621⟩:=h1_0.ix h_62
 subst hr_68
 refine zl q (r_indexAddr_R underlying22 sizeOf3 hv_67 h_620 h_621 q rfl rfl) fun a q=>zl q (r_load isAgg3 q rfl ((s.ra hRA nil_not).cell (hc_69 0 _ rfl))) fun a q=>za q rfl fun a q=>zn<|zq<|zr<|zm q rfl fun a q=>zm q rfl fun a q=>?_
 obtain ⟨y_70,h_71,H⟩:=bs H
 refine sl_callV call83 s q (by decide) rfl rfl rfl (cmp_Compare_int.calls y_51 y_61 h_71 _) fun a w s q=>?_
 refine za q rfl fun a q=>zn<|zq<|zr<|zm q rfl fun a q=>zl q (r_ibin q rfl rfl rfl) fun a q=>zn ?_
 refine wp_cond_split (q.ev rfl) (fun (hb_72 : (y_70 != 0) = true)=>?_) fun hb_72=>?_
 rw [ifb_t hb_72] at H
 refine zq<|zr<|zm q rfl fun a q=>za q rfl fun a q=>zn ?_
 obtain rfl:=Option.some.inj H
 refine wp_ret ?_
 repeat first | refine zt ?_ | refine zb ?_ | refine zo ?_
 exact ret_1 results116 q (rv_tmp q rfl) ⟨rfl,s.bel⟩
 rw [ifb_f hb_72] at H
 refine wp_skip<|zr<|zl q (r_ibin q rfl rfl rfl) fun a q=>zm q rfl fun a q=>zn ?_
 exact ⟨_,Nat.lt_succ_self _,(IntKind.i64.wrap (x_25 + 1)),H,q.sub (zc (zc (zc (zc (zc zz))))),s⟩
 rw [ifb_f hb_50] at H
 refine wp_exit ?_
 refine zq<|zq<|zr<|zm q rfl fun a q=>zl q (r_len_R underlying22 h0_0 q rfl) fun a q=>zm q rfl fun a q=>zl q (r_len_R underlying22 h1_0 q rfl) fun a q=>zl q (r_ibin q rfl rfl rfl) fun a q=>zn ?_
 refine wp_cond_split (q.ev rfl) (fun (hb_73 : (decide ((a0.length : Int) < (a1.length : Int))) = true)=>?_) fun hb_73=>?_
 rw [ifb_t hb_73] at H
 refine zq<|zr<|za q rfl fun a q=>zn ?_
 obtain rfl:=Option.some.inj H
 refine wp_ret ?_
 repeat first | refine zt ?_ | refine zb ?_ | refine zo ?_
 exact ret_1 results116 q (rv_tmp q rfl) ⟨rfl,s.bel⟩
 rw [ifb_f hb_73] at H
 refine wp_skip<|zq<|zr<|za q rfl fun a q=>zn ?_
 obtain rfl:=Option.some.inj H
 refine wp_ret ?_
 repeat first | refine zt ?_ | refine zb ?_ | refine zo ?_
 exact ret_1 results116 q (rv_tmp q rfl) ⟨rfl,s.bel⟩
theorem cmp_Or_int.calls (a0 : List Int) {w0 : World} {RA : Hp} {v0_0 : Value} (hRA : RA.sub w0) (h0_0 : SlR (tyInt .i64) RA v0_0 a0) {r : Int} (H : cmp_Or_int a0 = some r) : CallsV prog 114 #[v0_0] w0 (I6 r):=by
 unfold cmp_Or_int at H
 refine enter (args:=[v0_0]) func114 rfl ntmps114 rfl fun a q=>?_
 have s:=St.init (R:=fun _=>none) (w:=w0) (fun _ _ h=>by cases h)
 have hRL:=RLe.refl (M:=[]) w0 (fun _=>none)
 refine zq<|zr<|za q rfl fun a q=>zn<|zq<|zr<|za q rfl fun a q=>zn<|zq<|zq<|zr<|zm q rfl fun a q=>zl q (r_len_R underlying22 h0_0 q rfl) fun a q=>zm q rfl fun a q=>zn ?_
 refine wp_block ?_
 refine wp_loop_k (fun k_l0 a w=>∃ (x_13 : Int),cmp_Or_int.l0 a0 k_l0 x_13 = some r ∧ Kn 18 a [(3,I6 0),(6,v0_0),(7,I6 (a0.length : Int)),(8,I6 x_13)] ∧ St [] w0 w (fun _=>none) []) (((a0.length : Int) - 0).toNat + 1) ?_ ?_
 exact ⟨0,H,q.sub (zc (zc (zc (zc zz)))),s⟩
 rintro k_l0 a w ⟨x_13,H,q,s⟩
 rcases k_l0 with _ | k_l0
 cases H
 rw [cmp_Or_int.l0.eq_2] at H
 refine zq<|zr<|zl q (r_ibin q rfl rfl rfl) fun a q=>zn<|zq ?_
 refine wp_cond_split (q.ev rfl) (fun (hb_26 : (decide (x_13 < (a0.length : Int))) = true)=>?_) fun hb_26=>?_
 rw [ifb_t hb_26] at H
 refine wp_skip<|zq ?_
 refine wp_block ?_
 refine zq<|zr ?_
 obtain ⟨y_27,h_28,H⟩:=bs H
 obtain ⟨b_29,o_30,c_31,cs_32,hv_33,hr_34,hc_35,h_280,h_281⟩:=h0_0.ix h_28
 subst hr_34
 refine zl q (r_indexAddr_R underlying22 sizeOf3 hv_33 h_280 h_281 q rfl rfl) fun a q=>zl q (r_load isAgg3 q rfl ((s.ra hRA nil_not).cell (hc_35 0 _ rfl))) fun a q=>za q rfl fun a q=>zn<|zq<|zr<|zm q rfl fun a q=>zm q rfl fun a q=>zl q (r_ibin q rfl rfl rfl) fun a q=>zn ?_
 refine wp_cond_split (q.ev rfl) (fun (hb_36 : (y_27 != 0) = true)=>?_) fun hb_36=>?_
 rw [ifb_t hb_36] at H
 refine zq<|zr<|zm q rfl fun a q=>za q rfl fun a q=>zn ?_
 obtain rfl:=Option.some.inj H
 refine wp_ret ?_
 repeat first | refine zt ?_ | refine zb ?_ | refine zo ?_
 exact ret_1 results114 q (rv_tmp q rfl) ⟨rfl,s.bel⟩
 rw [ifb_f hb_36] at H
 refine wp_skip<|zr<|zl q (r_ibin q rfl rfl rfl) fun a q=>zm q rfl fun a q=>zn ?_
 exact ⟨_,Nat.lt_succ_self _,(IntKind.i64.wrap (x_13 + 1)),H,q.sub (zc (zc (zc (zc zz)))),s⟩
 rw [ifb_f hb_26] at H
 refine wp_exit ?_
 refine zq<|zr<|zm q rfl fun a q=>za q rfl fun a q=>zn ?_
 obtain rfl:=Option.some.inj H
 refine wp_ret ?_
 repeat first | refine zt ?_ | refine zb ?_ | refine zo ?_
 exact ret_1 results114 q (rv_tmp q rfl) ⟨rfl,s.bel⟩
theorem value_Compare.calls (a0 : api_Value) (a1 : api_Value) {r : Int} (H : value_Compare a0 a1 = some r) (w0 : World) : CallsV prog 90 #[.agg ⟨cV a0⟩,.agg ⟨cV a1⟩] w0 (I6 r):=by
 unfold value_Compare at H
 refine enter (args:=[.agg ⟨cV a0⟩,.agg ⟨cV a1⟩]) func90 rfl ntmps90 rfl fun a q=>?_
 have s:=St.init (R:=fun _=>none) (w:=w0) (fun _ _ h=>by cases h)
 have hRL:=RLe.refl (M:=[]) w0 (fun _=>none)
 refine zq<|zr ?_
 refine sl_box s q (by decide) rfl rfl (c:=(cV a0)) rfl fun a w b_1 s q=>?_
 refine sl_box s q (by decide) rfl rfl (c:=(cV a1)) rfl fun a w b_2 s q=>?_
 refine za q rfl fun a q=>zn<|zq ?_
 refine parT_region (C:=fun w=>St [] w0 w (fun _=>none) [.cells b_2 (cV a1) 58,.cells b_1 (cV a0) 58]) 19 [(0,true),(1,true),(2,true),(3,true),(5,true),(6,true),(7,true),(8,true),(10,true),(11,true),(12,true),(13,true),(15,true),(16,true),(17,true),(18,true),(4,false),(9,false),(14,false)] mixed (by kernel_rfl) s (fun w s=>s) fun w s=>?_
 refine zp rfl q (fun w s=>r_fieldAddr underlying58 rfl sizeOf3 q rfl) fun a q=>zp rfl q (fun w s=>r_load isAgg3 q rfl (s.cell z1 rfl)) fun a q=>zp rfl q (fun w s=>r_fieldAddr underlying58 rfl sizeOf3 q rfl) fun a q=>zp rfl q (fun w s=>r_load isAgg3 q rfl (s.cell z0 rfl)) fun a q=>zp rfl q (fun w s=>r_fieldAddr underlying58 rfl sizeOf3 q rfl) fun a q=>zp rfl q (fun w s=>r_load isAgg3 q rfl (s.cell z1 rfl)) fun a q=>zp rfl q (fun w s=>r_fieldAddr underlying58 rfl sizeOf3 q rfl) fun a q=>zp rfl q (fun w s=>r_load isAgg3 q rfl (s.cell z0 rfl)) fun a q=>zp rfl q (fun w s=>r_fieldAddr underlying58 rfl sizeOf9 q rfl) fun a q=>?_
 refine zp rfl q (fun w s=>r_load isAgg9 q rfl (s.cell z1 rfl)) fun a q=>zp rfl q (fun w s=>r_fieldAddr underlying58 rfl sizeOf9 q rfl) fun a q=>zp rfl q (fun w s=>r_load isAgg9 q rfl (s.cell z0 rfl)) fun a q=>zp rfl q (fun w s=>r_fieldAddr underlying58 rfl sizeOf56 q rfl) fun a q=>zp rfl q (fun w s=>r_slice_arr0 underlying56 sizeOf3 q rfl) fun a q=>zp rfl q (fun w s=>r_fieldAddr underlying58 rfl sizeOf56 q rfl) fun a q=>zp rfl q (fun w s=>r_slice_arr0 underlying56 sizeOf3 q rfl) fun a q=>?_
 refine spw (k:=4) rfl rfl s ?_
 obtain ⟨y_14,h_15,H⟩:=bs H
 refine sl_callV call83 s q (by decide) rfl rfl rfl (cmp_Compare_int.calls a0.Kind a1.Kind h_15 _) fun a w s q=>?_
 refine parK_nil s ?_
 refine spw (k:=9) rfl rfl s ?_
 obtain ⟨y_16,h_17,H⟩:=bs H
 refine sl_callV call83 s q (by decide) rfl rfl rfl (cmp_Compare_int.calls a0.N a1.N h_17 _) fun a w s q=>?_
 refine parK_nil s ?_
 refine spw (k:=14) rfl rfl s ?_
 obtain ⟨y_18,h_19,H⟩:=bs H
 refine sl_callV call115 s q (by decide) rfl rfl rfl (strings_Compare.calls a0.S a1.S h_19 _) fun a w s q=>?_
 refine parK_nil s ?_
 refine thenL_nil ?_
 obtain ⟨y_20,h_21,H⟩:=bs H
 refine sl_callV call116 s q (by decide) rfl rfl rfl (slices_Compare_int_int.calls a0.H.list a1.H.list (lentOf_sub [] _) (s.lend_part0 z1 (xs:=a0.H.list) rfl (Nat.le_refl _)) (s.lend_part0 z0 (xs:=a1.H.list) rfl (Nat.le_refl _)) h_21) fun a w s q=>?_
 refine sl_buildSliceF (zc:=[I6 0]) (ps:=[(0,I6 y_14),(1,I6 y_16),(2,I6 y_18),(3,I6 y_20)]) (c:=[I6 y_14,I6 y_16,I6 y_18,I6 y_20]) [[I6 y_14],[I6 y_16],[I6 y_18],[I6 y_20]] underlying22 sizeOf3 zeroValue3 rfl (pc_cons rfl (pc_cons rfl (pc_cons rfl (pc_cons rfl pc_nil)))) rfl rfl (Nat.le_of_ble_eq_true rfl) rfl (zc (zc (zc (zc zz)))) rfl s q (by decide) rfl fun a w b_22 s q=>?_
 obtain ⟨y_23,h_24,H⟩:=bs H
 refine sl_callV call114 s q (by decide) rfl rfl rfl (cmp_Or_int.calls [y_14,y_16,y_18,y_20] (lentOf_sub [] _) (s.lend_lit0 (ty:=(tyInt .i64)) (xs:=[y_14,y_16,y_18,y_20]) z0 (Reps.cons (show Ty.rep (tyInt .i64) _ [I6 y_14] y_14 from rfl) (Reps.cons (show Ty.rep (tyInt .i64) _ [I6 y_16] y_16 from rfl) (Reps.cons (show Ty.rep (tyInt .i64) _ [I6 y_18] y_18 from rfl) (Reps.cons (show Ty.rep (tyInt .i64) _ [I6 y_20] y_20 from rfl) (Reps.nil _ _))))) rfl) h_24) fun a w s q=>?_
 refine za q rfl fun a q=>?_
 refine wpList_nil (NoP_nil ?_)
 obtain rfl:=Option.some.inj H
 refine wp_ret ?_
 repeat first | refine zt ?_ | refine zb ?_ | refine zo ?_
 exact ret_1 results90 q (rv_tmp q rfl) ⟨rfl,s.bel⟩
theorem slices_CompareFunc_api_Value_api_Value_api_Value_api_Value_f_value_Compare.calls (a0 : List api_Value) (a1 : List api_Value) {w0 : World} {RA : Hp} {v0_0 : Value} {v1_0 : Value} (hRA : RA.sub w0) (h0_0 : SlR ty_api_Value RA v0_0 a0) (h1_0 : SlR ty_api_Value RA v1_0 a1) {r : Int} (H : slices_CompareFunc_api_Value_api_Value_api_Value_api_Value_f_value_Compare a0 a1 = some r) : CallsV prog 89 #[v0_0,v1_0,.func (.func 90) #[] #[]] w0 (I6 r):=by
 unfold slices_CompareFunc_api_Value_api_Value_api_Value_api_Value_f_value_Compare at H
 refine enter (args:=[v0_0,v1_0,.func (.func 90) #[] #[]]) func89 rfl ntmps89 rfl fun a q=>?_
 have s:=St.init (R:=fun _=>none) (w:=w0) (fun _ _ h=>by cases h)
 have hRL:=RLe.refl (M:=[]) w0 (fun _=>none)
 refine zq<|zr<|za q rfl fun a q=>zn<|zq<|zq<|zr<|zm q rfl fun a q=>zl q (r_len_R underlying31 h0_0 q rfl) fun a q=>zm q rfl fun a q=>zn ?_
 refine wp_block ?_
 refine wp_loop_k (fun k_l0 a w=>∃ (x_27 : Int),slices_CompareFunc_api_Value_api_Value_api_Value_api_Value_f_value_Compare.l0 a0 a1 k_l0 x_27 = some r ∧ Kn 39 a [(0,v0_0),(1,v1_0),(2,.func (.func 90) #[] #[]),(11,v0_0),(12,I6 (a0.length : Int)),(13,I6 x_27)] ∧ St [] w0 w (fun _=>none) []) (((a0.length : Int) - 0).toNat + 1) ?_ ?_
 exact ⟨0,H,q.sub (zc (zc (zc (zc (zc (zc zz)))))),s⟩
 rintro k_l0 a w ⟨x_27,H,q,s⟩
 rcases k_l0 with _ | k_l0
 cases H
 rw [slices_CompareFunc_api_Value_api_Value_api_Value_api_Value_f_value_Compare.l0.eq_2] at H
 refine zq<|zr<|zl q (r_ibin q rfl rfl rfl) fun a q=>zn<|zq ?_
 refine wp_cond_split (q.ev rfl) (fun (hb_54 : (decide (x_27 < (a0.length : Int))) = true)=>?_) fun hb_54=>?_
 rw [ifb_t hb_54] at H
 refine wp_skip<|zq ?_
 refine wp_block ?_
 refine zq<|zr<|zm q rfl fun a q=>?_
 obtain ⟨y_55,h_56,H⟩:=bs H
 obtain ⟨b_57,o_58,c_59,cs_60,hv_61,hr_62,hc_63,h_560,h_561⟩:=h0_0.ix h_56
 subst hr_62
 refine zl q (r_indexAddr_R underlying31 sizeOf58 hv_61 h_560 h_561 q rfl rfl) fun a q=>zl q (r_loadA (cs:=(cV y_55)) isAgg58 sizeOf58 rfl q rfl (fun j v hv=>(s.ra hRA nil_not).cell (hc_63 j v hv))) fun a q=>?_
 refine sl_alloc zeroValue58 s q (by decide) rfl rfl fun a w b_64 s q=>?_
 refine za q rfl fun a q=>?_
 refine sl_storeA (vs:=(cV y_55)) (c':=(cV y_55)) sizeOf58 s q rfl rfl rfl rfl (zc (zc (zc (zc (zc (zc (zc (zc (zc (zc (zc zz))))))))))) (Nat.le_of_ble_eq_true rfl) rfl fun a w s q=>?_
 refine zn<|zq<|zq<|zr<|zm q rfl fun a q=>zm q rfl fun a q=>zl q (r_len_R underlying31 h1_0 q rfl) fun a q=>zl q (r_ibin q rfl rfl rfl) fun a q=>zn ?_
 refine wp_cond_split (q.ev rfl) (fun (hb_65 : (decide (x_27 ≥ (a1.length : Int))) = true)=>?_) fun hb_65=>?_
 rw [ifb_t hb_65] at H
 refine zq<|zr<|za q rfl fun a q=>zn ?_
 obtain rfl:=Option.some.inj H
 refine wp_ret ?_
 repeat first | refine zt ?_ | refine zb ?_ | refine zo ?_
 exact ret_1 results89 q (rv_tmp q rfl) ⟨rfl,s.bel⟩
 rw [ifb_f hb_65] at H
 refine wp_skip<|zq<|zr<|zm q rfl fun a q=>zm q rfl fun a q=>?_
 obtain ⟨y_66,h_67,H⟩:=bs H
 obtain ⟨b_68,o_69,c_70,cs_71,hv_72,hr_73,hc_74,h_670,h_671⟩:=h1_0.ix h_67
 subst hr_73
 refine zl q (r_indexAddr_R underlying31 sizeOf58 hv_72 h_670 h_671 q rfl rfl) fun a q=>zl q (r_loadA (cs:=(cV y_66)) isAgg58 sizeOf58 rfl q rfl (fun j v hv=>(s.ra hRA nil_not).cell (hc_74 j v hv))) fun a q=>?_
 refine sl_alloc zeroValue58 s q (by decide) rfl rfl fun a w b_75 s q=>?_
 refine sl_storeA (vs:=(cV y_66)) (c':=(cV y_66)) sizeOf58 s q rfl rfl rfl rfl (zc (zc (zc (zc (zc (zc (zc (zc (zc (zc (zc zz))))))))))) (Nat.le_of_ble_eq_true rfl) rfl fun a w s q=>?_
 refine zn<|zq<|zr<|zm q rfl fun a q=>zl q (r_loadA (cs:=(cV y_55)) isAgg58 sizeOf58 rfl q rfl (s.cells_of (m:=11) z1 rfl)) fun a q=>zl q (r_loadA (cs:=(cV y_66)) isAgg58 sizeOf58 rfl q rfl (s.cells_of (m:=11) z0 rfl)) fun a q=>?_
 obtain ⟨y_76,h_77,H⟩:=bs H
 refine sl_callV call90 s q (by decide) rfl rfl rfl (value_Compare.calls y_55 y_66 h_77 _) fun a w s q=>?_
 refine za q rfl fun a q=>zn<|zq<|zr<|zm q rfl fun a q=>zl q (r_ibin q rfl rfl rfl) fun a q=>zn ?_
 refine wp_cond_split (q.ev rfl) (fun (hb_78 : (y_76 != 0) = true)=>?_) fun hb_78=>?_
 rw [ifb_t hb_78] at H
 refine zq<|zr<|zm q rfl fun a q=>za q rfl fun a q=>zn ?_
 obtain rfl:=Option.some.inj H
 refine wp_ret ?_
 repeat first | refine zt ?_ | refine zb ?_ | refine zo ?_
 exact ret_1 results89 q (rv_tmp q rfl) ⟨rfl,s.bel⟩
 rw [ifb_f hb_78] at H
 refine wp_skip<|zr<|zl q (r_ibin q rfl rfl rfl) fun a q=>zm q rfl fun a q=>zn ?_
 exact ⟨_,Nat.lt_succ_self _,(IntKind.i64.wrap (x_27 + 1)),H,q.sub (zc (zc (zc (zc (zc (zc zz)))))),s.trunc 0⟩
 rw [ifb_f hb_54] at H
 refine wp_exit ?_
 refine zq<|zq<|zr<|zm q rfl fun a q=>zl q (r_len_R underlying31 h0_0 q rfl) fun a q=>zm q rfl fun a q=>zl q (r_len_R underlying31 h1_0 q rfl) fun a q=>zl q (r_ibin q rfl rfl rfl) fun a q=>zn ?_
 refine wp_cond_split (q.ev rfl) (fun (hb_79 : (decide ((a0.length : Int) < (a1.length : Int))) = true)=>?_) fun hb_79=>?_
 rw [ifb_t hb_79] at H
 refine zq<|zr<|za q rfl fun a q=>zn ?_
 obtain rfl:=Option.some.inj H
 refine wp_ret ?_
 repeat first | refine zt ?_ | refine zb ?_ | refine zo ?_
 exact ret_1 results89 q (rv_tmp q rfl) ⟨rfl,s.bel⟩
 rw [ifb_f hb_79] at H
 refine wp_skip<|zq<|zr<|za q rfl fun a q=>zn ?_
 obtain rfl:=Option.some.inj H
 refine wp_ret ?_
 repeat first | refine zt ?_ | refine zb ?_ | refine zo ?_
 exact ret_1 results89 q (rv_tmp q rfl) ⟨rfl,s.bel⟩
theorem table_order.calls (a0 : List api_Value) (a1 : List api_Value) {w0 : World} {RA : Hp} {v0_0 : Value} {v1_0 : Value} (hRA : RA.sub w0) (h0_0 : SlR ty_api_Value RA v0_0 a0) (h1_0 : SlR ty_api_Value RA v1_0 a1) {r : Int} (H : table_order a0 a1 = some r) : CallsV prog 60 #[v0_0,v1_0] w0 (I6 r):=by
 unfold table_order at H
 refine enter (args:=[v0_0,v1_0]) func60 rfl ntmps60 rfl fun a q=>?_
 have s:=St.init (R:=fun _=>none) (w:=w0) (fun _ _ h=>by cases h)
 have hRL:=RLe.refl (M:=[]) w0 (fun _=>none)
 refine zq<|zr<|za q rfl fun a q=>zn<|zq<|zr<|zm q rfl fun a q=>zm q rfl fun a q=>?_
 obtain ⟨y_1,h_2,H⟩:=bs H
 refine sl_callV call89 s q (by decide) rfl rfl rfl (slices_CompareFunc_api_Value_api_Value_api_Value_api_Value_f_value_Compare.calls a0 a1 (lentOf_sub [] _) (h0_0.mono (s.raLe0 hRA nil_not)) (h1_0.mono (s.raLe0 hRA nil_not)) h_2) fun a w s q=>?_
 refine za q rfl fun a q=>zn ?_
 obtain rfl:=Option.some.inj H
 refine wp_ret ?_
 repeat first | refine zt ?_ | refine zb ?_ | refine zo ?_
 exact ret_1 results60 q (rv_tmp q rfl) ⟨rfl,s.bel⟩
set_option maxHeartbeats 4000000 in
set_option maxRecDepth 100000 in
theorem slices_SortFunc_api_Value_api_Value_f_table_order.calls (a0 : List (List api_Value)) {w0 : World} {R : Hp} {M : List Own} {v0 : Value} {cs0 : List Value} (hS0 : St M w0 w0 R [.row 31 1 v0 a0.length cs0]) (h0 : Reps (tySl ty_api_Value) R cs0 a0) {r : List (List api_Value)} (H : slices_SortFunc_api_Value_api_Value_f_table_order a0 = some r) :
    Calls Tryz.prog 59 #[v0, .func (.func 60) #[] #[]] w0 (Rets fun v w' => ∃ (R' : Hp) (cu0 : List Value), v = .tuple #[] ∧ St M w0 w' R' [.row 31 1 v0 r.length cu0] ∧ RLe M w0 R R' ∧ Reps (tySl ty_api_Value) R' cu0 r ∧ cu0.Perm cs0) := by
  unfold slices_SortFunc_api_Value_api_Value_f_table_order at H
  exact sort_calls sortL59 (ty := (tySl ty_api_Value)) rfl Tryz.call60 hS0 h0 (fun w hsub u1 u2 x y i hx hy hi => by
    obtain ⟨v1, e1, s1⟩ := hx
    obtain ⟨v2, e2, s2⟩ := hy
    cases e1; cases e2
    exact table_order.calls x y hsub s1 s2 hi) H
theorem table_Canon.calls (a0 : api_Table) {w0 : World} {R : Hp} {RA : Hp} {v0_0 : Value} {v0_1 : Value} (hRA : RA.sub w0) (hR : R.sub w0) (h0_0 : SlR ty_api_Col RA v0_0 a0.Cols) (h0_1 : SlR (tySl ty_api_Value) RA v0_1 a0.Rows) {r : api_Table} (H : table_Canon a0 = some r) : Calls prog 35 #[.agg #[v0_0,v0_1]] w0 (Rets fun v w'=>∃ (R' : Hp) (u0 : Value) (cu0 : List Value) (u1 : Value) (cu1 : List Value),v = .agg #[u0,u1] ∧ St [] w0 w' R' [.row 65 2 u0 r.Cols.length cu0,.row 31 1 u1 r.Rows.length cu1] ∧ RLe [] w0 R R' ∧ Reps ty_api_Col R' cu0 r.Cols ∧ Reps (tySl ty_api_Value) R' cu1 r.Rows ∧ Apart R R' cu1):=by
 unfold table_Canon at H
 refine enter (args:=[.agg #[v0_0,v0_1]]) func35 rfl ntmps35 rfl fun a q=>?_
 have s:=St.init hR
 have hRL:=RLe.refl (M:=[]) w0 R
 refine zq<|zr ?_
 refine sl_box s q (by decide) rfl rfl (c:=[v0_0,v0_1]) rfl fun a w b_1 s q=>?_
 refine sl_alloc zeroValue41 s q (by decide) rfl rfl fun a w b_2 s q=>?_
 refine zn<|zq<|zr<|zl q (r_fieldAddr underlying41 rfl sizeOf38 q rfl) fun a q=>zl q (r_load isAgg38 q rfl (s.cell z1 rfl)) fun a q=>?_
 obtain ⟨y_3,h_4,H⟩:=bs H
 refine sl_call call21 q (by decide) rfl rfl rfl (slices_Clone_api_Col_api_Col.calls a0.Cols (lentOf_sub [] _) s.sub (h0_0.mono (s.raLe0 hRA nil_not)) h_4) fun a v_ w hv_ q=>?_
 obtain ⟨R_5,v_8,cs_9,hv_,hr_,hl_6,hq_10⟩:=hv_
 have hv_:=hv_.symm
 subst hv_
 obtain ⟨s,hl_6⟩:=s.sp0.back hr_ hl_6
 have s:=s.un1
 have hRL:=hRL.trans hl_6
 have ho_11:=s.row_one z0
 refine zl q (r_buildC (ps:=[(0,v_8)]) (c:=[v_8,.slice none 0 0]) underlying41 zeroValue41 places41 q rfl (pc_cons (cells1 ho_11) pc_nil) rfl rfl) fun a q=>?_
 refine sl_alloc zeroValue41 s q (by decide) rfl rfl fun a w b_12 s q=>?_
 refine sl_storeA (vs:=[v_8,.slice none 0 0]) (c':=[v_8,.slice none 0 0]) sizeOf41 s q rfl rfl rfl rfl (all_cons (s.row_one z1) (zc zz)) (Nat.le_of_ble_eq_true rfl) rfl fun a w s q=>?_
 refine zn<|zq<|zq<|zr<|zl q (r_fieldAddr underlying41 rfl sizeOf39 q rfl) fun a q=>zl q (r_load isAgg39 q rfl (s.cell z3 rfl)) fun a q=>zl q (r_len_R underlying39 h0_1 q rfl) fun a q=>zm q rfl fun a q=>zn ?_
 refine wp_block ?_
 refine wp_loop_k (fun k_l0 a w=>∃ (x_79 : List (List api_Value)) (x_84 : Int) (R_85 : Hp) (v_80 : Value) (cs_81 : List Value),table_Canon.l0 a0 y_3 k_l0 x_79 x_84 = some r ∧ RLe [] w0 R_5 R_85 ∧ Reps (tySl ty_api_Value) R_85 cs_81 x_79 ∧ Apart R R_85 cs_81 ∧ Kn 29 a [(2,.pointer (some ⟨b_2,0,none⟩)),(3,.pointer (some ⟨b_12,0,none⟩)),(11,v0_1),(12,I6 (a0.Rows.length : Int)),(13,I6 x_84)] ∧ St [] w0 w R_85 [.cells b_2 [.slice none 0 0,.slice none 0 0] 41,.row 65 2 v_8 y_3.length cs_9,.row 31 1 v_80 x_79.length cs_81,.cells b_12 [v_8,v_80] 41]) (((a0.Rows.length : Int) - 0).toNat + 1) ?_ ?_
 have s:=s.row_nil 31 1
 have hq_144 : Reps (tySl ty_api_Value) R_5 [] ([] : List (List api_Value)):=Reps.nil _ _
 have s:=s.pk1
 have s:=s.pk1
 have s:=s.pk2
 have s:=s.pk3
 exact ⟨[],0,_,_,_,H,(RLe.refl _ _),hq_144,(Apart.nil _ _),q.sub (zc (zc (zc (zc (zc zz))))),s.trunc 4⟩
 rintro k_l0 a w ⟨x_79,x_84,R_85,v_80,cs_81,H,hl_86,hq_82,hap_83,q,s⟩
 rcases k_l0 with _ | k_l0
 cases H
 rw [table_Canon.l0.eq_2] at H
 have hRL:=hRL.trans hl_86
 refine zq<|zr<|zl q (r_ibin q rfl rfl rfl) fun a q=>zn<|zq ?_
 refine wp_cond_split (q.ev rfl) (fun (hb_145 : (decide (x_84 < (a0.Rows.length : Int))) = true)=>?_) fun hb_145=>?_
 rw [ifb_t hb_145] at H
 refine wp_skip<|zq ?_
 refine wp_block ?_
 refine zq<|zr ?_
 obtain ⟨y_146,h_147,H⟩:=bs H
 obtain ⟨b_148,o_149,c_150,cs_151,hv_152,hr_153,hc_154,h_1470,h_1471⟩:=h0_1.ix h_147
 obtain ⟨v_155,rfl,hs_156⟩:=hr_153
 refine zl q (r_indexAddr_R underlying39 sizeOf31 hv_152 h_1470 h_1471 q rfl rfl) fun a q=>zl q (r_load isAgg31 q rfl ((s.ra hRA nil_not).cell (hc_154 0 _ rfl))) fun a q=>za q rfl fun a q=>zn ?_
 refine parT_region (C:=fun w=>St [] w0 w R_85 [.cells b_2 [.slice none 0 0,.slice none 0 0] 41,.row 65 2 v_8 y_3.length cs_9,.row 31 1 v_80 x_79.length cs_81,.cells b_12 [v_8,v_80] 41]) 5 [(0,true),(1,true),(2,true),(3,false),(4,false)] mixed (by kernel_rfl) s (fun w s=>s) fun w s=>?_
 refine zp rfl q (fun w s=>r_fieldAddr underlying41 rfl sizeOf39 q rfl) fun a q=>zp rfl q (fun w s=>r_load isAgg39 q rfl (s.cell z3 rfl)) fun a q=>zp rfl q (fun w s=>r_move q rfl) fun a q=>?_
 refine spw (k:=3) rfl rfl s ?_
 obtain ⟨y_179,h_180,H⟩:=bs H
 refine sl_call call55 q (by decide) rfl rfl rfl (slices_Clone_api_Value_api_Value.calls y_146 (lentOf_sub [] _) s.sub (hs_156.mono (s.raLe0 hRA nil_not)) h_180) fun a v_ w hv_ q=>?_
 obtain ⟨R_181,v_184,cs_185,hv_,hr_,hl_182,hq_186⟩:=hv_
 have hv_:=hv_.symm
 subst hv_
 obtain ⟨s,hl_182⟩:=s.sp0.back hr_ hl_182
 have s:=s.un1
 have hRL:=hRL.trans hl_182
 refine parK_nil ((s.pk4.pk4.pk4.pk4.trunc 4).lower hl_182.le) ?_
 refine spw (k:=4) rfl rfl ((s.pk4.pk4.pk4.pk4.trunc 4).lower hl_182.le) ?_
 have ho_187:=s.row_one z0
 refine sl_buildSliceF (zc:=[.slice none 0 0]) (ps:=[(0,v_184)]) (c:=[v_184]) [[v_184]] underlying39 sizeOf31 zeroValue31 rfl (pc_cons (cells1 ho_187) pc_nil) rfl rfl (Nat.le_of_ble_eq_true rfl) rfl (zc zz) rfl s q (by decide) rfl fun a w b_188 s q=>?_
 refine parK_nil ((s.pk5.pk5.pk5.pk5.trunc 4).lower hl_182.le) ?_
 refine thenL_nil ?_
 have s:=s.pk4
 have s:=s.pk2
 obtain ⟨R_189,s,hl_191,hs_190,hn_192⟩:=s.fz_rowN hq_186 rfl rfl
 have hRL:=hRL.trans hl_191
 obtain ⟨y_193,h_194,H⟩:=bs H
 refine sl_append_LA (ty:=(tySl ty_api_Value)) (ys:=[y_179]) elT39 (by decide) rfl (hq_82.mono (hl_182.le.trans hl_191.le)) rfl (Reps.cons (show Ty.rep (tySl ty_api_Value) _ [v_184] y_179 from ⟨_,rfl,hs_190⟩) (Reps.nil _ _)) rfl h_194 s q (by decide) rfl rfl rfl fun a w v_195 cs_196 hcq_199 hq_197 s q=>?_
 have hap_200 : Apart R R_189 cs_196:=by rw [hcq_199]; exact (Apart.app (hap_83.mono hl_182.le) (hl_6.le.trans (hl_86.le.trans hl_182.le)) hl_191.le hn_192)
 refine zl q (r_fieldAddr underlying41 rfl sizeOf39 q rfl) fun a q=>?_
 have s:=s.pk3
 refine sl_store1 (c':=[v_8,v_195]) sizeOf39 s q rfl rfl rfl (s.row_one z1) (Nat.le_of_ble_eq_true rfl) rfl fun a w s q=>?_
 refine wpList_nil (NoP_nil ?_)
 refine zr<|zl q (r_ibin q rfl rfl rfl) fun a q=>zm q rfl fun a q=>zn ?_
 have s:=s.pk1
 have s:=s.pk3
 have s:=s.pk3
 exact ⟨_,Nat.lt_succ_self _,y_193,(IntKind.i64.wrap (x_84 + 1)),_,_,_,H,(hl_86.trans (hl_182.trans hl_191)),hq_197,hap_200,q.sub (zc (zc (zc (zc (zc zz))))),s⟩
 rw [ifb_f hb_145] at H
 refine wp_exit ?_
 refine zq<|zr<|zl q (r_fieldAddr underlying41 rfl sizeOf39 q rfl) fun a q=>zl q (r_load isAgg39 q rfl (s.cell z3 rfl)) fun a q=>?_
 obtain ⟨y_201,h_202,H⟩:=bs H
 have s:=s.pk2
 have hS1:=s.sp1
 refine sl_call call59 q (by decide) rfl rfl rfl (slices_SortFunc_api_Value_api_Value_f_table_order.calls x_79 hS1.lend hq_82 h_202) fun a v_ w hv_ q=>?_
 obtain ⟨R_203,cs_206,hv_,hr_,hl_204,hq_207,hp_208⟩:=hv_
 have hv_:=hv_.symm
 subst hv_
 obtain ⟨s,hl_204⟩:=hS1.back hr_ hl_204
 have s:=s.un1
 have hRL:=hRL.trans hl_204
 refine zn<|zq<|zr<|zl q (r_loadA (cs:=[v_8,v_80]) isAgg41 sizeOf41 rfl q rfl (s.cells_of (m:=2) z3 rfl)) fun a q=>?_
 have s:=s.pk1
 refine sl_storeA (vs:=[v_8,v_80]) (c':=[v_8,v_80]) sizeOf41 s q rfl rfl rfl rfl (all_cons (s.row_one z2) (all_cons (s.row_one z1) zz)) (Nat.le_of_ble_eq_true rfl) rfl fun a w s q=>?_
 refine zn ?_
 obtain rfl:=Option.some.inj H
 refine wp_ret ?_
 repeat first | refine zt ?_ | refine zb ?_ | refine zo ?_
 exact ret_1 results35 q (rv_cell (c:=[v_8,v_80]) isAgg41 sizeOf41 s z0 rfl q rfl) ⟨_,rfl,_,_,_,_,_,rfl,(s.pk1.pk2.trunc 2),hRL,(hq_10.mono (hl_86.le.trans hl_204.le)),hq_207,((Apart.perm hap_83 hp_208).mono hl_204.le)⟩
theorem leaf_Leaf_Scan.calls (a0 : leaf_Leaf) (a1 : ByteArray) (a2 : Int) (a3 : Int) {w0 : World} {R : Hp} {M : List Own} {b0 : Nat} {v0_0 : Value} {nb0_1 : Nat} {v0p1_0 : Value} {cs0p1_0 : List Value} {mb0p1_1 : Nat} {mb0_2 : Nat} {E0_2 : List (MB Int)} (hS0 : St M w0 w0 R [.cells b0 [v0_0,I6 a0.room,I6 a0.points,.pointer (some ⟨nb0_1,0,none⟩),.map (some mb0_2)] 70,.cells nb0_1 [I6 a0.dict.most,v0p1_0,.map (some mb0p1_1)] 102,.row 113 2 v0p1_0 a0.dict.l.length cs0p1_0,.mp mb0p1_1 (kvs Value.string (Value.int .i64) a0.dict.ids),mbo mb0_2 (kvs (Value.int .i64) id (mbp E0_2)) 111 90 2 E0_2]) (h0_0 : SlR ty_api_Schema R v0_0 a0.schemas) (h0p1_0 : Reps ty_streams_stream R cs0p1_0 a0.dict.l) (h0_2 : MBel ty_api_Sample runs_Run.l R E0_2 a0.runs) {r : api_Table × Int × leaf_Leaf} (H : leaf_Leaf_Scan a0 a1 a2 a3 = some r) : Calls prog 12 #[.pointer (some ⟨b0,0,none⟩),.string a1,I6 a2,I6 a3] w0 (Rets fun v w'=>∃ (R' : Hp) (u0 : Value) (cu0 : List Value) (u1 : Value) (cu1 : List Value) (u2 : Value) (B3 : Nat) (u4 : Value) (cu4 : List Value) (B5 : Nat) (B6 : Nat) (E6 : List (MB Int)),v = .tuple #[.agg #[u0,u1],I6 r.2.1] ∧ St M w0 w' R' [.row 65 2 u0 r.1.Cols.length cu0,.row 31 1 u1 r.1.Rows.length cu1,.cells b0 [u2,I6 r.2.2.room,I6 r.2.2.points,.pointer (some ⟨B3,0,none⟩),.map (some B6)] 70,.cells B3 [I6 r.2.2.dict.most,u4,.map (some B5)] 102,.row 113 2 u4 r.2.2.dict.l.length cu4,.mp B5 (kvs Value.string (Value.int .i64) r.2.2.dict.ids),mbo B6 (kvs (Value.int .i64) id (mbp E6)) 111 90 2 E6] ∧ RLe M w0 R R' ∧ Reps ty_api_Col R' cu0 r.1.Cols ∧ Reps (tySl ty_api_Value) R' cu1 r.1.Rows ∧ Apart R R' cu1 ∧ SlR ty_api_Schema R u2 r.2.2.schemas ∧ Reps ty_streams_stream R cu4 r.2.2.dict.l ∧ MBel ty_api_Sample runs_Run.l R E6 r.2.2.runs):=by
 unfold leaf_Leaf_Scan at H
 refine enter (args:=[.pointer (some ⟨b0,0,none⟩),.string a1,I6 a2,I6 a3]) func12 rfl ntmps12 rfl fun a q=>?_
 have s:=hS0
 have hRL:=RLe.refl (M:=M) w0 R
 refine zq<|zr ?_
 refine sl_alloc zeroValue41 s q (by decide) rfl rfl fun a w b_1 s q=>?_
 refine za q rfl fun a q=>zn<|zq<|zr<|zm q rfl fun a q=>zl q (r_nilCheck q rfl) fun a q=>zl q (r_fieldAddr underlying70 rfl sizeOf28 q rfl) fun a q=>zl q (r_load isAgg28 q rfl (s.cell z1 rfl)) fun a q=>zm q rfl fun a q=>?_
 obtain ⟨y_2,h_3,H⟩:=bs H
 refine sl_call call29 q (by decide) rfl rfl rfl (schema_Find.calls a0.schemas a1 s.sub h0_0 h_3) fun a v_ w hv_ q=>?_
 obtain ⟨R_4,v_6,v_8,hv_,hr_,hl_5,hs_7,hs_9⟩:=hv_
 have hv_:=hv_.symm
 subst hv_
 obtain ⟨s,hl_5⟩:=s.sp0.back hr_ hl_5
 have s:=s.un0
 have hRL:=hRL.trans hl_5
 refine zm q rfl fun a q=>zl q (r_extract q rfl rfl) fun a q=>zl q (r_extract q rfl rfl) fun a q=>?_
 refine sl_alloc zeroValue49 s q (by decide) rfl rfl fun a w b_10 s q=>?_
 refine sl_storeA (vs:=[.string y_2.1.Name,v_6,v_8]) (c':=[.string y_2.1.Name,v_6,v_8]) sizeOf49 s q rfl rfl rfl rfl (zc (all_cons hs_7.one (all_cons hs_9.one zz))) (Nat.le_of_ble_eq_true rfl) rfl fun a w s q=>?_
 refine za q rfl fun a q=>zn<|zq<|zq<|zr<|zm q rfl fun a q=>zl q (r_un q rfl (u_not _)) fun a q=>zn ?_
 refine wp_cond_split (q.ev rfl) (fun (hb_11 : (!y_2.2) = true)=>?_) fun hb_11=>?_
 rw [ifb_t hb_11] at H
 refine zq<|zr<|zl q (r_buildC (ps:=[]) (c:=[.slice none 0 0,.slice none 0 0]) underlying41 zeroValue41 places41 q rfl pc_nil rfl rfl) fun a q=>?_
 have s:=s.pk1
 refine sl_storeA (vs:=[.slice none 0 0,.slice none 0 0]) (c':=[.slice none 0 0,.slice none 0 0]) sizeOf41 s q rfl rfl rfl rfl (zc (zc zz)) (Nat.le_of_ble_eq_true rfl) rfl fun a w s q=>?_
 refine za q rfl fun a q=>zn ?_
 have s:=s.row_nil 65 2
 have hq_13 : Reps ty_api_Col R_4 [] ([] : List api_Col):=Reps.nil _ _
 have s:=s.row_nil 31 1
 have hq_15 : Reps (tySl ty_api_Value) R_4 [] ([] : List (List api_Value)):=Reps.nil _ _
 obtain rfl:=Option.some.inj H
 refine wp_ret ?_
 repeat first | refine zt ?_ | refine zb ?_ | refine zo ?_
 exact ret_2 results12 q (rv_cell (c:=[(.slice none 0 0),(.slice none 0 0)]) isAgg41 sizeOf41 s z2 rfl q rfl) (rv_tmp q rfl) ⟨_,rfl,_,_,_,_,_,_,_,_,_,_,_,_,rfl,(s.pk8.pk8.pk8.pk8.pk8.pk5.pk6.trunc 7),hRL,hq_13,hq_15,(Apart.nil _ _),h0_0,h0p1_0,h0_2⟩
 rw [ifb_f hb_11] at H
 refine wp_skip<|zq<|zr<|zl q (r_loadA (cs:=[.string y_2.1.Name,v_6,v_8]) isAgg49 sizeOf49 rfl q rfl (s.cells_of (m:=3) z0 rfl)) fun a q=>?_
 obtain ⟨y_16,h_17,H⟩:=bs H
 refine sl_call call30 q (by decide) rfl rfl rfl (schema_Cols.calls y_2.1 s.sub hs_7 hs_9 h_17) fun a v_ w hv_ q=>?_
 obtain ⟨R_18,v_21,cs_22,hv_,hr_,hl_19,hq_23⟩:=hv_
 have hv_:=hv_.symm
 subst hv_
 obtain ⟨s,hl_19⟩:=s.sp0.back hr_ hl_19
 have s:=s.un1
 have hRL:=hRL.trans hl_19
 have ho_24:=s.row_one z0
 refine zl q (r_buildC (ps:=[(0,v_21)]) (c:=[v_21,.slice none 0 0]) underlying41 zeroValue41 places41 q rfl (pc_cons (cells1 ho_24) pc_nil) rfl rfl) fun a q=>?_
 refine sl_alloc zeroValue41 s q (by decide) rfl rfl fun a w b_25 s q=>?_
 refine sl_storeA (vs:=[v_21,.slice none 0 0]) (c':=[v_21,.slice none 0 0]) sizeOf41 s q rfl rfl rfl rfl (all_cons (s.row_one z1) (zc zz)) (Nat.le_of_ble_eq_true rfl) rfl fun a w s q=>?_
 refine zn<|zq<|zq<|zr<|zm q rfl fun a q=>zl q (r_nilCheck q rfl) fun a q=>zl q (r_fieldAddr underlying70 rfl sizeOf66 q rfl) fun a q=>zl q (r_load isAgg66 q rfl (s.cell z4 rfl)) fun a q=>zm q rfl fun a q=>?_
 obtain ⟨y_26,h_27,H⟩:=bs H
 refine sl_call call31 q (by decide) rfl rfl rfl (streams_Dict_Of.calls a0.dict a1 (lentOf_sub [] _) s.sub (s.lend_box0 z5) (s.lend_row0 z6 (h0p1_0.mono (hl_5.le.trans hl_19.le)) rfl rfl) (s.lend_map0 z7) h_27) fun a v_ w hv_ q=>?_
 obtain ⟨R_28,v_31,cs_32,hv_,hr_,hl_29,hq_33⟩:=hv_
 have hv_:=hv_.symm
 subst hv_
 obtain ⟨s,hl_29⟩:=s.sp0.back hr_ hl_29
 have s:=s.un1
 have hRL:=hRL.trans hl_29
 refine zl q (r_len_O underlying22 s z0 q rfl) fun a q=>zm q rfl fun a q=>zn ?_
 refine wp_block ?_
 refine wp_loop_k (fun k_l0 a w=>∃ (x_312 : List (List api_Value)) (x_317 : Int) (R_318 : Hp) (v_313 : Value) (cs_314 : List Value) (E_309 : List (MB Int)),leaf_Leaf_Scan.l0 a0 a2 a3 y_16 y_26 k_l0 x_312 x_317 = some r ∧ RLe M w0 R_28 R_318 ∧ Reps (tySl ty_api_Value) R_318 cs_314 x_312 ∧ Apart R R_318 cs_314 ∧ MBel ty_api_Sample runs_Run.l R E_309 a0.runs ∧ Kn 88 a [(0,.pointer (some ⟨b0,0,none⟩)),(2,I6 a2),(3,I6 a3),(8,.pointer (some ⟨b_1,0,none⟩)),(12,.pointer (some ⟨b_25,0,none⟩)),(40,v_31),(41,I6 (y_26.length : Int)),(42,I6 x_317)] ∧ St M w0 w R_318 [.row 113 2 v0p1_0 a0.dict.l.length cs0p1_0,.mp mb0p1_1 (kvs Value.string (Value.int .i64) a0.dict.ids),.cells nb0_1 [I6 a0.dict.most,v0p1_0,.map (some mb0p1_1)] 102,mbo mb0_2 (kvs (Value.int .i64) id (mbp E_309)) 111 90 2 E_309,.cells b0 [v0_0,I6 a0.room,I6 a0.points,.pointer (some ⟨nb0_1,0,none⟩),.map (some mb0_2)] 70,.cells b_1 [.slice none 0 0,.slice none 0 0] 41,.row 65 2 v_21 y_16.length cs_22,.row 31 1 v_313 x_312.length cs_314,.cells b_25 [v_21,v_313] 41,.row 3 1 v_31 y_26.length cs_32]) (((y_26.length : Int) - 0).toNat + 1) ?_ ?_
 have s:=s.row_nil 31 1
 have hq_585 : Reps (tySl ty_api_Value) R_28 [] ([] : List (List api_Value)):=Reps.nil _ _
 have s:=s.pk1
 have s:=s.pk2
 have s:=s.pk2
 have s:=s.pk3
 have s:=s.pk5
 have s:=s.pk6
 have s:=s.pk10
 have s:=s.pk8
 have s:=s.pk10
 have s:=s.pk10
 exact ⟨[],0,_,_,_,_,H,(RLe.refl _ _),hq_585,(Apart.nil _ _),h0_2,q.sub (zc (zc (zc (zc (zc (zc (zc (zc zz)))))))),s.trunc 10⟩
 rintro k_l0 a w ⟨x_312,x_317,R_318,v_313,cs_314,E_309,H,hl_319,hq_315,hap_316,hm_310,q,s⟩
 rcases k_l0 with _ | k_l0
 cases H
 rw [leaf_Leaf_Scan.l0.eq_2] at H
 have hRL:=hRL.trans hl_319
 refine zq<|zr<|zl q (r_ibin q rfl rfl rfl) fun a q=>zn<|zq ?_
 refine wp_cond_split (q.ev rfl) (fun (hb_586 : (decide (x_317 < (y_26.length : Int))) = true)=>?_) fun hb_586=>?_
 rw [ifb_t hb_586] at H
 refine wp_skip<|zq ?_
 refine wp_block ?_
 refine zq<|zr ?_
 obtain ⟨y_587,h_588,H⟩:=bs H
 obtain ⟨b_590,c_591,cs_592,hv_589,hr_593,hc_594,h_5880,h_5881⟩:=s.row_ix (.tail _ z8) (hq_33.mono hl_319.le) rfl rfl h_588
 subst hr_593
 refine zl q (r_indexAddr_R underlying22 sizeOf3 hv_589 h_5880 h_5881 q rfl rfl) fun a q=>zl q (r_load isAgg3 q rfl (s.row_cell (.tail _ z8) hv_589 (hc_594 0 _ rfl))) fun a q=>za q rfl fun a q=>zn<|zq<|zr<|zm q rfl fun a q=>zl q (r_nilCheck q rfl) fun a q=>zl q (r_fieldAddr underlying70 rfl sizeOf66 q rfl) fun a q=>zl q (r_load isAgg66 q rfl (s.cell z4 rfl)) fun a q=>zm q rfl fun a q=>?_
 obtain ⟨y_595,h_596,H⟩:=bs H
 refine sl_call call32 q (by decide) rfl rfl rfl (streams_Dict_Keys.calls a0.dict y_587 (lentOf_sub [] _) s.sub (s.lend_box0 z2) (s.lend_row0 z0 (h0p1_0.mono (hl_5.le.trans (hl_19.le.trans (hl_29.le.trans hl_319.le)))) rfl rfl) (s.lend_map0 z1) h_596) fun a v_ w hv_ q=>?_
 obtain ⟨R_597,v_600,cs_601,hv_,hr_,hl_598,hq_602⟩:=hv_
 have hv_:=hv_.symm
 subst hv_
 obtain ⟨s,hl_598⟩:=s.sp0.back hr_ hl_598
 have s:=s.un1
 have hRL:=hRL.trans hl_598
 refine zm q rfl fun a q=>zl q (r_extract q rfl rfl) fun a q=>zl q (r_extract q rfl rfl) fun a q=>zl q (r_extract q rfl rfl) fun a q=>za q rfl fun a q=>za q rfl fun a q=>za q rfl fun a q=>zn<|zq<|zr<|zm q rfl fun a q=>zl q (r_nilCheck q rfl) fun a q=>zl q (r_fieldAddr underlying70 rfl sizeOf68 q rfl) fun a q=>zl q (r_load isAgg68 q rfl (s.cell z5 rfl)) fun a q=>zm q rfl fun a q=>zl q (r_lookup_B (x:=y_587) underlying68 underlying3 (key_int .i64) zeroValue75 s z4 q rfl rfl) fun a q=>zm q rfl fun a q=>zm q rfl fun a q=>?_
 obtain ⟨y_603,h_604,H⟩:=bs H
 have s:=s.pk4
 obtain ⟨b_605,v_606,cs_607,s,hq_608,hk_609⟩:=St.btake hm_310 h_604 s
 rw [bhd_of hk_609] at q
 have s : St M w0 w R_597 [.cells b_605 [v_606] 111,.row 90 2 v_606 y_603.l.length cs_607,mbo mb0_2 (kvs (Value.int .i64) id (mbp E_309)) 111 90 2 (bdel E_309 y_587),.row 58 11 v_600 y_595.2.1.length cs_601,.row 113 2 v0p1_0 a0.dict.l.length cs0p1_0,.mp mb0p1_1 (kvs Value.string (Value.int .i64) a0.dict.ids),.cells nb0_1 [I6 a0.dict.most,v0p1_0,.map (some mb0p1_1)] 102,.cells b0 [v0_0,I6 a0.room,I6 a0.points,.pointer (some ⟨nb0_1,0,none⟩),.map (some mb0_2)] 70,.cells b_1 [.slice none 0 0,.slice none 0 0] 41,.row 65 2 v_21 y_16.length cs_22,.row 31 1 v_313 x_312.length cs_314,.cells b_25 [v_21,v_313] 41,.row 3 1 v_31 y_26.length cs_32]:=s
 obtain ⟨y_611,h_612,H⟩:=bs H
 refine sl_call call33 q (by decide) rfl rfl rfl (runs_Run_Range.calls y_603 a2 a3 (lentOf_sub [] _) s.sub (s.lend_box0 z0) (s.lend_row0 z1 (hq_608.mono (hl_5.le.trans (hl_19.le.trans (hl_29.le.trans (hl_319.le.trans hl_598.le))))) rfl rfl) h_612) fun a v_ w hv_ q=>?_
 obtain ⟨R_613,v_616,cs_617,hv_,hr_,hl_614,hq_618,hap_619⟩:=hv_
 have hv_:=hv_.symm
 subst hv_
 obtain ⟨s,hl_614⟩:=s.sp0.back hr_ hl_614
 have s:=s.un1
 have hRL:=hRL.trans hl_614
 have s:=s.pk3
 have s:=s.pk3
 have s:=s.pk3
 obtain ⟨E_620,s,hm_621⟩:=St.bput (y:=y_603) hm_310 hk_609 hq_608 rfl s
 rw [mset_same h_604] at hm_621
 have s : St M w0 w R_613 [mbo mb0_2 (kvs (Value.int .i64) id (mbp E_620)) 111 90 2 E_620,.row 90 2 v_616 y_611.length cs_617,.row 58 11 v_600 y_595.2.1.length cs_601,.row 113 2 v0p1_0 a0.dict.l.length cs0p1_0,.mp mb0p1_1 (kvs Value.string (Value.int .i64) a0.dict.ids),.cells nb0_1 [I6 a0.dict.most,v0p1_0,.map (some mb0p1_1)] 102,.cells b0 [v0_0,I6 a0.room,I6 a0.points,.pointer (some ⟨nb0_1,0,none⟩),.map (some mb0_2)] 70,.cells b_1 [.slice none 0 0,.slice none 0 0] 41,.row 65 2 v_21 y_16.length cs_22,.row 31 1 v_313 x_312.length cs_314,.cells b_25 [v_21,v_313] 41,.row 3 1 v_31 y_26.length cs_32]:=s
 refine zl q (r_len_O underlying87 s z1 q rfl) fun a q=>zm q rfl fun a q=>zn ?_
 refine wp_block ?_
 refine wp_loop_k (fun k_l1 a w=>∃ (x_704 : List (List api_Value)) (x_711 : Int) (R_712 : Hp) (v_709 : Value) (v_705 : Value) (cs_706 : List Value),leaf_Leaf_Scan.l1 (leaf_Leaf_Scan.l0 a0 a2 a3 y_16 y_26 k_l0) y_26 x_317 y_595 y_611 k_l1 x_704 x_711 = some r ∧ RLe M w0 R_613 R_712 ∧ SlR ty_api_Value R_712 v_709 y_595.2.1 ∧ Reps (tySl ty_api_Value) R_712 cs_706 x_704 ∧ Apart R R_712 cs_706 ∧ Kn 88 a [(0,.pointer (some ⟨b0,0,none⟩)),(2,I6 a2),(3,I6 a3),(8,.pointer (some ⟨b_1,0,none⟩)),(12,.pointer (some ⟨b_25,0,none⟩)),(16,v_709),(40,v_31),(41,I6 (y_26.length : Int)),(42,I6 x_317),(64,v_616),(65,I6 (y_611.length : Int)),(66,I6 x_711)] ∧ St M w0 w R_712 [.row 113 2 v0p1_0 a0.dict.l.length cs0p1_0,.mp mb0p1_1 (kvs Value.string (Value.int .i64) a0.dict.ids),.cells nb0_1 [I6 a0.dict.most,v0p1_0,.map (some mb0p1_1)] 102,mbo mb0_2 (kvs (Value.int .i64) id (mbp E_620)) 111 90 2 E_620,.cells b0 [v0_0,I6 a0.room,I6 a0.points,.pointer (some ⟨nb0_1,0,none⟩),.map (some mb0_2)] 70,.cells b_1 [.slice none 0 0,.slice none 0 0] 41,.row 65 2 v_21 y_16.length cs_22,.row 31 1 v_705 x_704.length cs_706,.cells b_25 [v_21,v_705] 41,.row 3 1 v_31 y_26.length cs_32,.row 90 2 v_616 y_611.length cs_617]) (((y_611.length : Int) - 0).toNat + 1) ?_ ?_
 have s:=s.pk2
 obtain ⟨R_780,s,hl_782,hs_781,hn_783⟩:=s.fz_rowN (hq_602.mono hl_614.le) rfl rfl
 have hRL:=hRL.trans hl_782
 have s:=s.pk1
 have s:=s.pk10
 have s:=s.pk10
 have s:=s.pk10
 have s:=s.pk10
 have s:=s.pk10
 have s:=s.pk10
 have s:=s.pk7
 have s:=s.pk10
 have s:=s.pk10
 have s:=s.pk10
 exact ⟨x_312,0,_,v_600,_,_,H,hl_782,hs_781,(hq_315.mono (hl_598.le.trans (hl_614.le.trans hl_782.le))),(hap_316.mono (hl_598.le.trans (hl_614.le.trans hl_782.le))),q.sub (zc (zc (zc (zc (zc (zc (zc (zc (zc (zc (zc (zc zz)))))))))))),s⟩
 rintro k_l1 a w ⟨x_704,x_711,R_712,v_709,v_705,cs_706,H,hl_713,hs_710,hq_707,hap_708,q,s⟩
 rcases k_l1 with _ | k_l1
 cases H
 rw [leaf_Leaf_Scan.l1.eq_2] at H
 have hRL:=hRL.trans hl_713
 refine zq<|zr<|zl q (r_ibin q rfl rfl rfl) fun a q=>zn<|zq ?_
 refine wp_cond_split (q.ev rfl) (fun (hb_784 : (decide (x_711 < (y_611.length : Int))) = true)=>?_) fun hb_784=>?_
 rw [ifb_t hb_784] at H
 refine wp_skip<|zq ?_
 refine wp_block ?_
 refine zq<|zr ?_
 obtain ⟨y_785,h_786,H⟩:=bs H
 obtain ⟨b_788,c_789,cs_790,hv_787,hr_791,hc_792,h_7860,h_7861⟩:=s.row_ix (.tail _ (.tail _ z8)) (hq_618.mono hl_713.le) rfl rfl h_786
 obtain ⟨v_793,rfl,hs_794⟩:=hr_791
 refine zl q (r_indexAddr_R underlying87 sizeOf90 hv_787 h_7860 h_7861 q rfl rfl) fun a q=>zl q (r_loadA (cs:=[I6 y_785.Time,v_793]) isAgg90 sizeOf90 rfl q rfl (fun j v hv=>by have:=s.row_cell (.tail _ (.tail _ z8)) hv_787 (hc_792 j v hv); simpa [Nat.add_assoc] using this)) fun a q=>?_
 refine sl_alloc zeroValue90 s q (by decide) rfl rfl fun a w b_795 s q=>?_
 refine sl_storeA (vs:=[I6 y_785.Time,v_793]) (c':=[I6 y_785.Time,v_793]) sizeOf90 s q rfl rfl rfl rfl (zc (all_cons hs_794.one zz)) (Nat.le_of_ble_eq_true rfl) rfl fun a w s q=>?_
 refine zn ?_
 refine parT_region (C:=fun w=>St M w0 w R_712 [.cells b_795 [I6 y_785.Time,v_793] 90,.row 113 2 v0p1_0 a0.dict.l.length cs0p1_0,.mp mb0p1_1 (kvs Value.string (Value.int .i64) a0.dict.ids),.cells nb0_1 [I6 a0.dict.most,v0p1_0,.map (some mb0p1_1)] 102,mbo mb0_2 (kvs (Value.int .i64) id (mbp E_620)) 111 90 2 E_620,.cells b0 [v0_0,I6 a0.room,I6 a0.points,.pointer (some ⟨nb0_1,0,none⟩),.map (some mb0_2)] 70,.cells b_1 [.slice none 0 0,.slice none 0 0] 41,.row 65 2 v_21 y_16.length cs_22,.row 31 1 v_705 x_704.length cs_706,.cells b_25 [v_21,v_705] 41,.row 3 1 v_31 y_26.length cs_32,.row 90 2 v_616 y_611.length cs_617]) 12 [(0,true),(1,true),(2,true),(3,true),(4,true),(6,true),(7,true),(8,true),(5,false),(9,false),(10,false),(11,false)] mixed (by kernel_rfl) s (fun w s=>s) fun w s=>?_
 refine zp rfl q (fun w s=>r_fieldAddr underlying41 rfl sizeOf39 q rfl) fun a q=>zp rfl q (fun w s=>r_load isAgg39 q rfl (s.cell (.tail _ z8) rfl)) fun a q=>zp rfl q (fun w s=>r_fieldAddr underlying90 rfl sizeOf3 q rfl) fun a q=>zp rfl q (fun w s=>r_load isAgg3 q rfl (s.cell z0 rfl)) fun a q=>zp rfl q (fun w s=>r_buildC (ps:=[(0,I6 1),(1,I6 y_785.Time)]) (c:=[I6 1,I6 y_785.Time,.string (⟨#[]⟩ : ByteArray),I6 0,I6 0,I6 0,I6 0,I6 0,I6 0,I6 0,I6 0]) underlying58 zeroValue58 places58 q rfl (pc_cons rfl (pc_cons rfl pc_nil)) rfl rfl) fun a q=>zp rfl q (fun w s=>r_move q rfl) fun a q=>?_
 refine zp rfl q (fun w s=>r_fieldAddr underlying90 rfl sizeOf31 q rfl) fun a q=>zp rfl q (fun w s=>r_load isAgg31 q rfl (s.cell z0 rfl)) fun a q=>?_
 refine spw (k:=5) rfl rfl s ?_
 refine sl_buildSliceF (zc:=[I6 0,I6 0,.string (⟨#[]⟩ : ByteArray),I6 0,I6 0,I6 0,I6 0,I6 0,I6 0,I6 0,I6 0]) (ps:=[(0,.agg #[I6 1,I6 y_785.Time,.string (⟨#[]⟩ : ByteArray),I6 0,I6 0,I6 0,I6 0,I6 0,I6 0,I6 0,I6 0])]) (c:=[I6 1,I6 y_785.Time,.string (⟨#[]⟩ : ByteArray),I6 0,I6 0,I6 0,I6 0,I6 0,I6 0,I6 0,I6 0]) [[I6 1,I6 y_785.Time,.string (⟨#[]⟩ : ByteArray),I6 0,I6 0,I6 0,I6 0,I6 0,I6 0,I6 0,I6 0]] underlying31 sizeOf58 zeroValue58 rfl (pc_cons rfl pc_nil) rfl rfl (Nat.le_of_ble_eq_true rfl) rfl (zc zz) rfl s q (by decide) rfl fun a w b_823 s q=>?_
 refine parK_nil (s.pk12.pk12.pk12.pk12.pk12.pk12.pk12.pk12.pk12.pk12.pk12.pk12.trunc 12) ?_
 refine spw (k:=9) rfl rfl (s.pk12.pk12.pk12.pk12.pk12.pk12.pk12.pk12.pk12.pk12.pk12.pk12.trunc 12) ?_
 refine sl_buildSliceF (zc:=[.slice none 0 0]) (ps:=[(0,.slice (some ⟨b_823,0,none⟩) 1 1),(1,v_709),(2,v_793)]) (c:=[.slice (some ⟨b_823,0,none⟩) 1 1,v_709,v_793]) [[.slice (some ⟨b_823,0,none⟩) 1 1],[v_709],[v_793]] underlying39 sizeOf31 zeroValue31 rfl (pc_cons rfl (pc_cons (cells1 hs_710.one) (pc_cons (cells1 hs_794.one) pc_nil))) rfl rfl (Nat.le_of_ble_eq_true rfl) rfl (zc (zc (zc zz))) rfl s q (by decide) rfl fun a w b_824 s q=>?_
 refine parK_nil (s.pk13.pk13.pk13.pk13.pk13.pk13.pk13.pk13.pk13.pk13.pk13.pk13.trunc 12) ?_
 refine spw (k:=10) rfl rfl (s.pk13.pk13.pk13.pk13.pk13.pk13.pk13.pk13.pk13.pk13.pk13.pk13.trunc 12) ?_
 have s:=s.pk1
 obtain ⟨R_825,s,hl_827,hs_826⟩:=s.fz_lit (ty:=ty_api_Value) (xs:=[(⟨1,y_785.Time,(⟨#[]⟩ : ByteArray),(⟨0,0,0,0,0,0,0,0⟩ : Arr8)⟩ : api_Value)]) (Reps.cons (show Ty.rep ty_api_Value _ [I6 1,I6 y_785.Time,.string (⟨#[]⟩ : ByteArray),I6 0,I6 0,I6 0,I6 0,I6 0,I6 0,I6 0,I6 0] (⟨1,y_785.Time,(⟨#[]⟩ : ByteArray),(⟨0,0,0,0,0,0,0,0⟩ : Arr8)⟩ : api_Value) from rfl) (Reps.nil _ _)) rfl
 have hRL:=hRL.trans hl_827
 obtain ⟨y_828,h_829,H⟩:=bs H
 refine sl_call call34 q (by decide) rfl rfl rfl (slices_Concat_api_Value_api_Value.calls [[(⟨1,y_785.Time,(⟨#[]⟩ : ByteArray),(⟨0,0,0,0,0,0,0,0⟩ : Arr8)⟩ : api_Value)],y_595.2.1,y_785.Vals] (lentOf_sub [] _) s.sub (s.lend_lit0 (ty:=(tySl ty_api_Value)) (xs:=[[(⟨1,y_785.Time,(⟨#[]⟩ : ByteArray),(⟨0,0,0,0,0,0,0,0⟩ : Arr8)⟩ : api_Value)],y_595.2.1,y_785.Vals]) z0 (Reps.cons (show Ty.rep (tySl ty_api_Value) _ [(.slice (some ⟨b_823,0,none⟩) 1 1)] [(⟨1,y_785.Time,(⟨#[]⟩ : ByteArray),(⟨0,0,0,0,0,0,0,0⟩ : Arr8)⟩ : api_Value)] from ⟨_,rfl,hs_826⟩) (Reps.cons (show Ty.rep (tySl ty_api_Value) _ [v_709] y_595.2.1 from ⟨_,rfl,(hs_710.mono hl_827.le)⟩) (Reps.cons (show Ty.rep (tySl ty_api_Value) _ [v_793] y_785.Vals from ⟨_,rfl,(hs_794.mono hl_827.le)⟩) (Reps.nil _ _)))) rfl) h_829) fun a v_ w hv_ q=>?_
 obtain ⟨R_830,v_833,cs_834,hv_,hr_,hl_831,hq_835⟩:=hv_
 have hv_:=hv_.symm
 subst hv_
 obtain ⟨s,hl_831⟩:=s.sp0.back hr_ hl_831
 have s:=s.un1
 have hRL:=hRL.trans hl_831
 refine parK_nil ((s.pk13.pk13.pk13.pk13.pk13.pk13.pk13.pk13.pk13.pk13.pk13.pk13.trunc 12).lower (hl_827.le.trans hl_831.le)) ?_
 refine spw (k:=11) rfl rfl ((s.pk13.pk13.pk13.pk13.pk13.pk13.pk13.pk13.pk13.pk13.pk13.pk13.trunc 12).lower (hl_827.le.trans hl_831.le)) ?_
 have ho_836:=s.row_one z0
 refine sl_buildSliceF (zc:=[.slice none 0 0]) (ps:=[(0,v_833)]) (c:=[v_833]) [[v_833]] underlying39 sizeOf31 zeroValue31 rfl (pc_cons (cells1 ho_836) pc_nil) rfl rfl (Nat.le_of_ble_eq_true rfl) rfl (zc zz) rfl s q (by decide) rfl fun a w b_837 s q=>?_
 refine parK_nil ((s.pk14.pk14.pk14.pk14.pk14.pk14.pk14.pk14.pk14.pk14.pk14.pk14.trunc 12).lower (hl_827.le.trans hl_831.le)) ?_
 refine thenL_nil ?_
 have s:=s.pk11
 have s:=s.pk2
 obtain ⟨R_838,s,hl_840,hs_839,hn_841⟩:=s.fz_rowN hq_835 rfl rfl
 have hRL:=hRL.trans hl_840
 obtain ⟨y_842,h_843,H⟩:=bs H
 refine sl_append_LA (ty:=(tySl ty_api_Value)) (ys:=[y_828]) elT39 (by decide) rfl (hq_707.mono (hl_827.le.trans (hl_831.le.trans hl_840.le))) rfl (Reps.cons (show Ty.rep (tySl ty_api_Value) _ [v_833] y_828 from ⟨_,rfl,hs_839⟩) (Reps.nil _ _)) rfl h_843 s q (by decide) rfl rfl rfl fun a w v_844 cs_845 hcq_848 hq_846 s q=>?_
 have hap_849 : Apart R R_838 cs_845:=by rw [hcq_848]; exact (Apart.app (hap_708.mono (hl_827.le.trans hl_831.le)) (hl_5.le.trans (hl_19.le.trans (hl_29.le.trans (hl_319.le.trans (hl_598.le.trans (hl_614.le.trans (hl_713.le.trans (hl_827.le.trans hl_831.le)))))))) hl_840.le hn_841)
 refine zl q (r_fieldAddr underlying41 rfl sizeOf39 q rfl) fun a q=>?_
 have s:=s.pk10
 refine sl_store1 (c':=[v_21,v_844]) sizeOf39 s q rfl rfl rfl (s.row_one z1) (Nat.le_of_ble_eq_true rfl) rfl fun a w s q=>?_
 refine wpList_nil (NoP_nil ?_)
 refine zr<|zl q (r_ibin q rfl rfl rfl) fun a q=>zm q rfl fun a q=>zn ?_
 have s:=s.pk12
 have s:=s.pk12
 have s:=s.pk2
 have s:=s.pk3
 have s:=s.pk12
 have s:=s.pk12
 have s:=s.pk12
 have s:=s.pk12
 have s:=s.pk12
 have s:=s.pk12
 have s:=s.pk12
 exact ⟨_,Nat.lt_succ_self _,y_842,(IntKind.i64.wrap (x_711 + 1)),_,v_709,_,_,H,(hl_713.trans (hl_827.trans (hl_831.trans hl_840))),(hs_710.mono (hl_827.le.trans (hl_831.le.trans hl_840.le))),hq_846,hap_849,q.sub (zc (zc (zc (zc (zc (zc (zc (zc (zc (zc (zc (zc zz)))))))))))),s.trunc 11⟩
 rw [ifb_f hb_784] at H
 refine wp_exit ?_
 refine zr<|zl q (r_ibin q rfl rfl rfl) fun a q=>zm q rfl fun a q=>zn ?_
 have s:=s.pk9
 have s:=s.pk9
 have s:=s.pk9
 have s:=s.pk9
 have s:=s.pk9
 have s:=s.pk9
 have s:=s.pk9
 have s:=s.pk9
 have s:=s.pk9
 have s:=s.pk9
 exact ⟨_,Nat.lt_succ_self _,x_704,(IntKind.i64.wrap (x_317 + 1)),_,_,_,_,H,(hl_319.trans (hl_598.trans (hl_614.trans hl_713))),hq_707,hap_708,hm_621,q.sub (zc (zc (zc (zc (zc (zc (zc (zc zz)))))))),s.trunc 10⟩
 rw [ifb_f hb_586] at H
 refine wp_exit ?_
 refine zq<|zr<|zl q (r_loadA (cs:=[v_21,v_313]) isAgg41 sizeOf41 rfl q rfl (s.cells_of (m:=2) z8 rfl)) fun a q=>?_
 obtain ⟨y_850,h_851,H⟩:=bs H
 refine sl_call call35 q (by decide) rfl rfl rfl (table_Canon.calls (⟨y_16,x_312⟩ : api_Table) (lentOf_sub [] _) s.sub (s.lend_row0 z6 (hq_23.mono (hl_29.le.trans hl_319.le)) rfl rfl) (s.lend_row0 z7 hq_315 rfl rfl) h_851) fun a v_ w hv_ q=>?_
 obtain ⟨R_852,v_855,cs_856,v_859,cs_860,hv_,hr_,hl_853,hq_857,hq_861,hap_862⟩:=hv_
 have hv_:=hv_.symm
 subst hv_
 obtain ⟨s,hl_853⟩:=s.sp0.back hr_ hl_853
 have s:=s.un2
 have hRL:=hRL.trans hl_853
 have s:=s.pk7
 refine sl_storeA (vs:=[v_855,v_859]) (c':=[v_855,v_859]) sizeOf41 s q rfl rfl rfl rfl (all_cons (s.row_one z1) (all_cons (s.row_one z2) zz)) (Nat.le_of_ble_eq_true rfl) rfl fun a w s q=>?_
 refine za q rfl fun a q=>zn ?_
 obtain rfl:=Option.some.inj H
 refine wp_ret ?_
 repeat first | refine zt ?_ | refine zb ?_ | refine zo ?_
 exact ret_2 results12 q (rv_cell (c:=[v_855,v_859]) isAgg41 sizeOf41 s z0 rfl q rfl) (rv_tmp q rfl) ⟨_,rfl,_,_,_,_,_,_,_,_,_,_,_,_,rfl,(s.pk6.pk5.pk5.pk6.pk7.pk7.pk7.trunc 7),hRL,hq_857,hq_861,(Apart.base hap_862 (hl_5.le.trans (hl_19.le.trans (hl_29.le.trans hl_319.le)))),h0_0,h0p1_0,hm_310⟩
theorem leaf_Leaf_Points.calls (a0 : leaf_Leaf) {w0 : World} {R : Hp} {M : List Own} {b0 : Nat} {v0_0 : Value} {nb0_1 : Nat} {v0p1_0 : Value} {cs0p1_0 : List Value} {mb0p1_1 : Nat} {mb0_2 : Nat} {E0_2 : List (MB Int)} (hS0 : St M w0 w0 R [.cells b0 [v0_0,I6 a0.room,I6 a0.points,.pointer (some ⟨nb0_1,0,none⟩),.map (some mb0_2)] 70,.cells nb0_1 [I6 a0.dict.most,v0p1_0,.map (some mb0p1_1)] 102,.row 113 2 v0p1_0 a0.dict.l.length cs0p1_0,.mp mb0p1_1 (kvs Value.string (Value.int .i64) a0.dict.ids),mbo mb0_2 (kvs (Value.int .i64) id (mbp E0_2)) 111 90 2 E0_2]) (h0_0 : SlR ty_api_Schema R v0_0 a0.schemas) (h0p1_0 : Reps ty_streams_stream R cs0p1_0 a0.dict.l) (h0_2 : MBel ty_api_Sample runs_Run.l R E0_2 a0.runs) {r : Int × leaf_Leaf} (H : leaf_Leaf_Points a0 = some r) : Calls prog 14 #[.pointer (some ⟨b0,0,none⟩)] w0 (Rets fun v w'=>∃ (R' : Hp) (u0 : Value) (B1 : Nat) (u2 : Value) (cu2 : List Value) (B3 : Nat) (B4 : Nat) (E4 : List (MB Int)),v = I6 r.1 ∧ St M w0 w' R' [.cells b0 [u0,I6 r.2.room,I6 r.2.points,.pointer (some ⟨B1,0,none⟩),.map (some B4)] 70,.cells B1 [I6 r.2.dict.most,u2,.map (some B3)] 102,.row 113 2 u2 r.2.dict.l.length cu2,.mp B3 (kvs Value.string (Value.int .i64) r.2.dict.ids),mbo B4 (kvs (Value.int .i64) id (mbp E4)) 111 90 2 E4] ∧ RLe M w0 R R' ∧ SlR ty_api_Schema R u0 r.2.schemas ∧ Reps ty_streams_stream R cu2 r.2.dict.l ∧ MBel ty_api_Sample runs_Run.l R E4 r.2.runs):=by
 unfold leaf_Leaf_Points at H
 refine enter (args:=[.pointer (some ⟨b0,0,none⟩)]) func14 rfl ntmps14 rfl fun a q=>?_
 have s:=hS0
 have hRL:=RLe.refl (M:=M) w0 R
 refine zq<|zr<|za q rfl fun a q=>zn<|zq<|zr<|zm q rfl fun a q=>zl q (r_nilCheck q rfl) fun a q=>zl q (r_fieldAddr underlying70 rfl sizeOf3 q rfl) fun a q=>zl q (r_load isAgg3 q rfl (s.cell z0 rfl)) fun a q=>za q rfl fun a q=>zn ?_
 obtain rfl:=Option.some.inj H
 refine wp_ret ?_
 repeat first | refine zt ?_ | refine zb ?_ | refine zo ?_
 exact ret_1 results14 q (rv_tmp q rfl) ⟨_,rfl,_,_,_,_,_,_,_,_,rfl,s,hRL,h0_0,h0p1_0,h0_2⟩
theorem law08_shown.calls {w0 : World} {RA : Hp} (hRA : RA.sub w0) (hG : GF RA) {r : Bool} (H : law08_shown  = some r) : CallsV prog 7 #[] w0 (.bool r):=by
 unfold law08_shown at H
 refine enter (args:=[]) func7 rfl ntmps7 rfl fun a q=>?_
 have s:=St.init (R:=fun _=>none) (w:=w0) (fun _ _ h=>by cases h)
 have hRL:=RLe.refl (M:=[]) w0 (fun _=>none)
 refine zq<|zr<|za q rfl fun a q=>zn<|zq<|zr ?_
 obtain ⟨y_1,h_2,H⟩:=bs H
 refine sl_call call9 q (by decide) rfl rfl rfl (law08_load.calls s.sub h_2) fun a v_ w hv_ q=>?_
 obtain ⟨R_3,v_6,cs_7,hv_,hr_,hl_4,hq_8⟩:=hv_
 have hv_:=hv_.symm
 subst hv_
 obtain ⟨s,hl_4⟩:=s.sp0.back hr_ hl_4
 have s:=s.un1
 have hRL:=hRL.trans hl_4
 obtain ⟨R_9,s,hl_11,hs_10⟩:=s.fz_row hq_8 rfl rfl
 have hRL:=hRL.trans hl_11
 obtain ⟨y_12,h_13,H⟩:=bs H
 refine sl_call call8 q (by decide) rfl rfl rfl (leaf_New.calls y_1 2 (lentOf_sub [] _) s.sub hs_10 (GF.mono (s.raLe0 hRA nil_not) hG) h_13) fun a v_ w hv_ q=>?_
 rcases hv_ with ⟨h_29,R_31,hv_,hr_,hl_32⟩ | ⟨y_16,h_30,R_14,b_17,v_18,b_20,v_22,cs_23,mb_25,mb_26,E_27,hv_,hr_,hl_15,hs_19,hq_24,hm_28⟩
 rw [oel_none h_29] at H
 have hv_:=hv_.symm
 subst hv_
 obtain ⟨s,hl_32⟩:=s.sp0.back hr_ hl_32
 have s:=s.un0
 have hRL:=hRL.trans hl_32
 refine zm q rfl fun a q=>zl q (r_extract q rfl rfl) fun a q=>zl q (r_extract q rfl rfl) fun a q=>za q rfl fun a q=>za q rfl fun a q=>zn<|zq<|zr ?_
 obtain ⟨y_33,h_34,H⟩:=bs H
 refine sl_call call8 q (by decide) rfl rfl rfl (leaf_New.calls ([] : List api_Schema) 2 (lentOf_sub [] _) s.sub (SlR.nil ty_api_Schema _) (GF.mono (s.raLe0 hRA nil_not) hG) h_34) fun a v_ w hv_ q=>?_
 rcases hv_ with ⟨h_50,R_52,hv_,hr_,hl_53⟩ | ⟨y_37,h_51,R_35,b_38,v_39,b_41,v_43,cs_44,mb_46,mb_47,E_48,hv_,hr_,hl_36,hs_40,hq_45,hm_49⟩
 rw [oel_none h_50] at H
 have hv_:=hv_.symm
 subst hv_
 obtain ⟨s,hl_53⟩:=s.sp0.back hr_ hl_53
 have s:=s.un0
 have hRL:=hRL.trans hl_53
 refine zm q rfl fun a q=>zl q (r_extract q rfl rfl) fun a q=>zl q (r_extract q rfl rfl) fun a q=>za q rfl fun a q=>za q rfl fun a q=>zn<|zq<|zq<|zr<|zm q rfl fun a q=>zl q (r_pnn underlying24 q rfl rfl) fun a q=>zm q rfl fun a q=>zs q fun a q=>zs q fun a q=>zl q (r_pick q rfl rfl rfl) fun a q=>zm q rfl fun a q=>zs q fun a q=>zs q fun a q=>zl q (r_pick q rfl rfl rfl) fun a q=>zn ?_
 refine wp_cond_true (q.ev rfl) ?_
 refine zq<|zr<|za q rfl fun a q=>zn ?_
 obtain rfl:=Option.some.inj H
 refine wp_ret ?_
 repeat first | refine zt ?_ | refine zb ?_ | refine zo ?_
 exact ret_1 results7 q (rv_tmp q rfl) ⟨rfl,s.bel⟩
 rw [oel_some h_51] at H
 have hv_:=hv_.symm
 subst hv_
 obtain ⟨s,hl_36⟩:=s.sp0.back hr_ hl_36
 have s:=s.un5
 have hRL:=hRL.trans hl_36
 refine zm q rfl fun a q=>zl q (r_extract q rfl rfl) fun a q=>zl q (r_extract q rfl rfl) fun a q=>za q rfl fun a q=>za q rfl fun a q=>zn<|zq<|zq<|zr<|zm q rfl fun a q=>zl q (r_pnn underlying24 q rfl rfl) fun a q=>zm q rfl fun a q=>zs q fun a q=>zs q fun a q=>zl q (r_pick q rfl rfl rfl) fun a q=>zm q rfl fun a q=>zs q fun a q=>zs q fun a q=>zl q (r_pick q rfl rfl rfl) fun a q=>zn ?_
 refine wp_cond_true (q.ev rfl) ?_
 refine zq<|zr<|za q rfl fun a q=>zn ?_
 obtain rfl:=Option.some.inj H
 refine wp_ret ?_
 repeat first | refine zt ?_ | refine zb ?_ | refine zo ?_
 exact ret_1 results7 q (rv_tmp q rfl) ⟨rfl,s.bel⟩
 rw [oel_some h_30] at H
 have hv_:=hv_.symm
 subst hv_
 obtain ⟨s,hl_15⟩:=s.sp0.back hr_ hl_15
 have s:=s.un5
 have hRL:=hRL.trans hl_15
 refine zm q rfl fun a q=>zl q (r_extract q rfl rfl) fun a q=>zl q (r_extract q rfl rfl) fun a q=>za q rfl fun a q=>za q rfl fun a q=>zn<|zq<|zr ?_
 obtain ⟨y_54,h_55,H⟩:=bs H
 refine sl_call call8 q (by decide) rfl rfl rfl (leaf_New.calls ([] : List api_Schema) 2 (lentOf_sub [] _) s.sub (SlR.nil ty_api_Schema _) (GF.mono (s.raLe0 hRA nil_not) hG) h_55) fun a v_ w hv_ q=>?_
 rcases hv_ with ⟨h_71,R_73,hv_,hr_,hl_74⟩ | ⟨y_58,h_72,R_56,b_59,v_60,b_62,v_64,cs_65,mb_67,mb_68,E_69,hv_,hr_,hl_57,hs_61,hq_66,hm_70⟩
 rw [oel_none h_71] at H
 have hv_:=hv_.symm
 subst hv_
 obtain ⟨s,hl_74⟩:=s.sp0.back hr_ hl_74
 have s:=s.un0
 have hRL:=hRL.trans hl_74
 refine zm q rfl fun a q=>zl q (r_extract q rfl rfl) fun a q=>zl q (r_extract q rfl rfl) fun a q=>za q rfl fun a q=>za q rfl fun a q=>zn<|zq<|zq ?_
 refine wp_mid (fun a w=>∃ (x_76 : Bool),law08_shown.j0 y_16 x_76 = some r ∧ Kn 154 a [(1,.pointer (some ⟨b_17,0,none⟩)),(37,.bool x_76)] ∧ St [] w0 w R_73 [.row 113 2 v_22 y_16.dict.l.length cs_23,.mp mb_25 (kvs Value.string (Value.int .i64) y_16.dict.ids),.cells b_20 [I6 y_16.dict.most,v_22,.map (some mb_25)] 102,mbo mb_26 (kvs (Value.int .i64) id (mbp E_27)) 111 90 2 E_27,.cells b_17 [v_18,I6 y_16.room,I6 y_16.points,.pointer (some ⟨b_20,0,none⟩),.map (some mb_26)] 70]) ?_ ?_
 refine zr<|zm q rfl fun a q=>zl q (r_peq underlying24 q rfl rfl) fun a q=>zm q rfl fun a q=>zm q rfl fun a q=>zl q (r_ibin q rfl rfl rfl) fun a q=>zl q (r_pick q rfl rfl rfl) fun a q=>zm q rfl fun a q=>?_
 rcases or_b (y_12.2 != 0) with hb_78 | hb_78
 rw [ifb_t hb_78] at H
 refine zsw q (wft hb_78) fun a q=>zsw q (wft hb_78) fun a q=>zl q (r_pick_t hb_78 q rfl rfl) fun a q=>zn ?_
 have s:=s.pk4
 have s:=s.pk2
 have s:=s.pk4
 have s:=s.pk4
 exact ⟨true,H,q.sub (zc (zc zz)),s⟩
 rw [ifb_f hb_78] at H
 refine zw q (wff hb_78) (r_move q rfl) fun a q=>zw q (wff hb_78) (r_ibin q rfl rfl rfl) fun a q=>zl q (r_pick_f hb_78 q rfl rfl) fun a q=>zn ?_
 have s:=s.pk4
 have s:=s.pk2
 have s:=s.pk4
 have s:=s.pk4
 exact ⟨(y_54.2 != 50),H,q.sub (zc (zc zz)),s⟩
 rintro a w ⟨x_76,H,q,s⟩
 unfold law08_shown.j0 at H
 refine wp_cond_split (q.ev rfl) (fun (hb_79 : x_76 = true)=>?_) fun hb_79=>?_
 rw [ifb_t hb_79] at H
 refine zq<|zr<|za q rfl fun a q=>zn ?_
 obtain rfl:=Option.some.inj H
 refine wp_ret ?_
 repeat first | refine zt ?_ | refine zb ?_ | refine zo ?_
 exact ret_1 results7 q (rv_tmp q rfl) ⟨rfl,s.bel⟩
 rw [ifb_f hb_79] at H
 refine wp_skip<|zq<|zr<|zm q rfl fun a q=>?_
 obtain ⟨y_80,h_81,H⟩:=bs H
 refine sl_call call10 q (by decide) rfl rfl rfl (law08_point.calls (⟨#[97]⟩ : ByteArray) 5 7 s.sub h_81) fun a v_ w hv_ q=>?_
 obtain ⟨R_82,v_85,cs_86,v_89,cs_90,hv_,hr_,hl_83,hq_87,hq_91⟩:=hv_
 have hv_:=hv_.symm
 subst hv_
 obtain ⟨s,hl_83⟩:=s.sp0.back hr_ hl_83
 have s:=s.un2
 have hRL:=hRL.trans hl_83
 obtain ⟨y_92,h_93,H⟩:=bs H
 have s:=s.pk5
 have s:=s.pk4
 have s:=s.pk4
 have s:=s.pk5
 have s:=s.pk6
 have hS1:=s.sp5
 refine sl_call call11 q (by decide) rfl rfl rfl (leaf_Leaf_Write.calls y_16 y_80 (lentOf_sub _ _) lentOf_not hS1.lend (hs_19.mono (hl_74.le.trans hl_83.le)) (hq_24.mono (hl_74.le.trans hl_83.le)) (hm_28.mono (hl_74.le.trans hl_83.le)) (hS1.lend_row z0 hq_87 rfl rfl) (hS1.lend_row z1 hq_91 rfl rfl) (GF.mono (hS1.raLe hRA nil_not) hG) h_93) fun a v_ w hv_ q=>?_
 obtain ⟨R_94,v_96,b_98,v_100,cs_101,mb_103,mb_104,E_105,hv_,hr_,hl_95,hs_97,hq_102,hm_106⟩:=hv_
 have hv_:=hv_.symm
 subst hv_
 obtain ⟨s,hl_95⟩:=hS1.back hr_ hl_95
 have s:=s.un5
 have hRL:=hRL.trans hl_95
 refine zm q rfl fun a q=>zl q (r_extract q rfl rfl) fun a q=>zl q (r_extract q rfl rfl) fun a q=>za q rfl fun a q=>za q rfl fun a q=>zn<|zq<|zr<|zm q rfl fun a q=>?_
 obtain ⟨y_107,h_108,H⟩:=bs H
 refine sl_call call10 q (by decide) rfl rfl rfl (law08_point.calls (⟨#[97]⟩ : ByteArray) 5 8 s.sub h_108) fun a v_ w hv_ q=>?_
 obtain ⟨R_109,v_112,cs_113,v_116,cs_117,hv_,hr_,hl_110,hq_114,hq_118⟩:=hv_
 have hv_:=hv_.symm
 subst hv_
 obtain ⟨s,hl_110⟩:=s.sp0.back hr_ hl_110
 have s:=s.un2
 have hRL:=hRL.trans hl_110
 obtain ⟨y_119,h_120,H⟩:=bs H
 have s:=s.pk6
 have s:=s.pk6
 have s:=s.pk6
 have s:=s.pk6
 have s:=s.pk6
 have hS1:=s.sp5
 refine sl_call call11 q (by decide) rfl rfl rfl (leaf_Leaf_Write.calls y_92.2.2 y_107 (lentOf_sub _ _) lentOf_not hS1.lend (hs_97.mono hl_110.le) (hq_102.mono hl_110.le) (hm_106.mono hl_110.le) (hS1.lend_row z0 hq_114 rfl rfl) (hS1.lend_row z1 hq_118 rfl rfl) (GF.mono (hS1.raLe hRA nil_not) hG) h_120) fun a v_ w hv_ q=>?_
 obtain ⟨R_121,v_123,b_125,v_127,cs_128,mb_130,mb_131,E_132,hv_,hr_,hl_122,hs_124,hq_129,hm_133⟩:=hv_
 have hv_:=hv_.symm
 subst hv_
 obtain ⟨s,hl_122⟩:=hS1.back hr_ hl_122
 have s:=s.un5
 have hRL:=hRL.trans hl_122
 refine zm q rfl fun a q=>zl q (r_extract q rfl rfl) fun a q=>zl q (r_extract q rfl rfl) fun a q=>za q rfl fun a q=>za q rfl fun a q=>zn<|zq<|zr<|zm q rfl fun a q=>?_
 obtain ⟨y_134,h_135,H⟩:=bs H
 refine sl_call call10 q (by decide) rfl rfl rfl (law08_point.calls (⟨#[98]⟩ : ByteArray) 3 1 s.sub h_135) fun a v_ w hv_ q=>?_
 obtain ⟨R_136,v_139,cs_140,v_143,cs_144,hv_,hr_,hl_137,hq_141,hq_145⟩:=hv_
 have hv_:=hv_.symm
 subst hv_
 obtain ⟨s,hl_137⟩:=s.sp0.back hr_ hl_137
 have s:=s.un2
 have hRL:=hRL.trans hl_137
 obtain ⟨y_146,h_147,H⟩:=bs H
 have s:=s.pk6
 have s:=s.pk6
 have s:=s.pk6
 have s:=s.pk6
 have s:=s.pk6
 have hS1:=s.sp5
 refine sl_call call11 q (by decide) rfl rfl rfl (leaf_Leaf_Write.calls y_119.2.2 y_134 (lentOf_sub _ _) lentOf_not hS1.lend (hs_124.mono hl_137.le) (hq_129.mono hl_137.le) (hm_133.mono hl_137.le) (hS1.lend_row z0 hq_141 rfl rfl) (hS1.lend_row z1 hq_145 rfl rfl) (GF.mono (hS1.raLe hRA nil_not) hG) h_147) fun a v_ w hv_ q=>?_
 obtain ⟨R_148,v_150,b_152,v_154,cs_155,mb_157,mb_158,E_159,hv_,hr_,hl_149,hs_151,hq_156,hm_160⟩:=hv_
 have hv_:=hv_.symm
 subst hv_
 obtain ⟨s,hl_149⟩:=hS1.back hr_ hl_149
 have s:=s.un5
 have hRL:=hRL.trans hl_149
 refine zm q rfl fun a q=>zl q (r_extract q rfl rfl) fun a q=>zl q (r_extract q rfl rfl) fun a q=>za q rfl fun a q=>za q rfl fun a q=>zn<|zq<|zr<|zm q rfl fun a q=>?_
 obtain ⟨y_161,h_162,H⟩:=bs H
 refine sl_call call10 q (by decide) rfl rfl rfl (law08_point.calls (⟨#[99]⟩ : ByteArray) 1 1 s.sub h_162) fun a v_ w hv_ q=>?_
 obtain ⟨R_163,v_166,cs_167,v_170,cs_171,hv_,hr_,hl_164,hq_168,hq_172⟩:=hv_
 have hv_:=hv_.symm
 subst hv_
 obtain ⟨s,hl_164⟩:=s.sp0.back hr_ hl_164
 have s:=s.un2
 have hRL:=hRL.trans hl_164
 obtain ⟨y_173,h_174,H⟩:=bs H
 have s:=s.pk6
 have s:=s.pk6
 have s:=s.pk6
 have s:=s.pk6
 have s:=s.pk6
 have hS1:=s.sp5
 refine sl_call call11 q (by decide) rfl rfl rfl (leaf_Leaf_Write.calls y_146.2.2 y_161 (lentOf_sub _ _) lentOf_not hS1.lend (hs_151.mono hl_164.le) (hq_156.mono hl_164.le) (hm_160.mono hl_164.le) (hS1.lend_row z0 hq_168 rfl rfl) (hS1.lend_row z1 hq_172 rfl rfl) (GF.mono (hS1.raLe hRA nil_not) hG) h_174) fun a v_ w hv_ q=>?_
 obtain ⟨R_175,v_177,b_179,v_181,cs_182,mb_184,mb_185,E_186,hv_,hr_,hl_176,hs_178,hq_183,hm_187⟩:=hv_
 have hv_:=hv_.symm
 subst hv_
 obtain ⟨s,hl_176⟩:=hS1.back hr_ hl_176
 have s:=s.un5
 have hRL:=hRL.trans hl_176
 refine zm q rfl fun a q=>zl q (r_extract q rfl rfl) fun a q=>zl q (r_extract q rfl rfl) fun a q=>za q rfl fun a q=>za q rfl fun a q=>zn<|zq<|zr<|zm q rfl fun a q=>?_
 obtain ⟨y_188,h_189,H⟩:=bs H
 have s:=s.pk4
 have s:=s.pk4
 have s:=s.pk4
 have s:=s.pk4
 have s:=s.pk4
 have hS1:=s.sp5
 refine sl_call call12 q (by decide) rfl rfl rfl (leaf_Leaf_Scan.calls y_173.2.2 (⟨#[108,111,97,100]⟩ : ByteArray) 0 9 hS1.lend hs_178 hq_183 hm_187 h_189) fun a v_ w hv_ q=>?_
 obtain ⟨R_190,v_193,cs_194,v_197,cs_198,v_201,b_203,v_205,cs_206,mb_208,mb_209,E_210,hv_,hr_,hl_191,hq_195,hq_199,hap_200,hs_202,hq_207,hm_211⟩:=hv_
 have hv_:=hv_.symm
 subst hv_
 obtain ⟨s,hl_191⟩:=hS1.back hr_ hl_191
 have s:=s.un7
 have hRL:=hRL.trans hl_191
 refine zm q rfl fun a q=>zl q (r_extract q rfl rfl) fun a q=>zl q (r_extract q rfl rfl) fun a q=>?_
 refine sl_alloc zeroValue41 s q (by decide) rfl rfl fun a w b_212 s q=>?_
 refine sl_storeA (vs:=[v_193,v_197]) (c':=[v_193,v_197]) sizeOf41 s q rfl rfl rfl rfl (all_cons (s.row_one z1) (all_cons (s.row_one z2) zz)) (Nat.le_of_ble_eq_true rfl) rfl fun a w s q=>?_
 refine za q rfl fun a q=>zn<|zq<|zr<|zm q rfl fun a q=>?_
 obtain ⟨y_213,h_214,H⟩:=bs H
 have s:=s.pk7
 have s:=s.pk7
 have s:=s.pk7
 have s:=s.pk7
 have s:=s.pk7
 have hS1:=s.sp5
 refine sl_call call12 q (by decide) rfl rfl rfl (leaf_Leaf_Scan.calls y_188.2.2 (⟨#[108,111,97,100]⟩ : ByteArray) 4 9 hS1.lend (hs_202.mono hl_191.le) (hq_207.mono hl_191.le) (hm_211.mono hl_191.le) h_214) fun a v_ w hv_ q=>?_
 obtain ⟨R_215,v_218,cs_219,v_222,cs_223,v_226,b_228,v_230,cs_231,mb_233,mb_234,E_235,hv_,hr_,hl_216,hq_220,hq_224,hap_225,hs_227,hq_232,hm_236⟩:=hv_
 have hv_:=hv_.symm
 subst hv_
 obtain ⟨s,hl_216⟩:=hS1.back hr_ hl_216
 have s:=s.un7
 have hRL:=hRL.trans hl_216
 refine zm q rfl fun a q=>zl q (r_extract q rfl rfl) fun a q=>zl q (r_extract q rfl rfl) fun a q=>?_
 refine sl_alloc zeroValue41 s q (by decide) rfl rfl fun a w b_237 s q=>?_
 refine sl_storeA (vs:=[v_218,v_222]) (c':=[v_218,v_222]) sizeOf41 s q rfl rfl rfl rfl (all_cons (s.row_one z1) (all_cons (s.row_one z2) zz)) (Nat.le_of_ble_eq_true rfl) rfl fun a w s q=>?_
 refine za q rfl fun a q=>zn<|zq<|zr<|zm q rfl fun a q=>?_
 obtain ⟨y_238,h_239,H⟩:=bs H
 have s:=s.pk7
 have s:=s.pk7
 have s:=s.pk7
 have s:=s.pk7
 have s:=s.pk7
 have hS1:=s.sp5
 refine sl_call call12 q (by decide) rfl rfl rfl (leaf_Leaf_Scan.calls y_213.2.2 (⟨#[120]⟩ : ByteArray) 0 9 hS1.lend (hs_227.mono hl_216.le) (hq_232.mono hl_216.le) (hm_236.mono hl_216.le) h_239) fun a v_ w hv_ q=>?_
 obtain ⟨R_240,v_243,cs_244,v_247,cs_248,v_251,b_253,v_255,cs_256,mb_258,mb_259,E_260,hv_,hr_,hl_241,hq_245,hq_249,hap_250,hs_252,hq_257,hm_261⟩:=hv_
 have hv_:=hv_.symm
 subst hv_
 obtain ⟨s,hl_241⟩:=hS1.back hr_ hl_241
 have s:=s.un7
 have hRL:=hRL.trans hl_241
 refine zm q rfl fun a q=>zl q (r_extract q rfl rfl) fun a q=>zl q (r_extract q rfl rfl) fun a q=>?_
 refine sl_alloc zeroValue41 s q (by decide) rfl rfl fun a w b_262 s q=>?_
 refine sl_storeA (vs:=[v_243,v_247]) (c':=[v_243,v_247]) sizeOf41 s q rfl rfl rfl rfl (all_cons (s.row_one z1) (all_cons (s.row_one z2) zz)) (Nat.le_of_ble_eq_true rfl) rfl fun a w s q=>?_
 refine za q rfl fun a q=>zn<|zq<|zr<|zm q rfl fun a q=>zm q rfl fun a q=>?_
 rcases or_b y_92.1 with hb_263 | hb_263
 rw [ifb_t hb_263] at H
 refine zw q (wtt hb_263) (r_move q rfl) fun a q=>zw q (wtt hb_263) (r_ibin q rfl rfl rfl) fun a q=>zl q (r_pick_t hb_263 q rfl rfl) fun a q=>zm q rfl fun a q=>?_
 rcases or_b (y_92.2.1 == 0) with hb_264 | hb_264
 rw [ifb_t hb_264] at H
 refine zw q (wtt hb_264) (r_move q rfl) fun a q=>zw q (wtt hb_264) (r_un q rfl (u_not _)) fun a q=>zl q (r_pick_t hb_264 q rfl rfl) fun a q=>zm q rfl fun a q=>?_
 rcases or_b (!y_119.1) with hb_265 | hb_265
 rw [ifb_t hb_265] at H
 refine zw q (wtt hb_265) (r_move q rfl) fun a q=>zw q (wtt hb_265) (r_ibin q rfl rfl rfl) fun a q=>zl q (r_pick_t hb_265 q rfl rfl) fun a q=>zm q rfl fun a q=>?_
 rcases or_b (y_119.2.1 == 0) with hb_266 | hb_266
 rw [ifb_t hb_266] at H
 refine zw q (wtt hb_266) (r_move q rfl) fun a q=>zl q (r_pick_t hb_266 q rfl rfl) fun a q=>zm q rfl fun a q=>?_
 rcases or_b y_146.1 with hb_267 | hb_267
 rw [ifb_t hb_267] at H
 refine zw q (wtt hb_267) (r_move q rfl) fun a q=>zw q (wtt hb_267) (r_ibin q rfl rfl rfl) fun a q=>zl q (r_pick_t hb_267 q rfl rfl) fun a q=>zm q rfl fun a q=>?_
 rcases or_b (y_146.2.1 == 0) with hb_268 | hb_268
 rw [ifb_t hb_268] at H
 refine zw q (wtt hb_268) (r_move q rfl) fun a q=>zw q (wtt hb_268) (r_un q rfl (u_not _)) fun a q=>zl q (r_pick_t hb_268 q rfl rfl) fun a q=>zm q rfl fun a q=>?_
 rcases or_b (!y_173.1) with hb_269 | hb_269
 rw [ifb_t hb_269] at H
 refine zw q (wtt hb_269) (r_move q rfl) fun a q=>zw q (wtt hb_269) (r_ibin q rfl rfl rfl) fun a q=>zl q (r_pick_t hb_269 q rfl rfl) fun a q=>zm q rfl fun a q=>?_
 rcases or_b (y_173.2.1 == 80) with hb_270 | hb_270
 rw [ifb_t hb_270] at H
 refine zw q (wtt hb_270) (r_move q rfl) fun a q=>zw q (wtt hb_270) (r_ibin q rfl rfl rfl) fun a q=>zl q (r_pick_t hb_270 q rfl rfl) fun a q=>zm q rfl fun a q=>?_
 rcases or_b (y_188.2.1 == 0) with hb_271 | hb_271
 rw [ifb_t hb_271] at H
 refine zw q (wtt hb_271) (r_fieldAddr underlying41 rfl sizeOf39 q rfl) fun a q=>zw q (wtt hb_271) (r_load isAgg39 q rfl (s.cell (.tail _ (.tail _ (.tail _ z8))) rfl)) fun a q=>zw q (wtt hb_271) (r_len_O underlying39 s (.tail _ (.tail _ (.tail _ (.tail _ (.tail _ z8))))) q rfl) fun a q=>zw q (wtt hb_271) (r_ibin q rfl rfl rfl) fun a q=>zl q (r_pick_t hb_271 q rfl rfl) fun a q=>zm q rfl fun a q=>?_
 rcases or_b ((y_188.1.Rows.length : Int) == 2) with hb_272 | hb_272
 rw [ifb_t hb_272] at H
 refine zw q (wtt hb_272) (r_fieldAddr underlying41 rfl sizeOf39 q rfl) fun a q=>zw q (wtt hb_272) (r_load isAgg39 q rfl (s.cell (.tail _ (.tail _ (.tail _ z8))) rfl)) fun a q=>?_
 obtain ⟨y_273,h_274,H⟩:=bs H
 obtain ⟨b_276,c_277,cs_278,hv_275,hr_279,hc_280,h_2740,h_2741⟩:=s.row_ix (.tail _ (.tail _ (.tail _ (.tail _ (.tail _ z8))))) (hq_199.mono (hl_216.le.trans hl_241.le)) rfl rfl h_274
 obtain ⟨v_281,rfl,hs_282⟩:=hr_279
 refine zw q (wtt hb_272) (r_indexAddr_R underlying39 sizeOf31 hv_275 h_2740 h_2741 q rfl rfl) fun a q=>zw q (wtt hb_272) (r_load isAgg31 q rfl (s.row_cell (.tail _ (.tail _ (.tail _ (.tail _ (.tail _ z8))))) hv_275 (hc_280 0 _ rfl))) fun a q=>?_
 obtain ⟨y_283,h_284,H⟩:=bs H
 obtain ⟨b_285,o_286,c_287,cs_288,hv_289,hr_290,hc_291,h_2840,h_2841⟩:=hs_282.ix h_284
 subst hr_290
 refine zw q (wtt hb_272) (r_indexAddr_R underlying31 sizeOf58 hv_289 h_2840 h_2841 q rfl rfl) fun a q=>zw q (wtt hb_272) (r_fieldAddr underlying58 rfl sizeOf3 q rfl) fun a q=>zw q (wtt hb_272) (r_load isAgg3 q rfl (s.sub.cell (hc_291 1 _ rfl))) fun a q=>zw q (wtt hb_272) (r_ibin q rfl rfl rfl) fun a q=>zl q (r_pick_t hb_272 q rfl rfl) fun a q=>zm q rfl fun a q=>?_
 rcases or_b (y_283.N == 3) with hb_292 | hb_292
 rw [ifb_t hb_292] at H
 refine zw q (wtt hb_292) (r_fieldAddr underlying41 rfl sizeOf39 q rfl) fun a q=>zw q (wtt hb_292) (r_load isAgg39 q rfl (s.cell (.tail _ (.tail _ (.tail _ z8))) rfl)) fun a q=>?_
 obtain ⟨y_293,h_294,H⟩:=bs H
 obtain ⟨b_296,c_297,cs_298,hv_295,hr_299,hc_300,h_2940,h_2941⟩:=s.row_ix (.tail _ (.tail _ (.tail _ (.tail _ (.tail _ z8))))) (hq_199.mono (hl_216.le.trans hl_241.le)) rfl rfl h_294
 obtain ⟨v_301,rfl,hs_302⟩:=hr_299
 refine zw q (wtt hb_292) (r_indexAddr_R underlying39 sizeOf31 hv_295 h_2940 h_2941 q rfl rfl) fun a q=>zw q (wtt hb_292) (r_load isAgg31 q rfl (s.row_cell (.tail _ (.tail _ (.tail _ (.tail _ (.tail _ z8))))) hv_295 (hc_300 0 _ rfl))) fun a q=>?_
 obtain ⟨y_303,h_304,H⟩:=bs H
 obtain ⟨b_305,o_306,c_307,cs_308,hv_309,hr_310,hc_311,h_3040,h_3041⟩:=hs_302.ix h_304
 subst hr_310
 refine zw q (wtt hb_292) (r_indexAddr_R underlying31 sizeOf58 hv_309 h_3040 h_3041 q rfl rfl) fun a q=>zw q (wtt hb_292) (r_fieldAddr underlying58 rfl sizeOf3 q rfl) fun a q=>zw q (wtt hb_292) (r_load isAgg3 q rfl (s.sub.cell (hc_311 1 _ rfl))) fun a q=>zw q (wtt hb_292) (r_ibin q rfl rfl rfl) fun a q=>zl q (r_pick_t hb_292 q rfl rfl) fun a q=>zm q rfl fun a q=>?_
 rcases or_b (y_303.N == 7) with hb_312 | hb_312
 rw [ifb_t hb_312] at H
 refine zw q (wtt hb_312) (r_move q rfl) fun a q=>zw q (wtt hb_312) (r_ibin q rfl rfl rfl) fun a q=>zl q (r_pick_t hb_312 q rfl rfl) fun a q=>zm q rfl fun a q=>?_
 rcases or_b (y_213.2.1 == 0) with hb_313 | hb_313
 rw [ifb_t hb_313] at H
 refine zw q (wtt hb_313) (r_fieldAddr underlying41 rfl sizeOf39 q rfl) fun a q=>zw q (wtt hb_313) (r_load isAgg39 q rfl (s.cell z8 rfl)) fun a q=>zw q (wtt hb_313) (r_len_O underlying39 s (.tail _ (.tail _ z8)) q rfl) fun a q=>zw q (wtt hb_313) (r_ibin q rfl rfl rfl) fun a q=>zl q (r_pick_t hb_313 q rfl rfl) fun a q=>zm q rfl fun a q=>?_
 rcases or_b ((y_213.1.Rows.length : Int) == 1) with hb_314 | hb_314
 rw [ifb_t hb_314] at H
 refine zw q (wtt hb_314) (r_move q rfl) fun a q=>zw q (wtt hb_314) (r_ibin q rfl rfl rfl) fun a q=>zl q (r_pick_t hb_314 q rfl rfl) fun a q=>zm q rfl fun a q=>?_
 rcases or_b (y_238.2.1 == 50) with hb_315 | hb_315
 rw [ifb_t hb_315] at H
 refine zw q (wtt hb_315) (r_move q rfl) fun a q=>?_
 obtain ⟨y_316,h_317,H⟩:=bs H
 have s:=s.pk7
 have s:=s.pk7
 have s:=s.pk7
 have s:=s.pk7
 have s:=s.pk7
 have hS1:=s.sp5
 refine sl_call call14 q (by decide) (wtt hb_315) rfl rfl (leaf_Leaf_Points.calls y_238.2.2 hS1.lend (hs_252.mono hl_241.le) (hq_257.mono hl_241.le) (hm_261.mono hl_241.le) h_317) fun a v_ w hv_ q=>?_
 obtain ⟨R_318,v_320,b_322,v_324,cs_325,mb_327,mb_328,E_329,hv_,hr_,hl_319,hs_321,hq_326,hm_330⟩:=hv_
 have hv_:=hv_.symm
 subst hv_
 obtain ⟨s,hl_319⟩:=hS1.back hr_ hl_319
 have s:=s.un5
 have hRL:=hRL.trans hl_319
 refine zw q (wtt hb_315) (r_ibin q rfl rfl rfl) fun a q=>zl q (r_pick_t hb_315 q rfl rfl) fun a q=>za q rfl fun a q=>zn ?_
 obtain rfl:=Option.some.inj H
 refine wp_ret ?_
 repeat first | refine zt ?_ | refine zb ?_ | refine zo ?_
 exact ret_1 results7 q (rv_tmp q rfl) ⟨rfl,s.bel⟩
 rw [ifb_f hb_315] at H
 refine zsw q (wtf hb_315) fun a q=>zsw q (wtf hb_315) fun a q=>zsw q (wtf hb_315) fun a q=>zl q (r_pick_f hb_315 q rfl rfl) fun a q=>za q rfl fun a q=>zn ?_
 obtain rfl:=Option.some.inj H
 refine wp_ret ?_
 repeat first | refine zt ?_ | refine zb ?_ | refine zo ?_
 exact ret_1 results7 q (rv_tmp q rfl) ⟨rfl,s.bel⟩
 rw [ifb_f hb_314] at H
 refine zsw q (wtf hb_314) fun a q=>zsw q (wtf hb_314) fun a q=>zl q (r_pick_f hb_314 q rfl rfl) fun a q=>zm q rfl fun a q=>zs q fun a q=>zs q fun a q=>zs q fun a q=>zl q (r_pick q rfl rfl rfl) fun a q=>za q rfl fun a q=>zn ?_
 obtain rfl:=Option.some.inj H
 refine wp_ret ?_
 repeat first | refine zt ?_ | refine zb ?_ | refine zo ?_
 exact ret_1 results7 q (rv_tmp q rfl) ⟨rfl,s.bel⟩
 rw [ifb_f hb_313] at H
 refine zsw q (wtf hb_313) fun a q=>zsw q (wtf hb_313) fun a q=>zsw q (wtf hb_313) fun a q=>zsw q (wtf hb_313) fun a q=>zl q (r_pick_f hb_313 q rfl rfl) fun a q=>zm q rfl fun a q=>zs q fun a q=>zs q fun a q=>zl q (r_pick q rfl rfl rfl) fun a q=>zm q rfl fun a q=>zs q fun a q=>zs q fun a q=>zs q fun a q=>zl q (r_pick q rfl rfl rfl) fun a q=>za q rfl fun a q=>zn ?_
 obtain rfl:=Option.some.inj H
 refine wp_ret ?_
 repeat first | refine zt ?_ | refine zb ?_ | refine zo ?_
 exact ret_1 results7 q (rv_tmp q rfl) ⟨rfl,s.bel⟩
 rw [ifb_f hb_312] at H
 refine zsw q (wtf hb_312) fun a q=>zsw q (wtf hb_312) fun a q=>zl q (r_pick_f hb_312 q rfl rfl) fun a q=>zm q rfl fun a q=>zs q fun a q=>zs q fun a q=>zs q fun a q=>zs q fun a q=>zl q (r_pick q rfl rfl rfl) fun a q=>zm q rfl fun a q=>zs q fun a q=>zs q fun a q=>zl q (r_pick q rfl rfl rfl) fun a q=>zm q rfl fun a q=>zs q fun a q=>zs q fun a q=>zs q fun a q=>zl q (r_pick q rfl rfl rfl) fun a q=>za q rfl fun a q=>zn ?_
 obtain rfl:=Option.some.inj H
 refine wp_ret ?_
 repeat first | refine zt ?_ | refine zb ?_ | refine zo ?_
 exact ret_1 results7 q (rv_tmp q rfl) ⟨rfl,s.bel⟩
 rw [ifb_f hb_292] at H
 refine zsw q (wtf hb_292) fun a q=>zsw q (wtf hb_292) fun a q=>zsw q (wtf hb_292) fun a q=>zsw q (wtf hb_292) fun a q=>zsw q (wtf hb_292) fun a q=>zsw q (wtf hb_292) fun a q=>zsw q (wtf hb_292) fun a q=>zsw q (wtf hb_292) fun a q=>zl q (r_pick_f hb_292 q rfl rfl) fun a q=>zm q rfl fun a q=>zs q fun a q=>zs q fun a q=>zl q (r_pick q rfl rfl rfl) fun a q=>zm q rfl fun a q=>zs q fun a q=>zs q fun a q=>zs q fun a q=>zs q fun a q=>zl q (r_pick q rfl rfl rfl) fun a q=>zm q rfl fun a q=>zs q fun a q=>zs q fun a q=>zl q (r_pick q rfl rfl rfl) fun a q=>zm q rfl fun a q=>zs q fun a q=>zs q fun a q=>zs q fun a q=>zl q (r_pick q rfl rfl rfl) fun a q=>za q rfl fun a q=>zn ?_
 obtain rfl:=Option.some.inj H
 refine wp_ret ?_
 repeat first | refine zt ?_ | refine zb ?_ | refine zo ?_
 exact ret_1 results7 q (rv_tmp q rfl) ⟨rfl,s.bel⟩
 rw [ifb_f hb_272] at H
 refine zsw q (wtf hb_272) fun a q=>zsw q (wtf hb_272) fun a q=>zsw q (wtf hb_272) fun a q=>zsw q (wtf hb_272) fun a q=>zsw q (wtf hb_272) fun a q=>zsw q (wtf hb_272) fun a q=>zsw q (wtf hb_272) fun a q=>zsw q (wtf hb_272) fun a q=>zl q (r_pick_f hb_272 q rfl rfl) fun a q=>zm q rfl fun a q=>zs q fun a q=>zs q fun a q=>zs q fun a q=>zs q fun a q=>zs q fun a q=>zs q fun a q=>zs q fun a q=>zs q fun a q=>zl q (r_pick q rfl rfl rfl) fun a q=>zm q rfl fun a q=>zs q fun a q=>zs q fun a q=>zl q (r_pick q rfl rfl rfl) fun a q=>zm q rfl fun a q=>zs q fun a q=>zs q fun a q=>zs q fun a q=>zs q fun a q=>zl q (r_pick q rfl rfl rfl) fun a q=>zm q rfl fun a q=>zs q fun a q=>zs q fun a q=>zl q (r_pick q rfl rfl rfl) fun a q=>zm q rfl fun a q=>?_
 refine zs q fun a q=>zs q fun a q=>zs q fun a q=>zl q (r_pick q rfl rfl rfl) fun a q=>za q rfl fun a q=>zn ?_
 obtain rfl:=Option.some.inj H
 refine wp_ret ?_
 repeat first | refine zt ?_ | refine zb ?_ | refine zo ?_
 exact ret_1 results7 q (rv_tmp q rfl) ⟨rfl,s.bel⟩
 rw [ifb_f hb_271] at H
 refine zsw q (wtf hb_271) fun a q=>zsw q (wtf hb_271) fun a q=>zsw q (wtf hb_271) fun a q=>zsw q (wtf hb_271) fun a q=>zl q (r_pick_f hb_271 q rfl rfl) fun a q=>zm q rfl fun a q=>zs q fun a q=>zs q fun a q=>zs q fun a q=>zs q fun a q=>zs q fun a q=>zs q fun a q=>zs q fun a q=>zs q fun a q=>zl q (r_pick q rfl rfl rfl) fun a q=>zm q rfl fun a q=>zs q fun a q=>zs q fun a q=>zs q fun a q=>zs q fun a q=>zs q fun a q=>zs q fun a q=>zs q fun a q=>zs q fun a q=>zl q (r_pick q rfl rfl rfl) fun a q=>zm q rfl fun a q=>zs q fun a q=>zs q fun a q=>zl q (r_pick q rfl rfl rfl) fun a q=>zm q rfl fun a q=>zs q fun a q=>zs q fun a q=>zs q fun a q=>zs q fun a q=>zl q (r_pick q rfl rfl rfl) fun a q=>zm q rfl fun a q=>zs q fun a q=>?_
 refine zs q fun a q=>zl q (r_pick q rfl rfl rfl) fun a q=>zm q rfl fun a q=>zs q fun a q=>zs q fun a q=>zs q fun a q=>zl q (r_pick q rfl rfl rfl) fun a q=>za q rfl fun a q=>zn ?_
 obtain rfl:=Option.some.inj H
 refine wp_ret ?_
 repeat first | refine zt ?_ | refine zb ?_ | refine zo ?_
 exact ret_1 results7 q (rv_tmp q rfl) ⟨rfl,s.bel⟩
 rw [ifb_f hb_270] at H
 refine zsw q (wtf hb_270) fun a q=>zsw q (wtf hb_270) fun a q=>zl q (r_pick_f hb_270 q rfl rfl) fun a q=>zm q rfl fun a q=>zs q fun a q=>zs q fun a q=>zs q fun a q=>zs q fun a q=>zl q (r_pick q rfl rfl rfl) fun a q=>zm q rfl fun a q=>zs q fun a q=>zs q fun a q=>zs q fun a q=>zs q fun a q=>zs q fun a q=>zs q fun a q=>zs q fun a q=>zs q fun a q=>zl q (r_pick q rfl rfl rfl) fun a q=>zm q rfl fun a q=>zs q fun a q=>zs q fun a q=>zs q fun a q=>zs q fun a q=>zs q fun a q=>zs q fun a q=>zs q fun a q=>zs q fun a q=>zl q (r_pick q rfl rfl rfl) fun a q=>zm q rfl fun a q=>zs q fun a q=>zs q fun a q=>zl q (r_pick q rfl rfl rfl) fun a q=>zm q rfl fun a q=>zs q fun a q=>zs q fun a q=>zs q fun a q=>zs q fun a q=>?_
 refine zl q (r_pick q rfl rfl rfl) fun a q=>zm q rfl fun a q=>zs q fun a q=>zs q fun a q=>zl q (r_pick q rfl rfl rfl) fun a q=>zm q rfl fun a q=>zs q fun a q=>zs q fun a q=>zs q fun a q=>zl q (r_pick q rfl rfl rfl) fun a q=>za q rfl fun a q=>zn ?_
 obtain rfl:=Option.some.inj H
 refine wp_ret ?_
 repeat first | refine zt ?_ | refine zb ?_ | refine zo ?_
 exact ret_1 results7 q (rv_tmp q rfl) ⟨rfl,s.bel⟩
 rw [ifb_f hb_269] at H
 refine zsw q (wtf hb_269) fun a q=>zsw q (wtf hb_269) fun a q=>zl q (r_pick_f hb_269 q rfl rfl) fun a q=>zm q rfl fun a q=>zs q fun a q=>zs q fun a q=>zl q (r_pick q rfl rfl rfl) fun a q=>zm q rfl fun a q=>zs q fun a q=>zs q fun a q=>zs q fun a q=>zs q fun a q=>zl q (r_pick q rfl rfl rfl) fun a q=>zm q rfl fun a q=>zs q fun a q=>zs q fun a q=>zs q fun a q=>zs q fun a q=>zs q fun a q=>zs q fun a q=>zs q fun a q=>zs q fun a q=>zl q (r_pick q rfl rfl rfl) fun a q=>zm q rfl fun a q=>zs q fun a q=>zs q fun a q=>zs q fun a q=>zs q fun a q=>zs q fun a q=>zs q fun a q=>zs q fun a q=>zs q fun a q=>zl q (r_pick q rfl rfl rfl) fun a q=>zm q rfl fun a q=>zs q fun a q=>zs q fun a q=>zl q (r_pick q rfl rfl rfl) fun a q=>?_
 refine zm q rfl fun a q=>zs q fun a q=>zs q fun a q=>zs q fun a q=>zs q fun a q=>zl q (r_pick q rfl rfl rfl) fun a q=>zm q rfl fun a q=>zs q fun a q=>zs q fun a q=>zl q (r_pick q rfl rfl rfl) fun a q=>zm q rfl fun a q=>zs q fun a q=>zs q fun a q=>zs q fun a q=>zl q (r_pick q rfl rfl rfl) fun a q=>za q rfl fun a q=>zn ?_
 obtain rfl:=Option.some.inj H
 refine wp_ret ?_
 repeat first | refine zt ?_ | refine zb ?_ | refine zo ?_
 exact ret_1 results7 q (rv_tmp q rfl) ⟨rfl,s.bel⟩
 rw [ifb_f hb_268] at H
 refine zsw q (wtf hb_268) fun a q=>zsw q (wtf hb_268) fun a q=>zl q (r_pick_f hb_268 q rfl rfl) fun a q=>zm q rfl fun a q=>zs q fun a q=>zs q fun a q=>zl q (r_pick q rfl rfl rfl) fun a q=>zm q rfl fun a q=>zs q fun a q=>zs q fun a q=>zl q (r_pick q rfl rfl rfl) fun a q=>zm q rfl fun a q=>zs q fun a q=>zs q fun a q=>zs q fun a q=>zs q fun a q=>zl q (r_pick q rfl rfl rfl) fun a q=>zm q rfl fun a q=>zs q fun a q=>zs q fun a q=>zs q fun a q=>zs q fun a q=>zs q fun a q=>zs q fun a q=>zs q fun a q=>zs q fun a q=>zl q (r_pick q rfl rfl rfl) fun a q=>zm q rfl fun a q=>zs q fun a q=>zs q fun a q=>zs q fun a q=>zs q fun a q=>zs q fun a q=>zs q fun a q=>zs q fun a q=>zs q fun a q=>zl q (r_pick q rfl rfl rfl) fun a q=>?_
 refine zm q rfl fun a q=>zs q fun a q=>zs q fun a q=>zl q (r_pick q rfl rfl rfl) fun a q=>zm q rfl fun a q=>zs q fun a q=>zs q fun a q=>zs q fun a q=>zs q fun a q=>zl q (r_pick q rfl rfl rfl) fun a q=>zm q rfl fun a q=>zs q fun a q=>zs q fun a q=>zl q (r_pick q rfl rfl rfl) fun a q=>zm q rfl fun a q=>zs q fun a q=>zs q fun a q=>zs q fun a q=>zl q (r_pick q rfl rfl rfl) fun a q=>za q rfl fun a q=>zn ?_
 obtain rfl:=Option.some.inj H
 refine wp_ret ?_
 repeat first | refine zt ?_ | refine zb ?_ | refine zo ?_
 exact ret_1 results7 q (rv_tmp q rfl) ⟨rfl,s.bel⟩
 rw [ifb_f hb_267] at H
 refine zsw q (wtf hb_267) fun a q=>zsw q (wtf hb_267) fun a q=>zl q (r_pick_f hb_267 q rfl rfl) fun a q=>zm q rfl fun a q=>zs q fun a q=>zs q fun a q=>zl q (r_pick q rfl rfl rfl) fun a q=>zm q rfl fun a q=>zs q fun a q=>zs q fun a q=>zl q (r_pick q rfl rfl rfl) fun a q=>zm q rfl fun a q=>zs q fun a q=>zs q fun a q=>zl q (r_pick q rfl rfl rfl) fun a q=>zm q rfl fun a q=>zs q fun a q=>zs q fun a q=>zs q fun a q=>zs q fun a q=>zl q (r_pick q rfl rfl rfl) fun a q=>zm q rfl fun a q=>zs q fun a q=>zs q fun a q=>zs q fun a q=>zs q fun a q=>zs q fun a q=>zs q fun a q=>zs q fun a q=>zs q fun a q=>zl q (r_pick q rfl rfl rfl) fun a q=>zm q rfl fun a q=>zs q fun a q=>zs q fun a q=>zs q fun a q=>zs q fun a q=>zs q fun a q=>?_
 refine zs q fun a q=>zs q fun a q=>zs q fun a q=>zl q (r_pick q rfl rfl rfl) fun a q=>zm q rfl fun a q=>zs q fun a q=>zs q fun a q=>zl q (r_pick q rfl rfl rfl) fun a q=>zm q rfl fun a q=>zs q fun a q=>zs q fun a q=>zs q fun a q=>zs q fun a q=>zl q (r_pick q rfl rfl rfl) fun a q=>zm q rfl fun a q=>zs q fun a q=>zs q fun a q=>zl q (r_pick q rfl rfl rfl) fun a q=>zm q rfl fun a q=>zs q fun a q=>zs q fun a q=>zs q fun a q=>zl q (r_pick q rfl rfl rfl) fun a q=>za q rfl fun a q=>zn ?_
 obtain rfl:=Option.some.inj H
 refine wp_ret ?_
 repeat first | refine zt ?_ | refine zb ?_ | refine zo ?_
 exact ret_1 results7 q (rv_tmp q rfl) ⟨rfl,s.bel⟩
 rw [ifb_f hb_266] at H
 refine zsw q (wtf hb_266) fun a q=>zl q (r_pick_f hb_266 q rfl rfl) fun a q=>zm q rfl fun a q=>zs q fun a q=>zs q fun a q=>zl q (r_pick q rfl rfl rfl) fun a q=>zm q rfl fun a q=>zs q fun a q=>zs q fun a q=>zl q (r_pick q rfl rfl rfl) fun a q=>zm q rfl fun a q=>zs q fun a q=>zs q fun a q=>zl q (r_pick q rfl rfl rfl) fun a q=>zm q rfl fun a q=>zs q fun a q=>zs q fun a q=>zl q (r_pick q rfl rfl rfl) fun a q=>zm q rfl fun a q=>zs q fun a q=>zs q fun a q=>zs q fun a q=>zs q fun a q=>zl q (r_pick q rfl rfl rfl) fun a q=>zm q rfl fun a q=>zs q fun a q=>zs q fun a q=>zs q fun a q=>zs q fun a q=>zs q fun a q=>zs q fun a q=>zs q fun a q=>zs q fun a q=>zl q (r_pick q rfl rfl rfl) fun a q=>zm q rfl fun a q=>zs q fun a q=>zs q fun a q=>?_
 refine zs q fun a q=>zs q fun a q=>zs q fun a q=>zs q fun a q=>zs q fun a q=>zs q fun a q=>zl q (r_pick q rfl rfl rfl) fun a q=>zm q rfl fun a q=>zs q fun a q=>zs q fun a q=>zl q (r_pick q rfl rfl rfl) fun a q=>zm q rfl fun a q=>zs q fun a q=>zs q fun a q=>zs q fun a q=>zs q fun a q=>zl q (r_pick q rfl rfl rfl) fun a q=>zm q rfl fun a q=>zs q fun a q=>zs q fun a q=>zl q (r_pick q rfl rfl rfl) fun a q=>zm q rfl fun a q=>zs q fun a q=>zs q fun a q=>zs q fun a q=>zl q (r_pick q rfl rfl rfl) fun a q=>za q rfl fun a q=>zn ?_
 obtain rfl:=Option.some.inj H
 refine wp_ret ?_
 repeat first | refine zt ?_ | refine zb ?_ | refine zo ?_
 exact ret_1 results7 q (rv_tmp q rfl) ⟨rfl,s.bel⟩
 rw [ifb_f hb_265] at H
 refine zsw q (wtf hb_265) fun a q=>zsw q (wtf hb_265) fun a q=>zl q (r_pick_f hb_265 q rfl rfl) fun a q=>zm q rfl fun a q=>zs q fun a q=>zl q (r_pick q rfl rfl rfl) fun a q=>zm q rfl fun a q=>zs q fun a q=>zs q fun a q=>zl q (r_pick q rfl rfl rfl) fun a q=>zm q rfl fun a q=>zs q fun a q=>zs q fun a q=>zl q (r_pick q rfl rfl rfl) fun a q=>zm q rfl fun a q=>zs q fun a q=>zs q fun a q=>zl q (r_pick q rfl rfl rfl) fun a q=>zm q rfl fun a q=>zs q fun a q=>zs q fun a q=>zl q (r_pick q rfl rfl rfl) fun a q=>zm q rfl fun a q=>zs q fun a q=>zs q fun a q=>zs q fun a q=>zs q fun a q=>zl q (r_pick q rfl rfl rfl) fun a q=>zm q rfl fun a q=>zs q fun a q=>zs q fun a q=>zs q fun a q=>zs q fun a q=>zs q fun a q=>zs q fun a q=>zs q fun a q=>?_
 refine zs q fun a q=>zl q (r_pick q rfl rfl rfl) fun a q=>zm q rfl fun a q=>zs q fun a q=>zs q fun a q=>zs q fun a q=>zs q fun a q=>zs q fun a q=>zs q fun a q=>zs q fun a q=>zs q fun a q=>zl q (r_pick q rfl rfl rfl) fun a q=>zm q rfl fun a q=>zs q fun a q=>zs q fun a q=>zl q (r_pick q rfl rfl rfl) fun a q=>zm q rfl fun a q=>zs q fun a q=>zs q fun a q=>zs q fun a q=>zs q fun a q=>zl q (r_pick q rfl rfl rfl) fun a q=>zm q rfl fun a q=>zs q fun a q=>zs q fun a q=>zl q (r_pick q rfl rfl rfl) fun a q=>zm q rfl fun a q=>zs q fun a q=>zs q fun a q=>zs q fun a q=>zl q (r_pick q rfl rfl rfl) fun a q=>za q rfl fun a q=>zn ?_
 obtain rfl:=Option.some.inj H
 refine wp_ret ?_
 repeat first | refine zt ?_ | refine zb ?_ | refine zo ?_
 exact ret_1 results7 q (rv_tmp q rfl) ⟨rfl,s.bel⟩
 rw [ifb_f hb_264] at H
 refine zsw q (wtf hb_264) fun a q=>zsw q (wtf hb_264) fun a q=>zl q (r_pick_f hb_264 q rfl rfl) fun a q=>zm q rfl fun a q=>zs q fun a q=>zs q fun a q=>zl q (r_pick q rfl rfl rfl) fun a q=>zm q rfl fun a q=>zs q fun a q=>zl q (r_pick q rfl rfl rfl) fun a q=>zm q rfl fun a q=>zs q fun a q=>zs q fun a q=>zl q (r_pick q rfl rfl rfl) fun a q=>zm q rfl fun a q=>zs q fun a q=>zs q fun a q=>zl q (r_pick q rfl rfl rfl) fun a q=>zm q rfl fun a q=>zs q fun a q=>zs q fun a q=>zl q (r_pick q rfl rfl rfl) fun a q=>zm q rfl fun a q=>zs q fun a q=>zs q fun a q=>zl q (r_pick q rfl rfl rfl) fun a q=>zm q rfl fun a q=>zs q fun a q=>zs q fun a q=>zs q fun a q=>zs q fun a q=>zl q (r_pick q rfl rfl rfl) fun a q=>zm q rfl fun a q=>zs q fun a q=>?_
 refine zs q fun a q=>zs q fun a q=>zs q fun a q=>zs q fun a q=>zs q fun a q=>zs q fun a q=>zs q fun a q=>zl q (r_pick q rfl rfl rfl) fun a q=>zm q rfl fun a q=>zs q fun a q=>zs q fun a q=>zs q fun a q=>zs q fun a q=>zs q fun a q=>zs q fun a q=>zs q fun a q=>zs q fun a q=>zl q (r_pick q rfl rfl rfl) fun a q=>zm q rfl fun a q=>zs q fun a q=>zs q fun a q=>zl q (r_pick q rfl rfl rfl) fun a q=>zm q rfl fun a q=>zs q fun a q=>zs q fun a q=>zs q fun a q=>zs q fun a q=>zl q (r_pick q rfl rfl rfl) fun a q=>zm q rfl fun a q=>zs q fun a q=>zs q fun a q=>zl q (r_pick q rfl rfl rfl) fun a q=>zm q rfl fun a q=>zs q fun a q=>zs q fun a q=>zs q fun a q=>zl q (r_pick q rfl rfl rfl) fun a q=>za q rfl fun a q=>zn ?_
 obtain rfl:=Option.some.inj H
 refine wp_ret ?_
 repeat first | refine zt ?_ | refine zb ?_ | refine zo ?_
 exact ret_1 results7 q (rv_tmp q rfl) ⟨rfl,s.bel⟩
 rw [ifb_f hb_263] at H
 refine zsw q (wtf hb_263) fun a q=>zsw q (wtf hb_263) fun a q=>zl q (r_pick_f hb_263 q rfl rfl) fun a q=>zm q rfl fun a q=>zs q fun a q=>zs q fun a q=>zl q (r_pick q rfl rfl rfl) fun a q=>zm q rfl fun a q=>zs q fun a q=>zs q fun a q=>zl q (r_pick q rfl rfl rfl) fun a q=>zm q rfl fun a q=>zs q fun a q=>zl q (r_pick q rfl rfl rfl) fun a q=>zm q rfl fun a q=>zs q fun a q=>zs q fun a q=>zl q (r_pick q rfl rfl rfl) fun a q=>zm q rfl fun a q=>zs q fun a q=>zs q fun a q=>zl q (r_pick q rfl rfl rfl) fun a q=>zm q rfl fun a q=>zs q fun a q=>zs q fun a q=>zl q (r_pick q rfl rfl rfl) fun a q=>zm q rfl fun a q=>zs q fun a q=>zs q fun a q=>zl q (r_pick q rfl rfl rfl) fun a q=>zm q rfl fun a q=>zs q fun a q=>zs q fun a q=>zs q fun a q=>?_
 refine zs q fun a q=>zl q (r_pick q rfl rfl rfl) fun a q=>zm q rfl fun a q=>zs q fun a q=>zs q fun a q=>zs q fun a q=>zs q fun a q=>zs q fun a q=>zs q fun a q=>zs q fun a q=>zs q fun a q=>zl q (r_pick q rfl rfl rfl) fun a q=>zm q rfl fun a q=>zs q fun a q=>zs q fun a q=>zs q fun a q=>zs q fun a q=>zs q fun a q=>zs q fun a q=>zs q fun a q=>zs q fun a q=>zl q (r_pick q rfl rfl rfl) fun a q=>zm q rfl fun a q=>zs q fun a q=>zs q fun a q=>zl q (r_pick q rfl rfl rfl) fun a q=>zm q rfl fun a q=>zs q fun a q=>zs q fun a q=>zs q fun a q=>zs q fun a q=>zl q (r_pick q rfl rfl rfl) fun a q=>zm q rfl fun a q=>zs q fun a q=>zs q fun a q=>zl q (r_pick q rfl rfl rfl) fun a q=>zm q rfl fun a q=>zs q fun a q=>zs q fun a q=>?_
 refine zs q fun a q=>zl q (r_pick q rfl rfl rfl) fun a q=>za q rfl fun a q=>zn ?_
 obtain rfl:=Option.some.inj H
 refine wp_ret ?_
 repeat first | refine zt ?_ | refine zb ?_ | refine zo ?_
 exact ret_1 results7 q (rv_tmp q rfl) ⟨rfl,s.bel⟩
 rw [oel_some h_72] at H
 have hv_:=hv_.symm
 subst hv_
 obtain ⟨s,hl_57⟩:=s.sp0.back hr_ hl_57
 have s:=s.un5
 have hRL:=hRL.trans hl_57
 refine zm q rfl fun a q=>zl q (r_extract q rfl rfl) fun a q=>zl q (r_extract q rfl rfl) fun a q=>za q rfl fun a q=>za q rfl fun a q=>zn<|zq<|zq ?_
 refine wp_mid (fun a w=>∃ (x_332 : Bool),law08_shown.j1 y_16 x_332 = some r ∧ Kn 154 a [(1,.pointer (some ⟨b_17,0,none⟩)),(37,.bool x_332)] ∧ St [] w0 w R_56 [.row 113 2 v_22 y_16.dict.l.length cs_23,.mp mb_25 (kvs Value.string (Value.int .i64) y_16.dict.ids),.cells b_20 [I6 y_16.dict.most,v_22,.map (some mb_25)] 102,mbo mb_26 (kvs (Value.int .i64) id (mbp E_27)) 111 90 2 E_27,.cells b_17 [v_18,I6 y_16.room,I6 y_16.points,.pointer (some ⟨b_20,0,none⟩),.map (some mb_26)] 70]) ?_ ?_
 refine zr<|zm q rfl fun a q=>zl q (r_peq underlying24 q rfl rfl) fun a q=>zm q rfl fun a q=>zm q rfl fun a q=>zl q (r_ibin q rfl rfl rfl) fun a q=>zl q (r_pick q rfl rfl rfl) fun a q=>zm q rfl fun a q=>?_
 rcases or_b (y_12.2 != 0) with hb_334 | hb_334
 rw [ifb_t hb_334] at H
 refine zsw q (wft hb_334) fun a q=>zsw q (wft hb_334) fun a q=>zl q (r_pick_t hb_334 q rfl rfl) fun a q=>zn ?_
 have s:=s.pk5
 have s:=s.pk9
 have s:=s.pk7
 have s:=s.pk9
 have s:=s.pk9
 exact ⟨true,H,q.sub (zc (zc zz)),s.trunc 5⟩
 rw [ifb_f hb_334] at H
 refine zw q (wff hb_334) (r_move q rfl) fun a q=>zw q (wff hb_334) (r_ibin q rfl rfl rfl) fun a q=>zl q (r_pick_f hb_334 q rfl rfl) fun a q=>zn ?_
 have s:=s.pk5
 have s:=s.pk9
 have s:=s.pk7
 have s:=s.pk9
 have s:=s.pk9
 exact ⟨(y_54.2 != 50),H,q.sub (zc (zc zz)),s.trunc 5⟩
 rintro a w ⟨x_332,H,q,s⟩
 unfold law08_shown.j1 at H
 refine wp_cond_split (q.ev rfl) (fun (hb_335 : x_332 = true)=>?_) fun hb_335=>?_
 rw [ifb_t hb_335] at H
 refine zq<|zr<|za q rfl fun a q=>zn ?_
 obtain rfl:=Option.some.inj H
 refine wp_ret ?_
 repeat first | refine zt ?_ | refine zb ?_ | refine zo ?_
 exact ret_1 results7 q (rv_tmp q rfl) ⟨rfl,s.bel⟩
 rw [ifb_f hb_335] at H
 refine wp_skip<|zq<|zr<|zm q rfl fun a q=>?_
 obtain ⟨y_336,h_337,H⟩:=bs H
 refine sl_call call10 q (by decide) rfl rfl rfl (law08_point.calls (⟨#[97]⟩ : ByteArray) 5 7 s.sub h_337) fun a v_ w hv_ q=>?_
 obtain ⟨R_338,v_341,cs_342,v_345,cs_346,hv_,hr_,hl_339,hq_343,hq_347⟩:=hv_
 have hv_:=hv_.symm
 subst hv_
 obtain ⟨s,hl_339⟩:=s.sp0.back hr_ hl_339
 have s:=s.un2
 have hRL:=hRL.trans hl_339
 obtain ⟨y_348,h_349,H⟩:=bs H
 have s:=s.pk5
 have s:=s.pk4
 have s:=s.pk4
 have s:=s.pk5
 have s:=s.pk6
 have hS1:=s.sp5
 refine sl_call call11 q (by decide) rfl rfl rfl (leaf_Leaf_Write.calls y_16 y_336 (lentOf_sub _ _) lentOf_not hS1.lend (hs_19.mono (hl_57.le.trans hl_339.le)) (hq_24.mono (hl_57.le.trans hl_339.le)) (hm_28.mono (hl_57.le.trans hl_339.le)) (hS1.lend_row z0 hq_343 rfl rfl) (hS1.lend_row z1 hq_347 rfl rfl) (GF.mono (hS1.raLe hRA nil_not) hG) h_349) fun a v_ w hv_ q=>?_
 obtain ⟨R_350,v_352,b_354,v_356,cs_357,mb_359,mb_360,E_361,hv_,hr_,hl_351,hs_353,hq_358,hm_362⟩:=hv_
 have hv_:=hv_.symm
 subst hv_
 obtain ⟨s,hl_351⟩:=hS1.back hr_ hl_351
 have s:=s.un5
 have hRL:=hRL.trans hl_351
 refine zm q rfl fun a q=>zl q (r_extract q rfl rfl) fun a q=>zl q (r_extract q rfl rfl) fun a q=>za q rfl fun a q=>za q rfl fun a q=>zn<|zq<|zr<|zm q rfl fun a q=>?_
 obtain ⟨y_363,h_364,H⟩:=bs H
 refine sl_call call10 q (by decide) rfl rfl rfl (law08_point.calls (⟨#[97]⟩ : ByteArray) 5 8 s.sub h_364) fun a v_ w hv_ q=>?_
 obtain ⟨R_365,v_368,cs_369,v_372,cs_373,hv_,hr_,hl_366,hq_370,hq_374⟩:=hv_
 have hv_:=hv_.symm
 subst hv_
 obtain ⟨s,hl_366⟩:=s.sp0.back hr_ hl_366
 have s:=s.un2
 have hRL:=hRL.trans hl_366
 obtain ⟨y_375,h_376,H⟩:=bs H
 have s:=s.pk6
 have s:=s.pk6
 have s:=s.pk6
 have s:=s.pk6
 have s:=s.pk6
 have hS1:=s.sp5
 refine sl_call call11 q (by decide) rfl rfl rfl (leaf_Leaf_Write.calls y_348.2.2 y_363 (lentOf_sub _ _) lentOf_not hS1.lend (hs_353.mono hl_366.le) (hq_358.mono hl_366.le) (hm_362.mono hl_366.le) (hS1.lend_row z0 hq_370 rfl rfl) (hS1.lend_row z1 hq_374 rfl rfl) (GF.mono (hS1.raLe hRA nil_not) hG) h_376) fun a v_ w hv_ q=>?_
 obtain ⟨R_377,v_379,b_381,v_383,cs_384,mb_386,mb_387,E_388,hv_,hr_,hl_378,hs_380,hq_385,hm_389⟩:=hv_
 have hv_:=hv_.symm
 subst hv_
 obtain ⟨s,hl_378⟩:=hS1.back hr_ hl_378
 have s:=s.un5
 have hRL:=hRL.trans hl_378
 refine zm q rfl fun a q=>zl q (r_extract q rfl rfl) fun a q=>zl q (r_extract q rfl rfl) fun a q=>za q rfl fun a q=>za q rfl fun a q=>zn<|zq<|zr<|zm q rfl fun a q=>?_
 obtain ⟨y_390,h_391,H⟩:=bs H
 refine sl_call call10 q (by decide) rfl rfl rfl (law08_point.calls (⟨#[98]⟩ : ByteArray) 3 1 s.sub h_391) fun a v_ w hv_ q=>?_
 obtain ⟨R_392,v_395,cs_396,v_399,cs_400,hv_,hr_,hl_393,hq_397,hq_401⟩:=hv_
 have hv_:=hv_.symm
 subst hv_
 obtain ⟨s,hl_393⟩:=s.sp0.back hr_ hl_393
 have s:=s.un2
 have hRL:=hRL.trans hl_393
 obtain ⟨y_402,h_403,H⟩:=bs H
 have s:=s.pk6
 have s:=s.pk6
 have s:=s.pk6
 have s:=s.pk6
 have s:=s.pk6
 have hS1:=s.sp5
 refine sl_call call11 q (by decide) rfl rfl rfl (leaf_Leaf_Write.calls y_375.2.2 y_390 (lentOf_sub _ _) lentOf_not hS1.lend (hs_380.mono hl_393.le) (hq_385.mono hl_393.le) (hm_389.mono hl_393.le) (hS1.lend_row z0 hq_397 rfl rfl) (hS1.lend_row z1 hq_401 rfl rfl) (GF.mono (hS1.raLe hRA nil_not) hG) h_403) fun a v_ w hv_ q=>?_
 obtain ⟨R_404,v_406,b_408,v_410,cs_411,mb_413,mb_414,E_415,hv_,hr_,hl_405,hs_407,hq_412,hm_416⟩:=hv_
 have hv_:=hv_.symm
 subst hv_
 obtain ⟨s,hl_405⟩:=hS1.back hr_ hl_405
 have s:=s.un5
 have hRL:=hRL.trans hl_405
 refine zm q rfl fun a q=>zl q (r_extract q rfl rfl) fun a q=>zl q (r_extract q rfl rfl) fun a q=>za q rfl fun a q=>za q rfl fun a q=>zn<|zq<|zr<|zm q rfl fun a q=>?_
 obtain ⟨y_417,h_418,H⟩:=bs H
 refine sl_call call10 q (by decide) rfl rfl rfl (law08_point.calls (⟨#[99]⟩ : ByteArray) 1 1 s.sub h_418) fun a v_ w hv_ q=>?_
 obtain ⟨R_419,v_422,cs_423,v_426,cs_427,hv_,hr_,hl_420,hq_424,hq_428⟩:=hv_
 have hv_:=hv_.symm
 subst hv_
 obtain ⟨s,hl_420⟩:=s.sp0.back hr_ hl_420
 have s:=s.un2
 have hRL:=hRL.trans hl_420
 obtain ⟨y_429,h_430,H⟩:=bs H
 have s:=s.pk6
 have s:=s.pk6
 have s:=s.pk6
 have s:=s.pk6
 have s:=s.pk6
 have hS1:=s.sp5
 refine sl_call call11 q (by decide) rfl rfl rfl (leaf_Leaf_Write.calls y_402.2.2 y_417 (lentOf_sub _ _) lentOf_not hS1.lend (hs_407.mono hl_420.le) (hq_412.mono hl_420.le) (hm_416.mono hl_420.le) (hS1.lend_row z0 hq_424 rfl rfl) (hS1.lend_row z1 hq_428 rfl rfl) (GF.mono (hS1.raLe hRA nil_not) hG) h_430) fun a v_ w hv_ q=>?_
 obtain ⟨R_431,v_433,b_435,v_437,cs_438,mb_440,mb_441,E_442,hv_,hr_,hl_432,hs_434,hq_439,hm_443⟩:=hv_
 have hv_:=hv_.symm
 subst hv_
 obtain ⟨s,hl_432⟩:=hS1.back hr_ hl_432
 have s:=s.un5
 have hRL:=hRL.trans hl_432
 refine zm q rfl fun a q=>zl q (r_extract q rfl rfl) fun a q=>zl q (r_extract q rfl rfl) fun a q=>za q rfl fun a q=>za q rfl fun a q=>zn<|zq<|zr<|zm q rfl fun a q=>?_
 obtain ⟨y_444,h_445,H⟩:=bs H
 have s:=s.pk4
 have s:=s.pk4
 have s:=s.pk4
 have s:=s.pk4
 have s:=s.pk4
 have hS1:=s.sp5
 refine sl_call call12 q (by decide) rfl rfl rfl (leaf_Leaf_Scan.calls y_429.2.2 (⟨#[108,111,97,100]⟩ : ByteArray) 0 9 hS1.lend hs_434 hq_439 hm_443 h_445) fun a v_ w hv_ q=>?_
 obtain ⟨R_446,v_449,cs_450,v_453,cs_454,v_457,b_459,v_461,cs_462,mb_464,mb_465,E_466,hv_,hr_,hl_447,hq_451,hq_455,hap_456,hs_458,hq_463,hm_467⟩:=hv_
 have hv_:=hv_.symm
 subst hv_
 obtain ⟨s,hl_447⟩:=hS1.back hr_ hl_447
 have s:=s.un7
 have hRL:=hRL.trans hl_447
 refine zm q rfl fun a q=>zl q (r_extract q rfl rfl) fun a q=>zl q (r_extract q rfl rfl) fun a q=>?_
 refine sl_alloc zeroValue41 s q (by decide) rfl rfl fun a w b_468 s q=>?_
 refine sl_storeA (vs:=[v_449,v_453]) (c':=[v_449,v_453]) sizeOf41 s q rfl rfl rfl rfl (all_cons (s.row_one z1) (all_cons (s.row_one z2) zz)) (Nat.le_of_ble_eq_true rfl) rfl fun a w s q=>?_
 refine za q rfl fun a q=>zn<|zq<|zr<|zm q rfl fun a q=>?_
 obtain ⟨y_469,h_470,H⟩:=bs H
 have s:=s.pk7
 have s:=s.pk7
 have s:=s.pk7
 have s:=s.pk7
 have s:=s.pk7
 have hS1:=s.sp5
 refine sl_call call12 q (by decide) rfl rfl rfl (leaf_Leaf_Scan.calls y_444.2.2 (⟨#[108,111,97,100]⟩ : ByteArray) 4 9 hS1.lend (hs_458.mono hl_447.le) (hq_463.mono hl_447.le) (hm_467.mono hl_447.le) h_470) fun a v_ w hv_ q=>?_
 obtain ⟨R_471,v_474,cs_475,v_478,cs_479,v_482,b_484,v_486,cs_487,mb_489,mb_490,E_491,hv_,hr_,hl_472,hq_476,hq_480,hap_481,hs_483,hq_488,hm_492⟩:=hv_
 have hv_:=hv_.symm
 subst hv_
 obtain ⟨s,hl_472⟩:=hS1.back hr_ hl_472
 have s:=s.un7
 have hRL:=hRL.trans hl_472
 refine zm q rfl fun a q=>zl q (r_extract q rfl rfl) fun a q=>zl q (r_extract q rfl rfl) fun a q=>?_
 refine sl_alloc zeroValue41 s q (by decide) rfl rfl fun a w b_493 s q=>?_
 refine sl_storeA (vs:=[v_474,v_478]) (c':=[v_474,v_478]) sizeOf41 s q rfl rfl rfl rfl (all_cons (s.row_one z1) (all_cons (s.row_one z2) zz)) (Nat.le_of_ble_eq_true rfl) rfl fun a w s q=>?_
 refine za q rfl fun a q=>zn<|zq<|zr<|zm q rfl fun a q=>?_
 obtain ⟨y_494,h_495,H⟩:=bs H
 have s:=s.pk7
 have s:=s.pk7
 have s:=s.pk7
 have s:=s.pk7
 have s:=s.pk7
 have hS1:=s.sp5
 refine sl_call call12 q (by decide) rfl rfl rfl (leaf_Leaf_Scan.calls y_469.2.2 (⟨#[120]⟩ : ByteArray) 0 9 hS1.lend (hs_483.mono hl_472.le) (hq_488.mono hl_472.le) (hm_492.mono hl_472.le) h_495) fun a v_ w hv_ q=>?_
 obtain ⟨R_496,v_499,cs_500,v_503,cs_504,v_507,b_509,v_511,cs_512,mb_514,mb_515,E_516,hv_,hr_,hl_497,hq_501,hq_505,hap_506,hs_508,hq_513,hm_517⟩:=hv_
 have hv_:=hv_.symm
 subst hv_
 obtain ⟨s,hl_497⟩:=hS1.back hr_ hl_497
 have s:=s.un7
 have hRL:=hRL.trans hl_497
 refine zm q rfl fun a q=>zl q (r_extract q rfl rfl) fun a q=>zl q (r_extract q rfl rfl) fun a q=>?_
 refine sl_alloc zeroValue41 s q (by decide) rfl rfl fun a w b_518 s q=>?_
 refine sl_storeA (vs:=[v_499,v_503]) (c':=[v_499,v_503]) sizeOf41 s q rfl rfl rfl rfl (all_cons (s.row_one z1) (all_cons (s.row_one z2) zz)) (Nat.le_of_ble_eq_true rfl) rfl fun a w s q=>?_
 refine za q rfl fun a q=>zn<|zq<|zr<|zm q rfl fun a q=>zm q rfl fun a q=>?_
 rcases or_b y_348.1 with hb_519 | hb_519
 rw [ifb_t hb_519] at H
 refine zw q (wtt hb_519) (r_move q rfl) fun a q=>zw q (wtt hb_519) (r_ibin q rfl rfl rfl) fun a q=>zl q (r_pick_t hb_519 q rfl rfl) fun a q=>zm q rfl fun a q=>?_
 rcases or_b (y_348.2.1 == 0) with hb_520 | hb_520
 rw [ifb_t hb_520] at H
 refine zw q (wtt hb_520) (r_move q rfl) fun a q=>zw q (wtt hb_520) (r_un q rfl (u_not _)) fun a q=>zl q (r_pick_t hb_520 q rfl rfl) fun a q=>zm q rfl fun a q=>?_
 rcases or_b (!y_375.1) with hb_521 | hb_521
 rw [ifb_t hb_521] at H
 refine zw q (wtt hb_521) (r_move q rfl) fun a q=>zw q (wtt hb_521) (r_ibin q rfl rfl rfl) fun a q=>zl q (r_pick_t hb_521 q rfl rfl) fun a q=>zm q rfl fun a q=>?_
 rcases or_b (y_375.2.1 == 0) with hb_522 | hb_522
 rw [ifb_t hb_522] at H
 refine zw q (wtt hb_522) (r_move q rfl) fun a q=>zl q (r_pick_t hb_522 q rfl rfl) fun a q=>zm q rfl fun a q=>?_
 rcases or_b y_402.1 with hb_523 | hb_523
 rw [ifb_t hb_523] at H
 refine zw q (wtt hb_523) (r_move q rfl) fun a q=>zw q (wtt hb_523) (r_ibin q rfl rfl rfl) fun a q=>zl q (r_pick_t hb_523 q rfl rfl) fun a q=>zm q rfl fun a q=>?_
 rcases or_b (y_402.2.1 == 0) with hb_524 | hb_524
 rw [ifb_t hb_524] at H
 refine zw q (wtt hb_524) (r_move q rfl) fun a q=>zw q (wtt hb_524) (r_un q rfl (u_not _)) fun a q=>zl q (r_pick_t hb_524 q rfl rfl) fun a q=>zm q rfl fun a q=>?_
 rcases or_b (!y_429.1) with hb_525 | hb_525
 rw [ifb_t hb_525] at H
 refine zw q (wtt hb_525) (r_move q rfl) fun a q=>zw q (wtt hb_525) (r_ibin q rfl rfl rfl) fun a q=>zl q (r_pick_t hb_525 q rfl rfl) fun a q=>zm q rfl fun a q=>?_
 rcases or_b (y_429.2.1 == 80) with hb_526 | hb_526
 rw [ifb_t hb_526] at H
 refine zw q (wtt hb_526) (r_move q rfl) fun a q=>zw q (wtt hb_526) (r_ibin q rfl rfl rfl) fun a q=>zl q (r_pick_t hb_526 q rfl rfl) fun a q=>zm q rfl fun a q=>?_
 rcases or_b (y_444.2.1 == 0) with hb_527 | hb_527
 rw [ifb_t hb_527] at H
 refine zw q (wtt hb_527) (r_fieldAddr underlying41 rfl sizeOf39 q rfl) fun a q=>zw q (wtt hb_527) (r_load isAgg39 q rfl (s.cell (.tail _ (.tail _ (.tail _ z8))) rfl)) fun a q=>zw q (wtt hb_527) (r_len_O underlying39 s (.tail _ (.tail _ (.tail _ (.tail _ (.tail _ z8))))) q rfl) fun a q=>zw q (wtt hb_527) (r_ibin q rfl rfl rfl) fun a q=>zl q (r_pick_t hb_527 q rfl rfl) fun a q=>zm q rfl fun a q=>?_
 rcases or_b ((y_444.1.Rows.length : Int) == 2) with hb_528 | hb_528
 rw [ifb_t hb_528] at H
 refine zw q (wtt hb_528) (r_fieldAddr underlying41 rfl sizeOf39 q rfl) fun a q=>zw q (wtt hb_528) (r_load isAgg39 q rfl (s.cell (.tail _ (.tail _ (.tail _ z8))) rfl)) fun a q=>?_
 obtain ⟨y_529,h_530,H⟩:=bs H
 obtain ⟨b_532,c_533,cs_534,hv_531,hr_535,hc_536,h_5300,h_5301⟩:=s.row_ix (.tail _ (.tail _ (.tail _ (.tail _ (.tail _ z8))))) (hq_455.mono (hl_472.le.trans hl_497.le)) rfl rfl h_530
 obtain ⟨v_537,rfl,hs_538⟩:=hr_535
 refine zw q (wtt hb_528) (r_indexAddr_R underlying39 sizeOf31 hv_531 h_5300 h_5301 q rfl rfl) fun a q=>zw q (wtt hb_528) (r_load isAgg31 q rfl (s.row_cell (.tail _ (.tail _ (.tail _ (.tail _ (.tail _ z8))))) hv_531 (hc_536 0 _ rfl))) fun a q=>?_
 obtain ⟨y_539,h_540,H⟩:=bs H
 obtain ⟨b_541,o_542,c_543,cs_544,hv_545,hr_546,hc_547,h_5400,h_5401⟩:=hs_538.ix h_540
 subst hr_546
 refine zw q (wtt hb_528) (r_indexAddr_R underlying31 sizeOf58 hv_545 h_5400 h_5401 q rfl rfl) fun a q=>zw q (wtt hb_528) (r_fieldAddr underlying58 rfl sizeOf3 q rfl) fun a q=>zw q (wtt hb_528) (r_load isAgg3 q rfl (s.sub.cell (hc_547 1 _ rfl))) fun a q=>zw q (wtt hb_528) (r_ibin q rfl rfl rfl) fun a q=>zl q (r_pick_t hb_528 q rfl rfl) fun a q=>zm q rfl fun a q=>?_
 rcases or_b (y_539.N == 3) with hb_548 | hb_548
 rw [ifb_t hb_548] at H
 refine zw q (wtt hb_548) (r_fieldAddr underlying41 rfl sizeOf39 q rfl) fun a q=>zw q (wtt hb_548) (r_load isAgg39 q rfl (s.cell (.tail _ (.tail _ (.tail _ z8))) rfl)) fun a q=>?_
 obtain ⟨y_549,h_550,H⟩:=bs H
 obtain ⟨b_552,c_553,cs_554,hv_551,hr_555,hc_556,h_5500,h_5501⟩:=s.row_ix (.tail _ (.tail _ (.tail _ (.tail _ (.tail _ z8))))) (hq_455.mono (hl_472.le.trans hl_497.le)) rfl rfl h_550
 obtain ⟨v_557,rfl,hs_558⟩:=hr_555
 refine zw q (wtt hb_548) (r_indexAddr_R underlying39 sizeOf31 hv_551 h_5500 h_5501 q rfl rfl) fun a q=>zw q (wtt hb_548) (r_load isAgg31 q rfl (s.row_cell (.tail _ (.tail _ (.tail _ (.tail _ (.tail _ z8))))) hv_551 (hc_556 0 _ rfl))) fun a q=>?_
 obtain ⟨y_559,h_560,H⟩:=bs H
 obtain ⟨b_561,o_562,c_563,cs_564,hv_565,hr_566,hc_567,h_5600,h_5601⟩:=hs_558.ix h_560
 subst hr_566
 refine zw q (wtt hb_548) (r_indexAddr_R underlying31 sizeOf58 hv_565 h_5600 h_5601 q rfl rfl) fun a q=>zw q (wtt hb_548) (r_fieldAddr underlying58 rfl sizeOf3 q rfl) fun a q=>zw q (wtt hb_548) (r_load isAgg3 q rfl (s.sub.cell (hc_567 1 _ rfl))) fun a q=>zw q (wtt hb_548) (r_ibin q rfl rfl rfl) fun a q=>zl q (r_pick_t hb_548 q rfl rfl) fun a q=>zm q rfl fun a q=>?_
 rcases or_b (y_559.N == 7) with hb_568 | hb_568
 rw [ifb_t hb_568] at H
 refine zw q (wtt hb_568) (r_move q rfl) fun a q=>zw q (wtt hb_568) (r_ibin q rfl rfl rfl) fun a q=>zl q (r_pick_t hb_568 q rfl rfl) fun a q=>zm q rfl fun a q=>?_
 rcases or_b (y_469.2.1 == 0) with hb_569 | hb_569
 rw [ifb_t hb_569] at H
 refine zw q (wtt hb_569) (r_fieldAddr underlying41 rfl sizeOf39 q rfl) fun a q=>zw q (wtt hb_569) (r_load isAgg39 q rfl (s.cell z8 rfl)) fun a q=>zw q (wtt hb_569) (r_len_O underlying39 s (.tail _ (.tail _ z8)) q rfl) fun a q=>zw q (wtt hb_569) (r_ibin q rfl rfl rfl) fun a q=>zl q (r_pick_t hb_569 q rfl rfl) fun a q=>zm q rfl fun a q=>?_
 rcases or_b ((y_469.1.Rows.length : Int) == 1) with hb_570 | hb_570
 rw [ifb_t hb_570] at H
 refine zw q (wtt hb_570) (r_move q rfl) fun a q=>zw q (wtt hb_570) (r_ibin q rfl rfl rfl) fun a q=>zl q (r_pick_t hb_570 q rfl rfl) fun a q=>zm q rfl fun a q=>?_
 rcases or_b (y_494.2.1 == 50) with hb_571 | hb_571
 rw [ifb_t hb_571] at H
 refine zw q (wtt hb_571) (r_move q rfl) fun a q=>?_
 obtain ⟨y_572,h_573,H⟩:=bs H
 have s:=s.pk7
 have s:=s.pk7
 have s:=s.pk7
 have s:=s.pk7
 have s:=s.pk7
 have hS1:=s.sp5
 refine sl_call call14 q (by decide) (wtt hb_571) rfl rfl (leaf_Leaf_Points.calls y_494.2.2 hS1.lend (hs_508.mono hl_497.le) (hq_513.mono hl_497.le) (hm_517.mono hl_497.le) h_573) fun a v_ w hv_ q=>?_
 obtain ⟨R_574,v_576,b_578,v_580,cs_581,mb_583,mb_584,E_585,hv_,hr_,hl_575,hs_577,hq_582,hm_586⟩:=hv_
 have hv_:=hv_.symm
 subst hv_
 obtain ⟨s,hl_575⟩:=hS1.back hr_ hl_575
 have s:=s.un5
 have hRL:=hRL.trans hl_575
 refine zw q (wtt hb_571) (r_ibin q rfl rfl rfl) fun a q=>zl q (r_pick_t hb_571 q rfl rfl) fun a q=>za q rfl fun a q=>zn ?_
 obtain rfl:=Option.some.inj H
 refine wp_ret ?_
 repeat first | refine zt ?_ | refine zb ?_ | refine zo ?_
 exact ret_1 results7 q (rv_tmp q rfl) ⟨rfl,s.bel⟩
 rw [ifb_f hb_571] at H
 refine zsw q (wtf hb_571) fun a q=>zsw q (wtf hb_571) fun a q=>zsw q (wtf hb_571) fun a q=>zl q (r_pick_f hb_571 q rfl rfl) fun a q=>za q rfl fun a q=>zn ?_
 obtain rfl:=Option.some.inj H
 refine wp_ret ?_
 repeat first | refine zt ?_ | refine zb ?_ | refine zo ?_
 exact ret_1 results7 q (rv_tmp q rfl) ⟨rfl,s.bel⟩
 rw [ifb_f hb_570] at H
 refine zsw q (wtf hb_570) fun a q=>zsw q (wtf hb_570) fun a q=>zl q (r_pick_f hb_570 q rfl rfl) fun a q=>zm q rfl fun a q=>zs q fun a q=>zs q fun a q=>zs q fun a q=>zl q (r_pick q rfl rfl rfl) fun a q=>za q rfl fun a q=>zn ?_
 obtain rfl:=Option.some.inj H
 refine wp_ret ?_
 repeat first | refine zt ?_ | refine zb ?_ | refine zo ?_
 exact ret_1 results7 q (rv_tmp q rfl) ⟨rfl,s.bel⟩
 rw [ifb_f hb_569] at H
 refine zsw q (wtf hb_569) fun a q=>zsw q (wtf hb_569) fun a q=>zsw q (wtf hb_569) fun a q=>zsw q (wtf hb_569) fun a q=>zl q (r_pick_f hb_569 q rfl rfl) fun a q=>zm q rfl fun a q=>zs q fun a q=>zs q fun a q=>zl q (r_pick q rfl rfl rfl) fun a q=>zm q rfl fun a q=>zs q fun a q=>zs q fun a q=>zs q fun a q=>zl q (r_pick q rfl rfl rfl) fun a q=>za q rfl fun a q=>zn ?_
 obtain rfl:=Option.some.inj H
 refine wp_ret ?_
 repeat first | refine zt ?_ | refine zb ?_ | refine zo ?_
 exact ret_1 results7 q (rv_tmp q rfl) ⟨rfl,s.bel⟩
 rw [ifb_f hb_568] at H
 refine zsw q (wtf hb_568) fun a q=>zsw q (wtf hb_568) fun a q=>zl q (r_pick_f hb_568 q rfl rfl) fun a q=>zm q rfl fun a q=>zs q fun a q=>zs q fun a q=>zs q fun a q=>zs q fun a q=>zl q (r_pick q rfl rfl rfl) fun a q=>zm q rfl fun a q=>zs q fun a q=>zs q fun a q=>zl q (r_pick q rfl rfl rfl) fun a q=>zm q rfl fun a q=>zs q fun a q=>zs q fun a q=>zs q fun a q=>zl q (r_pick q rfl rfl rfl) fun a q=>za q rfl fun a q=>zn ?_
 obtain rfl:=Option.some.inj H
 refine wp_ret ?_
 repeat first | refine zt ?_ | refine zb ?_ | refine zo ?_
 exact ret_1 results7 q (rv_tmp q rfl) ⟨rfl,s.bel⟩
 rw [ifb_f hb_548] at H
 refine zsw q (wtf hb_548) fun a q=>zsw q (wtf hb_548) fun a q=>zsw q (wtf hb_548) fun a q=>zsw q (wtf hb_548) fun a q=>zsw q (wtf hb_548) fun a q=>zsw q (wtf hb_548) fun a q=>zsw q (wtf hb_548) fun a q=>zsw q (wtf hb_548) fun a q=>zl q (r_pick_f hb_548 q rfl rfl) fun a q=>zm q rfl fun a q=>zs q fun a q=>zs q fun a q=>zl q (r_pick q rfl rfl rfl) fun a q=>zm q rfl fun a q=>zs q fun a q=>zs q fun a q=>zs q fun a q=>zs q fun a q=>zl q (r_pick q rfl rfl rfl) fun a q=>zm q rfl fun a q=>zs q fun a q=>zs q fun a q=>zl q (r_pick q rfl rfl rfl) fun a q=>zm q rfl fun a q=>zs q fun a q=>zs q fun a q=>zs q fun a q=>zl q (r_pick q rfl rfl rfl) fun a q=>za q rfl fun a q=>zn ?_
 obtain rfl:=Option.some.inj H
 refine wp_ret ?_
 repeat first | refine zt ?_ | refine zb ?_ | refine zo ?_
 exact ret_1 results7 q (rv_tmp q rfl) ⟨rfl,s.bel⟩
 rw [ifb_f hb_528] at H
 refine zsw q (wtf hb_528) fun a q=>zsw q (wtf hb_528) fun a q=>zsw q (wtf hb_528) fun a q=>zsw q (wtf hb_528) fun a q=>zsw q (wtf hb_528) fun a q=>zsw q (wtf hb_528) fun a q=>zsw q (wtf hb_528) fun a q=>zsw q (wtf hb_528) fun a q=>zl q (r_pick_f hb_528 q rfl rfl) fun a q=>zm q rfl fun a q=>zs q fun a q=>zs q fun a q=>zs q fun a q=>zs q fun a q=>zs q fun a q=>zs q fun a q=>zs q fun a q=>zs q fun a q=>zl q (r_pick q rfl rfl rfl) fun a q=>zm q rfl fun a q=>zs q fun a q=>zs q fun a q=>zl q (r_pick q rfl rfl rfl) fun a q=>zm q rfl fun a q=>zs q fun a q=>zs q fun a q=>zs q fun a q=>zs q fun a q=>zl q (r_pick q rfl rfl rfl) fun a q=>zm q rfl fun a q=>zs q fun a q=>zs q fun a q=>zl q (r_pick q rfl rfl rfl) fun a q=>zm q rfl fun a q=>?_
 refine zs q fun a q=>zs q fun a q=>zs q fun a q=>zl q (r_pick q rfl rfl rfl) fun a q=>za q rfl fun a q=>zn ?_
 obtain rfl:=Option.some.inj H
 refine wp_ret ?_
 repeat first | refine zt ?_ | refine zb ?_ | refine zo ?_
 exact ret_1 results7 q (rv_tmp q rfl) ⟨rfl,s.bel⟩
 rw [ifb_f hb_527] at H
 refine zsw q (wtf hb_527) fun a q=>zsw q (wtf hb_527) fun a q=>zsw q (wtf hb_527) fun a q=>zsw q (wtf hb_527) fun a q=>zl q (r_pick_f hb_527 q rfl rfl) fun a q=>zm q rfl fun a q=>zs q fun a q=>zs q fun a q=>zs q fun a q=>zs q fun a q=>zs q fun a q=>zs q fun a q=>zs q fun a q=>zs q fun a q=>zl q (r_pick q rfl rfl rfl) fun a q=>zm q rfl fun a q=>zs q fun a q=>zs q fun a q=>zs q fun a q=>zs q fun a q=>zs q fun a q=>zs q fun a q=>zs q fun a q=>zs q fun a q=>zl q (r_pick q rfl rfl rfl) fun a q=>zm q rfl fun a q=>zs q fun a q=>zs q fun a q=>zl q (r_pick q rfl rfl rfl) fun a q=>zm q rfl fun a q=>zs q fun a q=>zs q fun a q=>zs q fun a q=>zs q fun a q=>zl q (r_pick q rfl rfl rfl) fun a q=>zm q rfl fun a q=>zs q fun a q=>?_
 refine zs q fun a q=>zl q (r_pick q rfl rfl rfl) fun a q=>zm q rfl fun a q=>zs q fun a q=>zs q fun a q=>zs q fun a q=>zl q (r_pick q rfl rfl rfl) fun a q=>za q rfl fun a q=>zn ?_
 obtain rfl:=Option.some.inj H
 refine wp_ret ?_
 repeat first | refine zt ?_ | refine zb ?_ | refine zo ?_
 exact ret_1 results7 q (rv_tmp q rfl) ⟨rfl,s.bel⟩
 rw [ifb_f hb_526] at H
 refine zsw q (wtf hb_526) fun a q=>zsw q (wtf hb_526) fun a q=>zl q (r_pick_f hb_526 q rfl rfl) fun a q=>zm q rfl fun a q=>zs q fun a q=>zs q fun a q=>zs q fun a q=>zs q fun a q=>zl q (r_pick q rfl rfl rfl) fun a q=>zm q rfl fun a q=>zs q fun a q=>zs q fun a q=>zs q fun a q=>zs q fun a q=>zs q fun a q=>zs q fun a q=>zs q fun a q=>zs q fun a q=>zl q (r_pick q rfl rfl rfl) fun a q=>zm q rfl fun a q=>zs q fun a q=>zs q fun a q=>zs q fun a q=>zs q fun a q=>zs q fun a q=>zs q fun a q=>zs q fun a q=>zs q fun a q=>zl q (r_pick q rfl rfl rfl) fun a q=>zm q rfl fun a q=>zs q fun a q=>zs q fun a q=>zl q (r_pick q rfl rfl rfl) fun a q=>zm q rfl fun a q=>zs q fun a q=>zs q fun a q=>zs q fun a q=>zs q fun a q=>?_
 refine zl q (r_pick q rfl rfl rfl) fun a q=>zm q rfl fun a q=>zs q fun a q=>zs q fun a q=>zl q (r_pick q rfl rfl rfl) fun a q=>zm q rfl fun a q=>zs q fun a q=>zs q fun a q=>zs q fun a q=>zl q (r_pick q rfl rfl rfl) fun a q=>za q rfl fun a q=>zn ?_
 obtain rfl:=Option.some.inj H
 refine wp_ret ?_
 repeat first | refine zt ?_ | refine zb ?_ | refine zo ?_
 exact ret_1 results7 q (rv_tmp q rfl) ⟨rfl,s.bel⟩
 rw [ifb_f hb_525] at H
 refine zsw q (wtf hb_525) fun a q=>zsw q (wtf hb_525) fun a q=>zl q (r_pick_f hb_525 q rfl rfl) fun a q=>zm q rfl fun a q=>zs q fun a q=>zs q fun a q=>zl q (r_pick q rfl rfl rfl) fun a q=>zm q rfl fun a q=>zs q fun a q=>zs q fun a q=>zs q fun a q=>zs q fun a q=>zl q (r_pick q rfl rfl rfl) fun a q=>zm q rfl fun a q=>zs q fun a q=>zs q fun a q=>zs q fun a q=>zs q fun a q=>zs q fun a q=>zs q fun a q=>zs q fun a q=>zs q fun a q=>zl q (r_pick q rfl rfl rfl) fun a q=>zm q rfl fun a q=>zs q fun a q=>zs q fun a q=>zs q fun a q=>zs q fun a q=>zs q fun a q=>zs q fun a q=>zs q fun a q=>zs q fun a q=>zl q (r_pick q rfl rfl rfl) fun a q=>zm q rfl fun a q=>zs q fun a q=>zs q fun a q=>zl q (r_pick q rfl rfl rfl) fun a q=>?_
 refine zm q rfl fun a q=>zs q fun a q=>zs q fun a q=>zs q fun a q=>zs q fun a q=>zl q (r_pick q rfl rfl rfl) fun a q=>zm q rfl fun a q=>zs q fun a q=>zs q fun a q=>zl q (r_pick q rfl rfl rfl) fun a q=>zm q rfl fun a q=>zs q fun a q=>zs q fun a q=>zs q fun a q=>zl q (r_pick q rfl rfl rfl) fun a q=>za q rfl fun a q=>zn ?_
 obtain rfl:=Option.some.inj H
 refine wp_ret ?_
 repeat first | refine zt ?_ | refine zb ?_ | refine zo ?_
 exact ret_1 results7 q (rv_tmp q rfl) ⟨rfl,s.bel⟩
 rw [ifb_f hb_524] at H
 refine zsw q (wtf hb_524) fun a q=>zsw q (wtf hb_524) fun a q=>zl q (r_pick_f hb_524 q rfl rfl) fun a q=>zm q rfl fun a q=>zs q fun a q=>zs q fun a q=>zl q (r_pick q rfl rfl rfl) fun a q=>zm q rfl fun a q=>zs q fun a q=>zs q fun a q=>zl q (r_pick q rfl rfl rfl) fun a q=>zm q rfl fun a q=>zs q fun a q=>zs q fun a q=>zs q fun a q=>zs q fun a q=>zl q (r_pick q rfl rfl rfl) fun a q=>zm q rfl fun a q=>zs q fun a q=>zs q fun a q=>zs q fun a q=>zs q fun a q=>zs q fun a q=>zs q fun a q=>zs q fun a q=>zs q fun a q=>zl q (r_pick q rfl rfl rfl) fun a q=>zm q rfl fun a q=>zs q fun a q=>zs q fun a q=>zs q fun a q=>zs q fun a q=>zs q fun a q=>zs q fun a q=>zs q fun a q=>zs q fun a q=>zl q (r_pick q rfl rfl rfl) fun a q=>?_
 refine zm q rfl fun a q=>zs q fun a q=>zs q fun a q=>zl q (r_pick q rfl rfl rfl) fun a q=>zm q rfl fun a q=>zs q fun a q=>zs q fun a q=>zs q fun a q=>zs q fun a q=>zl q (r_pick q rfl rfl rfl) fun a q=>zm q rfl fun a q=>zs q fun a q=>zs q fun a q=>zl q (r_pick q rfl rfl rfl) fun a q=>zm q rfl fun a q=>zs q fun a q=>zs q fun a q=>zs q fun a q=>zl q (r_pick q rfl rfl rfl) fun a q=>za q rfl fun a q=>zn ?_
 obtain rfl:=Option.some.inj H
 refine wp_ret ?_
 repeat first | refine zt ?_ | refine zb ?_ | refine zo ?_
 exact ret_1 results7 q (rv_tmp q rfl) ⟨rfl,s.bel⟩
 rw [ifb_f hb_523] at H
 refine zsw q (wtf hb_523) fun a q=>zsw q (wtf hb_523) fun a q=>zl q (r_pick_f hb_523 q rfl rfl) fun a q=>zm q rfl fun a q=>zs q fun a q=>zs q fun a q=>zl q (r_pick q rfl rfl rfl) fun a q=>zm q rfl fun a q=>zs q fun a q=>zs q fun a q=>zl q (r_pick q rfl rfl rfl) fun a q=>zm q rfl fun a q=>zs q fun a q=>zs q fun a q=>zl q (r_pick q rfl rfl rfl) fun a q=>zm q rfl fun a q=>zs q fun a q=>zs q fun a q=>zs q fun a q=>zs q fun a q=>zl q (r_pick q rfl rfl rfl) fun a q=>zm q rfl fun a q=>zs q fun a q=>zs q fun a q=>zs q fun a q=>zs q fun a q=>zs q fun a q=>zs q fun a q=>zs q fun a q=>zs q fun a q=>zl q (r_pick q rfl rfl rfl) fun a q=>zm q rfl fun a q=>zs q fun a q=>zs q fun a q=>zs q fun a q=>zs q fun a q=>zs q fun a q=>?_
 refine zs q fun a q=>zs q fun a q=>zs q fun a q=>zl q (r_pick q rfl rfl rfl) fun a q=>zm q rfl fun a q=>zs q fun a q=>zs q fun a q=>zl q (r_pick q rfl rfl rfl) fun a q=>zm q rfl fun a q=>zs q fun a q=>zs q fun a q=>zs q fun a q=>zs q fun a q=>zl q (r_pick q rfl rfl rfl) fun a q=>zm q rfl fun a q=>zs q fun a q=>zs q fun a q=>zl q (r_pick q rfl rfl rfl) fun a q=>zm q rfl fun a q=>zs q fun a q=>zs q fun a q=>zs q fun a q=>zl q (r_pick q rfl rfl rfl) fun a q=>za q rfl fun a q=>zn ?_
 obtain rfl:=Option.some.inj H
 refine wp_ret ?_
 repeat first | refine zt ?_ | refine zb ?_ | refine zo ?_
 exact ret_1 results7 q (rv_tmp q rfl) ⟨rfl,s.bel⟩
 rw [ifb_f hb_522] at H
 refine zsw q (wtf hb_522) fun a q=>zl q (r_pick_f hb_522 q rfl rfl) fun a q=>zm q rfl fun a q=>zs q fun a q=>zs q fun a q=>zl q (r_pick q rfl rfl rfl) fun a q=>zm q rfl fun a q=>zs q fun a q=>zs q fun a q=>zl q (r_pick q rfl rfl rfl) fun a q=>zm q rfl fun a q=>zs q fun a q=>zs q fun a q=>zl q (r_pick q rfl rfl rfl) fun a q=>zm q rfl fun a q=>zs q fun a q=>zs q fun a q=>zl q (r_pick q rfl rfl rfl) fun a q=>zm q rfl fun a q=>zs q fun a q=>zs q fun a q=>zs q fun a q=>zs q fun a q=>zl q (r_pick q rfl rfl rfl) fun a q=>zm q rfl fun a q=>zs q fun a q=>zs q fun a q=>zs q fun a q=>zs q fun a q=>zs q fun a q=>zs q fun a q=>zs q fun a q=>zs q fun a q=>zl q (r_pick q rfl rfl rfl) fun a q=>zm q rfl fun a q=>zs q fun a q=>zs q fun a q=>?_
 refine zs q fun a q=>zs q fun a q=>zs q fun a q=>zs q fun a q=>zs q fun a q=>zs q fun a q=>zl q (r_pick q rfl rfl rfl) fun a q=>zm q rfl fun a q=>zs q fun a q=>zs q fun a q=>zl q (r_pick q rfl rfl rfl) fun a q=>zm q rfl fun a q=>zs q fun a q=>zs q fun a q=>zs q fun a q=>zs q fun a q=>zl q (r_pick q rfl rfl rfl) fun a q=>zm q rfl fun a q=>zs q fun a q=>zs q fun a q=>zl q (r_pick q rfl rfl rfl) fun a q=>zm q rfl fun a q=>zs q fun a q=>zs q fun a q=>zs q fun a q=>zl q (r_pick q rfl rfl rfl) fun a q=>za q rfl fun a q=>zn ?_
 obtain rfl:=Option.some.inj H
 refine wp_ret ?_
 repeat first | refine zt ?_ | refine zb ?_ | refine zo ?_
 exact ret_1 results7 q (rv_tmp q rfl) ⟨rfl,s.bel⟩
 rw [ifb_f hb_521] at H
 refine zsw q (wtf hb_521) fun a q=>zsw q (wtf hb_521) fun a q=>zl q (r_pick_f hb_521 q rfl rfl) fun a q=>zm q rfl fun a q=>zs q fun a q=>zl q (r_pick q rfl rfl rfl) fun a q=>zm q rfl fun a q=>zs q fun a q=>zs q fun a q=>zl q (r_pick q rfl rfl rfl) fun a q=>zm q rfl fun a q=>zs q fun a q=>zs q fun a q=>zl q (r_pick q rfl rfl rfl) fun a q=>zm q rfl fun a q=>zs q fun a q=>zs q fun a q=>zl q (r_pick q rfl rfl rfl) fun a q=>zm q rfl fun a q=>zs q fun a q=>zs q fun a q=>zl q (r_pick q rfl rfl rfl) fun a q=>zm q rfl fun a q=>zs q fun a q=>zs q fun a q=>zs q fun a q=>zs q fun a q=>zl q (r_pick q rfl rfl rfl) fun a q=>zm q rfl fun a q=>zs q fun a q=>zs q fun a q=>zs q fun a q=>zs q fun a q=>zs q fun a q=>zs q fun a q=>zs q fun a q=>?_
 refine zs q fun a q=>zl q (r_pick q rfl rfl rfl) fun a q=>zm q rfl fun a q=>zs q fun a q=>zs q fun a q=>zs q fun a q=>zs q fun a q=>zs q fun a q=>zs q fun a q=>zs q fun a q=>zs q fun a q=>zl q (r_pick q rfl rfl rfl) fun a q=>zm q rfl fun a q=>zs q fun a q=>zs q fun a q=>zl q (r_pick q rfl rfl rfl) fun a q=>zm q rfl fun a q=>zs q fun a q=>zs q fun a q=>zs q fun a q=>zs q fun a q=>zl q (r_pick q rfl rfl rfl) fun a q=>zm q rfl fun a q=>zs q fun a q=>zs q fun a q=>zl q (r_pick q rfl rfl rfl) fun a q=>zm q rfl fun a q=>zs q fun a q=>zs q fun a q=>zs q fun a q=>zl q (r_pick q rfl rfl rfl) fun a q=>za q rfl fun a q=>zn ?_
 obtain rfl:=Option.some.inj H
 refine wp_ret ?_
 repeat first | refine zt ?_ | refine zb ?_ | refine zo ?_
 exact ret_1 results7 q (rv_tmp q rfl) ⟨rfl,s.bel⟩
 rw [ifb_f hb_520] at H
 refine zsw q (wtf hb_520) fun a q=>zsw q (wtf hb_520) fun a q=>zl q (r_pick_f hb_520 q rfl rfl) fun a q=>zm q rfl fun a q=>zs q fun a q=>zs q fun a q=>zl q (r_pick q rfl rfl rfl) fun a q=>zm q rfl fun a q=>zs q fun a q=>zl q (r_pick q rfl rfl rfl) fun a q=>zm q rfl fun a q=>zs q fun a q=>zs q fun a q=>zl q (r_pick q rfl rfl rfl) fun a q=>zm q rfl fun a q=>zs q fun a q=>zs q fun a q=>zl q (r_pick q rfl rfl rfl) fun a q=>zm q rfl fun a q=>zs q fun a q=>zs q fun a q=>zl q (r_pick q rfl rfl rfl) fun a q=>zm q rfl fun a q=>zs q fun a q=>zs q fun a q=>zl q (r_pick q rfl rfl rfl) fun a q=>zm q rfl fun a q=>zs q fun a q=>zs q fun a q=>zs q fun a q=>zs q fun a q=>zl q (r_pick q rfl rfl rfl) fun a q=>zm q rfl fun a q=>zs q fun a q=>?_
 refine zs q fun a q=>zs q fun a q=>zs q fun a q=>zs q fun a q=>zs q fun a q=>zs q fun a q=>zs q fun a q=>zl q (r_pick q rfl rfl rfl) fun a q=>zm q rfl fun a q=>zs q fun a q=>zs q fun a q=>zs q fun a q=>zs q fun a q=>zs q fun a q=>zs q fun a q=>zs q fun a q=>zs q fun a q=>zl q (r_pick q rfl rfl rfl) fun a q=>zm q rfl fun a q=>zs q fun a q=>zs q fun a q=>zl q (r_pick q rfl rfl rfl) fun a q=>zm q rfl fun a q=>zs q fun a q=>zs q fun a q=>zs q fun a q=>zs q fun a q=>zl q (r_pick q rfl rfl rfl) fun a q=>zm q rfl fun a q=>zs q fun a q=>zs q fun a q=>zl q (r_pick q rfl rfl rfl) fun a q=>zm q rfl fun a q=>zs q fun a q=>zs q fun a q=>zs q fun a q=>zl q (r_pick q rfl rfl rfl) fun a q=>za q rfl fun a q=>zn ?_
 obtain rfl:=Option.some.inj H
 refine wp_ret ?_
 repeat first | refine zt ?_ | refine zb ?_ | refine zo ?_
 exact ret_1 results7 q (rv_tmp q rfl) ⟨rfl,s.bel⟩
 rw [ifb_f hb_519] at H
 refine zsw q (wtf hb_519) fun a q=>zsw q (wtf hb_519) fun a q=>zl q (r_pick_f hb_519 q rfl rfl) fun a q=>zm q rfl fun a q=>zs q fun a q=>zs q fun a q=>zl q (r_pick q rfl rfl rfl) fun a q=>zm q rfl fun a q=>zs q fun a q=>zs q fun a q=>zl q (r_pick q rfl rfl rfl) fun a q=>zm q rfl fun a q=>zs q fun a q=>zl q (r_pick q rfl rfl rfl) fun a q=>zm q rfl fun a q=>zs q fun a q=>zs q fun a q=>zl q (r_pick q rfl rfl rfl) fun a q=>zm q rfl fun a q=>zs q fun a q=>zs q fun a q=>zl q (r_pick q rfl rfl rfl) fun a q=>zm q rfl fun a q=>zs q fun a q=>zs q fun a q=>zl q (r_pick q rfl rfl rfl) fun a q=>zm q rfl fun a q=>zs q fun a q=>zs q fun a q=>zl q (r_pick q rfl rfl rfl) fun a q=>zm q rfl fun a q=>zs q fun a q=>zs q fun a q=>zs q fun a q=>?_
 refine zs q fun a q=>zl q (r_pick q rfl rfl rfl) fun a q=>zm q rfl fun a q=>zs q fun a q=>zs q fun a q=>zs q fun a q=>zs q fun a q=>zs q fun a q=>zs q fun a q=>zs q fun a q=>zs q fun a q=>zl q (r_pick q rfl rfl rfl) fun a q=>zm q rfl fun a q=>zs q fun a q=>zs q fun a q=>zs q fun a q=>zs q fun a q=>zs q fun a q=>zs q fun a q=>zs q fun a q=>zs q fun a q=>zl q (r_pick q rfl rfl rfl) fun a q=>zm q rfl fun a q=>zs q fun a q=>zs q fun a q=>zl q (r_pick q rfl rfl rfl) fun a q=>zm q rfl fun a q=>zs q fun a q=>zs q fun a q=>zs q fun a q=>zs q fun a q=>zl q (r_pick q rfl rfl rfl) fun a q=>zm q rfl fun a q=>zs q fun a q=>zs q fun a q=>zl q (r_pick q rfl rfl rfl) fun a q=>zm q rfl fun a q=>zs q fun a q=>zs q fun a q=>?_
 refine zs q fun a q=>zl q (r_pick q rfl rfl rfl) fun a q=>za q rfl fun a q=>zn ?_
 obtain rfl:=Option.some.inj H
 refine wp_ret ?_
 repeat first | refine zt ?_ | refine zb ?_ | refine zo ?_
 exact ret_1 results7 q (rv_tmp q rfl) ⟨rfl,s.bel⟩
theorem ref02_Name.calls (a0 : ByteArray) {r : Bool} (H : ref02_Name a0 = some r) (w0 : World) : CallsV prog 92 #[.string a0] w0 (.bool r):=by
 unfold ref02_Name at H
 refine enter (args:=[.string a0]) func92 rfl ntmps92 rfl fun a q=>?_
 have s:=St.init (R:=fun _=>none) (w:=w0) (fun _ _ h=>by cases h)
 have hRL:=RLe.refl (M:=[]) w0 (fun _=>none)
 refine zq<|zr<|za q rfl fun a q=>zn<|zq<|zq ?_
 refine wp_mid (fun a w=>∃ (x_8 : Bool),ref02_Name.j0 a0 x_8 = some r ∧ Kn 55 a [(0,.string a0),(22,.bool x_8)] ∧ St [] w0 w (fun _=>none) []) ?_ ?_
 refine zr<|zm q rfl fun a q=>zl q (r_len_str underlying9 q rfl) fun a q=>zl q (r_ibin q rfl rfl rfl) fun a q=>zm q rfl fun a q=>?_
 rcases or_b (decide ((a0.size : Int) < 1)) with hb_10 | hb_10
 rw [ifb_t hb_10] at H
 refine zsw q (wft hb_10) fun a q=>zsw q (wft hb_10) fun a q=>zsw q (wft hb_10) fun a q=>zl q (r_pick_t hb_10 q rfl rfl) fun a q=>zm q rfl fun a q=>zs q fun a q=>zs q fun a q=>zs q fun a q=>zl q (r_pick q rfl rfl rfl) fun a q=>zm q rfl fun a q=>zs q fun a q=>zs q fun a q=>zs q fun a q=>zl q (r_pick q rfl rfl rfl) fun a q=>zn ?_
 exact ⟨true,H,q.sub (zc (zc zz)),s⟩
 rw [ifb_f hb_10] at H
 refine zw q (wff hb_10) (r_move q rfl) fun a q=>zw q (wff hb_10) (r_len_str underlying9 q rfl) fun a q=>zw q (wff hb_10) (r_ibin q rfl rfl rfl) fun a q=>zl q (r_pick_f hb_10 q rfl rfl) fun a q=>zm q rfl fun a q=>?_
 rcases or_b (decide ((a0.size : Int) > 24)) with hb_11 | hb_11
 rw [ifb_t hb_11] at H
 refine zsw q (wft hb_11) fun a q=>zsw q (wft hb_11) fun a q=>zsw q (wft hb_11) fun a q=>zl q (r_pick_t hb_11 q rfl rfl) fun a q=>zm q rfl fun a q=>zs q fun a q=>zs q fun a q=>zs q fun a q=>zl q (r_pick q rfl rfl rfl) fun a q=>zn ?_
 exact ⟨true,H,q.sub (zc (zc zz)),s⟩
 rw [ifb_f hb_11] at H
 refine zw q (wff hb_11) (r_move q rfl) fun a q=>?_
 obtain ⟨y_12,h_13,H⟩:=bs H
 refine zw q (wff hb_11) (r_index_str' underlying9 h_13 q rfl rfl) fun a q=>zw q (wff hb_11) (r_ibin q rfl rfl rfl) fun a q=>zl q (r_pick_f hb_11 q rfl rfl) fun a q=>zm q rfl fun a q=>?_
 rcases or_b (decide (y_12 < 97)) with hb_14 | hb_14
 rw [ifb_t hb_14] at H
 refine zsw q (wft hb_14) fun a q=>zsw q (wft hb_14) fun a q=>zsw q (wft hb_14) fun a q=>zl q (r_pick_t hb_14 q rfl rfl) fun a q=>zn ?_
 exact ⟨true,H,q.sub (zc (zc zz)),s⟩
 rw [ifb_f hb_14] at H
 refine zw q (wff hb_14) (r_move q rfl) fun a q=>?_
 obtain ⟨y_15,h_16,H⟩:=bs H
 refine zw q (wff hb_14) (r_index_str' underlying9 h_16 q rfl rfl) fun a q=>zw q (wff hb_14) (r_ibin q rfl rfl rfl) fun a q=>zl q (r_pick_f hb_14 q rfl rfl) fun a q=>zn ?_
 exact ⟨(decide (y_15 > 122)),H,q.sub (zc (zc zz)),s⟩
 rintro a w ⟨x_8,H,q,s⟩
 unfold ref02_Name.j0 at H
 refine wp_cond_split (q.ev rfl) (fun (hb_17 : x_8 = true)=>?_) fun hb_17=>?_
 rw [ifb_t hb_17] at H
 refine zq<|zr<|za q rfl fun a q=>zn ?_
 obtain rfl:=Option.some.inj H
 refine wp_ret ?_
 repeat first | refine zt ?_ | refine zb ?_ | refine zo ?_
 exact ret_1 results92 q (rv_tmp q rfl) ⟨rfl,s.bel⟩
 rw [ifb_f hb_17] at H
 refine wp_skip<|zq<|zq<|zr<|za q rfl fun a q=>zn ?_
 refine wp_block ?_
 refine wp_loop_k (fun k_l1 a w=>∃ (x_45 : Int),ref02_Name.l1 a0 k_l1 x_45 = some r ∧ Kn 55 a [(0,.string a0),(3,I6 x_45)] ∧ St [] w0 w (fun _=>none) []) (((a0.size : Int) - 0).toNat + 1) ?_ ?_
 exact ⟨0,H,q.sub (zc (zc zz)),s⟩
 rintro k_l1 a w ⟨x_45,H,q,s⟩
 rcases k_l1 with _ | k_l1
 cases H
 rw [ref02_Name.l1.eq_2] at H
 refine zq<|zq<|zr<|zm q rfl fun a q=>zm q rfl fun a q=>zl q (r_len_str underlying9 q rfl) fun a q=>zl q (r_ibin q rfl rfl rfl) fun a q=>zn ?_
 refine wp_cond_split (q.ev rfl) (fun (hb_73 : (decide (x_45 < (a0.size : Int))) = true)=>?_) fun hb_73=>?_
 rw [ifb_t hb_73] at H
 refine wp_skip<|zq ?_
 refine wp_block ?_
 refine zq<|zr<|zm q rfl fun a q=>zm q rfl fun a q=>?_
 obtain ⟨y_74,h_75,H⟩:=bs H
 refine zl q (r_index_str' underlying9 h_75 q rfl rfl) fun a q=>za q rfl fun a q=>zn<|zq ?_
 refine wp_mid (fun a w=>∃ (x_86 : Bool),ref02_Name.j2 (ref02_Name.l1 a0 k_l1) a0 x_45 x_86 = some r ∧ Kn 55 a [(0,.string a0),(3,I6 x_45),(54,.bool x_86)] ∧ St [] w0 w (fun _=>none) []) ?_ ?_
 refine zr<|zm q rfl fun a q=>zl q (r_ibin q rfl rfl rfl) fun a q=>zm q rfl fun a q=>?_
 rcases or_b (decide (y_74 ≥ 97)) with hb_88 | hb_88
 rw [ifb_t hb_88] at H
 refine zw q (wtt hb_88) (r_move q rfl) fun a q=>zw q (wtt hb_88) (r_ibin q rfl rfl rfl) fun a q=>zl q (r_pick_t hb_88 q rfl rfl) fun a q=>zm q rfl fun a q=>?_
 rcases or_b (decide (y_74 ≤ 122)) with hb_89 | hb_89
 rw [ifb_t hb_89] at H
 refine zsw q (wft hb_89) fun a q=>zsw q (wft hb_89) fun a q=>zsw q (wft hb_89) fun a q=>zs q fun a q=>zs q fun a q=>zsw q (wft hb_89) fun a q=>zl q (r_pick_t hb_89 q rfl rfl) fun a q=>zm q rfl fun a q=>zs q fun a q=>zs q fun a q=>zl q (r_pick q rfl rfl rfl) fun a q=>zm q rfl fun a q=>zs q fun a q=>zs q fun a q=>zl q (r_pick q rfl rfl rfl) fun a q=>zl q (r_un q rfl (u_not _)) fun a q=>zn ?_
 exact ⟨false,H,q.sub (zc (zc (zc zz))),s⟩
 rw [ifb_f hb_89] at H
 refine zw q (wff hb_89) (r_move q rfl) fun a q=>zw q (wff hb_89) (r_ibin q rfl rfl rfl) fun a q=>zw q (wff hb_89) (r_move q rfl) fun a q=>?_
 rcases or_b (decide (y_74 ≥ 48)) with hb_90 | hb_90
 rw [ifb_t hb_90] at H
 refine zw q (wtt hb_90) (r_move q rfl) fun a q=>zw q (wtt hb_90) (r_ibin q rfl rfl rfl) fun a q=>zw q (wff hb_89) (r_pick_t hb_90 q rfl rfl) fun a q=>zl q (r_pick_f hb_89 q rfl rfl) fun a q=>zm q rfl fun a q=>?_
 rcases or_b (decide (y_74 ≤ 57)) with hb_91 | hb_91
 rw [ifb_t hb_91] at H
 refine zsw q (wft hb_91) fun a q=>zsw q (wft hb_91) fun a q=>zl q (r_pick_t hb_91 q rfl rfl) fun a q=>zm q rfl fun a q=>zs q fun a q=>zs q fun a q=>zl q (r_pick q rfl rfl rfl) fun a q=>zl q (r_un q rfl (u_not _)) fun a q=>zn ?_
 exact ⟨false,H,q.sub (zc (zc (zc zz))),s⟩
 rw [ifb_f hb_91] at H
 refine zw q (wff hb_91) (r_move q rfl) fun a q=>zw q (wff hb_91) (r_ibin q rfl rfl rfl) fun a q=>zl q (r_pick_f hb_91 q rfl rfl) fun a q=>zm q rfl fun a q=>?_
 rcases or_b (y_74 == 95) with hb_92 | hb_92
 rw [ifb_t hb_92] at H
 refine zsw q (wft hb_92) fun a q=>zsw q (wft hb_92) fun a q=>zl q (r_pick_t hb_92 q rfl rfl) fun a q=>zl q (r_un q rfl (u_not _)) fun a q=>zn ?_
 exact ⟨false,H,q.sub (zc (zc (zc zz))),s⟩
 rw [ifb_f hb_92] at H
 refine zw q (wff hb_92) (r_move q rfl) fun a q=>zw q (wff hb_92) (r_ibin q rfl rfl rfl) fun a q=>zl q (r_pick_f hb_92 q rfl rfl) fun a q=>zl q (r_un q rfl (u_not _)) fun a q=>zn ?_
 exact ⟨(!(y_74 == 35)),H,q.sub (zc (zc (zc zz))),s⟩
 rw [ifb_f hb_90] at H
 refine zsw q (wtf hb_90) fun a q=>zsw q (wtf hb_90) fun a q=>zw q (wff hb_89) (r_pick_f hb_90 q rfl rfl) fun a q=>zl q (r_pick_f hb_89 q rfl rfl) fun a q=>zm q rfl fun a q=>zm q rfl fun a q=>zl q (r_ibin q rfl rfl rfl) fun a q=>zl q (r_pick q rfl rfl rfl) fun a q=>zm q rfl fun a q=>?_
 rcases or_b (y_74 == 95) with hb_93 | hb_93
 rw [ifb_t hb_93] at H
 refine zsw q (wft hb_93) fun a q=>zsw q (wft hb_93) fun a q=>zl q (r_pick_t hb_93 q rfl rfl) fun a q=>zl q (r_un q rfl (u_not _)) fun a q=>zn ?_
 exact ⟨false,H,q.sub (zc (zc (zc zz))),s⟩
 rw [ifb_f hb_93] at H
 refine zw q (wff hb_93) (r_move q rfl) fun a q=>zw q (wff hb_93) (r_ibin q rfl rfl rfl) fun a q=>zl q (r_pick_f hb_93 q rfl rfl) fun a q=>zl q (r_un q rfl (u_not _)) fun a q=>zn ?_
 exact ⟨(!(y_74 == 35)),H,q.sub (zc (zc (zc zz))),s⟩
 rw [ifb_f hb_88] at H
 refine zsw q (wtf hb_88) fun a q=>zsw q (wtf hb_88) fun a q=>zl q (r_pick_f hb_88 q rfl rfl) fun a q=>zm q rfl fun a q=>zm q rfl fun a q=>zl q (r_ibin q rfl rfl rfl) fun a q=>zm q rfl fun a q=>?_
 rcases or_b (decide (y_74 ≥ 48)) with hb_94 | hb_94
 rw [ifb_t hb_94] at H
 refine zw q (wtt hb_94) (r_move q rfl) fun a q=>zw q (wtt hb_94) (r_ibin q rfl rfl rfl) fun a q=>zl q (r_pick_t hb_94 q rfl rfl) fun a q=>zl q (r_pick q rfl rfl rfl) fun a q=>zm q rfl fun a q=>?_
 rcases or_b (decide (y_74 ≤ 57)) with hb_95 | hb_95
 rw [ifb_t hb_95] at H
 refine zsw q (wft hb_95) fun a q=>zsw q (wft hb_95) fun a q=>zl q (r_pick_t hb_95 q rfl rfl) fun a q=>zm q rfl fun a q=>zs q fun a q=>zs q fun a q=>zl q (r_pick q rfl rfl rfl) fun a q=>zl q (r_un q rfl (u_not _)) fun a q=>zn ?_
 exact ⟨false,H,q.sub (zc (zc (zc zz))),s⟩
 rw [ifb_f hb_95] at H
 refine zw q (wff hb_95) (r_move q rfl) fun a q=>zw q (wff hb_95) (r_ibin q rfl rfl rfl) fun a q=>zl q (r_pick_f hb_95 q rfl rfl) fun a q=>zm q rfl fun a q=>?_
 rcases or_b (y_74 == 95) with hb_96 | hb_96
 rw [ifb_t hb_96] at H
 refine zsw q (wft hb_96) fun a q=>zsw q (wft hb_96) fun a q=>zl q (r_pick_t hb_96 q rfl rfl) fun a q=>zl q (r_un q rfl (u_not _)) fun a q=>zn ?_
 exact ⟨false,H,q.sub (zc (zc (zc zz))),s⟩
 rw [ifb_f hb_96] at H
 refine zw q (wff hb_96) (r_move q rfl) fun a q=>zw q (wff hb_96) (r_ibin q rfl rfl rfl) fun a q=>zl q (r_pick_f hb_96 q rfl rfl) fun a q=>zl q (r_un q rfl (u_not _)) fun a q=>zn ?_
 exact ⟨(!(y_74 == 35)),H,q.sub (zc (zc (zc zz))),s⟩
 rw [ifb_f hb_94] at H
 refine zsw q (wtf hb_94) fun a q=>zsw q (wtf hb_94) fun a q=>zl q (r_pick_f hb_94 q rfl rfl) fun a q=>zl q (r_pick q rfl rfl rfl) fun a q=>zm q rfl fun a q=>zm q rfl fun a q=>zl q (r_ibin q rfl rfl rfl) fun a q=>zl q (r_pick q rfl rfl rfl) fun a q=>zm q rfl fun a q=>?_
 rcases or_b (y_74 == 95) with hb_97 | hb_97
 rw [ifb_t hb_97] at H
 refine zsw q (wft hb_97) fun a q=>zsw q (wft hb_97) fun a q=>zl q (r_pick_t hb_97 q rfl rfl) fun a q=>zl q (r_un q rfl (u_not _)) fun a q=>zn ?_
 exact ⟨false,H,q.sub (zc (zc (zc zz))),s⟩
 rw [ifb_f hb_97] at H
 refine zw q (wff hb_97) (r_move q rfl) fun a q=>zw q (wff hb_97) (r_ibin q rfl rfl rfl) fun a q=>zl q (r_pick_f hb_97 q rfl rfl) fun a q=>zl q (r_un q rfl (u_not _)) fun a q=>zn ?_
 exact ⟨(!(y_74 == 35)),H,q.sub (zc (zc (zc zz))),s⟩
 rintro a w ⟨x_86,H,q,s⟩
 unfold ref02_Name.j2 at H
 refine wp_cond_split (q.ev rfl) (fun (hb_98 : x_86 = true)=>?_) fun hb_98=>?_
 rw [ifb_t hb_98] at H
 refine zq<|zr<|za q rfl fun a q=>zn ?_
 obtain rfl:=Option.some.inj H
 refine wp_ret ?_
 repeat first | refine zt ?_ | refine zb ?_ | refine zo ?_
 exact ret_1 results92 q (rv_tmp q rfl) ⟨rfl,s.bel⟩
 rw [ifb_f hb_98] at H
 refine wp_skip<|zr<|zm q rfl fun a q=>zl q (r_ibin q rfl rfl rfl) fun a q=>za q rfl fun a q=>zn ?_
 exact ⟨_,Nat.lt_succ_self _,(IntKind.i64.wrap (x_45 + 1)),H,q.sub (zc (zc zz)),s⟩
 rw [ifb_f hb_73] at H
 refine wp_exit ?_
 refine zq<|zr<|za q rfl fun a q=>zn ?_
 obtain rfl:=Option.some.inj H
 refine wp_ret ?_
 repeat first | refine zt ?_ | refine zb ?_ | refine zo ?_
 exact ret_1 results92 q (rv_tmp q rfl) ⟨rfl,s.bel⟩
theorem ref02_Find.calls (a0 : List api_Col) (a1 : ByteArray) {w0 : World} {RA : Hp} {v0_0 : Value} (hRA : RA.sub w0) (h0_0 : SlR ty_api_Col RA v0_0 a0) {r : Int} (H : ref02_Find a0 a1 = some r) : CallsV prog 93 #[v0_0,.string a1] w0 (I6 r):=by
 unfold ref02_Find at H
 refine enter (args:=[v0_0,.string a1]) func93 rfl ntmps93 rfl fun a q=>?_
 have s:=St.init (R:=fun _=>none) (w:=w0) (fun _ _ h=>by cases h)
 have hRL:=RLe.refl (M:=[]) w0 (fun _=>none)
 refine zq<|zr<|za q rfl fun a q=>zn<|zq<|zq<|zr<|za q rfl fun a q=>zn ?_
 refine wp_block ?_
 refine wp_loop_k (fun k_l0 a w=>∃ (x_13 : Int),ref02_Find.l0 a0 a1 k_l0 x_13 = some r ∧ Kn 20 a [(0,v0_0),(1,.string a1),(5,I6 x_13)] ∧ St [] w0 w (fun _=>none) []) (((a0.length : Int) - 0).toNat + 1) ?_ ?_
 exact ⟨0,H,q.sub (zc (zc (zc zz))),s⟩
 rintro k_l0 a w ⟨x_13,H,q,s⟩
 rcases k_l0 with _ | k_l0
 cases H
 rw [ref02_Find.l0.eq_2] at H
 refine zq<|zq<|zr<|zm q rfl fun a q=>zm q rfl fun a q=>zl q (r_len_R underlying38 h0_0 q rfl) fun a q=>zl q (r_ibin q rfl rfl rfl) fun a q=>zn ?_
 refine wp_cond_split (q.ev rfl) (fun (hb_26 : (decide (x_13 < (a0.length : Int))) = true)=>?_) fun hb_26=>?_
 rw [ifb_t hb_26] at H
 refine wp_skip<|zq ?_
 refine wp_block ?_
 refine zq<|zr<|zm q rfl fun a q=>zm q rfl fun a q=>?_
 obtain ⟨y_27,h_28,H⟩:=bs H
 obtain ⟨b_29,o_30,c_31,cs_32,hv_33,hr_34,hc_35,h_280,h_281⟩:=h0_0.ix h_28
 subst hr_34
 refine zl q (r_indexAddr_R underlying38 sizeOf65 hv_33 h_280 h_281 q rfl rfl) fun a q=>zl q (r_fieldAddr underlying65 rfl sizeOf9 q rfl) fun a q=>zl q (r_load isAgg9 q rfl ((s.ra hRA nil_not).cell (hc_35 0 _ rfl))) fun a q=>zm q rfl fun a q=>zl q (r_sbin q rfl rfl rfl) fun a q=>zn ?_
 refine wp_cond_split (q.ev rfl) (fun (hb_36 : (y_27.Name.toList == a1.toList) = true)=>?_) fun hb_36=>?_
 rw [ifb_t hb_36] at H
 refine zq<|zr<|zm q rfl fun a q=>za q rfl fun a q=>zn ?_
 obtain rfl:=Option.some.inj H
 refine wp_ret ?_
 repeat first | refine zt ?_ | refine zb ?_ | refine zo ?_
 exact ret_1 results93 q (rv_tmp q rfl) ⟨rfl,s.bel⟩
 rw [ifb_f hb_36] at H
 refine wp_skip<|zr<|zm q rfl fun a q=>zl q (r_ibin q rfl rfl rfl) fun a q=>za q rfl fun a q=>zn ?_
 exact ⟨_,Nat.lt_succ_self _,(IntKind.i64.wrap (x_13 + 1)),H,q.sub (zc (zc (zc zz))),s⟩
 rw [ifb_f hb_26] at H
 refine wp_exit ?_
 refine zq<|zr<|za q rfl fun a q=>zn ?_
 obtain rfl:=Option.some.inj H
 refine wp_ret ?_
 repeat first | refine zt ?_ | refine zb ?_ | refine zo ?_
 exact ret_1 results93 q (rv_tmp q rfl) ⟨rfl,s.bel⟩
theorem ref02_Cols.calls (a0 : List api_Col) {w0 : World} {RA : Hp} {v0_0 : Value} (hRA : RA.sub w0) (h0_0 : SlR ty_api_Col RA v0_0 a0) {r : Bool} (H : ref02_Cols a0 = some r) : CallsV prog 62 #[v0_0] w0 (.bool r):=by
 unfold ref02_Cols at H
 refine enter (args:=[v0_0]) func62 rfl ntmps62 rfl fun a q=>?_
 have s:=St.init (R:=fun _=>none) (w:=w0) (fun _ _ h=>by cases h)
 have hRL:=RLe.refl (M:=[]) w0 (fun _=>none)
 refine zq<|zr<|za q rfl fun a q=>zn<|zq<|zq ?_
 refine wp_mid (fun a w=>∃ (x_2 : Bool),ref02_Cols.j0 a0 x_2 = some r ∧ Kn 52 a [(0,v0_0),(11,.bool x_2)] ∧ St [] w0 w (fun _=>none) []) ?_ ?_
 refine zr<|zm q rfl fun a q=>zl q (r_len_R underlying38 h0_0 q rfl) fun a q=>zl q (r_ibin q rfl rfl rfl) fun a q=>zm q rfl fun a q=>?_
 rcases or_b (decide ((a0.length : Int) < 1)) with hb_4 | hb_4
 rw [ifb_t hb_4] at H
 refine zsw q (wft hb_4) fun a q=>zsw q (wft hb_4) fun a q=>zsw q (wft hb_4) fun a q=>zl q (r_pick_t hb_4 q rfl rfl) fun a q=>zn ?_
 exact ⟨true,H,q.sub (zc (zc zz)),s⟩
 rw [ifb_f hb_4] at H
 refine zw q (wff hb_4) (r_move q rfl) fun a q=>zw q (wff hb_4) (r_len_R underlying38 h0_0 q rfl) fun a q=>zw q (wff hb_4) (r_ibin q rfl rfl rfl) fun a q=>zl q (r_pick_f hb_4 q rfl rfl) fun a q=>zn ?_
 exact ⟨(decide ((a0.length : Int) > 16)),H,q.sub (zc (zc zz)),s⟩
 rintro a w ⟨x_2,H,q,s⟩
 unfold ref02_Cols.j0 at H
 refine wp_cond_split (q.ev rfl) (fun (hb_5 : x_2 = true)=>?_) fun hb_5=>?_
 rw [ifb_t hb_5] at H
 refine zq<|zr<|za q rfl fun a q=>zn ?_
 obtain rfl:=Option.some.inj H
 refine wp_ret ?_
 repeat first | refine zt ?_ | refine zb ?_ | refine zo ?_
 exact ret_1 results62 q (rv_tmp q rfl) ⟨rfl,s.bel⟩
 rw [ifb_f hb_5] at H
 refine wp_skip<|zq<|zq<|zr<|za q rfl fun a q=>zn ?_
 refine wp_block ?_
 refine wp_loop_k (fun k_l1 a w=>∃ (x_97 : Int),ref02_Cols.l1 a0 k_l1 x_97 = some r ∧ Kn 52 a [(0,v0_0),(3,I6 x_97)] ∧ St [] w0 w (fun _=>none) []) (((a0.length : Int) - 0).toNat + 1) ?_ ?_
 exact ⟨0,H,q.sub (zc (zc zz)),s⟩
 rintro k_l1 a w ⟨x_97,H,q,s⟩
 rcases k_l1 with _ | k_l1
 cases H
 rw [ref02_Cols.l1.eq_2] at H
 refine zq<|zq<|zr<|zm q rfl fun a q=>zm q rfl fun a q=>zl q (r_len_R underlying38 h0_0 q rfl) fun a q=>zl q (r_ibin q rfl rfl rfl) fun a q=>zn ?_
 refine wp_cond_split (q.ev rfl) (fun (hb_189 : (decide (x_97 < (a0.length : Int))) = true)=>?_) fun hb_189=>?_
 rw [ifb_t hb_189] at H
 refine wp_skip<|zq ?_
 refine wp_block ?_
 refine zq ?_
 refine wp_mid (fun a w=>∃ (x_233 : Bool),ref02_Cols.j2 (ref02_Cols.l1 a0 k_l1) a0 x_97 x_233 = some r ∧ Kn 52 a [(0,v0_0),(3,I6 x_97),(51,.bool x_233)] ∧ St [] w0 w (fun _=>none) []) ?_ ?_
 refine zr<|zm q rfl fun a q=>zm q rfl fun a q=>?_
 obtain ⟨y_235,h_236,H⟩:=bs H
 obtain ⟨b_237,o_238,c_239,cs_240,hv_241,hr_242,hc_243,h_2360,h_2361⟩:=h0_0.ix h_236
 subst hr_242
 refine zl q (r_indexAddr_R underlying38 sizeOf65 hv_241 h_2360 h_2361 q rfl rfl) fun a q=>zl q (r_fieldAddr underlying65 rfl sizeOf9 q rfl) fun a q=>zl q (r_load isAgg9 q rfl ((s.ra hRA nil_not).cell (hc_243 0 _ rfl))) fun a q=>?_
 obtain ⟨y_244,h_245,H⟩:=bs H
 refine sl_callV call92 s q (by decide) rfl rfl rfl (ref02_Name.calls y_235.Name h_245 _) fun a w s q=>?_
 refine zl q (r_un q rfl (u_not _)) fun a q=>zm q rfl fun a q=>?_
 rcases or_b (!y_244) with hb_246 | hb_246
 rw [ifb_t hb_246] at H
 refine zsw q (wft hb_246) fun a q=>zsw q (wft hb_246) fun a q=>zsw q (wft hb_246) fun a q=>zsw q (wft hb_246) fun a q=>zsw q (wft hb_246) fun a q=>zsw q (wft hb_246) fun a q=>zsw q (wft hb_246) fun a q=>zsw q (wft hb_246) fun a q=>zsw q (wft hb_246) fun a q=>zl q (r_pick_t hb_246 q rfl rfl) fun a q=>zm q rfl fun a q=>zs q fun a q=>zs q fun a q=>zs q fun a q=>zs q fun a q=>zs q fun a q=>zs q fun a q=>zl q (r_pick q rfl rfl rfl) fun a q=>zm q rfl fun a q=>zs q fun a q=>zs q fun a q=>zs q fun a q=>zs q fun a q=>zs q fun a q=>zs q fun a q=>zl q (r_pick q rfl rfl rfl) fun a q=>zn ?_
 exact ⟨true,H,q.sub (zc (zc (zc zz))),s⟩
 rw [ifb_f hb_246] at H
 refine zw q (wff hb_246) (r_move q rfl) fun a q=>zw q (wff hb_246) (r_move q rfl) fun a q=>zw q (wff hb_246) (r_move q rfl) fun a q=>?_
 obtain ⟨y_247,h_248,H⟩:=bs H
 obtain ⟨b_249,o_250,c_251,cs_252,hv_253,hr_254,hc_255,h_2480,h_2481⟩:=h0_0.ix h_248
 subst hr_254
 refine zw q (wff hb_246) (r_indexAddr_R underlying38 sizeOf65 hv_253 h_2480 h_2481 q rfl rfl) fun a q=>zw q (wff hb_246) (r_fieldAddr underlying65 rfl sizeOf9 q rfl) fun a q=>zw q (wff hb_246) (r_load isAgg9 q rfl ((s.ra hRA nil_not).cell (hc_255 0 _ rfl))) fun a q=>?_
 obtain ⟨y_256,h_257,H⟩:=bs H
 refine sl_callV call93 s q (by decide) (wff hb_246) rfl rfl (ref02_Find.calls a0 y_247.Name (lentOf_sub [] _) (h0_0.mono (s.raLe0 hRA nil_not)) h_257) fun a w s q=>?_
 refine zw q (wff hb_246) (r_move q rfl) fun a q=>zw q (wff hb_246) (r_ibin q rfl rfl rfl) fun a q=>zl q (r_pick_f hb_246 q rfl rfl) fun a q=>zm q rfl fun a q=>?_
 rcases or_b (y_256 != x_97) with hb_258 | hb_258
 rw [ifb_t hb_258] at H
 refine zsw q (wft hb_258) fun a q=>zsw q (wft hb_258) fun a q=>zsw q (wft hb_258) fun a q=>zsw q (wft hb_258) fun a q=>zsw q (wft hb_258) fun a q=>zsw q (wft hb_258) fun a q=>zl q (r_pick_t hb_258 q rfl rfl) fun a q=>zm q rfl fun a q=>zs q fun a q=>zs q fun a q=>zs q fun a q=>zs q fun a q=>zs q fun a q=>zs q fun a q=>zl q (r_pick q rfl rfl rfl) fun a q=>zn ?_
 exact ⟨true,H,q.sub (zc (zc (zc zz))),s⟩
 rw [ifb_f hb_258] at H
 refine zw q (wff hb_258) (r_move q rfl) fun a q=>zw q (wff hb_258) (r_move q rfl) fun a q=>?_
 obtain ⟨y_259,h_260,H⟩:=bs H
 obtain ⟨b_261,o_262,c_263,cs_264,hv_265,hr_266,hc_267,h_2600,h_2601⟩:=h0_0.ix h_260
 subst hr_266
 refine zw q (wff hb_258) (r_indexAddr_R underlying38 sizeOf65 hv_265 h_2600 h_2601 q rfl rfl) fun a q=>zw q (wff hb_258) (r_fieldAddr underlying65 rfl sizeOf3 q rfl) fun a q=>zw q (wff hb_258) (r_load isAgg3 q rfl ((s.ra hRA nil_not).cell (hc_267 1 _ rfl))) fun a q=>zw q (wff hb_258) (r_ibin q rfl rfl rfl) fun a q=>zl q (r_pick_f hb_258 q rfl rfl) fun a q=>zm q rfl fun a q=>?_
 rcases or_b (decide (y_259.Kind < 1)) with hb_268 | hb_268
 rw [ifb_t hb_268] at H
 refine zsw q (wft hb_268) fun a q=>zsw q (wft hb_268) fun a q=>zsw q (wft hb_268) fun a q=>zsw q (wft hb_268) fun a q=>zsw q (wft hb_268) fun a q=>zsw q (wft hb_268) fun a q=>zl q (r_pick_t hb_268 q rfl rfl) fun a q=>zn ?_
 exact ⟨true,H,q.sub (zc (zc (zc zz))),s⟩
 rw [ifb_f hb_268] at H
 refine zw q (wff hb_268) (r_move q rfl) fun a q=>zw q (wff hb_268) (r_move q rfl) fun a q=>?_
 obtain ⟨y_269,h_270,H⟩:=bs H
 obtain ⟨b_271,o_272,c_273,cs_274,hv_275,hr_276,hc_277,h_2700,h_2701⟩:=h0_0.ix h_270
 subst hr_276
 refine zw q (wff hb_268) (r_indexAddr_R underlying38 sizeOf65 hv_275 h_2700 h_2701 q rfl rfl) fun a q=>zw q (wff hb_268) (r_fieldAddr underlying65 rfl sizeOf3 q rfl) fun a q=>zw q (wff hb_268) (r_load isAgg3 q rfl ((s.ra hRA nil_not).cell (hc_277 1 _ rfl))) fun a q=>zw q (wff hb_268) (r_ibin q rfl rfl rfl) fun a q=>zl q (r_pick_f hb_268 q rfl rfl) fun a q=>zn ?_
 exact ⟨(decide (y_269.Kind > 4)),H,q.sub (zc (zc (zc zz))),s⟩
 rintro a w ⟨x_233,H,q,s⟩
 unfold ref02_Cols.j2 at H
 refine wp_cond_split (q.ev rfl) (fun (hb_278 : x_233 = true)=>?_) fun hb_278=>?_
 rw [ifb_t hb_278] at H
 refine zq<|zr<|za q rfl fun a q=>zn ?_
 obtain rfl:=Option.some.inj H
 refine wp_ret ?_
 repeat first | refine zt ?_ | refine zb ?_ | refine zo ?_
 exact ret_1 results62 q (rv_tmp q rfl) ⟨rfl,s.bel⟩
 rw [ifb_f hb_278] at H
 refine wp_skip<|zr<|zm q rfl fun a q=>zl q (r_ibin q rfl rfl rfl) fun a q=>za q rfl fun a q=>zn ?_
 exact ⟨_,Nat.lt_succ_self _,(IntKind.i64.wrap (x_97 + 1)),H,q.sub (zc (zc zz)),s⟩
 rw [ifb_f hb_189] at H
 refine wp_exit ?_
 refine zq<|zr<|za q rfl fun a q=>zn ?_
 obtain rfl:=Option.some.inj H
 refine wp_ret ?_
 repeat first | refine zt ?_ | refine zb ?_ | refine zo ?_
 exact ret_1 results62 q (rv_tmp q rfl) ⟨rfl,s.bel⟩
theorem ref01_Valid.calls (a0 : api_Value) {r : Bool} (H : ref01_Valid a0 = some r) (w0 : World) : CallsV prog 63 #[.agg ⟨cV a0⟩] w0 (.bool r):=by
 unfold ref01_Valid at H
 refine enter (args:=[.agg ⟨cV a0⟩]) func63 rfl ntmps63 rfl fun a q=>?_
 have s:=St.init (R:=fun _=>none) (w:=w0) (fun _ _ h=>by cases h)
 have hRL:=RLe.refl (M:=[]) w0 (fun _=>none)
 refine zq<|zr ?_
 refine sl_box s q (by decide) rfl rfl (c:=(cV a0)) rfl fun a w b_1 s q=>?_
 refine za q rfl fun a q=>zn<|zq<|zr<|zl q (r_fieldAddr underlying58 rfl sizeOf56 q rfl) fun a q=>zl q (r_loadA (cs:=[I6 a0.H.a0,I6 a0.H.a1,I6 a0.H.a2,I6 a0.H.a3,I6 a0.H.a4,I6 a0.H.a5,I6 a0.H.a6,I6 a0.H.a7]) isAgg56 sizeOf56 rfl q rfl (s.cells_of (m:=8) z0 rfl)) fun a q=>zl q (r_buildAC (ps:=[]) (c:=[I6 0,I6 0,I6 0,I6 0,I6 0,I6 0,I6 0,I6 0]) underlying56 zeroValue56 sizeOf3 q rfl pc_nil rfl rfl) fun a q=>zl q (r_seq (by kernel_rfl) (eqs56 a0.H (⟨0,0,0,0,0,0,0,0⟩ : Arr8)) q rfl rfl) fun a q=>?_
 refine za q rfl fun a q=>zn<|zq<|zq<|zr<|zl q (r_fieldAddr underlying58 rfl sizeOf3 q rfl) fun a q=>zl q (r_load isAgg3 q rfl (s.cell z0 rfl)) fun a q=>zn ?_
 refine wp_block ?_
 refine zq<|zr<|zl q (r_ibin q rfl rfl rfl) fun a q=>za q rfl fun a q=>zn ?_
 refine wp_cond_split (q.ev rfl) (fun (hb_2 : (a0.Kind == 1) = true)=>?_) fun hb_2=>?_
 rw [ifb_t hb_2] at H
 refine zq<|zr<|zl q (r_fieldAddr underlying58 rfl sizeOf9 q rfl) fun a q=>zl q (r_load isAgg9 q rfl (s.cell z0 rfl)) fun a q=>zl q (r_sbin q rfl rfl rfl) fun a q=>zm q rfl fun a q=>?_
 rcases or_b (a0.S.toList == (⟨#[]⟩ : ByteArray).toList) with hb_3 | hb_3
 rw [ifb_t hb_3] at H
 refine zw q (wtt hb_3) (r_move q rfl) fun a q=>zl q (r_pick_t hb_3 q rfl rfl) fun a q=>za q rfl fun a q=>zn ?_
 obtain rfl:=Option.some.inj H
 refine wp_ret ?_
 repeat first | refine zt ?_ | refine zb ?_ | refine zo ?_
 exact ret_1 results63 q (rv_tmp q rfl) ⟨rfl,s.bel⟩
 rw [ifb_f hb_3] at H
 refine zsw q (wtf hb_3) fun a q=>zl q (r_pick_f hb_3 q rfl rfl) fun a q=>za q rfl fun a q=>zn ?_
 obtain rfl:=Option.some.inj H
 refine wp_ret ?_
 repeat first | refine zt ?_ | refine zb ?_ | refine zo ?_
 exact ret_1 results63 q (rv_tmp q rfl) ⟨rfl,s.bel⟩
 rw [ifb_f hb_2] at H
 refine zq<|zr<|zl q (r_ibin q rfl rfl rfl) fun a q=>za q rfl fun a q=>zn ?_
 refine wp_cond_split (q.ev rfl) (fun (hb_4 : (a0.Kind == 2) = true)=>?_) fun hb_4=>?_
 rw [ifb_t hb_4] at H
 refine zq<|zr<|zl q (r_fieldAddr underlying58 rfl sizeOf3 q rfl) fun a q=>zl q (r_load isAgg3 q rfl (s.cell z0 rfl)) fun a q=>zl q (r_ibin q rfl rfl rfl) fun a q=>zm q rfl fun a q=>?_
 rcases or_b (a0.N == 0) with hb_5 | hb_5
 rw [ifb_t hb_5] at H
 refine zw q (wtt hb_5) (r_move q rfl) fun a q=>zl q (r_pick_t hb_5 q rfl rfl) fun a q=>zm q rfl fun a q=>?_
 rcases or_b (decide (a0.H = (⟨0,0,0,0,0,0,0,0⟩ : Arr8))) with hb_6 | hb_6
 rw [ifb_t hb_6] at H
 refine zw q (wtt hb_6) (r_fieldAddr underlying58 rfl sizeOf9 q rfl) fun a q=>zw q (wtt hb_6) (r_load isAgg9 q rfl (s.cell z0 rfl)) fun a q=>zw q (wtt hb_6) (r_len_str underlying9 q rfl) fun a q=>zw q (wtt hb_6) (r_ibin q rfl rfl rfl) fun a q=>zl q (r_pick_t hb_6 q rfl rfl) fun a q=>za q rfl fun a q=>zn ?_
 obtain rfl:=Option.some.inj H
 refine wp_ret ?_
 repeat first | refine zt ?_ | refine zb ?_ | refine zo ?_
 exact ret_1 results63 q (rv_tmp q rfl) ⟨rfl,s.bel⟩
 rw [ifb_f hb_6] at H
 refine zsw q (wtf hb_6) fun a q=>zsw q (wtf hb_6) fun a q=>zsw q (wtf hb_6) fun a q=>zsw q (wtf hb_6) fun a q=>zl q (r_pick_f hb_6 q rfl rfl) fun a q=>za q rfl fun a q=>zn ?_
 obtain rfl:=Option.some.inj H
 refine wp_ret ?_
 repeat first | refine zt ?_ | refine zb ?_ | refine zo ?_
 exact ret_1 results63 q (rv_tmp q rfl) ⟨rfl,s.bel⟩
 rw [ifb_f hb_5] at H
 refine zsw q (wtf hb_5) fun a q=>zl q (r_pick_f hb_5 q rfl rfl) fun a q=>zm q rfl fun a q=>zs q fun a q=>zs q fun a q=>zs q fun a q=>zs q fun a q=>zl q (r_pick q rfl rfl rfl) fun a q=>za q rfl fun a q=>zn ?_
 obtain rfl:=Option.some.inj H
 refine wp_ret ?_
 repeat first | refine zt ?_ | refine zb ?_ | refine zo ?_
 exact ret_1 results63 q (rv_tmp q rfl) ⟨rfl,s.bel⟩
 rw [ifb_f hb_4] at H
 refine zq<|zr<|zl q (r_ibin q rfl rfl rfl) fun a q=>za q rfl fun a q=>zn ?_
 refine wp_cond_split (q.ev rfl) (fun (hb_7 : (a0.Kind == 3) = true)=>?_) fun hb_7=>?_
 rw [ifb_t hb_7] at H
 refine zq<|zr<|zl q (r_fieldAddr underlying58 rfl sizeOf3 q rfl) fun a q=>zl q (r_load isAgg3 q rfl (s.cell z0 rfl)) fun a q=>zl q (r_ibin q rfl rfl rfl) fun a q=>zm q rfl fun a q=>?_
 rcases or_b (a0.N == 0) with hb_8 | hb_8
 rw [ifb_t hb_8] at H
 refine zsw q (wft hb_8) fun a q=>zsw q (wft hb_8) fun a q=>zsw q (wft hb_8) fun a q=>zl q (r_pick_t hb_8 q rfl rfl) fun a q=>zm q rfl fun a q=>zl q (r_fieldAddr underlying58 rfl sizeOf9 q rfl) fun a q=>zl q (r_load isAgg9 q rfl (s.cell z0 rfl)) fun a q=>zl q (r_sbin q rfl rfl rfl) fun a q=>zl q (r_pick q rfl rfl rfl) fun a q=>zm q rfl fun a q=>?_
 rcases or_b (a0.S.toList == (⟨#[]⟩ : ByteArray).toList) with hb_9 | hb_9
 rw [ifb_t hb_9] at H
 refine zw q (wtt hb_9) (r_move q rfl) fun a q=>zl q (r_pick_t hb_9 q rfl rfl) fun a q=>za q rfl fun a q=>zn ?_
 obtain rfl:=Option.some.inj H
 refine wp_ret ?_
 repeat first | refine zt ?_ | refine zb ?_ | refine zo ?_
 exact ret_1 results63 q (rv_tmp q rfl) ⟨rfl,s.bel⟩
 rw [ifb_f hb_9] at H
 refine zsw q (wtf hb_9) fun a q=>zl q (r_pick_f hb_9 q rfl rfl) fun a q=>za q rfl fun a q=>zn ?_
 obtain rfl:=Option.some.inj H
 refine wp_ret ?_
 repeat first | refine zt ?_ | refine zb ?_ | refine zo ?_
 exact ret_1 results63 q (rv_tmp q rfl) ⟨rfl,s.bel⟩
 rw [ifb_f hb_8] at H
 refine zw q (wff hb_8) (r_fieldAddr underlying58 rfl sizeOf3 q rfl) fun a q=>zw q (wff hb_8) (r_load isAgg3 q rfl (s.cell z0 rfl)) fun a q=>zw q (wff hb_8) (r_ibin q rfl rfl rfl) fun a q=>zl q (r_pick_f hb_8 q rfl rfl) fun a q=>zm q rfl fun a q=>?_
 rcases or_b (a0.N == 1) with hb_10 | hb_10
 rw [ifb_t hb_10] at H
 refine zw q (wtt hb_10) (r_fieldAddr underlying58 rfl sizeOf9 q rfl) fun a q=>zw q (wtt hb_10) (r_load isAgg9 q rfl (s.cell z0 rfl)) fun a q=>zw q (wtt hb_10) (r_sbin q rfl rfl rfl) fun a q=>zl q (r_pick_t hb_10 q rfl rfl) fun a q=>zm q rfl fun a q=>?_
 rcases or_b (a0.S.toList == (⟨#[]⟩ : ByteArray).toList) with hb_11 | hb_11
 rw [ifb_t hb_11] at H
 refine zw q (wtt hb_11) (r_move q rfl) fun a q=>zl q (r_pick_t hb_11 q rfl rfl) fun a q=>za q rfl fun a q=>zn ?_
 obtain rfl:=Option.some.inj H
 refine wp_ret ?_
 repeat first | refine zt ?_ | refine zb ?_ | refine zo ?_
 exact ret_1 results63 q (rv_tmp q rfl) ⟨rfl,s.bel⟩
 rw [ifb_f hb_11] at H
 refine zsw q (wtf hb_11) fun a q=>zl q (r_pick_f hb_11 q rfl rfl) fun a q=>za q rfl fun a q=>zn ?_
 obtain rfl:=Option.some.inj H
 refine wp_ret ?_
 repeat first | refine zt ?_ | refine zb ?_ | refine zo ?_
 exact ret_1 results63 q (rv_tmp q rfl) ⟨rfl,s.bel⟩
 rw [ifb_f hb_10] at H
 refine zsw q (wtf hb_10) fun a q=>zsw q (wtf hb_10) fun a q=>zsw q (wtf hb_10) fun a q=>zl q (r_pick_f hb_10 q rfl rfl) fun a q=>zm q rfl fun a q=>zs q fun a q=>zl q (r_pick q rfl rfl rfl) fun a q=>za q rfl fun a q=>zn ?_
 obtain rfl:=Option.some.inj H
 refine wp_ret ?_
 repeat first | refine zt ?_ | refine zb ?_ | refine zo ?_
 exact ret_1 results63 q (rv_tmp q rfl) ⟨rfl,s.bel⟩
 rw [ifb_f hb_7] at H
 refine zq<|zr<|zl q (r_ibin q rfl rfl rfl) fun a q=>za q rfl fun a q=>zn ?_
 refine wp_cond_split (q.ev rfl) (fun (hb_12 : (a0.Kind == 4) = true)=>?_) fun hb_12=>?_
 rw [ifb_t hb_12] at H
 refine zq<|zr<|zl q (r_fieldAddr underlying58 rfl sizeOf3 q rfl) fun a q=>zl q (r_load isAgg3 q rfl (s.cell z0 rfl)) fun a q=>zl q (r_ibin q rfl rfl rfl) fun a q=>zm q rfl fun a q=>?_
 rcases or_b (a0.N == 0) with hb_13 | hb_13
 rw [ifb_t hb_13] at H
 refine zw q (wtt hb_13) (r_fieldAddr underlying58 rfl sizeOf9 q rfl) fun a q=>zw q (wtt hb_13) (r_load isAgg9 q rfl (s.cell z0 rfl)) fun a q=>zw q (wtt hb_13) (r_sbin q rfl rfl rfl) fun a q=>zl q (r_pick_t hb_13 q rfl rfl) fun a q=>za q rfl fun a q=>zn ?_
 obtain rfl:=Option.some.inj H
 refine wp_ret ?_
 repeat first | refine zt ?_ | refine zb ?_ | refine zo ?_
 exact ret_1 results63 q (rv_tmp q rfl) ⟨rfl,s.bel⟩
 rw [ifb_f hb_13] at H
 refine zsw q (wtf hb_13) fun a q=>zsw q (wtf hb_13) fun a q=>zsw q (wtf hb_13) fun a q=>zl q (r_pick_f hb_13 q rfl rfl) fun a q=>za q rfl fun a q=>zn ?_
 obtain rfl:=Option.some.inj H
 refine wp_ret ?_
 repeat first | refine zt ?_ | refine zb ?_ | refine zo ?_
 exact ret_1 results63 q (rv_tmp q rfl) ⟨rfl,s.bel⟩
 rw [ifb_f hb_12] at H
 refine wp_skip<|zq<|zr<|za q rfl fun a q=>zn ?_
 obtain rfl:=Option.some.inj H
 refine wp_ret ?_
 repeat first | refine zt ?_ | refine zb ?_ | refine zo ?_
 exact ret_1 results63 q (rv_tmp q rfl) ⟨rfl,s.bel⟩
theorem ref01_order.calls (a0 : Int) (a1 : Int) {r : Int} (H : ref01_order a0 a1 = some r) (w0 : World) : CallsV prog 91 #[I6 a0,I6 a1] w0 (I6 r):=by
 unfold ref01_order at H
 refine enter (args:=[I6 a0,I6 a1]) func91 rfl ntmps91 rfl fun a q=>?_
 have s:=St.init (R:=fun _=>none) (w:=w0) (fun _ _ h=>by cases h)
 have hRL:=RLe.refl (M:=[]) w0 (fun _=>none)
 refine zq<|zr<|za q rfl fun a q=>zn<|zq<|zq<|zr<|zm q rfl fun a q=>zm q rfl fun a q=>zl q (r_ibin q rfl rfl rfl) fun a q=>zn ?_
 refine wp_cond_split (q.ev rfl) (fun (hb_1 : (decide (a0 < a1)) = true)=>?_) fun hb_1=>?_
 rw [ifb_t hb_1] at H
 refine zq<|zr<|za q rfl fun a q=>zn ?_
 obtain rfl:=Option.some.inj H
 refine wp_ret ?_
 repeat first | refine zt ?_ | refine zb ?_ | refine zo ?_
 exact ret_1 results91 q (rv_tmp q rfl) ⟨rfl,s.bel⟩
 rw [ifb_f hb_1] at H
 refine wp_skip<|zq<|zq<|zr<|zm q rfl fun a q=>zm q rfl fun a q=>zl q (r_ibin q rfl rfl rfl) fun a q=>zn ?_
 refine wp_cond_split (q.ev rfl) (fun (hb_2 : (decide (a0 > a1)) = true)=>?_) fun hb_2=>?_
 rw [ifb_t hb_2] at H
 refine zq<|zr<|za q rfl fun a q=>zn ?_
 obtain rfl:=Option.some.inj H
 refine wp_ret ?_
 repeat first | refine zt ?_ | refine zb ?_ | refine zo ?_
 exact ret_1 results91 q (rv_tmp q rfl) ⟨rfl,s.bel⟩
 rw [ifb_f hb_2] at H
 refine wp_skip<|zq<|zr<|za q rfl fun a q=>zn ?_
 obtain rfl:=Option.some.inj H
 refine wp_ret ?_
 repeat first | refine zt ?_ | refine zb ?_ | refine zo ?_
 exact ret_1 results91 q (rv_tmp q rfl) ⟨rfl,s.bel⟩
theorem ref01_Compare.calls (a0 : api_Value) (a1 : api_Value) {r : Int} (H : ref01_Compare a0 a1 = some r) (w0 : World) : CallsV prog 61 #[.agg ⟨cV a0⟩,.agg ⟨cV a1⟩] w0 (I6 r):=by
 unfold ref01_Compare at H
 refine enter (args:=[.agg ⟨cV a0⟩,.agg ⟨cV a1⟩]) func61 rfl ntmps61 rfl fun a q=>?_
 have s:=St.init (R:=fun _=>none) (w:=w0) (fun _ _ h=>by cases h)
 have hRL:=RLe.refl (M:=[]) w0 (fun _=>none)
 refine zq<|zr ?_
 refine sl_box s q (by decide) rfl rfl (c:=(cV a0)) rfl fun a w b_1 s q=>?_
 refine sl_box s q (by decide) rfl rfl (c:=(cV a1)) rfl fun a w b_2 s q=>?_
 refine za q rfl fun a q=>zn<|zq<|zq<|zr<|zl q (r_fieldAddr underlying58 rfl sizeOf3 q rfl) fun a q=>zl q (r_load isAgg3 q rfl (s.cell z1 rfl)) fun a q=>zl q (r_fieldAddr underlying58 rfl sizeOf3 q rfl) fun a q=>zl q (r_load isAgg3 q rfl (s.cell z0 rfl)) fun a q=>zl q (r_ibin q rfl rfl rfl) fun a q=>zn ?_
 refine wp_cond_split (q.ev rfl) (fun (hb_3 : (a0.Kind != a1.Kind) = true)=>?_) fun hb_3=>?_
 rw [ifb_t hb_3] at H
 refine zq<|zr<|zl q (r_fieldAddr underlying58 rfl sizeOf3 q rfl) fun a q=>zl q (r_load isAgg3 q rfl (s.cell z1 rfl)) fun a q=>zl q (r_fieldAddr underlying58 rfl sizeOf3 q rfl) fun a q=>zl q (r_load isAgg3 q rfl (s.cell z0 rfl)) fun a q=>?_
 obtain ⟨y_4,h_5,H⟩:=bs H
 refine sl_callV call91 s q (by decide) rfl rfl rfl (ref01_order.calls a0.Kind a1.Kind h_5 _) fun a w s q=>?_
 refine za q rfl fun a q=>zn ?_
 obtain rfl:=Option.some.inj H
 refine wp_ret ?_
 repeat first | refine zt ?_ | refine zb ?_ | refine zo ?_
 exact ret_1 results61 q (rv_tmp q rfl) ⟨rfl,s.bel⟩
 rw [ifb_f hb_3] at H
 refine wp_skip<|zq<|zq<|zr<|zl q (r_fieldAddr underlying58 rfl sizeOf3 q rfl) fun a q=>zl q (r_load isAgg3 q rfl (s.cell z1 rfl)) fun a q=>zl q (r_fieldAddr underlying58 rfl sizeOf3 q rfl) fun a q=>zl q (r_load isAgg3 q rfl (s.cell z0 rfl)) fun a q=>zl q (r_ibin q rfl rfl rfl) fun a q=>zn ?_
 refine wp_cond_split (q.ev rfl) (fun (hb_6 : (a0.N != a1.N) = true)=>?_) fun hb_6=>?_
 rw [ifb_t hb_6] at H
 refine zq<|zr<|zl q (r_fieldAddr underlying58 rfl sizeOf3 q rfl) fun a q=>zl q (r_load isAgg3 q rfl (s.cell z1 rfl)) fun a q=>zl q (r_fieldAddr underlying58 rfl sizeOf3 q rfl) fun a q=>zl q (r_load isAgg3 q rfl (s.cell z0 rfl)) fun a q=>?_
 obtain ⟨y_7,h_8,H⟩:=bs H
 refine sl_callV call91 s q (by decide) rfl rfl rfl (ref01_order.calls a0.N a1.N h_8 _) fun a w s q=>?_
 refine za q rfl fun a q=>zn ?_
 obtain rfl:=Option.some.inj H
 refine wp_ret ?_
 repeat first | refine zt ?_ | refine zb ?_ | refine zo ?_
 exact ret_1 results61 q (rv_tmp q rfl) ⟨rfl,s.bel⟩
 rw [ifb_f hb_6] at H
 refine wp_skip<|zq<|zq<|zr<|za q rfl fun a q=>zn ?_
 refine wp_block ?_
 refine wp_loop_k (fun k_l0 a w=>∃ (x_36 : Int),ref01_Compare.l0 a0 a1 k_l0 x_36 = some r ∧ Kn 97 a [(2,.pointer (some ⟨b_1,0,none⟩)),(3,.pointer (some ⟨b_2,0,none⟩)),(5,I6 x_36)] ∧ St [] w0 w (fun _=>none) [.cells b_1 (cV a0) 58,.cells b_2 (cV a1) 58]) (((a0.S.size : Int) - 0).toNat + 1) ?_ ?_
 have s:=s.pk1
 exact ⟨0,H,q.sub (zc (zc (zc zz))),s⟩
 rintro k_l0 a w ⟨x_36,H,q,s⟩
 rcases k_l0 with _ | k_l0
 cases H
 rw [ref01_Compare.l0.eq_2] at H
 refine zq<|zq ?_
 refine wp_mid (fun a w=>∃ (x_66 : Bool),ref01_Compare.j1 (ref01_Compare.l0 a0 a1 k_l0) a0 a1 x_36 x_66 = some r ∧ Kn 97 a [(2,.pointer (some ⟨b_1,0,none⟩)),(3,.pointer (some ⟨b_2,0,none⟩)),(5,I6 x_36),(38,.bool x_66)] ∧ St [] w0 w (fun _=>none) [.cells b_1 (cV a0) 58,.cells b_2 (cV a1) 58]) ?_ ?_
 refine zr<|zm q rfl fun a q=>zl q (r_fieldAddr underlying58 rfl sizeOf9 q rfl) fun a q=>zl q (r_load isAgg9 q rfl (s.cell z0 rfl)) fun a q=>zl q (r_len_str underlying9 q rfl) fun a q=>zl q (r_ibin q rfl rfl rfl) fun a q=>zm q rfl fun a q=>?_
 rcases or_b (decide (x_36 < (a0.S.size : Int))) with hb_68 | hb_68
 rw [ifb_t hb_68] at H
 refine zw q (wtt hb_68) (r_move q rfl) fun a q=>zw q (wtt hb_68) (r_fieldAddr underlying58 rfl sizeOf9 q rfl) fun a q=>zw q (wtt hb_68) (r_load isAgg9 q rfl (s.cell z1 rfl)) fun a q=>zw q (wtt hb_68) (r_len_str underlying9 q rfl) fun a q=>zw q (wtt hb_68) (r_ibin q rfl rfl rfl) fun a q=>zl q (r_pick_t hb_68 q rfl rfl) fun a q=>zn ?_
 have s:=s.pk1
 have s:=s.pk1
 exact ⟨(decide (x_36 < (a1.S.size : Int))),H,q.sub (zc (zc (zc (zc zz)))),s⟩
 rw [ifb_f hb_68] at H
 refine zsw q (wtf hb_68) fun a q=>zsw q (wtf hb_68) fun a q=>zsw q (wtf hb_68) fun a q=>zsw q (wtf hb_68) fun a q=>zsw q (wtf hb_68) fun a q=>zl q (r_pick_f hb_68 q rfl rfl) fun a q=>zn ?_
 have s:=s.pk1
 have s:=s.pk1
 exact ⟨false,H,q.sub (zc (zc (zc (zc zz)))),s⟩
 rintro a w ⟨x_66,H,q,s⟩
 unfold ref01_Compare.j1 at H
 refine wp_cond_split (q.ev rfl) (fun (hb_69 : x_66 = true)=>?_) fun hb_69=>?_
 rw [ifb_t hb_69] at H
 refine wp_skip<|zq ?_
 refine wp_block ?_
 refine zq ?_
 refine par_region (C:=fun w=>St [] w0 w (fun _=>none) [.cells b_1 (cV a0) 58,.cells b_2 (cV a1) 58]) [(0,true),(1,true),(2,true),(3,true),(4,true),(5,true),(6,true),(7,true),(8,true)] mixed (by kernel_rfl) s (fun w s=>s) fun w s=>?_
 refine zp rfl q (fun w s=>r_fieldAddr underlying58 rfl sizeOf9 q rfl) fun a q=>zp rfl q (fun w s=>r_load isAgg9 q rfl (s.cell z0 rfl)) fun a q=>zp rfl q (fun w s=>r_move q rfl) fun a q=>?_
 obtain ⟨y_74,h_75,H⟩:=bs H
 refine zp rfl q (fun w s=>r_index_str' underlying9 h_75 q rfl rfl) fun a q=>zp rfl q (fun w s=>r_fieldAddr underlying58 rfl sizeOf9 q rfl) fun a q=>zp rfl q (fun w s=>r_load isAgg9 q rfl (s.cell z1 rfl)) fun a q=>zp rfl q (fun w s=>r_move q rfl) fun a q=>?_
 obtain ⟨y_76,h_77,H⟩:=bs H
 refine zp rfl q (fun w s=>r_index_str' underlying9 h_77 q rfl rfl) fun a q=>zp rfl q (fun w s=>r_ibin q rfl rfl rfl) fun a q=>?_
 refine wpPar_nil (NoP_nil ?_)
 refine wp_cond_split (q.ev rfl) (fun (hb_78 : (y_74 != y_76) = true)=>?_) fun hb_78=>?_
 rw [ifb_t hb_78] at H
 refine zq ?_
 refine parT_region (C:=fun w=>St [] w0 w (fun _=>none) [.cells b_1 (cV a0) 58,.cells b_2 (cV a1) 58]) 10 [(0,true),(1,true),(2,true),(3,true),(4,true),(5,true),(6,true),(7,true),(8,true),(9,true)] mixed (by kernel_rfl) s (fun w s=>s) fun w s=>?_
 refine zp rfl q (fun w s=>r_fieldAddr underlying58 rfl sizeOf9 q rfl) fun a q=>zp rfl q (fun w s=>r_load isAgg9 q rfl (s.cell z0 rfl)) fun a q=>zp rfl q (fun w s=>r_move q rfl) fun a q=>?_
 obtain ⟨y_85,h_86,H⟩:=bs H
 refine zp rfl q (fun w s=>r_index_str' underlying9 h_86 q rfl rfl) fun a q=>zp rfl q (fun w s=>r_conv underlying5 underlying3 q rfl) fun a q=>zp rfl q (fun w s=>r_fieldAddr underlying58 rfl sizeOf9 q rfl) fun a q=>zp rfl q (fun w s=>r_load isAgg9 q rfl (s.cell z1 rfl)) fun a q=>zp rfl q (fun w s=>r_move q rfl) fun a q=>?_
 obtain ⟨y_87,h_88,H⟩:=bs H
 refine zp rfl q (fun w s=>r_index_str' underlying9 h_88 q rfl rfl) fun a q=>zp rfl q (fun w s=>r_conv underlying5 underlying3 q rfl) fun a q=>?_
 refine thenL_nil ?_
 obtain ⟨y_89,h_90,H⟩:=bs H
 refine sl_callV call91 s q (by decide) rfl rfl rfl (ref01_order.calls (IntKind.i64.wrap y_85) (IntKind.i64.wrap y_87) h_90 _) fun a w s q=>?_
 refine za q rfl fun a q=>?_
 refine wpList_nil (NoP_nil ?_)
 obtain rfl:=Option.some.inj H
 refine wp_ret ?_
 repeat first | refine zt ?_ | refine zb ?_ | refine zo ?_
 exact ret_1 results61 q (rv_tmp q rfl) ⟨rfl,s.bel⟩
 rw [ifb_f hb_78] at H
 refine wp_skip<|zr<|zm q rfl fun a q=>zl q (r_ibin q rfl rfl rfl) fun a q=>za q rfl fun a q=>zn ?_
 have s:=s.pk1
 have s:=s.pk1
 exact ⟨_,Nat.lt_succ_self _,(IntKind.i64.wrap (x_36 + 1)),H,q.sub (zc (zc (zc zz))),s⟩
 rw [ifb_f hb_69] at H
 refine wp_exit ?_
 refine zq<|zq<|zr<|zl q (r_fieldAddr underlying58 rfl sizeOf9 q rfl) fun a q=>zl q (r_load isAgg9 q rfl (s.cell z0 rfl)) fun a q=>zl q (r_len_str underlying9 q rfl) fun a q=>zl q (r_fieldAddr underlying58 rfl sizeOf9 q rfl) fun a q=>zl q (r_load isAgg9 q rfl (s.cell z1 rfl)) fun a q=>zl q (r_len_str underlying9 q rfl) fun a q=>zl q (r_ibin q rfl rfl rfl) fun a q=>zn ?_
 refine wp_cond_split (q.ev rfl) (fun (hb_91 : ((a0.S.size : Int) != (a1.S.size : Int)) = true)=>?_) fun hb_91=>?_
 rw [ifb_t hb_91] at H
 refine zq<|zr<|zl q (r_fieldAddr underlying58 rfl sizeOf9 q rfl) fun a q=>zl q (r_load isAgg9 q rfl (s.cell z0 rfl)) fun a q=>zl q (r_len_str underlying9 q rfl) fun a q=>zl q (r_fieldAddr underlying58 rfl sizeOf9 q rfl) fun a q=>zl q (r_load isAgg9 q rfl (s.cell z1 rfl)) fun a q=>zl q (r_len_str underlying9 q rfl) fun a q=>?_
 obtain ⟨y_92,h_93,H⟩:=bs H
 refine sl_callV call91 s q (by decide) rfl rfl rfl (ref01_order.calls (a0.S.size : Int) (a1.S.size : Int) h_93 _) fun a w s q=>?_
 refine za q rfl fun a q=>zn ?_
 obtain rfl:=Option.some.inj H
 refine wp_ret ?_
 repeat first | refine zt ?_ | refine zb ?_ | refine zo ?_
 exact ret_1 results61 q (rv_tmp q rfl) ⟨rfl,s.bel⟩
 rw [ifb_f hb_91] at H
 refine wp_skip<|zq<|zq<|zr<|za q rfl fun a q=>zn ?_
 refine wp_block ?_
 refine wp_loop_k (fun k_l2 a w=>∃ (x_100 : Int),ref01_Compare.l2 a0 a1 k_l2 x_100 = some r ∧ Kn 97 a [(2,.pointer (some ⟨b_1,0,none⟩)),(3,.pointer (some ⟨b_2,0,none⟩)),(6,I6 x_100)] ∧ St [] w0 w (fun _=>none) [.cells b_1 (cV a0) 58,.cells b_2 (cV a1) 58]) (((8 : Int) - 0).toNat + 1) ?_ ?_
 have s:=s.pk1
 have s:=s.pk1
 exact ⟨0,H,q.sub (zc (zc (zc zz))),s⟩
 rintro k_l2 a w ⟨x_100,H,q,s⟩
 rcases k_l2 with _ | k_l2
 cases H
 rw [ref01_Compare.l2.eq_2] at H
 refine zq<|zq<|zr<|zm q rfl fun a q=>zl q (r_ibin q rfl rfl rfl) fun a q=>zn ?_
 refine wp_cond_split (q.ev rfl) (fun (hb_124 : (decide (x_100 < 8)) = true)=>?_) fun hb_124=>?_
 rw [ifb_t hb_124] at H
 refine wp_skip<|zq ?_
 refine wp_block ?_
 refine zq ?_
 refine par_region (C:=fun w=>St [] w0 w (fun _=>none) [.cells b_1 (cV a0) 58,.cells b_2 (cV a1) 58]) [(0,true),(1,true),(2,true),(3,true),(4,true),(5,true),(6,true),(7,true),(8,true)] mixed (by kernel_rfl) s (fun w s=>s) fun w s=>?_
 refine zp rfl q (fun w s=>r_move q rfl) fun a q=>zp rfl q (fun w s=>r_fieldAddr underlying58 rfl sizeOf56 q rfl) fun a q=>?_
 obtain ⟨y_129,h_130,H⟩:=bs H
 refine zp rfl q (fun w s=>r_indexAddr_arr underlying56 sizeOf3 q rfl rfl (Arr8.ix_lt h_130).1 (Arr8.ix_lt h_130).2) fun a q=>zp rfl q (fun w s=>r_load isAgg3 q rfl (s.cell z0 (Arr8.ix_cells h_130 [I6 a0.Kind,I6 a0.N,.string a0.S] [] rfl))) fun a q=>zp rfl q (fun w s=>r_move q rfl) fun a q=>zp rfl q (fun w s=>r_fieldAddr underlying58 rfl sizeOf56 q rfl) fun a q=>?_
 obtain ⟨y_131,h_132,H⟩:=bs H
 refine zp rfl q (fun w s=>r_indexAddr_arr underlying56 sizeOf3 q rfl rfl (Arr8.ix_lt h_132).1 (Arr8.ix_lt h_132).2) fun a q=>zp rfl q (fun w s=>r_load isAgg3 q rfl (s.cell z1 (Arr8.ix_cells h_132 [I6 a1.Kind,I6 a1.N,.string a1.S] [] rfl))) fun a q=>zp rfl q (fun w s=>r_ibin q rfl rfl rfl) fun a q=>?_
 refine wpPar_nil (NoP_nil ?_)
 refine wp_cond_split (q.ev rfl) (fun (hb_133 : (y_129 != y_131) = true)=>?_) fun hb_133=>?_
 rw [ifb_t hb_133] at H
 refine zq ?_
 refine parT_region (C:=fun w=>St [] w0 w (fun _=>none) [.cells b_1 (cV a0) 58,.cells b_2 (cV a1) 58]) 8 [(0,true),(1,true),(2,true),(3,true),(4,true),(5,true),(6,true),(7,true)] mixed (by kernel_rfl) s (fun w s=>s) fun w s=>?_
 refine zp rfl q (fun w s=>r_move q rfl) fun a q=>zp rfl q (fun w s=>r_fieldAddr underlying58 rfl sizeOf56 q rfl) fun a q=>?_
 obtain ⟨y_140,h_141,H⟩:=bs H
 refine zp rfl q (fun w s=>r_indexAddr_arr underlying56 sizeOf3 q rfl rfl (Arr8.ix_lt h_141).1 (Arr8.ix_lt h_141).2) fun a q=>zp rfl q (fun w s=>r_load isAgg3 q rfl (s.cell z0 (Arr8.ix_cells h_141 [I6 a0.Kind,I6 a0.N,.string a0.S] [] rfl))) fun a q=>zp rfl q (fun w s=>r_move q rfl) fun a q=>zp rfl q (fun w s=>r_fieldAddr underlying58 rfl sizeOf56 q rfl) fun a q=>?_
 obtain ⟨y_142,h_143,H⟩:=bs H
 refine zp rfl q (fun w s=>r_indexAddr_arr underlying56 sizeOf3 q rfl rfl (Arr8.ix_lt h_143).1 (Arr8.ix_lt h_143).2) fun a q=>zp rfl q (fun w s=>r_load isAgg3 q rfl (s.cell z1 (Arr8.ix_cells h_143 [I6 a1.Kind,I6 a1.N,.string a1.S] [] rfl))) fun a q=>?_
 refine thenL_nil ?_
 obtain ⟨y_144,h_145,H⟩:=bs H
 refine sl_callV call91 s q (by decide) rfl rfl rfl (ref01_order.calls y_140 y_142 h_145 _) fun a w s q=>?_
 refine za q rfl fun a q=>?_
 refine wpList_nil (NoP_nil ?_)
 obtain rfl:=Option.some.inj H
 refine wp_ret ?_
 repeat first | refine zt ?_ | refine zb ?_ | refine zo ?_
 exact ret_1 results61 q (rv_tmp q rfl) ⟨rfl,s.bel⟩
 rw [ifb_f hb_133] at H
 refine wp_skip<|zr<|zm q rfl fun a q=>zl q (r_ibin q rfl rfl rfl) fun a q=>za q rfl fun a q=>zn ?_
 have s:=s.pk1
 have s:=s.pk1
 exact ⟨_,Nat.lt_succ_self _,(IntKind.i64.wrap (x_100 + 1)),H,q.sub (zc (zc (zc zz))),s⟩
 rw [ifb_f hb_124] at H
 refine wp_exit ?_
 refine zq<|zr<|za q rfl fun a q=>zn ?_
 obtain rfl:=Option.some.inj H
 refine wp_ret ?_
 repeat first | refine zt ?_ | refine zb ?_ | refine zo ?_
 exact ret_1 results61 q (rv_tmp q rfl) ⟨rfl,s.bel⟩
theorem ref02_Row.calls (a0 : List api_Value) (a1 : List api_Value) {w0 : World} {RA : Hp} {v0_0 : Value} {v1_0 : Value} (hRA : RA.sub w0) (h0_0 : SlR ty_api_Value RA v0_0 a0) (h1_0 : SlR ty_api_Value RA v1_0 a1) {r : Int} (H : ref02_Row a0 a1 = some r) : CallsV prog 37 #[v0_0,v1_0] w0 (I6 r):=by
 unfold ref02_Row at H
 refine enter (args:=[v0_0,v1_0]) func37 rfl ntmps37 rfl fun a q=>?_
 have s:=St.init (R:=fun _=>none) (w:=w0) (fun _ _ h=>by cases h)
 have hRL:=RLe.refl (M:=[]) w0 (fun _=>none)
 refine zq<|zr<|za q rfl fun a q=>zn<|zq<|zq<|zr<|za q rfl fun a q=>zn ?_
 refine wp_block ?_
 refine wp_loop_k (fun k_l0 a w=>∃ (x_48 : Int),ref02_Row.l0 a0 a1 k_l0 x_48 = some r ∧ Kn 41 a [(0,v0_0),(1,v1_0),(5,I6 x_48)] ∧ St [] w0 w (fun _=>none) []) (((a0.length : Int) - 0).toNat + 1) ?_ ?_
 exact ⟨0,H,q.sub (zc (zc (zc zz))),s⟩
 rintro k_l0 a w ⟨x_48,H,q,s⟩
 rcases k_l0 with _ | k_l0
 cases H
 rw [ref02_Row.l0.eq_2] at H
 refine zq<|zq ?_
 refine wp_mid (fun a w=>∃ (x_98 : Bool),ref02_Row.j1 (ref02_Row.l0 a0 a1 k_l0) a0 a1 x_48 x_98 = some r ∧ Kn 41 a [(0,v0_0),(1,v1_0),(5,I6 x_48),(16,.bool x_98)] ∧ St [] w0 w (fun _=>none) []) ?_ ?_
 refine zr<|zm q rfl fun a q=>zm q rfl fun a q=>zl q (r_len_R underlying31 h0_0 q rfl) fun a q=>zl q (r_ibin q rfl rfl rfl) fun a q=>zm q rfl fun a q=>?_
 rcases or_b (decide (x_48 < (a0.length : Int))) with hb_100 | hb_100
 rw [ifb_t hb_100] at H
 refine zw q (wtt hb_100) (r_move q rfl) fun a q=>zw q (wtt hb_100) (r_move q rfl) fun a q=>zw q (wtt hb_100) (r_len_R underlying31 h1_0 q rfl) fun a q=>zw q (wtt hb_100) (r_ibin q rfl rfl rfl) fun a q=>zl q (r_pick_t hb_100 q rfl rfl) fun a q=>zn ?_
 exact ⟨(decide (x_48 < (a1.length : Int))),H,q.sub (zc (zc (zc (zc zz)))),s⟩
 rw [ifb_f hb_100] at H
 refine zsw q (wtf hb_100) fun a q=>zsw q (wtf hb_100) fun a q=>zsw q (wtf hb_100) fun a q=>zsw q (wtf hb_100) fun a q=>zl q (r_pick_f hb_100 q rfl rfl) fun a q=>zn ?_
 exact ⟨false,H,q.sub (zc (zc (zc (zc zz)))),s⟩
 rintro a w ⟨x_98,H,q,s⟩
 unfold ref02_Row.j1 at H
 refine wp_cond_split (q.ev rfl) (fun (hb_101 : x_98 = true)=>?_) fun hb_101=>?_
 rw [ifb_t hb_101] at H
 refine wp_skip<|zq ?_
 refine wp_block ?_
 refine zq ?_
 refine parT_region (C:=fun w=>St [] w0 w (fun _=>none) []) 8 [(0,true),(1,true),(2,true),(3,true),(4,true),(5,true),(6,true),(7,true)] mixed (by kernel_rfl) s (fun w s=>s) fun w s=>?_
 refine zp rfl q (fun w s=>r_move q rfl) fun a q=>zp rfl q (fun w s=>r_move q rfl) fun a q=>?_
 obtain ⟨y_122,h_123,H⟩:=bs H
 obtain ⟨b_124,o_125,c_126,cs_127,hv_128,hr_129,hc_130,h_1230,h_1231⟩:=h0_0.ix h_123
 subst hr_129
 refine zp rfl q (fun w s=>r_indexAddr_R underlying31 sizeOf58 hv_128 h_1230 h_1231 q rfl rfl) fun a q=>zp rfl q (fun w s=>r_loadA (cs:=(cV y_122)) isAgg58 sizeOf58 rfl q rfl (fun j v hv=>(s.ra hRA nil_not).cell (hc_130 j v hv))) fun a q=>zp rfl q (fun w s=>r_move q rfl) fun a q=>zp rfl q (fun w s=>r_move q rfl) fun a q=>?_
 obtain ⟨y_131,h_132,H⟩:=bs H
 obtain ⟨b_133,o_134,c_135,cs_136,hv_137,hr_138,hc_139,h_1320,h_1321⟩:=h1_0.ix h_132
 subst hr_138
 refine zp rfl q (fun w s=>r_indexAddr_R underlying31 sizeOf58 hv_137 h_1320 h_1321 q rfl rfl) fun a q=>zp rfl q (fun w s=>r_loadA (cs:=(cV y_131)) isAgg58 sizeOf58 rfl q rfl (fun j v hv=>(s.ra hRA nil_not).cell (hc_139 j v hv))) fun a q=>?_
 refine thenL_nil ?_
 obtain ⟨y_140,h_141,H⟩:=bs H
 refine sl_callV call61 s q (by decide) rfl rfl rfl (ref01_Compare.calls y_122 y_131 h_141 _) fun a w s q=>?_
 refine za q rfl fun a q=>?_
 refine wpList_nil (NoP_nil ?_)
 refine zq<|zr<|zm q rfl fun a q=>zl q (r_ibin q rfl rfl rfl) fun a q=>zn ?_
 refine wp_cond_split (q.ev rfl) (fun (hb_142 : (y_140 != 0) = true)=>?_) fun hb_142=>?_
 rw [ifb_t hb_142] at H
 refine zq<|zr<|zm q rfl fun a q=>za q rfl fun a q=>zn ?_
 obtain rfl:=Option.some.inj H
 refine wp_ret ?_
 repeat first | refine zt ?_ | refine zb ?_ | refine zo ?_
 exact ret_1 results37 q (rv_tmp q rfl) ⟨rfl,s.bel⟩
 rw [ifb_f hb_142] at H
 refine wp_skip<|zr<|zm q rfl fun a q=>zl q (r_ibin q rfl rfl rfl) fun a q=>za q rfl fun a q=>zn ?_
 exact ⟨_,Nat.lt_succ_self _,(IntKind.i64.wrap (x_48 + 1)),H,q.sub (zc (zc (zc zz))),s⟩
 rw [ifb_f hb_101] at H
 refine wp_exit ?_
 refine zq<|zq<|zr<|zm q rfl fun a q=>zl q (r_len_R underlying31 h0_0 q rfl) fun a q=>zm q rfl fun a q=>zl q (r_len_R underlying31 h1_0 q rfl) fun a q=>zl q (r_ibin q rfl rfl rfl) fun a q=>zn ?_
 refine wp_cond_split (q.ev rfl) (fun (hb_143 : (decide ((a0.length : Int) < (a1.length : Int))) = true)=>?_) fun hb_143=>?_
 rw [ifb_t hb_143] at H
 refine zq<|zr<|za q rfl fun a q=>zn ?_
 obtain rfl:=Option.some.inj H
 refine wp_ret ?_
 repeat first | refine zt ?_ | refine zb ?_ | refine zo ?_
 exact ret_1 results37 q (rv_tmp q rfl) ⟨rfl,s.bel⟩
 rw [ifb_f hb_143] at H
 refine wp_skip<|zq<|zq<|zr<|zm q rfl fun a q=>zl q (r_len_R underlying31 h0_0 q rfl) fun a q=>zm q rfl fun a q=>zl q (r_len_R underlying31 h1_0 q rfl) fun a q=>zl q (r_ibin q rfl rfl rfl) fun a q=>zn ?_
 refine wp_cond_split (q.ev rfl) (fun (hb_144 : (decide ((a0.length : Int) > (a1.length : Int))) = true)=>?_) fun hb_144=>?_
 rw [ifb_t hb_144] at H
 refine zq<|zr<|za q rfl fun a q=>zn ?_
 obtain rfl:=Option.some.inj H
 refine wp_ret ?_
 repeat first | refine zt ?_ | refine zb ?_ | refine zo ?_
 exact ret_1 results37 q (rv_tmp q rfl) ⟨rfl,s.bel⟩
 rw [ifb_f hb_144] at H
 refine wp_skip<|zq<|zr<|za q rfl fun a q=>zn ?_
 obtain rfl:=Option.some.inj H
 refine wp_ret ?_
 repeat first | refine zt ?_ | refine zb ?_ | refine zo ?_
 exact ret_1 results37 q (rv_tmp q rfl) ⟨rfl,s.bel⟩
theorem ref02_sorted.r_calls (fuel : Nat) : ∀ (a0 : List (List api_Value)) {w0 : World} {R : Hp} {v0_0 : Value} (hR : R.sub w0) (h0_0 : SlR (tySl ty_api_Value) R v0_0 a0) {r : List (List api_Value)} (H : ref02_sorted.r fuel a0 = some r),Calls prog 64 #[v0_0] w0 (Rets fun v w'=>∃ (R' : Hp) (u0 : Value) (cu0 : List Value),v = u0 ∧ St [] w0 w' R' [.row 31 1 u0 r.length cu0] ∧ RLe [] w0 R R' ∧ Reps (tySl ty_api_Value) R' cu0 r):=by
 induction fuel with
 | zero=>intros; rename_i H; exact nomatch (show (none : Option _) = some _ from H)
 | succ fuel ih_64 =>
  intro a0 w0 R v0_0 hR h0_0 r H
  rw [ref02_sorted.r.eq_2] at H
  generalize ref02_sorted.r fuel = kr_64 at ih_64 H
  unfold ref02_sorted.b at H
  refine enter (args:=[v0_0]) func64 rfl ntmps64 rfl fun a q=>?_
  have s:=St.init hR
  have hRL:=RLe.refl (M:=[]) w0 R
  refine zq<|zr<|za q rfl fun a q=>zn<|zq<|zq<|zr<|zm q rfl fun a q=>zl q (r_len_R underlying39 h0_0 q rfl) fun a q=>zl q (r_ibin q rfl rfl rfl) fun a q=>zn ?_
  refine wp_cond_split (q.ev rfl) (fun (hb_1 : (decide ((a0.length : Int) < 2)) = true)=>?_) fun hb_1=>?_
  rw [ifb_t hb_1] at H
  refine zq<|zr ?_
  refine sl_buildSliceC (zc:=[.slice none 0 0]) (zs:=[]) (ps:=[]) (c:=[]) underlying39 sizeOf31 zeroValue31 rfl pc_nil rfl rfl (by decide) (by kernel_rfl) rfl s q (by decide) rfl fun a w b_2 s q=>?_
  refine zm q rfl fun a q=>?_
  obtain ⟨y_5,h_6,H⟩:=bs H
  have s:=s.row_lit (size:=1) (m:=0) rfl (by decide)
  have hq_4 : Reps (tySl ty_api_Value) R [] ([] : List (List api_Value)):=(Reps.nil _ _)
  refine sl_append_R elT39 (by decide) rfl hq_4 rfl h0_0 h_6 s q (by decide) rfl rfl rfl fun a w v_7 cs_8 hq_9 s q=>?_
  refine za q rfl fun a q=>zn ?_
  obtain rfl:=Option.some.inj H
  refine wp_ret ?_
  repeat first | refine zt ?_ | refine zb ?_ | refine zo ?_
  exact ret_1 results64 q (rv_tmp q rfl) ⟨_,rfl,_,_,_,rfl,s,hRL,hq_9⟩
  rw [ifb_f hb_1] at H
  refine wp_skip<|zq<|zr<|zm q rfl fun a q=>zm q rfl fun a q=>zl q (r_len_R underlying39 h0_0 q rfl) fun a q=>zl q (r_quo q rfl rfl (by decide)) fun a q=>?_
  obtain ⟨y_11,h_12,H⟩:=bs H
  obtain ⟨v_13,hs_14,hr_15⟩:=r_slice_R (x:=.tmp 14) (lo:=none) (hi:=some (.tmp 17)) underlying39 sizeOf31 h0_0 h_12 q rfl rfl ⟨_,rfl⟩
  refine zl q (hr_15 _ _ _ _ _ _ _ q) fun a q=>?_
  obtain ⟨y_16,h_17,H⟩:=bs H
  refine sl_call call64 q (by decide) rfl rfl rfl (ih_64 y_11 s.sub hs_14 h_17) fun a v_ w hv_ q=>?_
  obtain ⟨R_18,v_21,cs_22,hv_,hr_,hl_19,hq_23⟩:=hv_
  have hv_:=hv_.symm
  subst hv_
  obtain ⟨s,hl_19⟩:=s.sp0.back hr_ hl_19
  have s:=s.un1
  have hRL:=hRL.trans hl_19
  refine za q rfl fun a q=>zn<|zq<|zr<|zm q rfl fun a q=>zm q rfl fun a q=>zl q (r_len_R underlying39 h0_0 q rfl) fun a q=>zl q (r_quo q rfl rfl (by decide)) fun a q=>?_
  obtain ⟨y_24,h_25,H⟩:=bs H
  obtain ⟨v_26,hs_27,hr_28⟩:=r_slice_R (x:=.tmp 20) (lo:=some (.tmp 23)) (hi:=none) underlying39 sizeOf31 h0_0 h_25 q rfl ⟨_,rfl⟩ rfl
  refine zl q (hr_28 _ _ _ _ _ _ _ q) fun a q=>?_
  obtain ⟨y_29,h_30,H⟩:=bs H
  refine sl_call call64 q (by decide) rfl rfl rfl (ih_64 y_24 s.sub (hs_27.mono hl_19.le) h_30) fun a v_ w hv_ q=>?_
  obtain ⟨R_31,v_34,cs_35,hv_,hr_,hl_32,hq_36⟩:=hv_
  have hv_:=hv_.symm
  subst hv_
  obtain ⟨s,hl_32⟩:=s.sp0.back hr_ hl_32
  have s:=s.un1
  have hRL:=hRL.trans hl_32
  refine za q rfl fun a q=>zn<|zq<|zr<|za q rfl fun a q=>zn<|zq<|zr<|za q rfl fun a q=>zn<|zq<|zr<|za q rfl fun a q=>zn<|zq ?_
  refine wp_block ?_
  refine wp_loop_k (fun k_l0 a w=>∃ (x_228 : List (List api_Value)) (x_232 : Int) (x_233 : Int) (v_229 : Value) (cs_230 : List Value),ref02_sorted.l0 y_16 y_29 k_l0 x_228 x_232 x_233 = some r ∧ Reps (tySl ty_api_Value) R_31 cs_230 x_228 ∧ Kn 77 a [(3,v_21),(4,v_34),(5,v_229),(6,I6 x_232),(7,I6 x_233)] ∧ St [] w0 w R_31 [.row 31 1 v_21 y_16.length cs_22,.row 31 1 v_34 y_29.length cs_35,.row 31 1 v_229 x_228.length cs_230]) (y_16.length + y_29.length + 1) ?_ ?_
  have s:=s.row_nil 31 1
  have hq_417 : Reps (tySl ty_api_Value) R_31 [] ([] : List (List api_Value)):=Reps.nil _ _
  have s:=s.pk1
  have s:=s.pk2
  exact ⟨[],0,0,_,_,H,hq_417,q.sub (zc (zc (zc (zc (zc zz))))),s⟩
  rintro k_l0 a w ⟨x_228,x_232,x_233,v_229,cs_230,H,hq_231,q,s⟩
  rcases k_l0 with _ | k_l0
  cases H
  rw [ref02_sorted.l0.eq_2] at H
  refine zq<|zq ?_
  refine wp_mid (fun a w=>∃ (x_419 : Bool),ref02_sorted.j1 (ref02_sorted.l0 y_16 y_29 k_l0) y_16 y_29 x_228 x_232 x_233 x_419 = some r ∧ Kn 77 a [(3,v_21),(4,v_34),(5,v_229),(6,I6 x_232),(7,I6 x_233),(35,.bool x_419)] ∧ St [] w0 w R_31 [.row 31 1 v_21 y_16.length cs_22,.row 31 1 v_34 y_29.length cs_35,.row 31 1 v_229 x_228.length cs_230]) ?_ ?_
  refine zr<|zm q rfl fun a q=>zm q rfl fun a q=>zl q (r_len_O underlying39 s z0 q rfl) fun a q=>zl q (r_ibin q rfl rfl rfl) fun a q=>zm q rfl fun a q=>?_
  rcases or_b (decide (x_232 < (y_16.length : Int))) with hb_421 | hb_421
  rw [ifb_t hb_421] at H
  refine zsw q (wft hb_421) fun a q=>zsw q (wft hb_421) fun a q=>zsw q (wft hb_421) fun a q=>zsw q (wft hb_421) fun a q=>zl q (r_pick_t hb_421 q rfl rfl) fun a q=>zn ?_
  have s:=s.pk2
  have s:=s.pk2
  have s:=s.pk2
  exact ⟨true,H,q.sub (zc (zc (zc (zc (zc (zc zz)))))),s⟩
  rw [ifb_f hb_421] at H
  refine zw q (wff hb_421) (r_move q rfl) fun a q=>zw q (wff hb_421) (r_move q rfl) fun a q=>zw q (wff hb_421) (r_len_O underlying39 s z1 q rfl) fun a q=>zw q (wff hb_421) (r_ibin q rfl rfl rfl) fun a q=>zl q (r_pick_f hb_421 q rfl rfl) fun a q=>zn ?_
  have s:=s.pk2
  have s:=s.pk2
  have s:=s.pk2
  exact ⟨(decide (x_233 < (y_29.length : Int))),H,q.sub (zc (zc (zc (zc (zc (zc zz)))))),s⟩
  rintro a w ⟨x_419,H,q,s⟩
  unfold ref02_sorted.j1 at H
  refine wp_cond_split (q.ev rfl) (fun (hb_422 : x_419 = true)=>?_) fun hb_422=>?_
  rw [ifb_t hb_422] at H
  refine wp_skip ?_
  refine wp_block ?_
  refine zq ?_
  refine wp_mid (fun a w=>∃ (x_471 : Bool),ref02_sorted.j2 (ref02_sorted.l0 y_16 y_29 k_l0) y_16 y_29 x_228 x_232 x_233 x_471 = some r ∧ Kn 77 a [(3,v_21),(4,v_34),(5,v_229),(6,I6 x_232),(7,I6 x_233),(57,.bool x_471)] ∧ St [] w0 w R_31 [.row 31 1 v_21 y_16.length cs_22,.row 31 1 v_34 y_29.length cs_35,.row 31 1 v_229 x_228.length cs_230]) ?_ ?_
  refine parT_region (C:=fun w=>St [] w0 w R_31 [.row 31 1 v_21 y_16.length cs_22,.row 31 1 v_34 y_29.length cs_35,.row 31 1 v_229 x_228.length cs_230]) 18 [(0,true),(1,true),(2,true),(3,true),(4,true),(5,true),(6,true),(7,true),(8,true),(9,true),(10,true),(11,true),(12,true),(13,true),(14,true),(15,true),(16,true),(17,true)] mixed (by kernel_rfl) s (fun w s=>s) fun w s=>?_
  refine zp rfl q (fun w s=>r_move q rfl) fun a q=>zp rfl q (fun w s=>r_move q rfl) fun a q=>zp rfl q (fun w s=>r_len_O underlying39 s z1 q rfl) fun a q=>zp rfl q (fun w s=>r_ibin q rfl rfl rfl) fun a q=>zp rfl q (fun w s=>r_move q rfl) fun a q=>?_
  rcases or_b (x_233 == (y_29.length : Int)) with hb_497 | hb_497
  rw [ifb_t hb_497] at H
  refine zps rfl q (wft hb_497) fun a q=>zps rfl q (wft hb_497) fun a q=>zps rfl q (wft hb_497) fun a q=>zps rfl q (wft hb_497) fun a q=>zps rfl q (wft hb_497) fun a q=>zps rfl q rfl fun a q=>zps rfl q rfl fun a q=>zps rfl q rfl fun a q=>zps rfl q rfl fun a q=>zps rfl q rfl fun a q=>zps rfl q rfl fun a q=>zps rfl q rfl fun a q=>zps rfl q rfl fun a q=>?_
  refine thenL_nil ?_
  refine zs q fun a q=>zs q fun a q=>zsw q (wft hb_497) fun a q=>zl q (r_pick_t hb_497 q rfl rfl) fun a q=>?_
  refine wpList_nil (NoP_nil ?_)
  have s:=s.pk2
  have s:=s.pk2
  have s:=s.pk2
  exact ⟨true,H,q.sub (zc (zc (zc (zc (zc (zc zz)))))),s⟩
  rw [ifb_f hb_497] at H
  refine zpw rfl q (wff hb_497) (fun w s=>r_move q rfl) fun a q=>zpw rfl q (wff hb_497) (fun w s=>r_move q rfl) fun a q=>zpw rfl q (wff hb_497) (fun w s=>r_len_O underlying39 s z0 q rfl) fun a q=>zpw rfl q (wff hb_497) (fun w s=>r_ibin q rfl rfl rfl) fun a q=>zpw rfl q (wff hb_497) (fun w s=>r_move q rfl) fun a q=>?_
  rcases or_b (decide (x_232 < (y_16.length : Int))) with hb_498 | hb_498
  rw [ifb_t hb_498] at H
  refine zpw rfl q (wtt hb_498) (fun w s=>r_move q rfl) fun a q=>zpw rfl q (wtt hb_498) (fun w s=>r_move q rfl) fun a q=>?_
  obtain ⟨y_499,h_500,H⟩:=bs H
  obtain ⟨b_502,c_503,cs_504,hv_501,hr_505,hc_506,h_5000,h_5001⟩:=s.row_ix z0 (hq_23.mono hl_32.le) rfl rfl h_500
  obtain ⟨v_507,rfl,hs_508⟩:=hr_505
  refine zpw rfl q (wtt hb_498) (fun w s=>r_indexAddr_R underlying39 sizeOf31 hv_501 h_5000 h_5001 q rfl rfl) fun a q=>zpw rfl q (wtt hb_498) (fun w s=>r_load isAgg31 q rfl (s.row_cell z0 hv_501 (hc_506 0 _ rfl))) fun a q=>zpw rfl q (wtt hb_498) (fun w s=>r_move q rfl) fun a q=>zpw rfl q (wtt hb_498) (fun w s=>r_move q rfl) fun a q=>?_
  obtain ⟨y_509,h_510,H⟩:=bs H
  obtain ⟨b_512,c_513,cs_514,hv_511,hr_515,hc_516,h_5100,h_5101⟩:=s.row_ix z1 hq_36 rfl rfl h_510
  obtain ⟨v_517,rfl,hs_518⟩:=hr_515
  refine zpw rfl q (wtt hb_498) (fun w s=>r_indexAddr_R underlying39 sizeOf31 hv_511 h_5100 h_5101 q rfl rfl) fun a q=>zpw rfl q (wtt hb_498) (fun w s=>r_load isAgg31 q rfl (s.row_cell z1 hv_511 (hc_516 0 _ rfl))) fun a q=>?_
  refine thenL_nil ?_
  obtain ⟨y_519,h_520,H⟩:=bs H
  refine sl_callV call37 s q (by decide) (wtt hb_498) rfl rfl (ref02_Row.calls y_499 y_509 (lentOf_sub [] _) (hs_508.mono s.rLe0) (hs_518.mono s.rLe0) h_520) fun a w s q=>?_
  refine zw q (wtt hb_498) (r_ibin q rfl rfl rfl) fun a q=>zw q (wff hb_497) (r_pick_t hb_498 q rfl rfl) fun a q=>zl q (r_pick_f hb_497 q rfl rfl) fun a q=>?_
  refine wpList_nil (NoP_nil ?_)
  have s:=s.pk2
  have s:=s.pk2
  have s:=s.pk2
  exact ⟨(decide (y_519 ≤ 0)),H,q.sub (zc (zc (zc (zc (zc (zc zz)))))),s⟩
  rw [ifb_f hb_498] at H
  refine zps rfl q (wtf hb_498) fun a q=>zps rfl q (wtf hb_498) fun a q=>zps rfl q (wtf hb_498) fun a q=>zps rfl q (wtf hb_498) fun a q=>zps rfl q (wtf hb_498) fun a q=>zps rfl q (wtf hb_498) fun a q=>zps rfl q (wtf hb_498) fun a q=>zps rfl q (wtf hb_498) fun a q=>?_
  refine thenL_nil ?_
  refine zsw q (wtf hb_498) fun a q=>zsw q (wtf hb_498) fun a q=>zw q (wff hb_497) (r_pick_f hb_498 q rfl rfl) fun a q=>zl q (r_pick_f hb_497 q rfl rfl) fun a q=>?_
  refine wpList_nil (NoP_nil ?_)
  have s:=s.pk2
  have s:=s.pk2
  have s:=s.pk2
  exact ⟨false,H,q.sub (zc (zc (zc (zc (zc (zc zz)))))),s⟩
  rintro a w ⟨x_471,H,q,s⟩
  unfold ref02_sorted.j2 at H
  refine wp_mid (fun a w=>∃ (x_557 : List (List api_Value)) (x_561 : Int) (x_562 : Int) (v_558 : Value) (cs_559 : List Value),ref02_sorted.j3 (ref02_sorted.l0 y_16 y_29 k_l0) y_16 y_29 x_557 x_561 x_562 = some r ∧ Reps (tySl ty_api_Value) R_31 cs_559 x_557 ∧ Kn 77 a [(3,v_21),(4,v_34),(5,v_558),(6,I6 x_561),(7,I6 x_562)] ∧ St [] w0 w R_31 [.row 31 1 v_21 y_16.length cs_22,.row 31 1 v_34 y_29.length cs_35,.row 31 1 v_558 x_557.length cs_559]) ?_ ?_
  refine wp_cond_split (q.ev rfl) (fun (hb_564 : x_471 = true)=>?_) fun hb_564=>?_
  rw [ifb_t hb_564] at H
  refine zq<|zr<|zm q rfl fun a q=>zm q rfl fun a q=>zm q rfl fun a q=>?_
  obtain ⟨y_565,h_566,H⟩:=bs H
  obtain ⟨b_568,c_569,cs_570,hv_567,hr_571,hc_572,h_5660,h_5661⟩:=s.row_ix z0 (hq_23.mono hl_32.le) rfl rfl h_566
  obtain ⟨v_573,rfl,hs_574⟩:=hr_571
  refine zl q (r_indexAddr_R underlying39 sizeOf31 hv_567 h_5660 h_5661 q rfl rfl) fun a q=>zl q (r_load isAgg31 q rfl (s.row_cell z0 hv_567 (hc_572 0 _ rfl))) fun a q=>?_
  refine sl_buildSliceF (zc:=[.slice none 0 0]) (ps:=[(0,v_573)]) (c:=[v_573]) [[v_573]] underlying39 sizeOf31 zeroValue31 rfl (pc_cons (cells1 hs_574.one) pc_nil) rfl rfl (Nat.le_of_ble_eq_true rfl) rfl (zc zz) rfl s q (by decide) rfl fun a w b_575 s q=>?_
  obtain ⟨y_576,h_577,H⟩:=bs H
  have s:=s.pk3
  refine sl_append_L (ty:=(tySl ty_api_Value)) (ys:=[y_565]) elT39 (by decide) rfl hq_231 rfl (Reps.cons (show Ty.rep (tySl ty_api_Value) _ [v_573] y_565 from ⟨_,rfl,hs_574⟩) (Reps.nil _ _)) rfl h_577 s q (by decide) rfl rfl rfl fun a w v_578 cs_579 hq_580 s q=>?_
  refine za q rfl fun a q=>zn<|zr<|zm q rfl fun a q=>zl q (r_ibin q rfl rfl rfl) fun a q=>za q rfl fun a q=>zn ?_
  have s:=s.pk2
  have s:=s.pk2
  exact ⟨y_576,(IntKind.i64.wrap (x_232 + 1)),x_233,_,_,H,hq_580,q.sub (zc (zc (zc (zc (zc zz))))),s⟩
  rw [ifb_f hb_564] at H
  refine zq<|zr<|zm q rfl fun a q=>zm q rfl fun a q=>zm q rfl fun a q=>?_
  obtain ⟨y_582,h_583,H⟩:=bs H
  obtain ⟨b_585,c_586,cs_587,hv_584,hr_588,hc_589,h_5830,h_5831⟩:=s.row_ix z1 hq_36 rfl rfl h_583
  obtain ⟨v_590,rfl,hs_591⟩:=hr_588
  refine zl q (r_indexAddr_R underlying39 sizeOf31 hv_584 h_5830 h_5831 q rfl rfl) fun a q=>zl q (r_load isAgg31 q rfl (s.row_cell z1 hv_584 (hc_589 0 _ rfl))) fun a q=>?_
  refine sl_buildSliceF (zc:=[.slice none 0 0]) (ps:=[(0,v_590)]) (c:=[v_590]) [[v_590]] underlying39 sizeOf31 zeroValue31 rfl (pc_cons (cells1 hs_591.one) pc_nil) rfl rfl (Nat.le_of_ble_eq_true rfl) rfl (zc zz) rfl s q (by decide) rfl fun a w b_592 s q=>?_
  obtain ⟨y_593,h_594,H⟩:=bs H
  have s:=s.pk3
  refine sl_append_L (ty:=(tySl ty_api_Value)) (ys:=[y_582]) elT39 (by decide) rfl hq_231 rfl (Reps.cons (show Ty.rep (tySl ty_api_Value) _ [v_590] y_582 from ⟨_,rfl,hs_591⟩) (Reps.nil _ _)) rfl h_594 s q (by decide) rfl rfl rfl fun a w v_595 cs_596 hq_597 s q=>?_
  refine za q rfl fun a q=>zn<|zr<|zm q rfl fun a q=>zl q (r_ibin q rfl rfl rfl) fun a q=>za q rfl fun a q=>zn ?_
  have s:=s.pk2
  have s:=s.pk2
  exact ⟨y_593,x_232,(IntKind.i64.wrap (x_233 + 1)),_,_,H,hq_597,q.sub (zc (zc (zc (zc (zc zz))))),s⟩
  rintro a w ⟨x_557,x_561,x_562,v_558,cs_559,H,hq_560,q,s⟩
  unfold ref02_sorted.j3 at H
  have s:=s.pk2
  have s:=s.pk2
  have s:=s.pk2
  exact ⟨_,Nat.lt_succ_self _,x_557,x_561,x_562,_,_,H,hq_560,q.sub (zc (zc (zc (zc (zc zz))))),s⟩
  rw [ifb_f hb_422] at H
  refine wp_exit ?_
  refine zq<|zr<|zm q rfl fun a q=>za q rfl fun a q=>zn ?_
  obtain rfl:=Option.some.inj H
  refine wp_ret ?_
  repeat first | refine zt ?_ | refine zb ?_ | refine zo ?_
  exact ret_1 results64 q (rv_tmp q rfl) ⟨_,rfl,_,_,_,rfl,(s.pk2.trunc 1),hRL,hq_231⟩
theorem ref02_sorted.calls (a0 : List (List api_Value)) {w0 : World} {R : Hp} {v0_0 : Value} (hR : R.sub w0) (h0_0 : SlR (tySl ty_api_Value) R v0_0 a0) {r : List (List api_Value)} (H : ref02_sorted a0 = some r) : Calls prog 64 #[v0_0] w0 (Rets fun v w'=>∃ (R' : Hp) (u0 : Value) (cu0 : List Value),v = u0 ∧ St [] w0 w' R' [.row 31 1 u0 r.length cu0] ∧ RLe [] w0 R R' ∧ Reps (tySl ty_api_Value) R' cu0 r):=ref02_sorted.r_calls _ a0 hR h0_0 H
theorem ref02_Canon.calls (a0 : api_Table) {w0 : World} {R : Hp} {v0_0 : Value} {v0_1 : Value} (hR : R.sub w0) (h0_0 : SlR ty_api_Col R v0_0 a0.Cols) (h0_1 : SlR (tySl ty_api_Value) R v0_1 a0.Rows) {r : api_Table} (H : ref02_Canon a0 = some r) : Calls prog 39 #[.agg #[v0_0,v0_1]] w0 (Rets fun v w'=>∃ (R' : Hp) (u0 : Value) (cu0 : List Value) (u1 : Value) (cu1 : List Value),v = .agg #[u0,u1] ∧ St [] w0 w' R' [.row 65 2 u0 r.Cols.length cu0,.row 31 1 u1 r.Rows.length cu1] ∧ RLe [] w0 R R' ∧ Reps ty_api_Col R' cu0 r.Cols ∧ Reps (tySl ty_api_Value) R' cu1 r.Rows):=by
 unfold ref02_Canon at H
 refine enter (args:=[.agg #[v0_0,v0_1]]) func39 rfl ntmps39 rfl fun a q=>?_
 have s:=St.init hR
 have hRL:=RLe.refl (M:=[]) w0 R
 refine zq<|zr ?_
 refine sl_box s q (by decide) rfl rfl (c:=[v0_0,v0_1]) rfl fun a w b_1 s q=>?_
 refine sl_alloc zeroValue41 s q (by decide) rfl rfl fun a w b_2 s q=>?_
 refine zn<|zq ?_
 refine parT_region (C:=fun w=>St [] w0 w R [.cells b_2 [.slice none 0 0,.slice none 0 0] 41,.cells b_1 [v0_0,v0_1] 41]) 6 [(1,true),(2,true),(4,true),(5,true),(0,false),(3,false)] mixed (by kernel_rfl) s (fun w s=>s) fun w s=>?_
 refine zp rfl q (fun w s=>r_fieldAddr underlying41 rfl sizeOf38 q rfl) fun a q=>zp rfl q (fun w s=>r_load isAgg38 q rfl (s.cell z1 rfl)) fun a q=>zp rfl q (fun w s=>r_fieldAddr underlying41 rfl sizeOf39 q rfl) fun a q=>zp rfl q (fun w s=>r_load isAgg39 q rfl (s.cell z1 rfl)) fun a q=>?_
 refine spw (k:=0) rfl rfl s ?_
 refine sl_buildSliceC (zc:=[.string (⟨#[]⟩ : ByteArray),I6 0]) (zs:=[]) (ps:=[]) (c:=[]) underlying38 sizeOf65 zeroValue65 rfl pc_nil rfl rfl (by decide) (by kernel_rfl) rfl s q (by decide) rfl fun a w b_22 s q=>?_
 refine parK_nil (s.pk2.pk2.trunc 2) ?_
 refine spw (k:=3) rfl rfl (s.pk2.pk2.trunc 2) ?_
 obtain ⟨y_25,h_26,H⟩:=bs H
 have s:=s.row_lit (size:=2) (m:=0) rfl (by decide)
 have hq_24 : Reps ty_api_Col R [] ([] : List api_Col):=(Reps.nil _ _)
 refine sl_append_R elT38 (by decide) rfl hq_24 rfl h0_0 h_26 s q (by decide) rfl rfl rfl fun a w v_27 cs_28 hq_29 s q=>?_
 refine parK_nil (s.pk2.pk2.trunc 2) ?_
 refine thenL_nil ?_
 obtain ⟨y_31,h_32,H⟩:=bs H
 refine sl_call call64 q (by decide) rfl rfl rfl (ref02_sorted.calls a0.Rows s.sub h0_1 h_32) fun a v_ w hv_ q=>?_
 obtain ⟨R_33,v_36,cs_37,hv_,hr_,hl_34,hq_38⟩:=hv_
 have hv_:=hv_.symm
 subst hv_
 obtain ⟨s,hl_34⟩:=s.sp0.back hr_ hl_34
 have s:=s.un1
 have hRL:=hRL.trans hl_34
 have ho_39:=s.row_one z1
 have ho_40:=s.row_one z0
 refine zl q (r_buildC (ps:=[(0,v_27),(1,v_36)]) (c:=[v_27,v_36]) underlying41 zeroValue41 places41 q rfl (pc_cons (cells1 ho_39) (pc_cons (cells1 ho_40) pc_nil)) rfl rfl) fun a q=>?_
 have s:=s.pk2
 refine sl_storeA (vs:=[v_27,v_36]) (c':=[v_27,v_36]) sizeOf41 s q rfl rfl rfl rfl (all_cons (s.row_one z2) (all_cons (s.row_one z1) zz)) (Nat.le_of_ble_eq_true rfl) rfl fun a w s q=>?_
 refine wpList_nil (NoP_nil ?_)
 obtain rfl:=Option.some.inj H
 refine wp_ret ?_
 repeat first | refine zt ?_ | refine zb ?_ | refine zo ?_
 exact ret_1 results39 q (rv_cell (c:=[v_27,v_36]) isAgg41 sizeOf41 s z0 rfl q rfl) ⟨_,rfl,_,_,_,_,_,rfl,(s.pk1.pk2.trunc 2),hRL,(hq_29.mono hl_34.le),hq_38⟩
theorem ref02_SameCols.calls (a0 : List api_Col) (a1 : List api_Col) {w0 : World} {RA : Hp} {v0_0 : Value} {v1_0 : Value} (hRA : RA.sub w0) (h0_0 : SlR ty_api_Col RA v0_0 a0) (h1_0 : SlR ty_api_Col RA v1_0 a1) {r : Bool} (H : ref02_SameCols a0 a1 = some r) : CallsV prog 36 #[v0_0,v1_0] w0 (.bool r):=by
 unfold ref02_SameCols at H
 refine enter (args:=[v0_0,v1_0]) func36 rfl ntmps36 rfl fun a q=>?_
 have s:=St.init (R:=fun _=>none) (w:=w0) (fun _ _ h=>by cases h)
 have hRL:=RLe.refl (M:=[]) w0 (fun _=>none)
 refine zq<|zr<|za q rfl fun a q=>zn<|zq<|zq<|zr<|zm q rfl fun a q=>zl q (r_len_R underlying38 h0_0 q rfl) fun a q=>zm q rfl fun a q=>zl q (r_len_R underlying38 h1_0 q rfl) fun a q=>zl q (r_ibin q rfl rfl rfl) fun a q=>zn ?_
 refine wp_cond_split (q.ev rfl) (fun (hb_1 : ((a0.length : Int) != (a1.length : Int)) = true)=>?_) fun hb_1=>?_
 rw [ifb_t hb_1] at H
 refine zq<|zr<|za q rfl fun a q=>zn ?_
 obtain rfl:=Option.some.inj H
 refine wp_ret ?_
 repeat first | refine zt ?_ | refine zb ?_ | refine zo ?_
 exact ret_1 results36 q (rv_tmp q rfl) ⟨rfl,s.bel⟩
 rw [ifb_f hb_1] at H
 refine wp_skip<|zq<|zq<|zr<|za q rfl fun a q=>zn ?_
 refine wp_block ?_
 refine wp_loop_k (fun k_l0 a w=>∃ (x_41 : Int),ref02_SameCols.l0 a0 a1 k_l0 x_41 = some r ∧ Kn 26 a [(0,v0_0),(1,v1_0),(5,I6 x_41)] ∧ St [] w0 w (fun _=>none) []) (((a0.length : Int) - 0).toNat + 1) ?_ ?_
 exact ⟨0,H,q.sub (zc (zc (zc zz))),s⟩
 rintro k_l0 a w ⟨x_41,H,q,s⟩
 rcases k_l0 with _ | k_l0
 cases H
 rw [ref02_SameCols.l0.eq_2] at H
 refine zq<|zq<|zr<|zm q rfl fun a q=>zm q rfl fun a q=>zl q (r_len_R underlying38 h0_0 q rfl) fun a q=>zl q (r_ibin q rfl rfl rfl) fun a q=>zn ?_
 refine wp_cond_split (q.ev rfl) (fun (hb_81 : (decide (x_41 < (a0.length : Int))) = true)=>?_) fun hb_81=>?_
 rw [ifb_t hb_81] at H
 refine wp_skip<|zq ?_
 refine wp_block ?_
 refine zq ?_
 refine par_region (C:=fun w=>St [] w0 w (fun _=>none) []) [(0,true),(1,true),(2,true),(3,true),(4,true),(5,true),(6,true),(7,true),(8,true)] mixed (by kernel_rfl) s (fun w s=>s) fun w s=>?_
 refine zp rfl q (fun w s=>r_move q rfl) fun a q=>zp rfl q (fun w s=>r_move q rfl) fun a q=>?_
 obtain ⟨y_100,h_101,H⟩:=bs H
 obtain ⟨b_102,o_103,c_104,cs_105,hv_106,hr_107,hc_108,h_1010,h_1011⟩:=h0_0.ix h_101
 subst hr_107
 refine zp rfl q (fun w s=>r_indexAddr_R underlying38 sizeOf65 hv_106 h_1010 h_1011 q rfl rfl) fun a q=>zp rfl q (fun w s=>r_loadA (cs:=[.string y_100.Name,I6 y_100.Kind]) isAgg65 sizeOf65 rfl q rfl (fun j v hv=>(s.ra hRA nil_not).cell (hc_108 j v hv))) fun a q=>zp rfl q (fun w s=>r_move q rfl) fun a q=>zp rfl q (fun w s=>r_move q rfl) fun a q=>?_
 obtain ⟨y_109,h_110,H⟩:=bs H
 obtain ⟨b_111,o_112,c_113,cs_114,hv_115,hr_116,hc_117,h_1100,h_1101⟩:=h1_0.ix h_110
 subst hr_116
 refine zp rfl q (fun w s=>r_indexAddr_R underlying38 sizeOf65 hv_115 h_1100 h_1101 q rfl rfl) fun a q=>zp rfl q (fun w s=>r_loadA (cs:=[.string y_109.Name,I6 y_109.Kind]) isAgg65 sizeOf65 rfl q rfl (fun j v hv=>(s.ra hRA nil_not).cell (hc_117 j v hv))) fun a q=>zp rfl q (fun w s=>r_sne (by kernel_rfl) (eqs65 y_100 y_109) q rfl rfl) fun a q=>?_
 refine wpPar_nil (NoP_nil ?_)
 refine wp_cond_split (q.ev rfl) (fun (hb_118 : (!decide (y_100 = y_109)) = true)=>?_) fun hb_118=>?_
 rw [ifb_t hb_118] at H
 refine zq<|zr<|za q rfl fun a q=>zn ?_
 obtain rfl:=Option.some.inj H
 refine wp_ret ?_
 repeat first | refine zt ?_ | refine zb ?_ | refine zo ?_
 exact ret_1 results36 q (rv_tmp q rfl) ⟨rfl,s.bel⟩
 rw [ifb_f hb_118] at H
 refine wp_skip<|zr<|zm q rfl fun a q=>zl q (r_ibin q rfl rfl rfl) fun a q=>za q rfl fun a q=>zn ?_
 exact ⟨_,Nat.lt_succ_self _,(IntKind.i64.wrap (x_41 + 1)),H,q.sub (zc (zc (zc zz))),s⟩
 rw [ifb_f hb_81] at H
 refine wp_exit ?_
 refine zq<|zr<|za q rfl fun a q=>zn ?_
 obtain rfl:=Option.some.inj H
 refine wp_ret ?_
 repeat first | refine zt ?_ | refine zb ?_ | refine zo ?_
 exact ret_1 results36 q (rv_tmp q rfl) ⟨rfl,s.bel⟩
theorem ref02_Same.calls (a0 : api_Table) (a1 : api_Table) {w0 : World} {RA : Hp} {v0_0 : Value} {v0_1 : Value} {v1_0 : Value} {v1_1 : Value} (hRA : RA.sub w0) (h0_0 : SlR ty_api_Col RA v0_0 a0.Cols) (h0_1 : SlR (tySl ty_api_Value) RA v0_1 a0.Rows) (h1_0 : SlR ty_api_Col RA v1_0 a1.Cols) (h1_1 : SlR (tySl ty_api_Value) RA v1_1 a1.Rows) {r : Bool} (H : ref02_Same a0 a1 = some r) : CallsV prog 13 #[.agg #[v0_0,v0_1],.agg #[v1_0,v1_1]] w0 (.bool r):=by
 unfold ref02_Same at H
 refine enter (args:=[.agg #[v0_0,v0_1],.agg #[v1_0,v1_1]]) func13 rfl ntmps13 rfl fun a q=>?_
 have s:=St.init (R:=fun _=>none) (w:=w0) (fun _ _ h=>by cases h)
 have hRL:=RLe.refl (M:=[]) w0 (fun _=>none)
 refine zq<|zr ?_
 refine sl_box s q (by decide) rfl rfl (c:=[v0_0,v0_1]) rfl fun a w b_1 s q=>?_
 refine sl_box s q (by decide) rfl rfl (c:=[v1_0,v1_1]) rfl fun a w b_2 s q=>?_
 refine za q rfl fun a q=>zn<|zq<|zq ?_
 refine wp_mid (fun a w=>∃ (x_6 : Bool),ref02_Same.j0 a0 a1 x_6 = some r ∧ Kn 40 a [(2,.pointer (some ⟨b_1,0,none⟩)),(3,.pointer (some ⟨b_2,0,none⟩)),(20,.bool x_6)] ∧ St [] w0 w (fun _=>none) [.cells b_1 [v0_0,v0_1] 41,.cells b_2 [v1_0,v1_1] 41]) ?_ ?_
 refine zr<|zl q (r_fieldAddr underlying41 rfl sizeOf38 q rfl) fun a q=>zl q (r_load isAgg38 q rfl (s.cell z1 rfl)) fun a q=>zl q (r_fieldAddr underlying41 rfl sizeOf38 q rfl) fun a q=>zl q (r_load isAgg38 q rfl (s.cell z0 rfl)) fun a q=>?_
 obtain ⟨y_8,h_9,H⟩:=bs H
 refine sl_callV call36 s q (by decide) rfl rfl rfl (ref02_SameCols.calls a0.Cols a1.Cols (lentOf_sub [] _) (h0_0.mono (s.raLe0 hRA nil_not)) (h1_0.mono (s.raLe0 hRA nil_not)) h_9) fun a w s q=>?_
 refine zl q (r_un q rfl (u_not _)) fun a q=>zm q rfl fun a q=>?_
 rcases or_b (!y_8) with hb_10 | hb_10
 rw [ifb_t hb_10] at H
 refine zsw q (wft hb_10) fun a q=>zsw q (wft hb_10) fun a q=>zsw q (wft hb_10) fun a q=>zsw q (wft hb_10) fun a q=>zsw q (wft hb_10) fun a q=>zsw q (wft hb_10) fun a q=>zsw q (wft hb_10) fun a q=>zl q (r_pick_t hb_10 q rfl rfl) fun a q=>zn ?_
 have s:=s.pk1
 exact ⟨true,H,q.sub (zc (zc (zc zz))),s⟩
 rw [ifb_f hb_10] at H
 refine zw q (wff hb_10) (r_fieldAddr underlying41 rfl sizeOf39 q rfl) fun a q=>zw q (wff hb_10) (r_load isAgg39 q rfl (s.cell z1 rfl)) fun a q=>zw q (wff hb_10) (r_len_R underlying39 h0_1 q rfl) fun a q=>zw q (wff hb_10) (r_fieldAddr underlying41 rfl sizeOf39 q rfl) fun a q=>zw q (wff hb_10) (r_load isAgg39 q rfl (s.cell z0 rfl)) fun a q=>zw q (wff hb_10) (r_len_R underlying39 h1_1 q rfl) fun a q=>zw q (wff hb_10) (r_ibin q rfl rfl rfl) fun a q=>zl q (r_pick_f hb_10 q rfl rfl) fun a q=>zn ?_
 have s:=s.pk1
 exact ⟨((a0.Rows.length : Int) != (a1.Rows.length : Int)),H,q.sub (zc (zc (zc zz))),s⟩
 rintro a w ⟨x_6,H,q,s⟩
 unfold ref02_Same.j0 at H
 refine wp_cond_split (q.ev rfl) (fun (hb_11 : x_6 = true)=>?_) fun hb_11=>?_
 rw [ifb_t hb_11] at H
 refine zq<|zr<|za q rfl fun a q=>zn ?_
 obtain rfl:=Option.some.inj H
 refine wp_ret ?_
 repeat first | refine zt ?_ | refine zb ?_ | refine zo ?_
 exact ret_1 results13 q (rv_tmp q rfl) ⟨rfl,s.bel⟩
 rw [ifb_f hb_11] at H
 refine wp_skip<|zq<|zq<|zr<|za q rfl fun a q=>zn ?_
 refine wp_block ?_
 refine wp_loop_k (fun k_l1 a w=>∃ (x_63 : Int),ref02_Same.l1 a0 a1 k_l1 x_63 = some r ∧ Kn 40 a [(2,.pointer (some ⟨b_1,0,none⟩)),(3,.pointer (some ⟨b_2,0,none⟩)),(5,I6 x_63)] ∧ St [] w0 w (fun _=>none) [.cells b_1 [v0_0,v0_1] 41,.cells b_2 [v1_0,v1_1] 41]) (((a0.Rows.length : Int) - 0).toNat + 1) ?_ ?_
 have s:=s.pk1
 have s:=s.pk1
 exact ⟨0,H,q.sub (zc (zc (zc zz))),s⟩
 rintro k_l1 a w ⟨x_63,H,q,s⟩
 rcases k_l1 with _ | k_l1
 cases H
 rw [ref02_Same.l1.eq_2] at H
 refine zq<|zq<|zr<|zm q rfl fun a q=>zl q (r_fieldAddr underlying41 rfl sizeOf39 q rfl) fun a q=>zl q (r_load isAgg39 q rfl (s.cell z0 rfl)) fun a q=>zl q (r_len_R underlying39 h0_1 q rfl) fun a q=>zl q (r_ibin q rfl rfl rfl) fun a q=>zn ?_
 refine wp_cond_split (q.ev rfl) (fun (hb_115 : (decide (x_63 < (a0.Rows.length : Int))) = true)=>?_) fun hb_115=>?_
 rw [ifb_t hb_115] at H
 refine wp_skip<|zq ?_
 refine wp_block ?_
 refine zq ?_
 refine parT_region (C:=fun w=>St [] w0 w (fun _=>none) [.cells b_1 [v0_0,v0_1] 41,.cells b_2 [v1_0,v1_1] 41]) 10 [(0,true),(1,true),(2,true),(3,true),(4,true),(5,true),(6,true),(7,true),(8,true),(9,true)] mixed (by kernel_rfl) s (fun w s=>s) fun w s=>?_
 refine zp rfl q (fun w s=>r_fieldAddr underlying41 rfl sizeOf39 q rfl) fun a q=>zp rfl q (fun w s=>r_load isAgg39 q rfl (s.cell z0 rfl)) fun a q=>zp rfl q (fun w s=>r_move q rfl) fun a q=>?_
 obtain ⟨y_140,h_141,H⟩:=bs H
 obtain ⟨b_142,o_143,c_144,cs_145,hv_146,hr_147,hc_148,h_1410,h_1411⟩:=h0_1.ix h_141
 obtain ⟨v_149,rfl,hs_150⟩:=hr_147
 refine zp rfl q (fun w s=>r_indexAddr_R underlying39 sizeOf31 hv_146 h_1410 h_1411 q rfl rfl) fun a q=>zp rfl q (fun w s=>r_load isAgg31 q rfl ((s.ra hRA nil_not).cell (hc_148 0 _ rfl))) fun a q=>zp rfl q (fun w s=>r_fieldAddr underlying41 rfl sizeOf39 q rfl) fun a q=>zp rfl q (fun w s=>r_load isAgg39 q rfl (s.cell z1 rfl)) fun a q=>zp rfl q (fun w s=>r_move q rfl) fun a q=>?_
 obtain ⟨y_151,h_152,H⟩:=bs H
 obtain ⟨b_153,o_154,c_155,cs_156,hv_157,hr_158,hc_159,h_1520,h_1521⟩:=h1_1.ix h_152
 obtain ⟨v_160,rfl,hs_161⟩:=hr_158
 refine zp rfl q (fun w s=>r_indexAddr_R underlying39 sizeOf31 hv_157 h_1520 h_1521 q rfl rfl) fun a q=>zp rfl q (fun w s=>r_load isAgg31 q rfl ((s.ra hRA nil_not).cell (hc_159 0 _ rfl))) fun a q=>?_
 refine thenL_nil ?_
 obtain ⟨y_162,h_163,H⟩:=bs H
 refine sl_callV call37 s q (by decide) rfl rfl rfl (ref02_Row.calls y_140 y_151 (lentOf_sub [] _) (hs_150.mono (s.raLe0 hRA nil_not)) (hs_161.mono (s.raLe0 hRA nil_not)) h_163) fun a w s q=>?_
 refine zl q (r_ibin q rfl rfl rfl) fun a q=>?_
 refine wpList_nil (NoP_nil ?_)
 refine wp_cond_split (q.ev rfl) (fun (hb_164 : (y_162 != 0) = true)=>?_) fun hb_164=>?_
 rw [ifb_t hb_164] at H
 refine zq<|zr<|za q rfl fun a q=>zn ?_
 obtain rfl:=Option.some.inj H
 refine wp_ret ?_
 repeat first | refine zt ?_ | refine zb ?_ | refine zo ?_
 exact ret_1 results13 q (rv_tmp q rfl) ⟨rfl,s.bel⟩
 rw [ifb_f hb_164] at H
 refine wp_skip<|zr<|zm q rfl fun a q=>zl q (r_ibin q rfl rfl rfl) fun a q=>za q rfl fun a q=>zn ?_
 have s:=s.pk1
 have s:=s.pk1
 exact ⟨_,Nat.lt_succ_self _,(IntKind.i64.wrap (x_63 + 1)),H,q.sub (zc (zc (zc zz))),s⟩
 rw [ifb_f hb_115] at H
 refine wp_exit ?_
 refine zq<|zr<|za q rfl fun a q=>zn ?_
 obtain rfl:=Option.some.inj H
 refine wp_ret ?_
 repeat first | refine zt ?_ | refine zb ?_ | refine zo ?_
 exact ret_1 results13 q (rv_tmp q rfl) ⟨rfl,s.bel⟩
end Go.Proofs.YtchgiggipimigaaGreatDoor.M
end
section
namespace Go.Proofs.YtchgiggipimigaaGreatDoor.M
open Go Go.Eng Go.Proofs Go.RowKit
set_option linter.unusedVariables false
set_option linter.unusedSimpArgs false
open Go.Proofs.Tryz
set_option maxHeartbeats 4000000
set_option maxRecDepth 100000
theorem ref05_Word.calls (a0 : ByteArray) {r : Bool} (H : ref05_Word a0 = some r) (w0 : World) : CallsV prog 94 #[.string a0] w0 (.bool r):=by
 unfold ref05_Word at H
 refine enter (args:=[.string a0]) func94 rfl ntmps94 rfl fun a q=>?_
 have s:=St.init (R:=fun _=>none) (w:=w0) (fun _ _ h=>by cases h)
 have hRL:=RLe.refl (M:=[]) w0 (fun _=>none)
 refine zq<|zr<|za q rfl fun a q=>zn<|zq<|zr ?_
 refine sl_buildSliceF (zc:=[.string (⟨#[]⟩ : ByteArray)]) (ps:=[(0,.string (⟨#[102,101,116,99,104]⟩ : ByteArray)),(1,.string (⟨#[102,114,111,109]⟩ : ByteArray)),(2,.string (⟨#[116,111]⟩ : ByteArray)),(3,.string (⟨#[119,104,101,114,101]⟩ : ByteArray)),(4,.string (⟨#[107,101,101,112]⟩ : ByteArray)),(5,.string (⟨#[97,108,105,103,110]⟩ : ByteArray)),(6,.string (⟨#[103,114,111,117,112]⟩ : ByteArray)),(7,.string (⟨#[116,111,112]⟩ : ByteArray)),(8,.string (⟨#[98,121]⟩ : ByteArray)),(9,.string (⟨#[106,111,105,110]⟩ : ByteArray)),(10,.string (⟨#[117,110,105,111,110]⟩ : ByteArray)),(11,.string (⟨#[97,110,100]⟩ : ByteArray)),(12,.string (⟨#[111,114]⟩ : ByteArray)),(13,.string (⟨#[110,111,116]⟩ : ByteArray)),(14,.string (⟨#[104,97,115]⟩ : ByteArray)),(15,.string (⟨#[116,114,117,101]⟩ : ByteArray)),(16,.string (⟨#[102,97,108,115,101]⟩ : ByteArray)),(17,.string (⟨#[99,111,117,110,116]⟩ : ByteArray)),(18,.string (⟨#[115,117,109]⟩ : ByteArray)),(19,.string (⟨#[109,105,110]⟩ : ByteArray)),(20,.string (⟨#[109,97,120]⟩ : ByteArray)),(21,.string (⟨#[109,101,97,110]⟩ : ByteArray)),(22,.string (⟨#[109,101,114,103,101]⟩ : ByteArray)),(23,.string (⟨#[116,105,109,101]⟩ : ByteArray))]) (c:=[.string (⟨#[102,101,116,99,104]⟩ : ByteArray),.string (⟨#[102,114,111,109]⟩ : ByteArray),.string (⟨#[116,111]⟩ : ByteArray),.string (⟨#[119,104,101,114,101]⟩ : ByteArray),.string (⟨#[107,101,101,112]⟩ : ByteArray),.string (⟨#[97,108,105,103,110]⟩ : ByteArray),.string (⟨#[103,114,111,117,112]⟩ : ByteArray),.string (⟨#[116,111,112]⟩ : ByteArray),.string (⟨#[98,121]⟩ : ByteArray),.string (⟨#[106,111,105,110]⟩ : ByteArray),.string (⟨#[117,110,105,111,110]⟩ : ByteArray),.string (⟨#[97,110,100]⟩ : ByteArray),.string (⟨#[111,114]⟩ : ByteArray),.string (⟨#[110,111,116]⟩ : ByteArray),.string (⟨#[104,97,115]⟩ : ByteArray),.string (⟨#[116,114,117,101]⟩ : ByteArray),.string (⟨#[102,97,108,115,101]⟩ : ByteArray),.string (⟨#[99,111,117,110,116]⟩ : ByteArray),.string (⟨#[115,117,109]⟩ : ByteArray),.string (⟨#[109,105,110]⟩ : ByteArray),.string (⟨#[109,97,120]⟩ : ByteArray),.string (⟨#[109,101,97,110]⟩ : ByteArray),.string (⟨#[109,101,114,103,101]⟩ : ByteArray),.string (⟨#[116,105,109,101]⟩ : ByteArray)]) [[.string (⟨#[102,101,116,99,104]⟩ : ByteArray)],[.string (⟨#[102,114,111,109]⟩ : ByteArray)],[.string (⟨#[116,111]⟩ : ByteArray)],[.string (⟨#[119,104,101,114,101]⟩ : ByteArray)],[.string (⟨#[107,101,101,112]⟩ : ByteArray)],[.string (⟨#[97,108,105,103,110]⟩ : ByteArray)],[.string (⟨#[103,114,111,117,112]⟩ : ByteArray)],[.string (⟨#[116,111,112]⟩ : ByteArray)],[.string (⟨#[98,121]⟩ : ByteArray)],[.string (⟨#[106,111,105,110]⟩ : ByteArray)],[.string (⟨#[117,110,105,111,110]⟩ : ByteArray)],[.string (⟨#[97,110,100]⟩ : ByteArray)],[.string (⟨#[111,114]⟩ : ByteArray)],[.string (⟨#[110,111,116]⟩ : ByteArray)],[.string (⟨#[104,97,115]⟩ : ByteArray)],[.string (⟨#[116,114,117,101]⟩ : ByteArray)],[.string (⟨#[102,97,108,115,101]⟩ : ByteArray)],[.string (⟨#[99,111,117,110,116]⟩ : ByteArray)],[.string (⟨#[115,117,109]⟩ : ByteArray)],[.string (⟨#[109,105,110]⟩ : ByteArray)],[.string (⟨#[109,97,120]⟩ : ByteArray)],[.string (⟨#[109,101,97,110]⟩ : ByteArray)],[.string (⟨#[109,101,114,103,101]⟩ : ByteArray)],[.string (⟨#[116,105,109,101]⟩ : ByteArray)]] underlying165 sizeOf9 zeroValue9 rfl (pc_cons rfl (pc_cons rfl (pc_cons rfl (pc_cons rfl (pc_cons rfl (pc_cons rfl (pc_cons rfl (pc_cons rfl (pc_cons rfl (pc_cons rfl (pc_cons rfl (pc_cons rfl (pc_cons rfl (pc_cons rfl (pc_cons rfl (pc_cons rfl (pc_cons rfl (pc_cons rfl (pc_cons rfl (pc_cons rfl (pc_cons rfl (pc_cons rfl (pc_cons rfl (pc_cons rfl pc_nil)))))))))))))))))))))))) rfl rfl (Nat.le_of_ble_eq_true rfl) rfl (zc (zc (zc (zc (zc (zc (zc (zc (zc (zc (zc (zc (zc (zc (zc (zc (zc (zc (zc (zc (zc (zc (zc (zc zz)))))))))))))))))))))))) rfl s q (by decide) rfl fun a w b_1 s q=>?_
 refine za q rfl fun a q=>zn<|zq<|zq<|zr<|za q rfl fun a q=>zn ?_
 refine wp_block ?_
 refine wp_loop_k (fun k_l0 a w=>∃ (x_19 : List ByteArray) (x_23 : Int) (v_20 : Value) (cs_21 : List Value),ref05_Word.l0 a0 k_l0 x_19 x_23 = some r ∧ Reps tyStr (fun _=>none) cs_21 x_19 ∧ Kn 31 a [(0,.string a0),(3,v_20),(4,I6 x_23)] ∧ St [] w0 w (fun _=>none) [.row 9 1 v_20 x_19.length cs_21]) (((24 : Int) - 0).toNat + 1) ?_ ?_
 have s:=s.row_lit (size:=1) (m:=24) rfl (by decide)
 have hq_36 : Reps tyStr (fun _=>none) [.string (⟨#[102,101,116,99,104]⟩ : ByteArray),.string (⟨#[102,114,111,109]⟩ : ByteArray),.string (⟨#[116,111]⟩ : ByteArray),.string (⟨#[119,104,101,114,101]⟩ : ByteArray),.string (⟨#[107,101,101,112]⟩ : ByteArray),.string (⟨#[97,108,105,103,110]⟩ : ByteArray),.string (⟨#[103,114,111,117,112]⟩ : ByteArray),.string (⟨#[116,111,112]⟩ : ByteArray),.string (⟨#[98,121]⟩ : ByteArray),.string (⟨#[106,111,105,110]⟩ : ByteArray),.string (⟨#[117,110,105,111,110]⟩ : ByteArray),.string (⟨#[97,110,100]⟩ : ByteArray),.string (⟨#[111,114]⟩ : ByteArray),.string (⟨#[110,111,116]⟩ : ByteArray),.string (⟨#[104,97,115]⟩ : ByteArray),.string (⟨#[116,114,117,101]⟩ : ByteArray),.string (⟨#[102,97,108,115,101]⟩ : ByteArray),.string (⟨#[99,111,117,110,116]⟩ : ByteArray),.string (⟨#[115,117,109]⟩ : ByteArray),.string (⟨#[109,105,110]⟩ : ByteArray),.string (⟨#[109,97,120]⟩ : ByteArray),.string (⟨#[109,101,97,110]⟩ : ByteArray),.string (⟨#[109,101,114,103,101]⟩ : ByteArray),.string (⟨#[116,105,109,101]⟩ : ByteArray)] [(⟨#[102,101,116,99,104]⟩ : ByteArray),(⟨#[102,114,111,109]⟩ : ByteArray),(⟨#[116,111]⟩ : ByteArray),(⟨#[119,104,101,114,101]⟩ : ByteArray),(⟨#[107,101,101,112]⟩ : ByteArray),(⟨#[97,108,105,103,110]⟩ : ByteArray),(⟨#[103,114,111,117,112]⟩ : ByteArray),(⟨#[116,111,112]⟩ : ByteArray),(⟨#[98,121]⟩ : ByteArray),(⟨#[106,111,105,110]⟩ : ByteArray),(⟨#[117,110,105,111,110]⟩ : ByteArray),(⟨#[97,110,100]⟩ : ByteArray),(⟨#[111,114]⟩ : ByteArray),(⟨#[110,111,116]⟩ : ByteArray),(⟨#[104,97,115]⟩ : ByteArray),(⟨#[116,114,117,101]⟩ : ByteArray),(⟨#[102,97,108,115,101]⟩ : ByteArray),(⟨#[99,111,117,110,116]⟩ : ByteArray),(⟨#[115,117,109]⟩ : ByteArray),(⟨#[109,105,110]⟩ : ByteArray),(⟨#[109,97,120]⟩ : ByteArray),(⟨#[109,101,97,110]⟩ : ByteArray),(⟨#[109,101,114,103,101]⟩ : ByteArray),(⟨#[116,105,109,101]⟩ : ByteArray)]:=(Reps.cons (show Ty.rep tyStr _ [.string (⟨#[102,101,116,99,104]⟩ : ByteArray)] (⟨#[102,101,116,99,104]⟩ : ByteArray) from rfl) (Reps.cons (show Ty.rep tyStr _ [.string (⟨#[102,114,111,109]⟩ : ByteArray)] (⟨#[102,114,111,109]⟩ : ByteArray) from rfl) (Reps.cons (show Ty.rep tyStr _ [.string (⟨#[116,111]⟩ : ByteArray)] (⟨#[116,111]⟩ : ByteArray) from rfl) (Reps.cons (show Ty.rep tyStr _ [.string (⟨#[119,104,101,114,101]⟩ : ByteArray)] (⟨#[119,104,101,114,101]⟩ : ByteArray) from rfl) (Reps.cons (show Ty.rep tyStr _ [.string (⟨#[107,101,101,112]⟩ : ByteArray)] (⟨#[107,101,101,112]⟩ : ByteArray) from rfl) (Reps.cons (show Ty.rep tyStr _ [.string (⟨#[97,108,105,103,110]⟩ : ByteArray)] (⟨#[97,108,105,103,110]⟩ : ByteArray) from rfl) (Reps.cons (show Ty.rep tyStr _ [.string (⟨#[103,114,111,117,112]⟩ : ByteArray)] (⟨#[103,114,111,117,112]⟩ : ByteArray) from rfl) (Reps.cons (show Ty.rep tyStr _ [.string (⟨#[116,111,112]⟩ : ByteArray)] (⟨#[116,111,112]⟩ : ByteArray) from rfl) (Reps.cons (show Ty.rep tyStr _ [.string (⟨#[98,121]⟩ : ByteArray)] (⟨#[98,121]⟩ : ByteArray) from rfl) (Reps.cons (show Ty.rep tyStr _ [.string (⟨#[106,111,105,110]⟩ : ByteArray)] (⟨#[106,111,105,110]⟩ : ByteArray) from rfl) (Reps.cons (show Ty.rep tyStr _ [.string (⟨#[117,110,105,111,110]⟩ : ByteArray)] (⟨#[117,110,105,111,110]⟩ : ByteArray) from rfl) (Reps.cons (show Ty.rep tyStr _ [.string (⟨#[97,110,100]⟩ : ByteArray)] (⟨#[97,110,100]⟩ : ByteArray) from rfl) (Reps.cons (show Ty.rep tyStr _ [.string (⟨#[111,114]⟩ : ByteArray)] (⟨#[111,114]⟩ : ByteArray) from rfl) (Reps.cons (show Ty.rep tyStr _ [.string (⟨#[110,111,116]⟩ : ByteArray)] (⟨#[110,111,116]⟩ : ByteArray) from rfl) (Reps.cons (show Ty.rep tyStr _ [.string (⟨#[104,97,115]⟩ : ByteArray)] (⟨#[104,97,115]⟩ : ByteArray) from rfl) (Reps.cons (show Ty.rep tyStr _ [.string (⟨#[116,114,117,101]⟩ : ByteArray)] (⟨#[116,114,117,101]⟩ : ByteArray) from rfl) (Reps.cons (show Ty.rep tyStr _ [.string (⟨#[102,97,108,115,101]⟩ : ByteArray)] (⟨#[102,97,108,115,101]⟩ : ByteArray) from rfl) (Reps.cons (show Ty.rep tyStr _ [.string (⟨#[99,111,117,110,116]⟩ : ByteArray)] (⟨#[99,111,117,110,116]⟩ : ByteArray) from rfl) (Reps.cons (show Ty.rep tyStr _ [.string (⟨#[115,117,109]⟩ : ByteArray)] (⟨#[115,117,109]⟩ : ByteArray) from rfl) (Reps.cons (show Ty.rep tyStr _ [.string (⟨#[109,105,110]⟩ : ByteArray)] (⟨#[109,105,110]⟩ : ByteArray) from rfl) (Reps.cons (show Ty.rep tyStr _ [.string (⟨#[109,97,120]⟩ : ByteArray)] (⟨#[109,97,120]⟩ : ByteArray) from rfl) (Reps.cons (show Ty.rep tyStr _ [.string (⟨#[109,101,97,110]⟩ : ByteArray)] (⟨#[109,101,97,110]⟩ : ByteArray) from rfl) (Reps.cons (show Ty.rep tyStr _ [.string (⟨#[109,101,114,103,101]⟩ : ByteArray)] (⟨#[109,101,114,103,101]⟩ : ByteArray) from rfl) (Reps.cons (show Ty.rep tyStr _ [.string (⟨#[116,105,109,101]⟩ : ByteArray)] (⟨#[116,105,109,101]⟩ : ByteArray) from rfl) (Reps.nil _ _)))))))))))))))))))))))))
 exact ⟨[(⟨#[102,101,116,99,104]⟩ : ByteArray),(⟨#[102,114,111,109]⟩ : ByteArray),(⟨#[116,111]⟩ : ByteArray),(⟨#[119,104,101,114,101]⟩ : ByteArray),(⟨#[107,101,101,112]⟩ : ByteArray),(⟨#[97,108,105,103,110]⟩ : ByteArray),(⟨#[103,114,111,117,112]⟩ : ByteArray),(⟨#[116,111,112]⟩ : ByteArray),(⟨#[98,121]⟩ : ByteArray),(⟨#[106,111,105,110]⟩ : ByteArray),(⟨#[117,110,105,111,110]⟩ : ByteArray),(⟨#[97,110,100]⟩ : ByteArray),(⟨#[111,114]⟩ : ByteArray),(⟨#[110,111,116]⟩ : ByteArray),(⟨#[104,97,115]⟩ : ByteArray),(⟨#[116,114,117,101]⟩ : ByteArray),(⟨#[102,97,108,115,101]⟩ : ByteArray),(⟨#[99,111,117,110,116]⟩ : ByteArray),(⟨#[115,117,109]⟩ : ByteArray),(⟨#[109,105,110]⟩ : ByteArray),(⟨#[109,97,120]⟩ : ByteArray),(⟨#[109,101,97,110]⟩ : ByteArray),(⟨#[109,101,114,103,101]⟩ : ByteArray),(⟨#[116,105,109,101]⟩ : ByteArray)],0,_,_,H,hq_36,q.sub (zc (zc (zc zz))),s⟩
 rintro k_l0 a w ⟨x_19,x_23,v_20,cs_21,H,hq_22,q,s⟩
 rcases k_l0 with _ | k_l0
 cases H
 rw [ref05_Word.l0.eq_2] at H
 refine zq<|zq<|zr<|zm q rfl fun a q=>zm q rfl fun a q=>zl q (r_len_O underlying165 s z0 q rfl) fun a q=>zl q (r_ibin q rfl rfl rfl) fun a q=>zn ?_
 refine wp_cond_split (q.ev rfl) (fun (hb_37 : (decide (x_23 < (x_19.length : Int))) = true)=>?_) fun hb_37=>?_
 rw [ifb_t hb_37] at H
 refine wp_skip<|zq ?_
 refine wp_block ?_
 refine zq<|zr<|zm q rfl fun a q=>zm q rfl fun a q=>zm q rfl fun a q=>?_
 obtain ⟨y_38,h_39,H⟩:=bs H
 obtain ⟨b_41,c_42,cs_43,hv_40,hr_44,hc_45,h_390,h_391⟩:=s.row_ix z0 hq_22 rfl rfl h_39
 subst hr_44
 refine zl q (r_indexAddr_R underlying165 sizeOf9 hv_40 h_390 h_391 q rfl rfl) fun a q=>zl q (r_load isAgg9 q rfl (s.row_cell z0 hv_40 (hc_45 0 _ rfl))) fun a q=>zl q (r_sbin q rfl rfl rfl) fun a q=>zn ?_
 refine wp_cond_split (q.ev rfl) (fun (hb_46 : (a0.toList == y_38.toList) = true)=>?_) fun hb_46=>?_
 rw [ifb_t hb_46] at H
 refine zq<|zr<|za q rfl fun a q=>zn ?_
 obtain rfl:=Option.some.inj H
 refine wp_ret ?_
 repeat first | refine zt ?_ | refine zb ?_ | refine zo ?_
 exact ret_1 results94 q (rv_tmp q rfl) ⟨rfl,s.bel⟩
 rw [ifb_f hb_46] at H
 refine wp_skip<|zr<|zm q rfl fun a q=>zl q (r_ibin q rfl rfl rfl) fun a q=>za q rfl fun a q=>zn ?_
 exact ⟨_,Nat.lt_succ_self _,x_19,(IntKind.i64.wrap (x_23 + 1)),_,_,H,hq_22,q.sub (zc (zc (zc zz))),s⟩
 rw [ifb_f hb_37] at H
 refine wp_exit ?_
 refine zq<|zq<|zr<|za q rfl fun a q=>zn ?_
 refine wp_block ?_
 refine wp_loop_k (fun k_l1 a w=>∃ (x_52 : Int),ref05_Word.l1 a0 k_l1 x_52 = some r ∧ Kn 31 a [(0,.string a0),(5,I6 x_52)] ∧ St [] w0 w (fun _=>none) []) (((a0.size : Int) - 0).toNat + 1) ?_ ?_
 exact ⟨0,H,q.sub (zc (zc zz)),s.trunc 0⟩
 rintro k_l1 a w ⟨x_52,H,q,s⟩
 rcases k_l1 with _ | k_l1
 cases H
 rw [ref05_Word.l1.eq_2] at H
 refine zq<|zq<|zr<|zm q rfl fun a q=>zm q rfl fun a q=>zl q (r_len_str underlying9 q rfl) fun a q=>zl q (r_ibin q rfl rfl rfl) fun a q=>zn ?_
 refine wp_cond_split (q.ev rfl) (fun (hb_58 : (decide (x_52 < (a0.size : Int))) = true)=>?_) fun hb_58=>?_
 rw [ifb_t hb_58] at H
 refine wp_skip<|zq ?_
 refine wp_block ?_
 refine zq<|zr<|zm q rfl fun a q=>zm q rfl fun a q=>?_
 obtain ⟨y_59,h_60,H⟩:=bs H
 refine zl q (r_index_str' underlying9 h_60 q rfl rfl) fun a q=>zl q (r_ibin q rfl rfl rfl) fun a q=>zn ?_
 refine wp_cond_split (q.ev rfl) (fun (hb_61 : (y_59 == 35) = true)=>?_) fun hb_61=>?_
 rw [ifb_t hb_61] at H
 refine zq<|zr<|za q rfl fun a q=>zn ?_
 obtain rfl:=Option.some.inj H
 refine wp_ret ?_
 repeat first | refine zt ?_ | refine zb ?_ | refine zo ?_
 exact ret_1 results94 q (rv_tmp q rfl) ⟨rfl,s.bel⟩
 rw [ifb_f hb_61] at H
 refine wp_skip<|zr<|zm q rfl fun a q=>zl q (r_ibin q rfl rfl rfl) fun a q=>za q rfl fun a q=>zn ?_
 exact ⟨_,Nat.lt_succ_self _,(IntKind.i64.wrap (x_52 + 1)),H,q.sub (zc (zc zz)),s⟩
 rw [ifb_f hb_58] at H
 refine wp_exit ?_
 refine zq<|zr<|zm q rfl fun a q=>?_
 obtain ⟨y_62,h_63,H⟩:=bs H
 refine sl_callV call92 s q (by decide) rfl rfl rfl (ref02_Name.calls a0 h_63 _) fun a w s q=>?_
 refine za q rfl fun a q=>zn ?_
 obtain rfl:=Option.some.inj H
 refine wp_ret ?_
 repeat first | refine zt ?_ | refine zb ?_ | refine zo ?_
 exact ret_1 results94 q (rv_tmp q rfl) ⟨rfl,s.bel⟩
theorem ref05_One.calls (a0 : api_Schema) {w0 : World} {RA : Hp} {v0_0 : Value} {v0_1 : Value} (hRA : RA.sub w0) (h0_0 : SlR ty_api_Col RA v0_0 a0.Keys) (h0_1 : SlR ty_api_Col RA v0_1 a0.Vals) {r : Bool} (H : ref05_One a0 = some r) : CallsV prog 65 #[.agg #[.string a0.Name,v0_0,v0_1]] w0 (.bool r):=by
 unfold ref05_One at H
 refine enter (args:=[.agg #[.string a0.Name,v0_0,v0_1]]) func65 rfl ntmps65 rfl fun a q=>?_
 have s:=St.init (R:=fun _=>none) (w:=w0) (fun _ _ h=>by cases h)
 have hRL:=RLe.refl (M:=[]) w0 (fun _=>none)
 refine zq<|zr ?_
 refine sl_box s q (by decide) rfl rfl (c:=[.string a0.Name,v0_0,v0_1]) rfl fun a w b_1 s q=>?_
 refine za q rfl fun a q=>zn<|zq<|zq ?_
 refine wp_mid (fun a w=>∃ (x_8 : Bool),ref05_One.j0 a0 x_8 = some r ∧ Kn 70 a [(1,.pointer (some ⟨b_1,0,none⟩)),(32,.bool x_8)] ∧ St [] w0 w (fun _=>none) [.cells b_1 [.string a0.Name,v0_0,v0_1] 49]) ?_ ?_
 refine zr<|zl q (r_fieldAddr underlying49 rfl sizeOf9 q rfl) fun a q=>zl q (r_load isAgg9 q rfl (s.cell z0 rfl)) fun a q=>?_
 obtain ⟨y_10,h_11,H⟩:=bs H
 refine sl_callV call94 s q (by decide) rfl rfl rfl (ref05_Word.calls a0.Name h_11 _) fun a w s q=>?_
 refine zl q (r_un q rfl (u_not _)) fun a q=>zm q rfl fun a q=>?_
 rcases or_b (!y_10) with hb_12 | hb_12
 rw [ifb_t hb_12] at H
 refine zsw q (wft hb_12) fun a q=>zsw q (wft hb_12) fun a q=>zsw q (wft hb_12) fun a q=>zsw q (wft hb_12) fun a q=>zl q (r_pick_t hb_12 q rfl rfl) fun a q=>zm q rfl fun a q=>zs q fun a q=>zs q fun a q=>zs q fun a q=>zs q fun a q=>zl q (r_pick q rfl rfl rfl) fun a q=>zm q rfl fun a q=>zs q fun a q=>zs q fun a q=>zs q fun a q=>zs q fun a q=>zl q (r_pick q rfl rfl rfl) fun a q=>zm q rfl fun a q=>zs q fun a q=>zs q fun a q=>zs q fun a q=>zs q fun a q=>zl q (r_pick q rfl rfl rfl) fun a q=>zn ?_
 exact ⟨true,H,q.sub (zc (zc zz)),s⟩
 rw [ifb_f hb_12] at H
 refine zw q (wff hb_12) (r_fieldAddr underlying49 rfl sizeOf38 q rfl) fun a q=>zw q (wff hb_12) (r_load isAgg38 q rfl (s.cell z0 rfl)) fun a q=>zw q (wff hb_12) (r_len_R underlying38 h0_0 q rfl) fun a q=>zw q (wff hb_12) (r_ibin q rfl rfl rfl) fun a q=>zl q (r_pick_f hb_12 q rfl rfl) fun a q=>zm q rfl fun a q=>?_
 rcases or_b (decide ((a0.Keys.length : Int) < 1)) with hb_13 | hb_13
 rw [ifb_t hb_13] at H
 refine zsw q (wft hb_13) fun a q=>zsw q (wft hb_13) fun a q=>zsw q (wft hb_13) fun a q=>zsw q (wft hb_13) fun a q=>zl q (r_pick_t hb_13 q rfl rfl) fun a q=>zm q rfl fun a q=>zs q fun a q=>zs q fun a q=>zs q fun a q=>zs q fun a q=>zl q (r_pick q rfl rfl rfl) fun a q=>zm q rfl fun a q=>zs q fun a q=>zs q fun a q=>zs q fun a q=>zs q fun a q=>zl q (r_pick q rfl rfl rfl) fun a q=>zn ?_
 exact ⟨true,H,q.sub (zc (zc zz)),s⟩
 rw [ifb_f hb_13] at H
 refine zw q (wff hb_13) (r_fieldAddr underlying49 rfl sizeOf38 q rfl) fun a q=>zw q (wff hb_13) (r_load isAgg38 q rfl (s.cell z0 rfl)) fun a q=>zw q (wff hb_13) (r_len_R underlying38 h0_0 q rfl) fun a q=>zw q (wff hb_13) (r_ibin q rfl rfl rfl) fun a q=>zl q (r_pick_f hb_13 q rfl rfl) fun a q=>zm q rfl fun a q=>?_
 rcases or_b (decide ((a0.Keys.length : Int) > 4)) with hb_14 | hb_14
 rw [ifb_t hb_14] at H
 refine zsw q (wft hb_14) fun a q=>zsw q (wft hb_14) fun a q=>zsw q (wft hb_14) fun a q=>zsw q (wft hb_14) fun a q=>zl q (r_pick_t hb_14 q rfl rfl) fun a q=>zm q rfl fun a q=>zs q fun a q=>zs q fun a q=>zs q fun a q=>zs q fun a q=>zl q (r_pick q rfl rfl rfl) fun a q=>zn ?_
 exact ⟨true,H,q.sub (zc (zc zz)),s⟩
 rw [ifb_f hb_14] at H
 refine zw q (wff hb_14) (r_fieldAddr underlying49 rfl sizeOf38 q rfl) fun a q=>zw q (wff hb_14) (r_load isAgg38 q rfl (s.cell z0 rfl)) fun a q=>zw q (wff hb_14) (r_len_R underlying38 h0_1 q rfl) fun a q=>zw q (wff hb_14) (r_ibin q rfl rfl rfl) fun a q=>zl q (r_pick_f hb_14 q rfl rfl) fun a q=>zm q rfl fun a q=>?_
 rcases or_b (decide ((a0.Vals.length : Int) < 1)) with hb_15 | hb_15
 rw [ifb_t hb_15] at H
 refine zsw q (wft hb_15) fun a q=>zsw q (wft hb_15) fun a q=>zsw q (wft hb_15) fun a q=>zsw q (wft hb_15) fun a q=>zl q (r_pick_t hb_15 q rfl rfl) fun a q=>zn ?_
 exact ⟨true,H,q.sub (zc (zc zz)),s⟩
 rw [ifb_f hb_15] at H
 refine zw q (wff hb_15) (r_fieldAddr underlying49 rfl sizeOf38 q rfl) fun a q=>zw q (wff hb_15) (r_load isAgg38 q rfl (s.cell z0 rfl)) fun a q=>zw q (wff hb_15) (r_len_R underlying38 h0_1 q rfl) fun a q=>zw q (wff hb_15) (r_ibin q rfl rfl rfl) fun a q=>zl q (r_pick_f hb_15 q rfl rfl) fun a q=>zn ?_
 exact ⟨(decide ((a0.Vals.length : Int) > 4)),H,q.sub (zc (zc zz)),s⟩
 rintro a w ⟨x_8,H,q,s⟩
 unfold ref05_One.j0 at H
 refine wp_cond_split (q.ev rfl) (fun (hb_16 : x_8 = true)=>?_) fun hb_16=>?_
 rw [ifb_t hb_16] at H
 refine zq<|zr<|za q rfl fun a q=>zn ?_
 obtain rfl:=Option.some.inj H
 refine wp_ret ?_
 repeat first | refine zt ?_ | refine zb ?_ | refine zo ?_
 exact ret_1 results65 q (rv_tmp q rfl) ⟨rfl,s.bel⟩
 rw [ifb_f hb_16] at H
 refine wp_skip<|zq ?_
 refine parT_region (C:=fun w=>St [] w0 w (fun _=>none) [.cells b_1 [.string a0.Name,v0_0,v0_1] 49]) 6 [(1,true),(2,true),(4,true),(5,true),(0,false),(3,false)] mixed (by kernel_rfl) s (fun w s=>s) fun w s=>?_
 refine zp rfl q (fun w s=>r_fieldAddr underlying49 rfl sizeOf38 q rfl) fun a q=>zp rfl q (fun w s=>r_load isAgg38 q rfl (s.cell z0 rfl)) fun a q=>zp rfl q (fun w s=>r_fieldAddr underlying49 rfl sizeOf38 q rfl) fun a q=>zp rfl q (fun w s=>r_load isAgg38 q rfl (s.cell z0 rfl)) fun a q=>?_
 refine spw (k:=0) rfl rfl s ?_
 refine sl_buildSliceC (zc:=[.string (⟨#[]⟩ : ByteArray),I6 0]) (zs:=[]) (ps:=[]) (c:=[]) underlying38 sizeOf65 zeroValue65 rfl pc_nil rfl rfl (by decide) (by kernel_rfl) rfl s q (by decide) rfl fun a w b_32 s q=>?_
 refine parK_nil (s.pk1.trunc 1) ?_
 refine spw (k:=3) rfl rfl (s.pk1.trunc 1) ?_
 obtain ⟨y_35,h_36,H⟩:=bs H
 have s:=s.row_lit (size:=2) (m:=0) rfl (by decide)
 have hq_34 : Reps ty_api_Col (fun _=>none) [] ([] : List api_Col):=(Reps.nil _ _)
 refine sl_append_A elT38 (by decide) rfl (fun _ _ _ _ h=>h) (s.ra hRA nil_not) hq_34 rfl h0_0 h_36 s q (by decide) rfl rfl rfl fun a w v_37 cs_38 hq_39 s q=>?_
 refine parK_nil (s.pk1.trunc 1) ?_
 refine thenL_nil ?_
 obtain ⟨y_41,h_42,H⟩:=bs H
 refine sl_append_A elT38 (by decide) rfl (fun _ _ _ _ h=>h) (s.ra hRA nil_not) hq_39 rfl h0_1 h_42 s q (by decide) rfl rfl rfl fun a w v_43 cs_44 hq_45 s q=>?_
 refine za q rfl fun a q=>?_
 refine wpList_nil (NoP_nil ?_)
 refine zq<|zq<|zr<|za q rfl fun a q=>zn ?_
 refine wp_block ?_
 refine wp_loop_k (fun k_l1 a w=>∃ (x_92 : Int),ref05_One.l1 a0 y_41 k_l1 x_92 = some r ∧ Kn 70 a [(1,.pointer (some ⟨b_1,0,none⟩)),(3,v_43),(4,I6 x_92)] ∧ St [] w0 w (fun _=>none) [.cells b_1 [.string a0.Name,v0_0,v0_1] 49,.row 65 2 v_43 y_41.length cs_44]) (((y_41.length : Int) - 0).toNat + 1) ?_ ?_
 have s:=s.pk1
 exact ⟨0,H,q.sub (zc (zc (zc zz))),s⟩
 rintro k_l1 a w ⟨x_92,H,q,s⟩
 rcases k_l1 with _ | k_l1
 cases H
 rw [ref05_One.l1.eq_2] at H
 refine zq<|zq<|zr<|zm q rfl fun a q=>zm q rfl fun a q=>zl q (r_len_O underlying38 s z1 q rfl) fun a q=>zl q (r_ibin q rfl rfl rfl) fun a q=>zn ?_
 refine wp_cond_split (q.ev rfl) (fun (hb_138 : (decide (x_92 < (y_41.length : Int))) = true)=>?_) fun hb_138=>?_
 rw [ifb_t hb_138] at H
 refine wp_skip<|zq ?_
 refine wp_block ?_
 refine zq ?_
 refine wp_mid (fun a w=>∃ (x_159 : Bool),ref05_One.j2 (ref05_One.l1 a0 y_41 k_l1) y_41 x_92 x_159 = some r ∧ Kn 70 a [(1,.pointer (some ⟨b_1,0,none⟩)),(3,v_43),(4,I6 x_92),(67,.bool x_159)] ∧ St [] w0 w (fun _=>none) [.cells b_1 [.string a0.Name,v0_0,v0_1] 49,.row 65 2 v_43 y_41.length cs_44]) ?_ ?_
 refine zr<|zm q rfl fun a q=>zm q rfl fun a q=>?_
 obtain ⟨y_161,h_162,H⟩:=bs H
 obtain ⟨b_164,c_165,cs_166,hv_163,hr_167,hc_168,h_1620,h_1621⟩:=s.row_ix z1 hq_45 rfl rfl h_162
 subst hr_167
 refine zl q (r_indexAddr_R underlying38 sizeOf65 hv_163 h_1620 h_1621 q rfl rfl) fun a q=>zl q (r_fieldAddr underlying65 rfl sizeOf9 q rfl) fun a q=>zl q (r_load isAgg9 q rfl (by have h_:=s.row_cell z1 hv_163 (hc_168 0 _ rfl); simpa [Nat.add_assoc] using h_)) fun a q=>?_
 obtain ⟨y_169,h_170,H⟩:=bs H
 refine sl_callV call94 s q (by decide) rfl rfl rfl (ref05_Word.calls y_161.Name h_170 _) fun a w s q=>?_
 refine zl q (r_un q rfl (u_not _)) fun a q=>zm q rfl fun a q=>?_
 rcases or_b (!y_169) with hb_171 | hb_171
 rw [ifb_t hb_171] at H
 refine zsw q (wft hb_171) fun a q=>zsw q (wft hb_171) fun a q=>zsw q (wft hb_171) fun a q=>zsw q (wft hb_171) fun a q=>zsw q (wft hb_171) fun a q=>zsw q (wft hb_171) fun a q=>zs q fun a q=>zs q fun a q=>zs q fun a q=>zs q fun a q=>zs q fun a q=>zs q fun a q=>zsw q (wft hb_171) fun a q=>zl q (r_pick_t hb_171 q rfl rfl) fun a q=>zn ?_
 have s:=s.pk1
 have s:=s.pk1
 exact ⟨true,H,q.sub (zc (zc (zc (zc zz)))),s⟩
 rw [ifb_f hb_171] at H
 refine zw q (wff hb_171) (r_move q rfl) fun a q=>zw q (wff hb_171) (r_fieldAddr underlying49 rfl sizeOf38 q rfl) fun a q=>zw q (wff hb_171) (r_load isAgg38 q rfl (s.cell z0 rfl)) fun a q=>zw q (wff hb_171) (r_len_R underlying38 h0_0 q rfl) fun a q=>zw q (wff hb_171) (r_ibin q rfl rfl rfl) fun a q=>zw q (wff hb_171) (r_move q rfl) fun a q=>?_
 rcases or_b (decide (x_92 < (a0.Keys.length : Int))) with hb_172 | hb_172
 rw [ifb_t hb_172] at H
 refine zw q (wtt hb_172) (r_move q rfl) fun a q=>zw q (wtt hb_172) (r_move q rfl) fun a q=>?_
 obtain ⟨y_173,h_174,H⟩:=bs H
 obtain ⟨b_176,c_177,cs_178,hv_175,hr_179,hc_180,h_1740,h_1741⟩:=s.row_ix z1 hq_45 rfl rfl h_174
 subst hr_179
 refine zw q (wtt hb_172) (r_indexAddr_R underlying38 sizeOf65 hv_175 h_1740 h_1741 q rfl rfl) fun a q=>zw q (wtt hb_172) (r_fieldAddr underlying65 rfl sizeOf3 q rfl) fun a q=>zw q (wtt hb_172) (r_load isAgg3 q rfl (by have h_:=s.row_cell z1 hv_175 (hc_180 1 _ rfl); simpa [Nat.add_assoc] using h_)) fun a q=>?_
 refine zw q (wtt hb_172) (r_ibin q rfl rfl rfl) fun a q=>zw q (wff hb_171) (r_pick_t hb_172 q rfl rfl) fun a q=>zl q (r_pick_f hb_171 q rfl rfl) fun a q=>zn ?_
 have s:=s.pk1
 have s:=s.pk1
 exact ⟨(y_173.Kind == 4),H,q.sub (zc (zc (zc (zc zz)))),s⟩
 rw [ifb_f hb_172] at H
 refine zsw q (wtf hb_172) fun a q=>zsw q (wtf hb_172) fun a q=>zsw q (wtf hb_172) fun a q=>zsw q (wtf hb_172) fun a q=>zsw q (wtf hb_172) fun a q=>zsw q (wtf hb_172) fun a q=>zw q (wff hb_171) (r_pick_f hb_172 q rfl rfl) fun a q=>zl q (r_pick_f hb_171 q rfl rfl) fun a q=>zn ?_
 have s:=s.pk1
 have s:=s.pk1
 exact ⟨false,H,q.sub (zc (zc (zc (zc zz)))),s⟩
 rintro a w ⟨x_159,H,q,s⟩
 unfold ref05_One.j2 at H
 refine wp_cond_split (q.ev rfl) (fun (hb_181 : x_159 = true)=>?_) fun hb_181=>?_
 rw [ifb_t hb_181] at H
 refine zq<|zr<|za q rfl fun a q=>zn ?_
 obtain rfl:=Option.some.inj H
 refine wp_ret ?_
 repeat first | refine zt ?_ | refine zb ?_ | refine zo ?_
 exact ret_1 results65 q (rv_tmp q rfl) ⟨rfl,s.bel⟩
 rw [ifb_f hb_181] at H
 refine wp_skip<|zr<|zm q rfl fun a q=>zl q (r_ibin q rfl rfl rfl) fun a q=>za q rfl fun a q=>zn ?_
 have s:=s.pk1
 have s:=s.pk1
 exact ⟨_,Nat.lt_succ_self _,(IntKind.i64.wrap (x_92 + 1)),H,q.sub (zc (zc (zc zz))),s⟩
 rw [ifb_f hb_138] at H
 refine wp_exit ?_
 refine zq<|zr<|zm q rfl fun a q=>?_
 obtain ⟨y_182,h_183,H⟩:=bs H
 refine sl_callV call62 s q (by decide) rfl rfl rfl (ref02_Cols.calls y_41 (lentOf_sub [] _) (s.lend_row0 z1 hq_45 rfl rfl) h_183) fun a w s q=>?_
 refine za q rfl fun a q=>zn ?_
 obtain rfl:=Option.some.inj H
 refine wp_ret ?_
 repeat first | refine zt ?_ | refine zb ?_ | refine zo ?_
 exact ret_1 results65 q (rv_tmp q rfl) ⟨rfl,s.bel⟩
theorem ref05_Check.calls (a0 : List api_Schema) {w0 : World} {RA : Hp} {v0_0 : Value} (hRA : RA.sub w0) (h0_0 : SlR ty_api_Schema RA v0_0 a0) {r : Int} (H : ref05_Check a0 = some r) : CallsV prog 40 #[v0_0] w0 (I6 r):=by
 unfold ref05_Check at H
 refine enter (args:=[v0_0]) func40 rfl ntmps40 rfl fun a q=>?_
 have s:=St.init (R:=fun _=>none) (w:=w0) (fun _ _ h=>by cases h)
 have hRL:=RLe.refl (M:=[]) w0 (fun _=>none)
 refine zq<|zr<|za q rfl fun a q=>zn<|zq<|zq ?_
 refine wp_mid (fun a w=>∃ (x_2 : Bool),ref05_Check.j0 a0 x_2 = some r ∧ Kn 41 a [(0,v0_0),(12,.bool x_2)] ∧ St [] w0 w (fun _=>none) []) ?_ ?_
 refine zr<|zm q rfl fun a q=>zl q (r_len_R underlying28 h0_0 q rfl) fun a q=>zl q (r_ibin q rfl rfl rfl) fun a q=>zm q rfl fun a q=>?_
 rcases or_b (decide ((a0.length : Int) < 1)) with hb_4 | hb_4
 rw [ifb_t hb_4] at H
 refine zsw q (wft hb_4) fun a q=>zsw q (wft hb_4) fun a q=>zsw q (wft hb_4) fun a q=>zl q (r_pick_t hb_4 q rfl rfl) fun a q=>zn ?_
 exact ⟨true,H,q.sub (zc (zc zz)),s⟩
 rw [ifb_f hb_4] at H
 refine zw q (wff hb_4) (r_move q rfl) fun a q=>zw q (wff hb_4) (r_len_R underlying28 h0_0 q rfl) fun a q=>zw q (wff hb_4) (r_ibin q rfl rfl rfl) fun a q=>zl q (r_pick_f hb_4 q rfl rfl) fun a q=>zn ?_
 exact ⟨(decide ((a0.length : Int) > 8)),H,q.sub (zc (zc zz)),s⟩
 rintro a w ⟨x_2,H,q,s⟩
 unfold ref05_Check.j0 at H
 refine wp_cond_split (q.ev rfl) (fun (hb_5 : x_2 = true)=>?_) fun hb_5=>?_
 rw [ifb_t hb_5] at H
 refine zq<|zr<|za q rfl fun a q=>zn ?_
 obtain rfl:=Option.some.inj H
 refine wp_ret ?_
 repeat first | refine zt ?_ | refine zb ?_ | refine zo ?_
 exact ret_1 results40 q (rv_tmp q rfl) ⟨rfl,s.bel⟩
 rw [ifb_f hb_5] at H
 refine wp_skip<|zq<|zq<|zr<|za q rfl fun a q=>zn ?_
 refine wp_block ?_
 refine wp_loop_k (fun k_l1 a w=>∃ (x_25 : Int),ref05_Check.l1 a0 k_l1 x_25 = some r ∧ Kn 41 a [(0,v0_0),(3,I6 x_25)] ∧ St [] w0 w (fun _=>none) []) (((a0.length : Int) - 0).toNat + 1) ?_ ?_
 exact ⟨0,H,q.sub (zc (zc zz)),s⟩
 rintro k_l1 a w ⟨x_25,H,q,s⟩
 rcases k_l1 with _ | k_l1
 cases H
 rw [ref05_Check.l1.eq_2] at H
 refine zq<|zq<|zr<|zm q rfl fun a q=>zm q rfl fun a q=>zl q (r_len_R underlying28 h0_0 q rfl) fun a q=>zl q (r_ibin q rfl rfl rfl) fun a q=>zn ?_
 refine wp_cond_split (q.ev rfl) (fun (hb_209 : (decide (x_25 < (a0.length : Int))) = true)=>?_) fun hb_209=>?_
 rw [ifb_t hb_209] at H
 refine wp_skip<|zq ?_
 refine wp_block ?_
 refine zq<|zq<|zr<|zm q rfl fun a q=>zm q rfl fun a q=>?_
 obtain ⟨y_210,h_211,H⟩:=bs H
 obtain ⟨b_212,o_213,c_214,cs_215,hv_216,hr_217,hc_218,h_2110,h_2111⟩:=h0_0.ix h_211
 obtain ⟨v_219,v_221,rfl,hs_220,hs_222⟩:=hr_217
 refine zl q (r_indexAddr_R underlying28 sizeOf49 hv_216 h_2110 h_2111 q rfl rfl) fun a q=>zl q (r_loadA (cs:=[.string y_210.Name,v_219,v_221]) isAgg49 sizeOf49 rfl q rfl (fun j v hv=>(s.ra hRA nil_not).cell (hc_218 j v hv))) fun a q=>?_
 obtain ⟨y_223,h_224,H⟩:=bs H
 refine sl_callV call65 s q (by decide) rfl rfl rfl (ref05_One.calls y_210 (lentOf_sub [] _) (hs_220.mono (s.raLe0 hRA nil_not)) (hs_222.mono (s.raLe0 hRA nil_not)) h_224) fun a w s q=>?_
 refine zl q (r_un q rfl (u_not _)) fun a q=>zn ?_
 refine wp_cond_split (q.ev rfl) (fun (hb_225 : (!y_223) = true)=>?_) fun hb_225=>?_
 rw [ifb_t hb_225] at H
 refine zq<|zr<|za q rfl fun a q=>zn ?_
 obtain rfl:=Option.some.inj H
 refine wp_ret ?_
 repeat first | refine zt ?_ | refine zb ?_ | refine zo ?_
 exact ret_1 results40 q (rv_tmp q rfl) ⟨rfl,s.bel⟩
 rw [ifb_f hb_225] at H
 refine wp_skip<|zq<|zr<|za q rfl fun a q=>zn ?_
 refine wp_block ?_
 refine wp_loop_k (fun k_l2 a w=>∃ (x_281 : Int),ref05_Check.l2 (ref05_Check.l1 a0 k_l1) a0 x_25 k_l2 x_281 = some r ∧ Kn 41 a [(0,v0_0),(3,I6 x_25),(4,I6 x_281)] ∧ St [] w0 w (fun _=>none) []) ((x_25 - 0).toNat + 1) ?_ ?_
 exact ⟨0,H,q.sub (zc (zc (zc zz))),s⟩
 rintro k_l2 a w ⟨x_281,H,q,s⟩
 rcases k_l2 with _ | k_l2
 cases H
 rw [ref05_Check.l2.eq_2] at H
 refine zq<|zq<|zr<|zm q rfl fun a q=>zm q rfl fun a q=>zl q (r_ibin q rfl rfl rfl) fun a q=>zn ?_
 refine wp_cond_split (q.ev rfl) (fun (hb_337 : (decide (x_281 < x_25)) = true)=>?_) fun hb_337=>?_
 rw [ifb_t hb_337] at H
 refine wp_skip<|zq ?_
 refine wp_block ?_
 refine zq ?_
 refine par_region (C:=fun w=>St [] w0 w (fun _=>none) []) [(0,true),(1,true),(2,true),(3,true),(4,true),(5,true),(6,true),(7,true),(8,true),(9,true),(10,true)] mixed (by kernel_rfl) s (fun w s=>s) fun w s=>?_
 refine zp rfl q (fun w s=>r_move q rfl) fun a q=>zp rfl q (fun w s=>r_move q rfl) fun a q=>?_
 obtain ⟨y_364,h_365,H⟩:=bs H
 obtain ⟨b_366,o_367,c_368,cs_369,hv_370,hr_371,hc_372,h_3650,h_3651⟩:=h0_0.ix h_365
 obtain ⟨v_373,v_375,rfl,hs_374,hs_376⟩:=hr_371
 refine zp rfl q (fun w s=>r_indexAddr_R underlying28 sizeOf49 hv_370 h_3650 h_3651 q rfl rfl) fun a q=>zp rfl q (fun w s=>r_fieldAddr underlying49 rfl sizeOf9 q rfl) fun a q=>zp rfl q (fun w s=>r_load isAgg9 q rfl ((s.ra hRA nil_not).cell (hc_372 0 _ rfl))) fun a q=>zp rfl q (fun w s=>r_move q rfl) fun a q=>zp rfl q (fun w s=>r_move q rfl) fun a q=>?_
 obtain ⟨y_377,h_378,H⟩:=bs H
 obtain ⟨b_379,o_380,c_381,cs_382,hv_383,hr_384,hc_385,h_3780,h_3781⟩:=h0_0.ix h_378
 obtain ⟨v_386,v_388,rfl,hs_387,hs_389⟩:=hr_384
 refine zp rfl q (fun w s=>r_indexAddr_R underlying28 sizeOf49 hv_383 h_3780 h_3781 q rfl rfl) fun a q=>zp rfl q (fun w s=>r_fieldAddr underlying49 rfl sizeOf9 q rfl) fun a q=>zp rfl q (fun w s=>r_load isAgg9 q rfl ((s.ra hRA nil_not).cell (hc_385 0 _ rfl))) fun a q=>zp rfl q (fun w s=>r_sbin q rfl rfl rfl) fun a q=>?_
 refine wpPar_nil (NoP_nil ?_)
 refine wp_cond_split (q.ev rfl) (fun (hb_390 : (y_364.Name.toList == y_377.Name.toList) = true)=>?_) fun hb_390=>?_
 rw [ifb_t hb_390] at H
 refine zq<|zr<|za q rfl fun a q=>zn ?_
 obtain rfl:=Option.some.inj H
 refine wp_ret ?_
 repeat first | refine zt ?_ | refine zb ?_ | refine zo ?_
 exact ret_1 results40 q (rv_tmp q rfl) ⟨rfl,s.bel⟩
 rw [ifb_f hb_390] at H
 refine wp_skip<|zr<|zm q rfl fun a q=>zl q (r_ibin q rfl rfl rfl) fun a q=>za q rfl fun a q=>zn ?_
 exact ⟨_,Nat.lt_succ_self _,(IntKind.i64.wrap (x_281 + 1)),H,q.sub (zc (zc (zc zz))),s⟩
 rw [ifb_f hb_337] at H
 refine wp_exit ?_
 refine zr<|zm q rfl fun a q=>zl q (r_ibin q rfl rfl rfl) fun a q=>za q rfl fun a q=>zn ?_
 exact ⟨_,Nat.lt_succ_self _,(IntKind.i64.wrap (x_25 + 1)),H,q.sub (zc (zc zz)),s⟩
 rw [ifb_f hb_209] at H
 refine wp_exit ?_
 refine zq<|zr<|za q rfl fun a q=>zn ?_
 obtain rfl:=Option.some.inj H
 refine wp_ret ?_
 repeat first | refine zt ?_ | refine zb ?_ | refine zo ?_
 exact ret_1 results40 q (rv_tmp q rfl) ⟨rfl,s.bel⟩
theorem ref08_New.calls (a0 : List api_Schema) (a1 : Int) {w0 : World} {R : Hp} {v0_0 : Value} (hR : R.sub w0) (h0_0 : SlR ty_api_Schema R v0_0 a0) {r : (Option catchmentref08_Leaf) × Int} (H : ref08_New a0 a1 = some r) : Calls prog 16 #[v0_0,I6 a1] w0 (Rets fun v w'=>(r.1 = none ∧ ∃ (R' : Hp),v = .tuple #[.pointer none,I6 r.2] ∧ St [] w0 w' R' [] ∧ RLe [] w0 R R') ∨ (∃ (x_ : catchmentref08_Leaf),r.1 = some x_ ∧ ∃ (R' : Hp) (B0 : Nat) (u1 : Value) (u2 : Value) (cu2 : List Value),v = .tuple #[.pointer (some ⟨B0,0,none⟩),I6 r.2] ∧ St [] w0 w' R' [.cells B0 [u1,I6 x_.Room,u2] 60,.row 33 4 u2 x_.L.length cu2] ∧ RLe [] w0 R R' ∧ SlR ty_api_Schema R' u1 x_.S ∧ Reps ty_api_Point R' cu2 x_.L)):=by
 unfold ref08_New at H
 refine enter (args:=[v0_0,I6 a1]) func16 rfl ntmps16 rfl fun a q=>?_
 have s:=St.init hR
 have hRL:=RLe.refl (M:=[]) w0 R
 refine zq<|zr<|za q rfl fun a q=>za q rfl fun a q=>zn<|zq<|zr<|zm q rfl fun a q=>?_
 obtain ⟨y_1,h_2,H⟩:=bs H
 refine sl_callV call40 s q (by decide) rfl rfl rfl (ref05_Check.calls a0 (lentOf_sub [] _) (h0_0.mono s.rLe0) h_2) fun a w s q=>?_
 refine za q rfl fun a q=>zn<|zq<|zq<|zr<|zm q rfl fun a q=>zl q (r_ibin q rfl rfl rfl) fun a q=>zn ?_
 refine wp_cond_split (q.ev rfl) (fun (hb_3 : (y_1 != 0) = true)=>?_) fun hb_3=>?_
 rw [ifb_t hb_3] at H
 refine zq<|zr<|zm q rfl fun a q=>za q rfl fun a q=>za q rfl fun a q=>zn ?_
 obtain rfl:=Option.some.inj H
 refine wp_ret ?_
 repeat first | refine zt ?_ | refine zb ?_ | refine zo ?_
 exact ret_2 results16 q (rv_tmp q rfl) (rv_tmp q rfl) ⟨_,rfl,Or.inl ⟨rfl,_,rfl,s,hRL⟩⟩
 rw [ifb_f hb_3] at H
 refine wp_skip<|zq<|zr<|zm q rfl fun a q=>zm q rfl fun a q=>zl q (r_buildC (ps:=[(0,v0_0),(1,I6 a1)]) (c:=[v0_0,I6 a1,.slice none 0 0]) underlying60 zeroValue60 places60 q rfl (pc_cons (cells1 h0_0.one) (pc_cons rfl pc_nil)) rfl rfl) fun a q=>?_
 refine sl_box s q (by decide) rfl rfl (c:=[v0_0,I6 a1,.slice none 0 0]) rfl fun a w b_4 s q=>?_
 refine za q rfl fun a q=>za q rfl fun a q=>zn ?_
 have s:=s.row_nil 33 4
 have hq_6 : Reps ty_api_Point R [] ([] : List api_Point):=Reps.nil _ _
 obtain rfl:=Option.some.inj H
 refine wp_ret ?_
 repeat first | refine zt ?_ | refine zb ?_ | refine zo ?_
 exact ret_2 results16 q (rv_tmp q rfl) (rv_tmp q rfl) ⟨_,rfl,Or.inr ⟨_,rfl,_,_,_,_,_,rfl,s.pk1,hRL,h0_0,hq_6⟩⟩
theorem slices_Clone_streams_stream_streams_stream.calls (a0 : List streams_stream) {w0 : World} {R : Hp} {RA : Hp} {v0_0 : Value} (hRA : RA.sub w0) (hR : R.sub w0) (h0_0 : SlB ty_streams_stream RA R v0_0 a0) {r : List streams_stream} (H : slices_Clone_streams_stream_streams_stream a0 = some r) : Calls prog 66 #[v0_0] w0 (Rets fun v w'=>∃ (R' : Hp) (u0 : Value) (cu0 : List Value),v = u0 ∧ St [] w0 w' R' [.row 113 2 u0 r.length cu0] ∧ RLe [] w0 R R' ∧ Reps ty_streams_stream R' cu0 r):=by
 unfold slices_Clone_streams_stream_streams_stream at H
 rcases SlB.nilcase h0_0 with ⟨hn,hx⟩ | ⟨ad_,m_,c_,hn⟩
 subst hx
 have H : some ([] : List streams_stream) = some r:=by simpa [apd] using H
 refine enter (args:=[v0_0]) func66 rfl ntmps66 rfl fun a q=>?_
 have s:=St.init hR
 have hRL:=RLe.refl (M:=[]) w0 R
 refine zq<|zr<|za q rfl fun a q=>zn<|zq<|zq<|zr<|zm q rfl fun a q=>zl q (r_sleqN underlying100 hn q rfl rfl) fun a q=>zn ?_
 refine wp_cond_true (q.ev rfl) ?_
 refine zq<|zr<|za q rfl fun a q=>zn ?_
 have s:=s.row_nil 113 2
 have hq_11 : Reps ty_streams_stream R [] ([] : List streams_stream):=Reps.nil _ _
 obtain rfl:=Option.some.inj H
 refine wp_ret ?_
 repeat first | refine zt ?_ | refine zb ?_ | refine zo ?_
 exact ret_1 results66 q (rv_tmp q rfl) ⟨_,rfl,_,_,_,rfl,s,hRL,hq_11⟩
 refine enter (args:=[v0_0]) func66 rfl ntmps66 rfl fun a q=>?_
 have s:=St.init hR
 have hRL:=RLe.refl (M:=[]) w0 R
 refine zq<|zr<|za q rfl fun a q=>zn<|zq<|zq<|zr<|zm q rfl fun a q=>zl q (r_sleqS underlying100 hn q rfl rfl) fun a q=>zn ?_
 refine wp_cond_false (q.ev rfl) ?_
 refine wp_skip<|zq<|zr ?_
 refine sl_buildSliceC (zc:=[.string (⟨#[]⟩ : ByteArray),.slice none 0 0]) (zs:=[]) (ps:=[]) (c:=[]) underlying100 sizeOf113 zeroValue113 rfl pc_nil rfl rfl (by decide) (by kernel_rfl) rfl s q (by decide) rfl fun a w b_1 s q=>?_
 refine zm q rfl fun a q=>?_
 obtain ⟨y_4,h_5,H⟩:=bs H
 have s:=s.row_lit (size:=2) (m:=0) rfl (by decide)
 have hq_3 : Reps ty_streams_stream R [] ([] : List streams_stream):=(Reps.nil _ _)
 refine sl_append_B elT100 (by decide) rfl (s.ra hRA nil_not) hq_3 rfl (h0_0.monoR (Hp.le.refl _)) h_5 s q (by decide) rfl rfl rfl fun a w v_6 cs_7 hq_8 s q=>?_
 refine za q rfl fun a q=>zn ?_
 obtain rfl:=Option.some.inj H
 refine wp_ret ?_
 repeat first | refine zt ?_ | refine zb ?_ | refine zo ?_
 exact ret_1 results66 q (rv_tmp q rfl) ⟨_,rfl,_,_,_,rfl,s,hRL,hq_8⟩
theorem maps_Clone_map_string_int_string_int.calls (a0 : List (ByteArray × Int)) {w0 : World} {R : Hp} {RA : Hp} {mb0_0 : Nat} (hRA : RA.sub w0) (hR : R.sub w0) (h0_0 : MpR RA mb0_0 (kvs Value.string (Value.int .i64) a0)) {r : List (ByteArray × Int)} (H : maps_Clone_map_string_int_string_int a0 = some r) : Calls prog 67 #[.map (some mb0_0)] w0 (Rets fun v w'=>∃ (R' : Hp) (B0 : Nat),v = .map (some B0) ∧ St [] w0 w' R' [.mp B0 (kvs Value.string (Value.int .i64) r)] ∧ RLe [] w0 R R'):=by
 unfold maps_Clone_map_string_int_string_int at H
 refine enter (args:=[.map (some mb0_0)]) func67 rfl ntmps67 rfl fun a q=>?_
 have s:=St.init hR
 have hRL:=RLe.refl (M:=[]) w0 R
 refine zq<|zr<|za q rfl fun a q=>zn<|zq<|zq<|zr<|zm q rfl fun a q=>zl q (r_meq underlying99 q rfl rfl) fun a q=>zn ?_
 refine wp_cond_false (q.ev rfl) ?_
 refine wp_skip<|zq<|zr<|zm q rfl fun a q=>zl q (r_mkifaceM underlying99 q rfl) fun a q=>?_
 refine sl_mapsClone func95 (by kernel_rfl) (by kernel_rfl) (by kernel_rfl) (by kernel_rfl) h0_0 (s.ra hRA nil_not) s q (by decide) rfl rfl rfl fun a w mb_1 s q=>?_
 refine zl q (r_tassertM underlying99 q rfl) fun a q=>za q rfl fun a q=>zn ?_
 obtain rfl:=Option.some.inj H
 refine wp_ret ?_
 repeat first | refine zt ?_ | refine zb ?_ | refine zo ?_
 exact ret_1 results67 q (rv_tmp q rfl) ⟨_,rfl,_,_,rfl,s,hRL⟩
theorem streams_Dict_Clone.calls (a0 : streams_Dict) {w0 : World} {R : Hp} {RA : Hp} {b0 : Nat} {o0 : Nat} {v0_0 : Value} {mb0_1 : Nat} (hRA : RA.sub w0) (hR : R.sub w0) (hc0 : ∀ j u,([I6 a0.most,v0_0,.map (some mb0_1)] : List Value)[j]? = some u → RA.cell b0 (o0 + j) = some u) (h0_0 : SlB ty_streams_stream RA R v0_0 a0.l) (h0_1 : MpR RA mb0_1 (kvs Value.string (Value.int .i64) a0.ids)) {r : streams_Dict} (H : streams_Dict_Clone a0 = some r) : Calls prog 41 #[.pointer (some ⟨b0,o0,none⟩)] w0 (Rets fun v w'=>∃ (R' : Hp) (B0 : Nat) (u1 : Value) (cu1 : List Value) (B2 : Nat),v = .pointer (some ⟨B0,0,none⟩) ∧ St [] w0 w' R' [.cells B0 [I6 r.most,u1,.map (some B2)] 102,.row 113 2 u1 r.l.length cu1,.mp B2 (kvs Value.string (Value.int .i64) r.ids)] ∧ RLe [] w0 R R' ∧ Reps ty_streams_stream R' cu1 r.l):=by
 unfold streams_Dict_Clone at H
 refine enter (args:=[.pointer (some ⟨b0,o0,none⟩)]) func41 rfl ntmps41 rfl fun a q=>?_
 have s:=St.init hR
 have hRL:=RLe.refl (M:=[]) w0 R
 refine zq<|zr<|za q rfl fun a q=>zn<|zq ?_
 refine parT_region (C:=fun w=>St [] w0 w R []) 14 [(0,true),(1,true),(2,true),(3,true),(4,true),(5,true),(6,true),(7,true),(9,true),(10,true),(11,true),(12,true),(8,false),(13,false)] mixed (by kernel_rfl) s (fun w s=>s) fun w s=>?_
 refine zp rfl q (fun w s=>r_move q rfl) fun a q=>zp rfl q (fun w s=>r_nilCheck q rfl) fun a q=>zp rfl q (fun w s=>r_fieldAddr underlying102 rfl sizeOf3 q rfl) fun a q=>zp rfl q (fun w s=>r_load isAgg3 q rfl ((s.ra hRA nil_not).cell (hc0 0 _ rfl))) fun a q=>zp rfl q (fun w s=>r_move q rfl) fun a q=>zp rfl q (fun w s=>r_nilCheck q rfl) fun a q=>zp rfl q (fun w s=>r_fieldAddr underlying102 rfl sizeOf100 q rfl) fun a q=>zp rfl q (fun w s=>r_load isAgg100 q rfl ((s.ra hRA nil_not).cell (hc0 1 _ rfl))) fun a q=>zp rfl q (fun w s=>r_move q rfl) fun a q=>zp rfl q (fun w s=>r_nilCheck q rfl) fun a q=>zp rfl q (fun w s=>r_fieldAddr underlying102 rfl sizeOf99 q rfl) fun a q=>?_
 refine zp rfl q (fun w s=>r_load isAgg99 q rfl ((s.ra hRA nil_not).cell (hc0 2 _ rfl))) fun a q=>?_
 refine spw (k:=8) rfl rfl s ?_
 obtain ⟨y_16,h_17,H⟩:=bs H
 refine sl_call call66 q (by decide) rfl rfl rfl (slices_Clone_streams_stream_streams_stream.calls a0.l (lentOf_sub [] _) s.sub ((h0_0.monoR (Hp.le.refl _)).monoA (s.raLe0 hRA nil_not)) h_17) fun a v_ w hv_ q=>?_
 obtain ⟨R_18,v_21,cs_22,hv_,hr_,hl_19,hq_23⟩:=hv_
 have hv_:=hv_.symm
 subst hv_
 obtain ⟨s,hl_19⟩:=s.sp0.back hr_ hl_19
 have s:=s.un1
 have hRL:=hRL.trans hl_19
 refine parK_nil ((s.trunc 0).lower hl_19.le) ?_
 refine spw (k:=13) rfl rfl ((s.trunc 0).lower hl_19.le) ?_
 obtain ⟨y_24,h_25,H⟩:=bs H
 refine sl_call call67 q (by decide) rfl rfl rfl (maps_Clone_map_string_int_string_int.calls a0.ids (lentOf_sub [] _) s.sub (h0_1.mono (s.raLe0 hRA nil_not)) h_25) fun a v_ w hv_ q=>?_
 obtain ⟨R_26,mb_28,hv_,hr_,hl_27⟩:=hv_
 have hv_:=hv_.symm
 subst hv_
 obtain ⟨s,hl_27⟩:=s.sp0.back hr_ hl_27
 have s:=s.un1
 have hRL:=hRL.trans hl_27
 refine parK_nil ((s.trunc 0).lower (hl_19.le.trans hl_27.le)) ?_
 refine thenL_nil ?_
 have ho_29:=s.row_one z1
 refine zl q (r_buildC (ps:=[(0,I6 a0.most),(1,v_21),(2,.map (some mb_28))]) (c:=[I6 a0.most,v_21,.map (some mb_28)]) underlying102 zeroValue102 places102 q rfl (pc_cons rfl (pc_cons (cells1 ho_29) (pc_cons rfl pc_nil))) rfl rfl) fun a q=>?_
 refine sl_box s q (by decide) rfl rfl (c:=[I6 a0.most,v_21,.map (some mb_28)]) rfl fun a w b_30 s q=>?_
 refine za q rfl fun a q=>?_
 refine wpList_nil (NoP_nil ?_)
 obtain rfl:=Option.some.inj H
 refine wp_ret ?_
 repeat first | refine zt ?_ | refine zb ?_ | refine zo ?_
 exact ret_1 results41 q (rv_tmp q rfl) ⟨_,rfl,_,_,_,_,_,rfl,s.pk1.pk2.pk2,hRL,(hq_23.mono hl_27.le)⟩
theorem slices_Clone_api_Sample_api_Sample.calls (a0 : List api_Sample) {w0 : World} {R : Hp} {RA : Hp} {v0_0 : Value} (hRA : RA.sub w0) (hR : R.sub w0) (h0_0 : SlB ty_api_Sample RA R v0_0 a0) {r : List api_Sample} (H : slices_Clone_api_Sample_api_Sample a0 = some r) : Calls prog 68 #[v0_0] w0 (Rets fun v w'=>∃ (R' : Hp) (u0 : Value) (cu0 : List Value),v = u0 ∧ St [] w0 w' R' [.row 90 2 u0 r.length cu0] ∧ RLe [] w0 R R' ∧ Reps ty_api_Sample R' cu0 r):=by
 unfold slices_Clone_api_Sample_api_Sample at H
 rcases SlB.nilcase h0_0 with ⟨hn,hx⟩ | ⟨ad_,m_,c_,hn⟩
 subst hx
 have H : some ([] : List api_Sample) = some r:=by simpa [apd] using H
 refine enter (args:=[v0_0]) func68 rfl ntmps68 rfl fun a q=>?_
 have s:=St.init hR
 have hRL:=RLe.refl (M:=[]) w0 R
 refine zq<|zr<|za q rfl fun a q=>zn<|zq<|zq<|zr<|zm q rfl fun a q=>zl q (r_sleqN underlying87 hn q rfl rfl) fun a q=>zn ?_
 refine wp_cond_true (q.ev rfl) ?_
 refine zq<|zr<|za q rfl fun a q=>zn ?_
 have s:=s.row_nil 90 2
 have hq_11 : Reps ty_api_Sample R [] ([] : List api_Sample):=Reps.nil _ _
 obtain rfl:=Option.some.inj H
 refine wp_ret ?_
 repeat first | refine zt ?_ | refine zb ?_ | refine zo ?_
 exact ret_1 results68 q (rv_tmp q rfl) ⟨_,rfl,_,_,_,rfl,s,hRL,hq_11⟩
 refine enter (args:=[v0_0]) func68 rfl ntmps68 rfl fun a q=>?_
 have s:=St.init hR
 have hRL:=RLe.refl (M:=[]) w0 R
 refine zq<|zr<|za q rfl fun a q=>zn<|zq<|zq<|zr<|zm q rfl fun a q=>zl q (r_sleqS underlying87 hn q rfl rfl) fun a q=>zn ?_
 refine wp_cond_false (q.ev rfl) ?_
 refine wp_skip<|zq<|zr ?_
 refine sl_buildSliceC (zc:=[I6 0,.slice none 0 0]) (zs:=[]) (ps:=[]) (c:=[]) underlying87 sizeOf90 zeroValue90 rfl pc_nil rfl rfl (by decide) (by kernel_rfl) rfl s q (by decide) rfl fun a w b_1 s q=>?_
 refine zm q rfl fun a q=>?_
 obtain ⟨y_4,h_5,H⟩:=bs H
 have s:=s.row_lit (size:=2) (m:=0) rfl (by decide)
 have hq_3 : Reps ty_api_Sample R [] ([] : List api_Sample):=(Reps.nil _ _)
 refine sl_append_B elT87 (by decide) rfl (s.ra hRA nil_not) hq_3 rfl (h0_0.monoR (Hp.le.refl _)) h_5 s q (by decide) rfl rfl rfl fun a w v_6 cs_7 hq_8 s q=>?_
 refine za q rfl fun a q=>zn ?_
 obtain rfl:=Option.some.inj H
 refine wp_ret ?_
 repeat first | refine zt ?_ | refine zb ?_ | refine zo ?_
 exact ret_1 results68 q (rv_tmp q rfl) ⟨_,rfl,_,_,_,rfl,s,hRL,hq_8⟩
theorem runs_Run_Clone.calls (a0 : runs_Run) {w0 : World} {R : Hp} {RA : Hp} {b0 : Nat} {o0 : Nat} {v0_0 : Value} (hRA : RA.sub w0) (hR : R.sub w0) (hc0 : ∀ j u,([v0_0] : List Value)[j]? = some u → RA.cell b0 (o0 + j) = some u) (h0_0 : SlB ty_api_Sample RA R v0_0 a0.l) {r : runs_Run} (H : runs_Run_Clone a0 = some r) : Calls prog 42 #[.pointer (some ⟨b0,o0,none⟩)] w0 (Rets fun v w'=>∃ (R' : Hp) (B0 : Nat) (u1 : Value) (cu1 : List Value),v = .pointer (some ⟨B0,0,none⟩) ∧ St [] w0 w' R' [.cells B0 [u1] 111,.row 90 2 u1 r.l.length cu1] ∧ RLe [] w0 R R' ∧ Reps ty_api_Sample R' cu1 r.l):=by
 unfold runs_Run_Clone at H
 refine enter (args:=[.pointer (some ⟨b0,o0,none⟩)]) func42 rfl ntmps42 rfl fun a q=>?_
 have s:=St.init hR
 have hRL:=RLe.refl (M:=[]) w0 R
 refine zq<|zr<|za q rfl fun a q=>zn<|zq<|zr<|zm q rfl fun a q=>zl q (r_nilCheck q rfl) fun a q=>zl q (r_fieldAddr underlying111 rfl sizeOf87 q rfl) fun a q=>zl q (r_load isAgg87 q rfl ((s.ra hRA nil_not).cell (hc0 0 _ rfl))) fun a q=>?_
 obtain ⟨y_1,h_2,H⟩:=bs H
 refine sl_call call68 q (by decide) rfl rfl rfl (slices_Clone_api_Sample_api_Sample.calls a0.l (lentOf_sub [] _) s.sub ((h0_0.monoR (Hp.le.refl _)).monoA (s.raLe0 hRA nil_not)) h_2) fun a v_ w hv_ q=>?_
 obtain ⟨R_3,v_6,cs_7,hv_,hr_,hl_4,hq_8⟩:=hv_
 have hv_:=hv_.symm
 subst hv_
 obtain ⟨s,hl_4⟩:=s.sp0.back hr_ hl_4
 have s:=s.un1
 have hRL:=hRL.trans hl_4
 have ho_9:=s.row_one z0
 refine zl q (r_buildC (ps:=[(0,v_6)]) (c:=[v_6]) underlying111 zeroValue111 places111 q rfl (pc_cons (cells1 ho_9) pc_nil) rfl rfl) fun a q=>?_
 refine sl_box s q (by decide) rfl rfl (c:=[v_6]) rfl fun a w b_10 s q=>?_
 refine za q rfl fun a q=>zn ?_
 obtain rfl:=Option.some.inj H
 refine wp_ret ?_
 repeat first | refine zt ?_ | refine zb ?_ | refine zo ?_
 exact ret_1 results42 q (rv_tmp q rfl) ⟨_,rfl,_,_,_,_,rfl,s,hRL,hq_8⟩
theorem leaf_Leaf_Clone.calls (a0 : leaf_Leaf) {w0 : World} {R : Hp} {M : List Own} {b0 : Nat} {v0_0 : Value} {nb0_1 : Nat} {v0p1_0 : Value} {cs0p1_0 : List Value} {mb0p1_1 : Nat} {mb0_2 : Nat} {E0_2 : List (MB Int)} (hS0 : St M w0 w0 R [.cells b0 [v0_0,I6 a0.room,I6 a0.points,.pointer (some ⟨nb0_1,0,none⟩),.map (some mb0_2)] 70,.cells nb0_1 [I6 a0.dict.most,v0p1_0,.map (some mb0p1_1)] 102,.row 113 2 v0p1_0 a0.dict.l.length cs0p1_0,.mp mb0p1_1 (kvs Value.string (Value.int .i64) a0.dict.ids),mbo mb0_2 (kvs (Value.int .i64) id (mbp E0_2)) 111 90 2 E0_2]) (h0_0 : SlR ty_api_Schema R v0_0 a0.schemas) (h0p1_0 : Reps ty_streams_stream R cs0p1_0 a0.dict.l) (h0_2 : MBel ty_api_Sample runs_Run.l R E0_2 a0.runs) {r : leaf_Leaf × leaf_Leaf} (H : leaf_Leaf_Clone a0 = some r) : Calls prog 17 #[.pointer (some ⟨b0,0,none⟩)] w0 (Rets fun v w'=>∃ (R' : Hp) (B0 : Nat) (u1 : Value) (B2 : Nat) (u3 : Value) (cu3 : List Value) (B4 : Nat) (B5 : Nat) (E5 : List (MB Int)) (u6 : Value) (B7 : Nat) (u8 : Value) (cu8 : List Value) (B9 : Nat) (B10 : Nat) (E10 : List (MB Int)),v = .pointer (some ⟨B0,0,none⟩) ∧ St M w0 w' R' [.cells B0 [u1,I6 r.1.room,I6 r.1.points,.pointer (some ⟨B2,0,none⟩),.map (some B5)] 70,.cells B2 [I6 r.1.dict.most,u3,.map (some B4)] 102,.row 113 2 u3 r.1.dict.l.length cu3,.mp B4 (kvs Value.string (Value.int .i64) r.1.dict.ids),mbo B5 (kvs (Value.int .i64) id (mbp E5)) 111 90 2 E5,.cells b0 [u6,I6 r.2.room,I6 r.2.points,.pointer (some ⟨B7,0,none⟩),.map (some B10)] 70,.cells B7 [I6 r.2.dict.most,u8,.map (some B9)] 102,.row 113 2 u8 r.2.dict.l.length cu8,.mp B9 (kvs Value.string (Value.int .i64) r.2.dict.ids),mbo B10 (kvs (Value.int .i64) id (mbp E10)) 111 90 2 E10] ∧ RLe M w0 R R' ∧ SlR ty_api_Schema R' u1 r.1.schemas ∧ Reps ty_streams_stream R' cu3 r.1.dict.l ∧ MBel ty_api_Sample runs_Run.l R' E5 r.1.runs ∧ SlR ty_api_Schema R' u6 r.2.schemas ∧ Reps ty_streams_stream R' cu8 r.2.dict.l ∧ MBel ty_api_Sample runs_Run.l R' E10 r.2.runs):=by
 unfold leaf_Leaf_Clone at H
 refine enter (args:=[.pointer (some ⟨b0,0,none⟩)]) func17 rfl ntmps17 rfl fun a q=>?_
 have s:=hS0
 have hRL:=RLe.refl (M:=M) w0 R
 refine zq<|zr<|za q rfl fun a q=>zn<|zq<|zr<|zm q rfl fun a q=>zl q (r_nilCheck q rfl) fun a q=>zl q (r_loadA (cs:=[v0_0,I6 a0.room,I6 a0.points,.pointer (some ⟨nb0_1,0,none⟩),.map (some mb0_2)]) isAgg70 sizeOf70 rfl q rfl (s.cells_of (m:=5) z0 rfl)) fun a q=>?_
 refine sl_alloc zeroValue70 s q (by decide) rfl rfl fun a w b_1 s q=>?_
 refine sl_storeA (vs:=[v0_0,I6 a0.room,I6 a0.points,.pointer (some ⟨nb0_1,0,none⟩),.map (some mb0_2)]) (c':=[v0_0,I6 a0.room,I6 a0.points,.pointer (some ⟨nb0_1,0,none⟩),.map (some mb0_2)]) sizeOf70 s q rfl rfl rfl rfl (all_cons h0_0.one (zc (zc (zc (zc zz))))) (Nat.le_of_ble_eq_true rfl) rfl fun a w s q=>?_
 refine zn<|zq<|zr<|zm q rfl fun a q=>zl q (r_nilCheck q rfl) fun a q=>zl q (r_fieldAddr underlying70 rfl sizeOf66 q rfl) fun a q=>zl q (r_load isAgg66 q rfl (s.cell z1 rfl)) fun a q=>?_
 obtain ⟨y_2,h_3,H⟩:=bs H
 refine sl_call call41 q (by decide) rfl rfl rfl (streams_Dict_Clone.calls a0.dict (lentOf_sub [] _) s.sub (s.lend_box0 z2) (s.lend_rowB0 z3 h0p1_0 rfl rfl) (s.lend_map0 z4) h_3) fun a v_ w hv_ q=>?_
 obtain ⟨R_4,b_6,v_8,cs_9,mb_11,hv_,hr_,hl_5,hq_10⟩:=hv_
 have hv_:=hv_.symm
 subst hv_
 obtain ⟨s,hl_5⟩:=s.sp0.back hr_ hl_5
 have s:=s.un3
 have hRL:=hRL.trans hl_5
 refine sl_makeMap s q (by decide) rfl fun a w b_12 s q=>?_
 have s:=St.bmk (κ:=Int) (Value.int .i64) 111 90 2 s
 have hm_13 : MBel ty_api_Sample runs_Run.l R_4 ([] : List (MB Int)) ([] : List (Int × runs_Run)):=MBel.nil
 refine zl q (r_fieldAddr underlying70 rfl sizeOf66 q rfl) fun a q=>?_
 have s:=s.pk4
 refine sl_store1 (c':=[v0_0,I6 a0.room,I6 a0.points,.pointer (some ⟨b_6,0,none⟩),.map (some mb0_2)]) sizeOf66 s q rfl rfl rfl rfl (Nat.le_of_ble_eq_true rfl) rfl fun a w s q=>?_
 refine zl q (r_fieldAddr underlying70 rfl sizeOf68 q rfl) fun a q=>?_
 refine sl_store1 (c':=[v0_0,I6 a0.room,I6 a0.points,.pointer (some ⟨b_6,0,none⟩),.map (some b_12)]) sizeOf68 s q rfl rfl rfl rfl (Nat.le_of_ble_eq_true rfl) rfl fun a w s q=>?_
 refine zn<|zq<|zq<|zr<|zm q rfl fun a q=>zl q (r_nilCheck q rfl) fun a q=>zl q (r_fieldAddr underlying70 rfl sizeOf68 q rfl) fun a q=>zl q (r_load isAgg68 q rfl (s.cell z5 rfl)) fun a q=>?_
 have s:=s.pk9
 obtain ⟨es_14,cl_15,hmk_16,s⟩:=s.mopen
 refine sl_range underlying68 z0 s q (by decide) rfl rfl fun a w it_17 s q=>?_
 refine zn ?_
 rcases or_b (a0.runs.all fun p=>decide (runs_Run_Clone p.2 = some p.2)) with hn_19 | hn_19
 rw [ifb_t hn_19] at H
 refine wp_block ?_
 refine wp_loop_k (fun k_mr a w=>∃ (seen_20 : Array Nat) (acc_21 : List (Int × runs_Run)) (Es_22 : List (MB Int)) (Ed_23 : List (MB Int)) (R_24 : Hp),(leftOf es_14 seen_20).size = k_mr ∧ Acc (Value.int .i64) es_14 seen_20 a0.runs acc_21 ∧ mapOk es_14 cl_15 (kvs (Value.int .i64) id (mbp Es_22)) ∧ RLe M w0 R_4 R_24 ∧ MBel ty_api_Sample runs_Run.l R_24 Es_22 a0.runs ∧ MBel ty_api_Sample runs_Run.l R_24 Ed_23 acc_21 ∧ Kn 32 a [(3,.pointer (some ⟨b_1,0,none⟩)),(21,.pointer (some ⟨it_17,0,none⟩))] ∧ St M w0 w R_24 [.obj it_17 (.mapIter (some mb0_2) cl_15 seen_20 cl_15),.obj mb0_2 (.map es_14 cl_15),.many (mba 111 90 2 Es_22),.cells b_1 [v0_0,I6 a0.room,I6 a0.points,.pointer (some ⟨b_6,0,none⟩),.map (some b_12)] 70,mbo b_12 (kvs (Value.int .i64) id (mbp Ed_23)) 111 90 2 Ed_23,.cells b_6 [I6 y_2.most,v_8,.map (some mb_11)] 102,.row 113 2 v_8 y_2.l.length cs_9,.mp mb_11 (kvs Value.string (Value.int .i64) y_2.ids),.cells b0 [v0_0,I6 a0.room,I6 a0.points,.pointer (some ⟨nb0_1,0,none⟩),.map (some mb0_2)] 70,.cells nb0_1 [I6 a0.dict.most,v0p1_0,.map (some mb0p1_1)] 102,.row 113 2 v0p1_0 a0.dict.l.length cs0p1_0,.mp mb0p1_1 (kvs Value.string (Value.int .i64) a0.dict.ids)]) (leftOf es_14 #[]).size ?_ ?_
 exact ⟨#[],[],_,_,_,rfl,Acc.nil,hmk_16,RLe.refl _ _,(h0_2.mono hl_5.le),hm_13,q.sub (zc (zc zz)),s⟩
 rintro k_mr a w ⟨seen_20,acc_21,Es_22,Ed_23,R_24,hsz_28,hac_29,hmk_30,hl_25,hfS_26,hfD_27,q,s⟩
 have hRL:=hRL.trans hl_25
 refine zq<|zr ?_
 refine sl_next hmk_30.2.1 z0 s q (by decide) rfl rfl (fun a h0_ q=>?_) (fun a w e_ he_ s q=>?_)
 refine zl q (r_extract q rfl rfl) fun a q=>zn<|zq ?_
 refine wp_cond_false (q.ev rfl) ?_
 refine wp_exit ?_
 have hfD_31:=hfD_27.perm (hac_29.done hmk_30 hfS_26 h0_)
 have s:=St.mclose hmk_30 s.tail
 have s : St M w0 w R_24 [mbo mb0_2 (kvs (Value.int .i64) id (mbp Es_22)) 111 90 2 Es_22,.cells b_1 [v0_0,I6 a0.room,I6 a0.points,.pointer (some ⟨b_6,0,none⟩),.map (some b_12)] 70,mbo b_12 (kvs (Value.int .i64) id (mbp Ed_23)) 111 90 2 Ed_23,.cells b_6 [I6 y_2.most,v_8,.map (some mb_11)] 102,.row 113 2 v_8 y_2.l.length cs_9,.mp mb_11 (kvs Value.string (Value.int .i64) y_2.ids),.cells b0 [v0_0,I6 a0.room,I6 a0.points,.pointer (some ⟨nb0_1,0,none⟩),.map (some mb0_2)] 70,.cells nb0_1 [I6 a0.dict.most,v0p1_0,.map (some mb0p1_1)] 102,.row 113 2 v0p1_0 a0.dict.l.length cs0p1_0,.mp mb0p1_1 (kvs Value.string (Value.int .i64) a0.dict.ids)]:=s
 refine zq<|zr<|za q rfl fun a q=>zn ?_
 obtain rfl:=Option.some.inj H
 refine wp_ret ?_
 repeat first | refine zt ?_ | refine zb ?_ | refine zo ?_
 exact ret_1 results17 q (rv_tmp q rfl) ⟨_,rfl,_,_,_,_,_,_,_,_,_,_,_,_,_,_,_,_,rfl,s.pk9.pk9.pk9.pk9.pk6.pk9.pk9.pk9.pk9,hRL,(h0_0.mono (hl_5.le.trans hl_25.le)),(hq_10.mono hl_25.le),hfD_31,(h0_0.mono (hl_5.le.trans hl_25.le)),(h0p1_0.mono (hl_5.le.trans hl_25.le)),hfS_26⟩
 refine zl q (r_extract q rfl rfl) fun a q=>zn<|zq ?_
 refine wp_cond_true (q.ev rfl) ?_
 refine wp_skip ?_
 refine wp_block ?_
 refine zq<|zr ?_
 obtain ⟨ke_32,xx_33,hmx_34,hek_35,hev_36,hac_37⟩:=hac_29.step (fun x y h=>by cases h; rfl) hmk_30 hfS_26 he_
 refine zl q (r_entry hmk_30.2.2 (mem_left he_).1 z1 z0 s q rfl) fun a q=>?_
 rw [hek_35,hev_36] at q
 refine zl q (r_extract q rfl rfl) fun a q=>zl q (r_extract q rfl rfl) fun a q=>za q rfl fun a q=>za q rfl fun a q=>zn ?_
 have s:=s.pk2
 obtain ⟨b_38,v_39,cs_40,s,hq_41,hk_42⟩:=St.xtake hfS_26 hmx_34 s
 rw [bhd_of hk_42] at q
 have s : St M w0 w R_24 [.cells b_38 [v_39] 111,.row 90 2 v_39 xx_33.l.length cs_40,.many (mba 111 90 2 (bdel Es_22 ke_32)),.obj it_17 (.mapIter (some mb0_2) cl_15 (seen_20.push e_.born) cl_15),.obj mb0_2 (.map es_14 cl_15),.cells b_1 [v0_0,I6 a0.room,I6 a0.points,.pointer (some ⟨b_6,0,none⟩),.map (some b_12)] 70,mbo b_12 (kvs (Value.int .i64) id (mbp Ed_23)) 111 90 2 Ed_23,.cells b_6 [I6 y_2.most,v_8,.map (some mb_11)] 102,.row 113 2 v_8 y_2.l.length cs_9,.mp mb_11 (kvs Value.string (Value.int .i64) y_2.ids),.cells b0 [v0_0,I6 a0.room,I6 a0.points,.pointer (some ⟨nb0_1,0,none⟩),.map (some mb0_2)] 70,.cells nb0_1 [I6 a0.dict.most,v0p1_0,.map (some mb0p1_1)] 102,.row 113 2 v0p1_0 a0.dict.l.length cs0p1_0,.mp mb0p1_1 (kvs Value.string (Value.int .i64) a0.dict.ids)]:=s
 have hcl_ : runs_Run_Clone xx_33 = some xx_33:=by simpa using List.all_eq_true.1 hn_19 (ke_32,xx_33) ((mget_some hfS_26.keys.1).1 hmx_34)
 have H : ((runs_Run_Clone xx_33).bind fun y=>some y) = some xx_33:=by rw [hcl_]; rfl
 refine parT_region (C:=fun w=>St M w0 w R_24 [.cells b_38 [v_39] 111,.row 90 2 v_39 xx_33.l.length cs_40,.many (mba 111 90 2 (bdel Es_22 ke_32)),.obj it_17 (.mapIter (some mb0_2) cl_15 (seen_20.push e_.born) cl_15),.obj mb0_2 (.map es_14 cl_15),.cells b_1 [v0_0,I6 a0.room,I6 a0.points,.pointer (some ⟨b_6,0,none⟩),.map (some b_12)] 70,mbo b_12 (kvs (Value.int .i64) id (mbp Ed_23)) 111 90 2 Ed_23,.cells b_6 [I6 y_2.most,v_8,.map (some mb_11)] 102,.row 113 2 v_8 y_2.l.length cs_9,.mp mb_11 (kvs Value.string (Value.int .i64) y_2.ids),.cells b0 [v0_0,I6 a0.room,I6 a0.points,.pointer (some ⟨nb0_1,0,none⟩),.map (some mb0_2)] 70,.cells nb0_1 [I6 a0.dict.most,v0p1_0,.map (some mb0p1_1)] 102,.row 113 2 v0p1_0 a0.dict.l.length cs0p1_0,.mp mb0p1_1 (kvs Value.string (Value.int .i64) a0.dict.ids)]) 5 [(0,true),(1,true),(2,true),(3,true),(4,false)] mixed (by kernel_rfl) s (fun w s=>s) fun w s=>?_
 refine zp rfl q (fun w s=>r_fieldAddr underlying70 rfl sizeOf68 q rfl) fun a q=>zp rfl q (fun w s=>r_load isAgg68 q rfl (s.cell z5 rfl)) fun a q=>zp rfl q (fun w s=>r_move q rfl) fun a q=>zp rfl q (fun w s=>r_move q rfl) fun a q=>?_
 refine spw (k:=4) rfl rfl s ?_
 obtain ⟨y_55,h_56,H⟩:=bs H
 refine sl_call call42 q (by decide) rfl rfl rfl (runs_Run_Clone.calls xx_33 (lentOf_sub [] _) s.sub (s.lend_box0 z0) (s.lend_rowB0 z1 hq_41 rfl rfl) h_56) fun a v_ w hv_ q=>?_
 obtain ⟨R_57,b_59,v_61,cs_62,hv_,hr_,hl_58,hq_63⟩:=hv_
 have hv_:=hv_.symm
 subst hv_
 obtain ⟨s,hl_58⟩:=s.sp0.back hr_ hl_58
 have s:=s.un2
 have hRL:=hRL.trans hl_58
 refine parK_nil ((s.pk15.pk15.pk15.pk15.pk15.pk15.pk15.pk15.pk15.pk15.pk15.pk15.pk15.pk15.trunc 14).lower hl_58.le) ?_
 refine thenL_nil ?_
 have s:=s.pk1
 have s:=s.pk1
 have s:=s.pk8
 have s:=s.bopen
 refine sl_mapUpdate (fv:=id) (m:=mbp Ed_23) (x:=ke_32) (y:=.pointer (some ⟨b_59,0,none⟩)) underlying68 underlying3 (key_int .i64) s q rfl rfl rfl rfl fun a w s q=>?_
 obtain ⟨E_64,s,hm_65⟩:=St.bnew rfl (hfD_27.mono hl_58.le) hq_63 rfl s
 have s : St M w0 w R_57 [mbo b_12 (kvs (Value.int .i64) id (mbp E_64)) 111 90 2 E_64,.cells b_38 [v_39] 111,.row 90 2 v_39 xx_33.l.length cs_40,.many (mba 111 90 2 (bdel Es_22 ke_32)),.obj it_17 (.mapIter (some mb0_2) cl_15 (seen_20.push e_.born) cl_15),.obj mb0_2 (.map es_14 cl_15),.cells b_1 [v0_0,I6 a0.room,I6 a0.points,.pointer (some ⟨b_6,0,none⟩),.map (some b_12)] 70,.cells b_6 [I6 y_2.most,v_8,.map (some mb_11)] 102,.row 113 2 v_8 y_2.l.length cs_9,.mp mb_11 (kvs Value.string (Value.int .i64) y_2.ids),.cells b0 [v0_0,I6 a0.room,I6 a0.points,.pointer (some ⟨nb0_1,0,none⟩),.map (some mb0_2)] 70,.cells nb0_1 [I6 a0.dict.most,v0p1_0,.map (some mb0p1_1)] 102,.row 113 2 v0p1_0 a0.dict.l.length cs0p1_0,.mp mb0p1_1 (kvs Value.string (Value.int .i64) a0.dict.ids)]:=s
 refine wpList_nil (NoP_nil ?_)
 have s:=s.pk3
 have s:=s.pk3
 have s:=s.pk3
 obtain ⟨E_66,s,hfS_67,hmb_68⟩:=St.xput (hfS_26.mono hl_58.le) hmx_34 hk_42 (hq_41.mono hl_58.le) rfl s
 have hmk_69 : mapOk es_14 cl_15 (kvs (Value.int .i64) id (mbp E_66)):=by rw [hmb_68]; exact hmk_30
 have hfD_70 : MBel ty_api_Sample runs_Run.l R_57 E_64 (mset acc_21 ke_32 xx_33):=by rw [← Option.some.inj H]; exact hm_65
 have s:=s.pk11
 have s:=s.pk11
 have s:=s.pk11
 have s:=s.pk11
 have s:=s.pk11
 have s:=s.pk11
 have s:=s.pk11
 have s:=s.pk8
 have s:=s.pk11
 have s:=s.pk9
 have s:=s.pk11
 have s:=s.pk11
 exact ⟨_,(by rw [← hsz_28]; exact left_shrinks es_14 seen_20 e_ he_),_,_,E_66,E_64,_,rfl,hac_37,hmk_69,(hl_25.trans hl_58),hfS_67,hfD_70,q.sub (zc (zc zz)),s⟩
 rw [ifb_f hn_19] at H
 cases H
theorem ref05_Find.calls (a0 : List api_Schema) (a1 : ByteArray) {w0 : World} {R : Hp} {v0_0 : Value} (hR : R.sub w0) (h0_0 : SlR ty_api_Schema R v0_0 a0) {r : api_Schema × Bool} (H : ref05_Find a0 a1 = some r) : Calls prog 44 #[v0_0,.string a1] w0 (Rets fun v w'=>∃ (R' : Hp) (u0 : Value) (u1 : Value),v = .tuple #[.agg #[.string r.1.Name,u0,u1],.bool r.2] ∧ St [] w0 w' R' [] ∧ RLe [] w0 R R' ∧ SlR ty_api_Col R' u0 r.1.Keys ∧ SlR ty_api_Col R' u1 r.1.Vals):=by
 unfold ref05_Find at H
 refine enter (args:=[v0_0,.string a1]) func44 rfl ntmps44 rfl fun a q=>?_
 have s:=St.init hR
 have hRL:=RLe.refl (M:=[]) w0 R
 refine zq<|zr ?_
 refine sl_alloc zeroValue49 s q (by decide) rfl rfl fun a w b_1 s q=>?_
 refine za q rfl fun a q=>zn<|zq<|zq<|zr<|za q rfl fun a q=>zn ?_
 refine wp_block ?_
 refine wp_loop_k (fun k_l0 a w=>∃ (x_31 : Int),ref05_Find.l0 a0 a1 k_l0 x_31 = some r ∧ Kn 25 a [(0,v0_0),(1,.string a1),(4,.pointer (some ⟨b_1,0,none⟩)),(6,I6 x_31)] ∧ St [] w0 w R [.cells b_1 [.string (⟨#[]⟩ : ByteArray),.slice none 0 0,.slice none 0 0] 49]) (((a0.length : Int) - 0).toNat + 1) ?_ ?_
 exact ⟨0,H,q.sub (zc (zc (zc (zc zz)))),s⟩
 rintro k_l0 a w ⟨x_31,H,q,s⟩
 rcases k_l0 with _ | k_l0
 cases H
 rw [ref05_Find.l0.eq_2] at H
 refine zq<|zq<|zr<|zm q rfl fun a q=>zm q rfl fun a q=>zl q (r_len_R underlying28 h0_0 q rfl) fun a q=>zl q (r_ibin q rfl rfl rfl) fun a q=>zn ?_
 refine wp_cond_split (q.ev rfl) (fun (hb_61 : (decide (x_31 < (a0.length : Int))) = true)=>?_) fun hb_61=>?_
 rw [ifb_t hb_61] at H
 refine wp_skip<|zq ?_
 refine wp_block ?_
 refine zq<|zr<|zm q rfl fun a q=>zm q rfl fun a q=>?_
 obtain ⟨y_62,h_63,H⟩:=bs H
 obtain ⟨b_64,o_65,c_66,cs_67,hv_68,hr_69,hc_70,h_630,h_631⟩:=h0_0.ix h_63
 obtain ⟨v_71,v_73,rfl,hs_72,hs_74⟩:=hr_69
 refine zl q (r_indexAddr_R underlying28 sizeOf49 hv_68 h_630 h_631 q rfl rfl) fun a q=>zl q (r_fieldAddr underlying49 rfl sizeOf9 q rfl) fun a q=>zl q (r_load isAgg9 q rfl (s.sub.cell (hc_70 0 _ rfl))) fun a q=>zm q rfl fun a q=>zl q (r_sbin q rfl rfl rfl) fun a q=>zn ?_
 refine wp_cond_split (q.ev rfl) (fun (hb_75 : (y_62.Name.toList == a1.toList) = true)=>?_) fun hb_75=>?_
 rw [ifb_t hb_75] at H
 refine zq<|zr<|zm q rfl fun a q=>zm q rfl fun a q=>?_
 obtain ⟨y_76,h_77,H⟩:=bs H
 obtain ⟨b_78,o_79,c_80,cs_81,hv_82,hr_83,hc_84,h_770,h_771⟩:=h0_0.ix h_77
 obtain ⟨v_85,v_87,rfl,hs_86,hs_88⟩:=hr_83
 refine zl q (r_indexAddr_R underlying28 sizeOf49 hv_82 h_770 h_771 q rfl rfl) fun a q=>zl q (r_loadA (cs:=[.string y_76.Name,v_85,v_87]) isAgg49 sizeOf49 rfl q rfl (fun j v hv=>s.sub.cell (hc_84 j v hv))) fun a q=>?_
 refine sl_storeA (vs:=[.string y_76.Name,v_85,v_87]) (c':=[.string y_76.Name,v_85,v_87]) sizeOf49 s q rfl rfl rfl rfl (zc (all_cons hs_86.one (all_cons hs_88.one zz))) (Nat.le_of_ble_eq_true rfl) rfl fun a w s q=>?_
 refine za q rfl fun a q=>zn ?_
 obtain rfl:=Option.some.inj H
 refine wp_ret ?_
 repeat first | refine zt ?_ | refine zb ?_ | refine zo ?_
 exact ret_2 results44 q (rv_cell (c:=[.string y_76.Name,v_85,v_87]) isAgg49 sizeOf49 s z0 rfl q rfl) (rv_tmp q rfl) ⟨_,rfl,_,_,_,rfl,(s.trunc 0),hRL,hs_86,hs_88⟩
 rw [ifb_f hb_75] at H
 refine wp_skip<|zr<|zm q rfl fun a q=>zl q (r_ibin q rfl rfl rfl) fun a q=>za q rfl fun a q=>zn ?_
 exact ⟨_,Nat.lt_succ_self _,(IntKind.i64.wrap (x_31 + 1)),H,q.sub (zc (zc (zc (zc zz)))),s⟩
 rw [ifb_f hb_61] at H
 refine wp_exit ?_
 refine zq<|zr<|zl q (r_buildC (ps:=[]) (c:=[.string (⟨#[]⟩ : ByteArray),.slice none 0 0,.slice none 0 0]) underlying49 zeroValue49 places49 q rfl pc_nil rfl rfl) fun a q=>?_
 refine sl_storeA (vs:=[.string (⟨#[]⟩ : ByteArray),.slice none 0 0,.slice none 0 0]) (c':=[.string (⟨#[]⟩ : ByteArray),.slice none 0 0,.slice none 0 0]) sizeOf49 s q rfl rfl rfl rfl (zc (zc (zc zz))) (Nat.le_of_ble_eq_true rfl) rfl fun a w s q=>?_
 refine za q rfl fun a q=>zn ?_
 obtain rfl:=Option.some.inj H
 refine wp_ret ?_
 repeat first | refine zt ?_ | refine zb ?_ | refine zo ?_
 exact ret_2 results44 q (rv_cell (c:=[.string (⟨#[]⟩ : ByteArray),.slice none 0 0,.slice none 0 0]) isAgg49 sizeOf49 s z0 rfl q rfl) (rv_tmp q rfl) ⟨_,rfl,_,_,_,rfl,(s.trunc 0),hRL,SlR.nil _ _,SlR.nil _ _⟩
theorem ref05_fits.calls (a0 : List api_Value) (a1 : List api_Col) {w0 : World} {RA : Hp} {v0_0 : Value} {v1_0 : Value} (hRA : RA.sub w0) (h0_0 : SlR ty_api_Value RA v0_0 a0) (h1_0 : SlR ty_api_Col RA v1_0 a1) {r : Bool} (H : ref05_fits a0 a1 = some r) : CallsV prog 69 #[v0_0,v1_0] w0 (.bool r):=by
 unfold ref05_fits at H
 refine enter (args:=[v0_0,v1_0]) func69 rfl ntmps69 rfl fun a q=>?_
 have s:=St.init (R:=fun _=>none) (w:=w0) (fun _ _ h=>by cases h)
 have hRL:=RLe.refl (M:=[]) w0 (fun _=>none)
 refine zq<|zr<|za q rfl fun a q=>zn<|zq<|zq<|zr<|zm q rfl fun a q=>zl q (r_len_R underlying31 h0_0 q rfl) fun a q=>zm q rfl fun a q=>zl q (r_len_R underlying38 h1_0 q rfl) fun a q=>zl q (r_ibin q rfl rfl rfl) fun a q=>zn ?_
 refine wp_cond_split (q.ev rfl) (fun (hb_1 : ((a0.length : Int) != (a1.length : Int)) = true)=>?_) fun hb_1=>?_
 rw [ifb_t hb_1] at H
 refine zq<|zr<|za q rfl fun a q=>zn ?_
 obtain rfl:=Option.some.inj H
 refine wp_ret ?_
 repeat first | refine zt ?_ | refine zb ?_ | refine zo ?_
 exact ret_1 results69 q (rv_tmp q rfl) ⟨rfl,s.bel⟩
 rw [ifb_f hb_1] at H
 refine wp_skip<|zq<|zq<|zr<|za q rfl fun a q=>zn ?_
 refine wp_block ?_
 refine wp_loop_k (fun k_l0 a w=>∃ (x_127 : Int),ref05_fits.l0 a0 a1 k_l0 x_127 = some r ∧ Kn 36 a [(0,v0_0),(1,v1_0),(5,I6 x_127)] ∧ St [] w0 w (fun _=>none) []) (((a0.length : Int) - 0).toNat + 1) ?_ ?_
 exact ⟨0,H,q.sub (zc (zc (zc zz))),s⟩
 rintro k_l0 a w ⟨x_127,H,q,s⟩
 rcases k_l0 with _ | k_l0
 cases H
 rw [ref05_fits.l0.eq_2] at H
 refine zq<|zq<|zr<|zm q rfl fun a q=>zm q rfl fun a q=>zl q (r_len_R underlying31 h0_0 q rfl) fun a q=>zl q (r_ibin q rfl rfl rfl) fun a q=>zn ?_
 refine wp_cond_split (q.ev rfl) (fun (hb_253 : (decide (x_127 < (a0.length : Int))) = true)=>?_) fun hb_253=>?_
 rw [ifb_t hb_253] at H
 refine wp_skip<|zq ?_
 refine wp_block ?_
 refine zq ?_
 refine wp_mid (fun a w=>∃ (x_314 : Bool),ref05_fits.j1 (ref05_fits.l0 a0 a1 k_l0) a0 x_127 x_314 = some r ∧ Kn 36 a [(0,v0_0),(1,v1_0),(5,I6 x_127),(35,.bool x_314)] ∧ St [] w0 w (fun _=>none) []) ?_ ?_
 refine parT_region (C:=fun w=>St [] w0 w (fun _=>none) []) 14 [(0,true),(1,true),(2,true),(3,true),(4,true),(5,true),(6,true),(7,true),(8,true),(9,true),(10,true),(11,true),(12,true),(13,true)] mixed (by kernel_rfl) s (fun w s=>s) fun w s=>?_
 refine zp rfl q (fun w s=>r_move q rfl) fun a q=>zp rfl q (fun w s=>r_move q rfl) fun a q=>?_
 obtain ⟨y_346,h_347,H⟩:=bs H
 obtain ⟨b_348,o_349,c_350,cs_351,hv_352,hr_353,hc_354,h_3470,h_3471⟩:=h0_0.ix h_347
 subst hr_353
 refine zp rfl q (fun w s=>r_indexAddr_R underlying31 sizeOf58 hv_352 h_3470 h_3471 q rfl rfl) fun a q=>zp rfl q (fun w s=>r_fieldAddr underlying58 rfl sizeOf3 q rfl) fun a q=>zp rfl q (fun w s=>r_load isAgg3 q rfl ((s.ra hRA nil_not).cell (hc_354 0 _ rfl))) fun a q=>zp rfl q (fun w s=>r_move q rfl) fun a q=>zp rfl q (fun w s=>r_move q rfl) fun a q=>?_
 obtain ⟨y_355,h_356,H⟩:=bs H
 obtain ⟨b_357,o_358,c_359,cs_360,hv_361,hr_362,hc_363,h_3560,h_3561⟩:=h1_0.ix h_356
 subst hr_362
 refine zp rfl q (fun w s=>r_indexAddr_R underlying38 sizeOf65 hv_361 h_3560 h_3561 q rfl rfl) fun a q=>zp rfl q (fun w s=>r_fieldAddr underlying65 rfl sizeOf3 q rfl) fun a q=>zp rfl q (fun w s=>r_load isAgg3 q rfl ((s.ra hRA nil_not).cell (hc_363 1 _ rfl))) fun a q=>zp rfl q (fun w s=>r_ibin q rfl rfl rfl) fun a q=>zp rfl q (fun w s=>r_move q rfl) fun a q=>?_
 rcases or_b (y_346.Kind != y_355.Kind) with hb_364 | hb_364
 rw [ifb_t hb_364] at H
 refine zps rfl q (wft hb_364) fun a q=>zps rfl q (wft hb_364) fun a q=>?_
 refine thenL_nil ?_
 refine zsw q (wft hb_364) fun a q=>zsw q (wft hb_364) fun a q=>zsw q (wft hb_364) fun a q=>zsw q (wft hb_364) fun a q=>zl q (r_pick_t hb_364 q rfl rfl) fun a q=>?_
 refine wpList_nil (NoP_nil ?_)
 exact ⟨true,H,q.sub (zc (zc (zc (zc zz)))),s⟩
 rw [ifb_f hb_364] at H
 refine zpw rfl q (wff hb_364) (fun w s=>r_move q rfl) fun a q=>zpw rfl q (wff hb_364) (fun w s=>r_move q rfl) fun a q=>?_
 refine thenL_nil ?_
 obtain ⟨y_365,h_366,H⟩:=bs H
 obtain ⟨b_367,o_368,c_369,cs_370,hv_371,hr_372,hc_373,h_3660,h_3661⟩:=h0_0.ix h_366
 subst hr_372
 refine zw q (wff hb_364) (r_indexAddr_R underlying31 sizeOf58 hv_371 h_3660 h_3661 q rfl rfl) fun a q=>zw q (wff hb_364) (r_loadA (cs:=(cV y_365)) isAgg58 sizeOf58 rfl q rfl (fun j v hv=>(s.ra hRA nil_not).cell (hc_373 j v hv))) fun a q=>?_
 obtain ⟨y_374,h_375,H⟩:=bs H
 refine sl_callV call63 s q (by decide) (wff hb_364) rfl rfl (ref01_Valid.calls y_365 h_375 _) fun a w s q=>?_
 refine zw q (wff hb_364) (r_un q rfl (u_not _)) fun a q=>zl q (r_pick_f hb_364 q rfl rfl) fun a q=>?_
 refine wpList_nil (NoP_nil ?_)
 exact ⟨(!y_374),H,q.sub (zc (zc (zc (zc zz)))),s⟩
 rintro a w ⟨x_314,H,q,s⟩
 unfold ref05_fits.j1 at H
 refine wp_cond_split (q.ev rfl) (fun (hb_376 : x_314 = true)=>?_) fun hb_376=>?_
 rw [ifb_t hb_376] at H
 refine zq<|zr<|za q rfl fun a q=>zn ?_
 obtain rfl:=Option.some.inj H
 refine wp_ret ?_
 repeat first | refine zt ?_ | refine zb ?_ | refine zo ?_
 exact ret_1 results69 q (rv_tmp q rfl) ⟨rfl,s.bel⟩
 rw [ifb_f hb_376] at H
 refine wp_skip<|zr<|zm q rfl fun a q=>zl q (r_ibin q rfl rfl rfl) fun a q=>za q rfl fun a q=>zn ?_
 exact ⟨_,Nat.lt_succ_self _,(IntKind.i64.wrap (x_127 + 1)),H,q.sub (zc (zc (zc zz))),s⟩
 rw [ifb_f hb_253] at H
 refine wp_exit ?_
 refine zq<|zr<|za q rfl fun a q=>zn ?_
 obtain rfl:=Option.some.inj H
 refine wp_ret ?_
 repeat first | refine zt ?_ | refine zb ?_ | refine zo ?_
 exact ret_1 results69 q (rv_tmp q rfl) ⟨rfl,s.bel⟩
theorem ref05_Fits.calls (a0 : List api_Schema) (a1 : api_Point) {w0 : World} {R : Hp} {RA : Hp} {v0_0 : Value} {v1_0 : Value} {v1_1 : Value} (hRA : RA.sub w0) (hR : R.sub w0) (h0_0 : SlR ty_api_Schema R v0_0 a0) (h1_0 : SlR ty_api_Value RA v1_0 a1.Keys) (h1_1 : SlR ty_api_Value RA v1_1 a1.Vals) {r : Int} (H : ref05_Fits a0 a1 = some r) : CallsV prog 43 #[v0_0,.agg #[.string a1.Schema,v1_0,I6 a1.Time,v1_1]] w0 (I6 r):=by
 unfold ref05_Fits at H
 refine enter (args:=[v0_0,.agg #[.string a1.Schema,v1_0,I6 a1.Time,v1_1]]) func43 rfl ntmps43 rfl fun a q=>?_
 have s:=St.init hR
 have hRL:=RLe.refl (M:=[]) w0 R
 refine zq<|zr ?_
 refine sl_box s q (by decide) rfl rfl (c:=[.string a1.Schema,v1_0,I6 a1.Time,v1_1]) rfl fun a w b_1 s q=>?_
 refine za q rfl fun a q=>zn<|zq<|zr<|zm q rfl fun a q=>zl q (r_fieldAddr underlying33 rfl sizeOf9 q rfl) fun a q=>zl q (r_load isAgg9 q rfl (s.cell z0 rfl)) fun a q=>?_
 obtain ⟨y_2,h_3,H⟩:=bs H
 refine sl_call call44 q (by decide) rfl rfl rfl (ref05_Find.calls a0 a1.Schema s.sub h0_0 h_3) fun a v_ w hv_ q=>?_
 obtain ⟨R_4,v_6,v_8,hv_,hr_,hl_5,hs_7,hs_9⟩:=hv_
 have hv_:=hv_.symm
 subst hv_
 obtain ⟨s,hl_5⟩:=s.sp0.back hr_ hl_5
 have s:=s.un0
 have hRL:=hRL.trans hl_5
 refine zm q rfl fun a q=>zl q (r_extract q rfl rfl) fun a q=>zl q (r_extract q rfl rfl) fun a q=>?_
 refine sl_alloc zeroValue49 s q (by decide) rfl rfl fun a w b_10 s q=>?_
 refine sl_storeA (vs:=[.string y_2.1.Name,v_6,v_8]) (c':=[.string y_2.1.Name,v_6,v_8]) sizeOf49 s q rfl rfl rfl rfl (zc (all_cons hs_7.one (all_cons hs_9.one zz))) (Nat.le_of_ble_eq_true rfl) rfl fun a w s q=>?_
 refine za q rfl fun a q=>zn<|zq<|zq<|zr<|zm q rfl fun a q=>zl q (r_un q rfl (u_not _)) fun a q=>zn ?_
 refine wp_cond_split (q.ev rfl) (fun (hb_11 : (!y_2.2) = true)=>?_) fun hb_11=>?_
 rw [ifb_t hb_11] at H
 refine zq<|zr<|za q rfl fun a q=>zn ?_
 obtain rfl:=Option.some.inj H
 refine wp_ret ?_
 repeat first | refine zt ?_ | refine zb ?_ | refine zo ?_
 exact ret_1 results43 q (rv_tmp q rfl) ⟨rfl,s.bel⟩
 rw [ifb_f hb_11] at H
 refine wp_skip<|zq<|zq ?_
 refine wp_mid (fun a w=>∃ (x_19 : Bool),ref05_Fits.j0 x_19 = some r ∧ Kn 40 a [(39,.bool x_19)] ∧ St [] w0 w R_4 []) ?_ ?_
 refine zr<|zl q (r_fieldAddr underlying33 rfl sizeOf31 q rfl) fun a q=>zl q (r_load isAgg31 q rfl (s.cell z1 rfl)) fun a q=>zl q (r_fieldAddr underlying49 rfl sizeOf38 q rfl) fun a q=>zl q (r_load isAgg38 q rfl (s.cell z0 rfl)) fun a q=>?_
 obtain ⟨y_21,h_22,H⟩:=bs H
 refine sl_callV call69 s q (by decide) rfl rfl rfl (ref05_fits.calls a1.Keys y_2.1.Keys (lentOf_sub [] _) (h1_0.mono (s.raLe0 hRA nil_not)) (hs_7.mono s.rLe0) h_22) fun a w s q=>?_
 refine zl q (r_un q rfl (u_not _)) fun a q=>zm q rfl fun a q=>?_
 rcases or_b (!y_21) with hb_23 | hb_23
 rw [ifb_t hb_23] at H
 refine zsw q (wft hb_23) fun a q=>zsw q (wft hb_23) fun a q=>zsw q (wft hb_23) fun a q=>zsw q (wft hb_23) fun a q=>zsw q (wft hb_23) fun a q=>zsw q (wft hb_23) fun a q=>zl q (r_pick_t hb_23 q rfl rfl) fun a q=>zm q rfl fun a q=>zs q fun a q=>zs q fun a q=>zs q fun a q=>zl q (r_pick q rfl rfl rfl) fun a q=>zm q rfl fun a q=>zs q fun a q=>zs q fun a q=>zs q fun a q=>zl q (r_pick q rfl rfl rfl) fun a q=>zn ?_
 exact ⟨true,H,q.sub (zc zz),s.trunc 0⟩
 rw [ifb_f hb_23] at H
 refine zw q (wff hb_23) (r_fieldAddr underlying33 rfl sizeOf31 q rfl) fun a q=>zw q (wff hb_23) (r_load isAgg31 q rfl (s.cell z1 rfl)) fun a q=>zw q (wff hb_23) (r_fieldAddr underlying49 rfl sizeOf38 q rfl) fun a q=>zw q (wff hb_23) (r_load isAgg38 q rfl (s.cell z0 rfl)) fun a q=>?_
 obtain ⟨y_24,h_25,H⟩:=bs H
 refine sl_callV call69 s q (by decide) (wff hb_23) rfl rfl (ref05_fits.calls a1.Vals y_2.1.Vals (lentOf_sub [] _) (h1_1.mono (s.raLe0 hRA nil_not)) (hs_9.mono s.rLe0) h_25) fun a w s q=>?_
 refine zw q (wff hb_23) (r_un q rfl (u_not _)) fun a q=>zl q (r_pick_f hb_23 q rfl rfl) fun a q=>zm q rfl fun a q=>?_
 rcases or_b (!y_24) with hb_26 | hb_26
 rw [ifb_t hb_26] at H
 refine zsw q (wft hb_26) fun a q=>zsw q (wft hb_26) fun a q=>zsw q (wft hb_26) fun a q=>zl q (r_pick_t hb_26 q rfl rfl) fun a q=>zm q rfl fun a q=>zs q fun a q=>zs q fun a q=>zs q fun a q=>zl q (r_pick q rfl rfl rfl) fun a q=>zn ?_
 exact ⟨true,H,q.sub (zc zz),s.trunc 0⟩
 rw [ifb_f hb_26] at H
 refine zw q (wff hb_26) (r_fieldAddr underlying33 rfl sizeOf3 q rfl) fun a q=>zw q (wff hb_26) (r_load isAgg3 q rfl (s.cell z1 rfl)) fun a q=>zw q (wff hb_26) (r_ibin q rfl rfl rfl) fun a q=>zl q (r_pick_f hb_26 q rfl rfl) fun a q=>zm q rfl fun a q=>?_
 rcases or_b (decide (a1.Time < 0)) with hb_27 | hb_27
 rw [ifb_t hb_27] at H
 refine zsw q (wft hb_27) fun a q=>zsw q (wft hb_27) fun a q=>zsw q (wft hb_27) fun a q=>zl q (r_pick_t hb_27 q rfl rfl) fun a q=>zn ?_
 exact ⟨true,H,q.sub (zc zz),s.trunc 0⟩
 rw [ifb_f hb_27] at H
 refine zw q (wff hb_27) (r_fieldAddr underlying33 rfl sizeOf3 q rfl) fun a q=>zw q (wff hb_27) (r_load isAgg3 q rfl (s.cell z1 rfl)) fun a q=>zw q (wff hb_27) (r_ibin q rfl rfl rfl) fun a q=>zl q (r_pick_f hb_27 q rfl rfl) fun a q=>zn ?_
 exact ⟨(decide (a1.Time ≥ 1099511627776)),H,q.sub (zc zz),s.trunc 0⟩
 rintro a w ⟨x_19,H,q,s⟩
 unfold ref05_Fits.j0 at H
 refine wp_cond_split (q.ev rfl) (fun (hb_28 : x_19 = true)=>?_) fun hb_28=>?_
 rw [ifb_t hb_28] at H
 refine zq<|zr<|za q rfl fun a q=>zn ?_
 obtain rfl:=Option.some.inj H
 refine wp_ret ?_
 repeat first | refine zt ?_ | refine zb ?_ | refine zo ?_
 exact ret_1 results43 q (rv_tmp q rfl) ⟨rfl,s.bel⟩
 rw [ifb_f hb_28] at H
 refine wp_skip<|zq<|zr<|za q rfl fun a q=>zn ?_
 obtain rfl:=Option.some.inj H
 refine wp_ret ?_
 repeat first | refine zt ?_ | refine zb ?_ | refine zo ?_
 exact ret_1 results43 q (rv_tmp q rfl) ⟨rfl,s.bel⟩
end Go.Proofs.YtchgiggipimigaaGreatDoor.M
end
