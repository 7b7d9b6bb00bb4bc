/- For the law GroupCuts: each Go function answers as its plain Lean function tells, wherever that tells something; without further condition. -/
import Derived.Test.YtonfglmfdhljnaaGreatDoorGroupCutsW2
section
namespace Go.Proofs.YtonfglmfdhljnaaGreatDoor.M
open Go Go.Eng Go.Proofs Go.RowKit
set_option linter.unusedVariables false
set_option linter.unusedSimpArgs false
open Go.Proofs.Tryz
set_option maxHeartbeats 4000000
set_option maxRecDepth 100000
theorem law18_GroupCuts.calls (a0 : api_Table) (a1 : catchmentlaw18_By) (a2 : Arr2) {w0 : World} {R : Hp} {RA : Hp} {v0_0 : Value} {v0_1 : Value} {v1_0 : Value} {v1_1 : Value} (hRA : RA.sub w0) (hR : R.sub w0) (h0_0 : SlR ty_api_Col R v0_0 a0.Cols) (h0_1 : SlR (tySl ty_api_Value) R v0_1 a0.Rows) (h1_0 : SlR tyStr R v1_0 a1.Names) (h1_1 : SlR ty_api_Agg R v1_1 a1.Aggs) (hG : GF RA) (H : law18_GroupCuts a0 a1 a2 = some true) : CallsV prog 6 #[.agg #[v0_0,v0_1],.agg #[v1_0,v1_1],.agg #[I6 a2.a0,I6 a2.a1]] w0 (.bool true):=by
 unfold law18_GroupCuts at H
 refine enter (args:=[.agg #[v0_0,v0_1],.agg #[v1_0,v1_1],.agg #[I6 a2.a0,I6 a2.a1]]) func6 rfl ntmps6 rfl fun a q=>?_
 have s:=St.init hR
 have hRL:=RLe.refl (M:=[]) w0 R
 refine zq<|zr ?_
 refine sl_box s q (by decide) rfl rfl (c:=[v0_0,v0_1]) rfl fun a w b_1 s q=>?_
 refine sl_box s q (by decide) rfl rfl (c:=[v1_0,v1_1]) rfl fun a w b_2 s q=>?_
 refine sl_box s q (by decide) rfl rfl (c:=[I6 a2.a0,I6 a2.a1]) rfl fun a w b_3 s q=>?_
 refine za q rfl fun a q=>zn<|zq<|zr ?_
 obtain ⟨y_4,h_5,H⟩:=bs H
 refine sl_callV call9 s q (by decide) rfl rfl rfl (law18_shown.calls (lentOf_sub [] _) (GF.mono (s.raLe0 hRA nil_not) hG) h_5) fun a w s q=>?_
 refine za q rfl fun a q=>zn<|zq<|zr<|zl q (r_loadA (cs:=[v0_0,v0_1]) isAgg35 sizeOf35 rfl q rfl (s.cells_of (m:=2) z2 rfl)) fun a q=>?_
 obtain ⟨y_6,h_7,H⟩:=bs H
 refine sl_call call14 q (by decide) rfl rfl rfl (law18_cut.calls a0 s.sub h0_0 h0_1 h_7) fun a v_ w hv_ q=>?_
 obtain ⟨R_8,v_10,v_12,hv_,hr_,hl_9,hs_11,hs_13⟩:=hv_
 have hv_:=hv_.symm
 subst hv_
 obtain ⟨s,hl_9⟩:=s.sp0.back hr_ hl_9
 have s:=s.un0
 have hRL:=hRL.trans hl_9
 have s:=s.pk2
 refine sl_storeA (vs:=[v_10,v_12]) (c':=[v_10,v_12]) sizeOf35 s q rfl rfl rfl rfl (all_cons hs_11.one (all_cons hs_13.one zz)) (Nat.le_of_ble_eq_true rfl) rfl fun a w s q=>?_
 refine zn<|zq<|zr<|zl q (r_loadA (cs:=[v1_0,v1_1]) isAgg26 sizeOf26 rfl q rfl (s.cells_of (m:=2) z2 rfl)) fun a q=>?_
 obtain ⟨y_14,h_15,H⟩:=bs H
 refine sl_call call10 q (by decide) rfl rfl rfl (law18_few.calls a1 s.sub (h1_0.mono hl_9.le) (h1_1.mono hl_9.le) h_15) fun a v_ w hv_ q=>?_
 obtain ⟨R_16,v_18,v_20,hv_,hr_,hl_17,hs_19,hs_21⟩:=hv_
 have hv_:=hv_.symm
 subst hv_
 obtain ⟨s,hl_17⟩:=s.sp0.back hr_ hl_17
 have s:=s.un0
 have hRL:=hRL.trans hl_17
 have s:=s.pk2
 refine sl_storeA (vs:=[v_18,v_20]) (c':=[v_18,v_20]) sizeOf26 s q rfl rfl rfl rfl (all_cons hs_19.one (all_cons hs_21.one zz)) (Nat.le_of_ble_eq_true rfl) rfl fun a w s q=>?_
 refine zn<|zq<|zr<|zl q (r_fieldAddr underlying35 rfl sizeOf33 q rfl) fun a q=>zl q (r_load isAgg33 q rfl (s.cell z1 rfl)) fun a q=>zl q (r_len_R underlying33 hs_13 q rfl) fun a q=>?_
 refine sl_buildSliceF (zc:=[I6 0]) (ps:=[(0,I6 0),(1,I6 0),(2,I6 0),(3,I6 (y_6.Rows.length : Int))]) (c:=[I6 0,I6 0,I6 0,I6 (y_6.Rows.length : Int)]) [[I6 0],[I6 0],[I6 0],[I6 (y_6.Rows.length : Int)]] underlying43 sizeOf3 zeroValue3 rfl (pc_cons rfl (pc_cons rfl (pc_cons rfl (pc_cons rfl pc_nil)))) rfl rfl (Nat.le_of_ble_eq_true rfl) rfl (zc (zc (zc (zc zz)))) rfl s q (by decide) rfl fun a w b_22 s q=>?_
 refine za q rfl fun a q=>zn<|zq<|zq<|zr<|za q rfl fun a q=>zn ?_
 refine wp_block ?_
 refine wp_loop_k (fun k_l0 a w=>∃ (x_46 : List Int) (x_50 : Int) (v_47 : Value) (cs_48 : List Value),law18_GroupCuts.l0 a2 y_4 y_6 y_14 k_l0 x_46 x_50 = some true ∧ Reps (tyInt .i64) R_16 cs_48 x_46 ∧ Kn 215 a [(3,.pointer (some ⟨b_1,0,none⟩)),(4,.pointer (some ⟨b_2,0,none⟩)),(5,.pointer (some ⟨b_3,0,none⟩)),(7,.bool y_4),(8,v_47),(9,I6 x_50)] ∧ St [] w0 w R_16 [.cells b_1 [v_10,v_12] 35,.cells b_2 [v_18,v_20] 26,.cells b_3 [I6 a2.a0,I6 a2.a1] 42,.row 3 1 v_47 x_46.length cs_48]) (((2 : Int) - 0).toNat + 1) ?_ ?_
 have s:=s.row_lit (size:=1) (m:=4) rfl (by decide)
 have hq_72 : Reps (tyInt .i64) R_16 [I6 0,I6 0,I6 0,I6 (y_6.Rows.length : Int)] [0,0,0,(y_6.Rows.length : Int)]:=(Reps.cons (show Ty.rep (tyInt .i64) _ [I6 0] 0 from rfl) (Reps.cons (show Ty.rep (tyInt .i64) _ [I6 0] 0 from rfl) (Reps.cons (show Ty.rep (tyInt .i64) _ [I6 0] 0 from rfl) (Reps.cons (show Ty.rep (tyInt .i64) _ [I6 (y_6.Rows.length : Int)] (y_6.Rows.length : Int) from rfl) (Reps.nil _ _)))))
 have s:=s.pk3
 have s:=s.pk2
 have s:=s.pk3
 exact ⟨[0,0,0,(y_6.Rows.length : Int)],0,_,_,H,hq_72,q.sub (zc (zc (zc (zc (zc (zc zz)))))),s⟩
 rintro k_l0 a w ⟨x_46,x_50,v_47,cs_48,H,hq_49,q,s⟩
 rcases k_l0 with _ | k_l0
 cases H
 rw [law18_GroupCuts.l0.eq_2] at H
 refine zq<|zq<|zr<|zm q rfl fun a q=>zl q (r_ibin q rfl rfl rfl) fun a q=>zn ?_
 refine wp_cond_split (q.ev rfl) (fun (hb_73 : (decide (x_50 < 2)) = true)=>?_) fun hb_73=>?_
 rw [ifb_t hb_73] at H
 refine wp_skip<|zq ?_
 refine wp_block ?_
 refine zq<|zr<|zm q rfl fun a q=>?_
 obtain ⟨y_74,h_75,H⟩:=bs H
 refine zl q (r_indexAddr_arr underlying42 sizeOf3 q rfl rfl (Arr2.ix_lt h_75).1 (Arr2.ix_lt h_75).2) fun a q=>zl q (r_load isAgg3 q rfl (s.cell z2 (Arr2.ix_cells h_75 [] [] rfl))) fun a q=>za q rfl fun a q=>zn<|zq<|zq<|zr<|zm q rfl fun a q=>zl q (r_ibin q rfl rfl rfl) fun a q=>zn ?_
 refine wp_mid (fun a w=>∃ (x_77 : Int),law18_GroupCuts.j1 (law18_GroupCuts.l0 a2 y_4 y_6 y_14 k_l0) y_6 x_46 x_50 x_77 = some true ∧ Kn 215 a [(3,.pointer (some ⟨b_1,0,none⟩)),(4,.pointer (some ⟨b_2,0,none⟩)),(5,.pointer (some ⟨b_3,0,none⟩)),(7,.bool y_4),(8,v_47),(9,I6 x_50),(10,I6 x_77)] ∧ St [] w0 w R_16 [.cells b_1 [v_10,v_12] 35,.cells b_2 [v_18,v_20] 26,.cells b_3 [I6 a2.a0,I6 a2.a1] 42,.row 3 1 v_47 x_46.length cs_48]) ?_ ?_
 refine wp_cond_split (q.ev rfl) (fun (hb_79 : (decide (y_74 < 0)) = true)=>?_) fun hb_79=>?_
 rw [ifb_t hb_79] at H
 refine zr<|zm q rfl fun a q=>zl q (r_ibin q rfl rfl rfl) fun a q=>zl q (r_un q rfl (u_neg _ _)) fun a q=>za q rfl fun a q=>zn ?_
 have s:=s.pk3
 have s:=s.pk3
 have s:=s.pk3
 have s:=s.pk3
 exact ⟨(IntKind.i64.wrap (0 - (IntKind.i64.wrap (y_74 + 1)))),H,q.sub (zc (zc (zc (zc (zc (zc (zc zz))))))),s⟩
 rw [ifb_f hb_79] at H
 refine wp_skip ?_
 have s:=s.pk3
 have s:=s.pk3
 have s:=s.pk3
 have s:=s.pk3
 exact ⟨y_74,H,q.sub (zc (zc (zc (zc (zc (zc (zc zz))))))),s⟩
 rintro a w ⟨x_77,H,q,s⟩
 unfold law18_GroupCuts.j1 at H
 refine zr<|zm q rfl fun a q=>zm q rfl fun a q=>zl q (r_ibin q rfl rfl rfl) fun a q=>zm q rfl fun a q=>zl q (r_fieldAddr underlying35 rfl sizeOf33 q rfl) fun a q=>zl q (r_load isAgg33 q rfl (s.cell z0 rfl)) fun a q=>zl q (r_len_R underlying33 hs_13 q rfl) fun a q=>zl q (r_ibin q rfl rfl rfl) fun a q=>?_
 rcases or_b ((IntKind.i64.wrap ((y_6.Rows.length : Int) + 1)) != 0) with hn_80 | hn_80
 rw [ifb_t hn_80] at H
 refine zl q (r_rem q rfl rfl (ne_of_bne hn_80)) fun a q=>?_
 obtain ⟨y_81,h_82,H⟩:=bs H
 obtain ⟨b_84,c_85,cs_86,hv_83,hr_87,hc_88,h_820,h_821⟩:=s.row_ix z3 hq_49 rfl rfl h_82
 subst hr_87
 refine zl q (r_indexAddr_R underlying43 sizeOf3 hv_83 h_820 h_821 q rfl rfl) fun a q=>?_
 have s:=s.pk3
 refine sl_store_row sizeOf3 hv_83 h_82 rfl (show Ty.rep (tyInt .i64) _ [I6 (x_77.tmod (IntKind.i64.wrap ((y_6.Rows.length : Int) + 1)))] (x_77.tmod (IntKind.i64.wrap ((y_6.Rows.length : Int) + 1))) from rfl) hq_49 rfl s q rfl rfl rfl rfl fun a w cs_89 hq_90 s q=>?_
 refine zn<|zr<|zm q rfl fun a q=>zl q (r_ibin q rfl rfl rfl) fun a q=>za q rfl fun a q=>zn ?_
 have s:=s.pk3
 have s:=s.pk3
 have s:=s.pk3
 exact ⟨_,Nat.lt_succ_self _,(upd x_46 (IntKind.i64.wrap (x_50 + 1)) (x_77.tmod (IntKind.i64.wrap ((y_6.Rows.length : Int) + 1)))),(IntKind.i64.wrap (x_50 + 1)),_,_,H,hq_90,q.sub (zc (zc (zc (zc (zc (zc zz)))))),s⟩
 rw [ifb_f hn_80] at H
 cases H
 rw [ifb_f hb_73] at H
 refine wp_exit ?_
 refine zq<|zq ?_
 refine par_region (C:=fun w=>St [] w0 w R_16 [.cells b_1 [v_10,v_12] 35,.cells b_2 [v_18,v_20] 26,.cells b_3 [I6 a2.a0,I6 a2.a1] 42,.row 3 1 v_47 x_46.length cs_48]) [(0,true),(1,true),(2,true),(3,true),(4,true),(5,true),(6,true)] mixed (by kernel_rfl) s (fun w s=>s) fun w s=>?_
 refine zp rfl q (fun w s=>r_move q rfl) fun a q=>?_
 obtain ⟨y_108,h_109,H⟩:=bs H
 obtain ⟨b_111,c_112,cs_113,hv_110,hr_114,hc_115,h_1090,h_1091⟩:=s.row_ix z3 hq_49 rfl rfl h_109
 subst hr_114
 refine zp rfl q (fun w s=>r_indexAddr_R underlying43 sizeOf3 hv_110 h_1090 h_1091 q rfl rfl) fun a q=>zp rfl q (fun w s=>r_load isAgg3 q rfl (s.row_cell z3 hv_110 (hc_115 0 _ rfl))) fun a q=>zp rfl q (fun w s=>r_move q rfl) fun a q=>?_
 obtain ⟨y_116,h_117,H⟩:=bs H
 obtain ⟨b_119,c_120,cs_121,hv_118,hr_122,hc_123,h_1170,h_1171⟩:=s.row_ix z3 hq_49 rfl rfl h_117
 subst hr_122
 refine zp rfl q (fun w s=>r_indexAddr_R underlying43 sizeOf3 hv_118 h_1170 h_1171 q rfl rfl) fun a q=>zp rfl q (fun w s=>r_load isAgg3 q rfl (s.row_cell z3 hv_118 (hc_123 0 _ rfl))) fun a q=>zp rfl q (fun w s=>r_ibin q rfl rfl rfl) fun a q=>?_
 refine wpPar_nil (NoP_nil ?_)
 refine wp_mid (fun a w=>∃ (x_250 : List Int) (v_251 : Value) (cs_252 : List Value),law18_GroupCuts.j2 y_4 y_6 y_14 x_250 = some true ∧ Reps (tyInt .i64) R_16 cs_252 x_250 ∧ Kn 215 a [(3,.pointer (some ⟨b_1,0,none⟩)),(4,.pointer (some ⟨b_2,0,none⟩)),(7,.bool y_4),(8,v_251)] ∧ St [] w0 w R_16 [.cells b_1 [v_10,v_12] 35,.cells b_2 [v_18,v_20] 26,.row 3 1 v_251 x_250.length cs_252]) ?_ ?_
 refine wp_cond_split (q.ev rfl) (fun (hb_255 : (decide (y_108 > y_116)) = true)=>?_) fun hb_255=>?_
 rw [ifb_t hb_255] at H
 refine treeTS_region (C0:=(fun w=>St [] w0 w R_16 [.cells b_1 [v_10,v_12] 35,.cells b_2 [v_18,v_20] 26,.cells b_3 [I6 a2.a0,I6 a2.a1] 42,.row 3 1 v_47 x_46.length cs_48])) (C1:=(fun w=>St [] w0 w R_16 [.cells b_1 [v_10,v_12] 35,.cells b_2 [v_18,v_20] 26,.cells b_3 [I6 a2.a0,I6 a2.a1] 42])) 10 9 [(0,2),(1,1),(2,2),(3,2),(4,2),(5,2),(6,2),(7,2),(8,2)] (.list []) mixed (by kernel_rfl) (fun w s=>(s.trunc 3)) s (fun w s=>s) fun w s=>?_
 refine spS2 (k:=0) rfl q (by decide) rfl rfl (fun w s=>r_move q rfl) fun a q=>?_
 refine spS1 (k:=1) rfl q (by decide) rfl rfl (fun w s=>r_move q rfl) fun a q=>?_
 refine spS2 (k:=2) rfl q (by decide) rfl rfl (fun w s=>r_move q rfl) fun a q=>?_
 obtain ⟨y_318,h_319,H⟩:=bs H
 obtain ⟨b_321,c_322,cs_323,hv_320,hr_324,hc_325,h_3190,h_3191⟩:=s.row_ix z3 hq_49 rfl rfl h_319
 subst hr_324
 refine spS2 (k:=3) rfl q (by decide) rfl rfl (fun w s=>r_indexAddr_R underlying43 sizeOf3 hv_320 h_3190 h_3191 q rfl rfl) fun a q=>?_
 refine spS2 (k:=4) rfl q (by decide) rfl rfl (fun w s=>r_load isAgg3 q rfl (s.row_cell z3 hv_320 (hc_325 0 _ rfl))) fun a q=>?_
 refine spS2 (k:=5) rfl q (by decide) rfl rfl (fun w s=>r_move q rfl) fun a q=>?_
 obtain ⟨y_326,h_327,H⟩:=bs H
 obtain ⟨b_329,c_330,cs_331,hv_328,hr_332,hc_333,h_3270,h_3271⟩:=s.row_ix z3 hq_49 rfl rfl h_327
 subst hr_332
 refine spS2 (k:=6) rfl q (by decide) rfl rfl (fun w s=>r_indexAddr_R underlying43 sizeOf3 hv_328 h_3270 h_3271 q rfl rfl) fun a q=>?_
 refine spS2 (k:=7) rfl q (by decide) rfl rfl (fun w s=>r_load isAgg3 q rfl (s.row_cell z3 hv_328 (hc_333 0 _ rfl))) fun a q=>?_
 obtain ⟨y_334,h_335,H⟩:=bs H
 obtain ⟨b_337,c_338,cs_339,hv_336,hr_340,hc_341,h_3350,h_3351⟩:=s.row_ix z3 hq_49 rfl rfl h_335
 subst hr_340
 refine spS2 (k:=8) rfl q (by decide) rfl rfl (fun w s=>r_indexAddr_R underlying43 sizeOf3 hv_336 h_3350 h_3351 q rfl rfl) fun a q=>?_
 refine parS_nil (spwB (k:=9) rfl rfl (s.trunc 3) ?_)
 have s:=s.pk3
 refine sl_store_row sizeOf3 hv_336 h_335 rfl (show Ty.rep (tyInt .i64) _ [I6 y_318] y_318 from rfl) hq_49 rfl s q rfl rfl rfl rfl fun a w cs_342 hq_343 s q=>?_
 obtain ⟨z_347,h_345⟩:=ix_upd 1 y_318 h_109
 have hv_346 : v_47 = Value.slice (some ⟨b_111,0,none⟩) (upd x_46 1 y_318).length c_112:=by rw [upd_length]; exact hv_110
 obtain ⟨z_350,h_348⟩:=ix_upd 1 y_318 h_117
 have hv_349 : v_47 = Value.slice (some ⟨b_119,0,none⟩) (upd x_46 1 y_318).length c_120:=by rw [upd_length]; exact hv_118
 obtain ⟨z_353,h_351⟩:=ix_upd 1 y_318 h_319
 have hv_352 : v_47 = Value.slice (some ⟨b_321,0,none⟩) (upd x_46 1 y_318).length c_322:=by rw [upd_length]; exact hv_320
 obtain ⟨z_356,h_354⟩:=ix_upd 1 y_318 h_327
 have hv_355 : v_47 = Value.slice (some ⟨b_329,0,none⟩) (upd x_46 1 y_318).length c_330:=by rw [upd_length]; exact hv_328
 refine parKK_nil (s.pk3.pk3.pk3.trunc 3) ?_
 refine tree_list ?_
 refine thenL_nil ?_
 obtain ⟨y_357,h_358,H⟩:=bs H
 obtain ⟨b_360,c_361,cs_362,hv_359,hr_363,hc_364,h_3580,h_3581⟩:=s.row_ix z0 hq_343 rfl rfl h_358
 subst hr_363
 refine zl q (r_indexAddr_R underlying43 sizeOf3 hv_359 h_3580 h_3581 q rfl rfl) fun a q=>?_
 refine sl_store_row sizeOf3 hv_359 h_358 rfl (show Ty.rep (tyInt .i64) _ [I6 y_326] y_326 from rfl) hq_343 rfl s q rfl rfl rfl rfl fun a w cs_365 hq_366 s q=>?_
 obtain ⟨z_370,h_368⟩:=ix_upd 2 y_326 h_345
 have hv_369 : v_47 = Value.slice (some ⟨b_111,0,none⟩) (upd (upd x_46 1 y_318) 2 y_326).length c_112:=by rw [upd_length]; exact hv_346
 obtain ⟨z_373,h_371⟩:=ix_upd 2 y_326 h_348
 have hv_372 : v_47 = Value.slice (some ⟨b_119,0,none⟩) (upd (upd x_46 1 y_318) 2 y_326).length c_120:=by rw [upd_length]; exact hv_349
 obtain ⟨z_376,h_374⟩:=ix_upd 2 y_326 h_351
 have hv_375 : v_47 = Value.slice (some ⟨b_321,0,none⟩) (upd (upd x_46 1 y_318) 2 y_326).length c_322:=by rw [upd_length]; exact hv_352
 obtain ⟨z_379,h_377⟩:=ix_upd 2 y_326 h_354
 have hv_378 : v_47 = Value.slice (some ⟨b_329,0,none⟩) (upd (upd x_46 1 y_318) 2 y_326).length c_330:=by rw [upd_length]; exact hv_355
 refine wpList_nil (NoP_nil ?_)
 have s:=s.pk2
 have s:=s.pk2
 exact ⟨(upd (upd x_46 1 y_318) 2 y_326),_,_,H,hq_366,q.sub (zc (zc (zc (zc zz)))),s.trunc 3⟩
 rw [ifb_f hb_255] at H
 refine wp_skip ?_
 have s:=s.pk3
 have s:=s.pk2
 have s:=s.pk2
 exact ⟨x_46,_,_,H,hq_49,q.sub (zc (zc (zc (zc zz)))),s.trunc 3⟩
 rintro a w ⟨x_250,v_251,cs_252,H,hq_253,q,s⟩
 unfold law18_GroupCuts.j2 at H
 refine zq<|zr<|zl q (r_loadA (cs:=[v_10,v_12]) isAgg35 sizeOf35 rfl q rfl (s.cells_of (m:=2) z0 rfl)) fun a q=>zl q (r_fieldAddr underlying26 rfl sizeOf23 q rfl) fun a q=>zl q (r_load isAgg23 q rfl (s.cell z1 rfl)) fun a q=>zl q (r_fieldAddr underlying26 rfl sizeOf24 q rfl) fun a q=>zl q (r_load isAgg24 q rfl (s.cell z1 rfl)) fun a q=>?_
 obtain ⟨y_380,h_381,H⟩:=bs H
 refine sl_call call18 q (by decide) rfl rfl rfl (group_Group.calls y_6 y_14.Names y_14.Aggs (lentOf_sub [] _) s.sub (hs_11.mono hl_17.le) (hs_13.mono hl_17.le) hs_19 hs_21 (GF.mono (s.raLe0 hRA nil_not) hG) h_381) fun a v_ w hv_ q=>?_
 obtain ⟨R_382,v_384,v_386,hv_,hr_,hl_383,hs_385,hs_387⟩:=hv_
 have hv_:=hv_.symm
 subst hv_
 obtain ⟨s,hl_383⟩:=s.sp0.back hr_ hl_383
 have s:=s.un0
 have hRL:=hRL.trans hl_383
 refine zm q rfl fun a q=>zl q (r_extract q rfl rfl) fun a q=>zl q (r_extract q rfl rfl) fun a q=>?_
 refine sl_alloc zeroValue35 s q (by decide) rfl rfl fun a w b_388 s q=>?_
 refine sl_storeA (vs:=[v_384,v_386]) (c':=[v_384,v_386]) sizeOf35 s q rfl rfl rfl rfl (all_cons hs_385.one (all_cons hs_387.one zz)) (Nat.le_of_ble_eq_true rfl) rfl fun a w s q=>?_
 refine za q rfl fun a q=>zn<|zq<|zr<|zl q (r_buildC (ps:=[]) (c:=[.slice none 0 0,.slice none 0 0]) underlying35 zeroValue35 places35 q rfl pc_nil rfl rfl) fun a q=>?_
 refine sl_alloc zeroValue35 s q (by decide) rfl rfl fun a w b_389 s q=>?_
 refine sl_storeA (vs:=[.slice none 0 0,.slice none 0 0]) (c':=[.slice none 0 0,.slice none 0 0]) sizeOf35 s q rfl rfl rfl rfl (zc (zc zz)) (Nat.le_of_ble_eq_true rfl) rfl fun a w s q=>?_
 refine zn<|zq<|zr<|zl q (r_buildC (ps:=[]) (c:=[.slice none 0 0,.slice none 0 0]) underlying35 zeroValue35 places35 q rfl pc_nil rfl rfl) fun a q=>?_
 refine sl_alloc zeroValue35 s q (by decide) rfl rfl fun a w b_390 s q=>?_
 refine sl_storeA (vs:=[.slice none 0 0,.slice none 0 0]) (c':=[.slice none 0 0,.slice none 0 0]) sizeOf35 s q rfl rfl rfl rfl (zc (zc zz)) (Nat.le_of_ble_eq_true rfl) rfl fun a w s q=>?_
 refine zn<|zq<|zq<|zr<|za q rfl fun a q=>zn ?_
 refine wp_block ?_
 refine wp_loop_k (fun k_l3 a w=>∃ (x_1275 : List api_Col) (x_1277 : List (List api_Value)) (x_1282 : List api_Col) (x_1287 : List (List api_Value)) (x_1291 : Int) (R_1292 : Hp) (v_1273 : Value) (v_1278 : Value) (cs_1279 : List Value) (v_1283 : Value) (cs_1284 : List Value) (v_1288 : Value) (cs_1289 : List Value),law18_GroupCuts.l3 y_4 y_6 y_14 x_250 y_380 k_l3 x_1275 x_1277 x_1282 x_1287 x_1291 = some true ∧ RLe [] w0 R_382 R_1292 ∧ SlR ty_api_Col R_1292 v_1273 x_1275 ∧ Reps (tySl ty_api_Value) R_1292 cs_1279 x_1277 ∧ Reps ty_api_Col R_1292 cs_1284 x_1282 ∧ Reps (tySl ty_api_Value) R_1292 cs_1289 x_1287 ∧ Kn 215 a [(3,.pointer (some ⟨b_1,0,none⟩)),(4,.pointer (some ⟨b_2,0,none⟩)),(7,.bool y_4),(8,v_251),(11,.pointer (some ⟨b_388,0,none⟩)),(12,I6 y_380.2),(13,.pointer (some ⟨b_389,0,none⟩)),(14,.pointer (some ⟨b_390,0,none⟩)),(15,I6 x_1291)] ∧ St [] w0 w R_1292 [.cells b_1 [v_10,v_12] 35,.cells b_2 [v_18,v_20] 26,.row 3 1 v_251 x_250.length cs_252,.cells b_388 [v_384,v_386] 35,.row 53 1 v_1278 x_1277.length cs_1279,.cells b_389 [v_1273,v_1278] 35,.row 47 2 v_1283 x_1282.length cs_1284,.row 53 1 v_1288 x_1287.length cs_1289,.cells b_390 [v_1283,v_1288] 35]) (((3 : Int) - 0).toNat + 1) ?_ ?_
 have s:=s.row_nil 53 1
 have hq_2221 : Reps (tySl ty_api_Value) R_382 [] ([] : List (List api_Value)):=Reps.nil _ _
 have s:=s.row_nil 47 2
 have hq_2223 : Reps ty_api_Col R_382 [] ([] : List api_Col):=Reps.nil _ _
 have s:=s.row_nil 53 1
 have hq_2225 : Reps (tySl ty_api_Value) R_382 [] ([] : List (List api_Value)):=Reps.nil _ _
 have s:=s.pk3
 have s:=s.pk1
 have s:=s.pk2
 have s:=s.pk4
 have s:=s.pk4
 have s:=s.pk5
 have s:=s.pk8
 have s:=s.pk8
 have s:=s.pk8
 exact ⟨[],[],[],[],0,_,(.slice none 0 0),_,_,_,_,_,_,H,(RLe.refl _ _),(SlR.nil _ _),hq_2221,hq_2223,hq_2225,q.sub (zc (zc (zc (zc (zc (zc (zc (zc (zc zz))))))))),s⟩
 rintro k_l3 a w ⟨x_1275,x_1277,x_1282,x_1287,x_1291,R_1292,v_1273,v_1278,cs_1279,v_1283,cs_1284,v_1288,cs_1289,H,hl_1293,hs_1274,hq_1280,hq_1285,hq_1290,q,s⟩
 rcases k_l3 with _ | k_l3
 cases H
 rw [law18_GroupCuts.l3.eq_2] at H
 have hRL:=hRL.trans hl_1293
 refine zq<|zq<|zr<|zm q rfl fun a q=>zl q (r_ibin q rfl rfl rfl) fun a q=>zn ?_
 refine wp_cond_split (q.ev rfl) (fun (hb_2226 : (decide (x_1291 < 3)) = true)=>?_) fun hb_2226=>?_
 rw [ifb_t hb_2226] at H
 refine wp_skip<|zq ?_
 refine wp_block ?_
 refine zq ?_
 refine wp_mid (fun a w=>∃ (x_2323 : List api_Col) (x_2328 : List (List api_Value)) (x_2332 : Int) (R_2333 : Hp) (v_2324 : Value) (cs_2325 : List Value) (v_2329 : Value) (cs_2330 : List Value) (b_2321 : Nat),law18_GroupCuts.j4 (law18_GroupCuts.l3 y_4 y_6 y_14 x_250 y_380 k_l3) y_4 y_6 y_14 y_380 x_1277 x_1287 x_1291 x_2323 x_2328 x_2332 = some true ∧ RLe [] w0 R_1292 R_2333 ∧ Reps ty_api_Col R_2333 cs_2325 x_2323 ∧ Reps (tySl ty_api_Value) R_2333 cs_2330 x_2328 ∧ Kn 215 a [(3,.pointer (some ⟨b_1,0,none⟩)),(4,.pointer (some ⟨b_2,0,none⟩)),(7,.bool y_4),(8,v_251),(11,.pointer (some ⟨b_388,0,none⟩)),(12,I6 y_380.2),(13,.pointer (some ⟨b_389,0,none⟩)),(14,.pointer (some ⟨b_390,0,none⟩)),(15,I6 x_1291),(16,.pointer (some ⟨b_2321,0,none⟩)),(17,I6 x_2332)] ∧ St [] w0 w R_2333 [.cells b_1 [v_10,v_12] 35,.cells b_2 [v_18,v_20] 26,.row 3 1 v_251 x_250.length cs_252,.cells b_388 [v_384,v_386] 35,.row 53 1 v_1278 x_1277.length cs_1279,.cells b_389 [v_1273,v_1278] 35,.row 47 2 v_1283 x_1282.length cs_1284,.row 53 1 v_1288 x_1287.length cs_1289,.cells b_390 [v_1283,v_1288] 35,.row 47 2 v_2324 x_2323.length cs_2325,.row 53 1 v_2329 x_2328.length cs_2330,.cells b_2321 [v_2324,v_2329] 35]) ?_ ?_
 refine treeT_region (C:=fun w=>St [] w0 w R_1292 [.cells b_1 [v_10,v_12] 35,.cells b_2 [v_18,v_20] 26,.row 3 1 v_251 x_250.length cs_252,.cells b_388 [v_384,v_386] 35,.row 53 1 v_1278 x_1277.length cs_1279,.cells b_389 [v_1273,v_1278] 35,.row 47 2 v_1283 x_1282.length cs_1284,.row 53 1 v_1288 x_1287.length cs_1289,.cells b_390 [v_1283,v_1288] 35]) 25 (.br [(0,true),(1,true),(2,true),(3,true),(4,true),(5,true),(6,true),(7,true),(8,true),(9,true),(10,true),(11,true),(12,true),(13,true),(14,true),(15,true),(16,true),(17,true),(18,true)] 19 (.list [(20,true),(21,true),(22,true),(23,false),(24,false)]) 23 (.list [(19,false),(20,true),(21,true),(22,true),(24,false)])) mixed (by kernel_rfl) s (fun w s=>s) fun w s=>?_
 refine tree_fork ?_
 refine zp rfl q (fun w s=>r_fieldAddr underlying35 rfl sizeOf22 q rfl) fun a q=>zp rfl q (fun w s=>r_load isAgg22 q rfl (s.cell z0 rfl)) fun a q=>zp rfl q (fun w s=>r_fieldAddr underlying35 rfl sizeOf33 q rfl) fun a q=>zp rfl q (fun w s=>r_load isAgg33 q rfl (s.cell z0 rfl)) fun a q=>zp rfl q (fun w s=>r_move q rfl) fun a q=>zp rfl q (fun w s=>r_move q rfl) fun a q=>?_
 obtain ⟨y_2382,h_2383,H⟩:=bs H
 obtain ⟨b_2385,c_2386,cs_2387,hv_2384,hr_2388,hc_2389,h_23830,h_23831⟩:=s.row_ix z2 (hq_253.mono (hl_383.le.trans hl_1293.le)) rfl rfl h_2383
 subst hr_2388
 refine zp rfl q (fun w s=>r_indexAddr_R underlying43 sizeOf3 hv_2384 h_23830 h_23831 q rfl rfl) fun a q=>zp rfl q (fun w s=>r_load isAgg3 q rfl (s.row_cell z2 hv_2384 (hc_2389 0 _ rfl))) fun a q=>zp rfl q (fun w s=>r_move q rfl) fun a q=>zp rfl q (fun w s=>r_move q rfl) fun a q=>zp rfl q (fun w s=>r_ibin q rfl rfl rfl) fun a q=>?_
 obtain ⟨y_2390,h_2391,H⟩:=bs H
 obtain ⟨b_2393,c_2394,cs_2395,hv_2392,hr_2396,hc_2397,h_23910,h_23911⟩:=s.row_ix z2 (hq_253.mono (hl_383.le.trans hl_1293.le)) rfl rfl h_2391
 subst hr_2396
 refine zp rfl q (fun w s=>r_indexAddr_R underlying43 sizeOf3 hv_2392 h_23910 h_23911 q rfl rfl) fun a q=>zp rfl q (fun w s=>r_load isAgg3 q rfl (by have h_:=s.row_cell z2 hv_2392 (hc_2397 0 _ rfl); simpa [Nat.add_assoc] using h_)) fun a q=>?_
 obtain ⟨y_2398,h_2399,H⟩:=bs H
 obtain ⟨v_2400,hs_2401,hr_2402⟩:=r_slice_R (x:=.tmp 95) (lo:=some (.tmp 99)) (hi:=some (.tmp 104)) underlying33 sizeOf53 hs_13 h_2399 q rfl ⟨_,rfl⟩ ⟨_,rfl⟩
 refine zp rfl q (fun w s=>hr_2402 _ _ _ _ _ _ _ q) fun a q=>zp rfl q (fun w s=>r_buildC (ps:=[(0,v_10),(1,v_2400)]) (c:=[v_10,v_2400]) underlying35 zeroValue35 places35 q rfl (pc_cons (cells1 hs_11.one) (pc_cons (cells1 hs_2401.one) pc_nil)) rfl rfl) fun a q=>zp rfl q (fun w s=>r_fieldAddr underlying26 rfl sizeOf23 q rfl) fun a q=>zp rfl q (fun w s=>r_load isAgg23 q rfl (s.cell z1 rfl)) fun a q=>zp rfl q (fun w s=>r_fieldAddr underlying26 rfl sizeOf24 q rfl) fun a q=>zp rfl q (fun w s=>r_load isAgg24 q rfl (s.cell z1 rfl)) fun a q=>?_
 refine wpPar_nil (tree_br ?_ ?_)
 refine spwB (k:=19) rfl rfl s ?_
 obtain ⟨y_2403,h_2404,H⟩:=bs H
 refine sl_call call15 q (by decide) rfl rfl rfl (group_Partial.calls (⟨y_6.Cols,y_2398⟩ : api_Table) y_14.Names y_14.Aggs (lentOf_sub [] _) s.sub (hs_11.mono (hl_17.le.trans (hl_383.le.trans hl_1293.le))) (hs_2401.mono (hl_17.le.trans (hl_383.le.trans hl_1293.le))) (hs_19.mono (hl_383.le.trans hl_1293.le)) (hs_21.mono (hl_383.le.trans hl_1293.le)) (GF.mono (s.raLe0 hRA nil_not) hG) h_2404) fun a v_ w hv_ q=>?_
 obtain ⟨R_2405,v_2408,cs_2409,v_2412,cs_2413,hv_,hr_,hl_2406,hq_2410,hq_2414⟩:=hv_
 have hv_:=hv_.symm
 subst hv_
 obtain ⟨s,hl_2406⟩:=s.sp0.back hr_ hl_2406
 have s:=s.un2
 have hRL:=hRL.trans hl_2406
 refine parKK_nil ((s.pk10.pk10.pk10.pk10.pk10.pk10.pk10.pk10.pk10.trunc 9).lower hl_2406.le) ?_
 refine tree_list ?_
 refine zp rfl q (fun w s=>r_move q rfl) fun a q=>zp rfl q (fun w s=>r_extract q rfl rfl) fun a q=>zp rfl q (fun w s=>r_extract q rfl rfl) fun a q=>?_
 refine spw (k:=23) rfl rfl ((s.pk10.pk10.pk10.pk10.pk10.pk10.pk10.pk10.pk10.trunc 9).lower hl_2406.le) ?_
 refine sl_alloc zeroValue35 s q (by decide) rfl rfl fun a w b_2415 s q=>?_
 refine parK_nil ((s.pk11.pk11.pk11.pk11.pk11.pk11.pk11.pk11.pk11.trunc 9).lower hl_2406.le) ?_
 refine spw (k:=24) rfl rfl ((s.pk11.pk11.pk11.pk11.pk11.pk11.pk11.pk11.pk11.trunc 9).lower hl_2406.le) ?_
 refine sl_storeA (vs:=[v_2408,v_2412]) (c':=[v_2408,v_2412]) sizeOf35 s q rfl rfl rfl rfl (all_cons (s.row_one z1) (all_cons (s.row_one z2) zz)) (Nat.le_of_ble_eq_true rfl) rfl fun a w s q=>?_
 refine parK_nil ((s.pk11.pk11.pk11.pk11.pk11.pk11.pk11.pk11.pk11.trunc 9).lower hl_2406.le) ?_
 refine thenL_nil ?_
 refine za q rfl fun a q=>?_
 refine wpList_nil (NoP_nil ?_)
 have s:=s.pk2
 have s:=s.pk2
 have s:=s.pk11
 have s:=s.pk11
 have s:=s.pk11
 have s:=s.pk11
 have s:=s.pk11
 have s:=s.pk11
 have s:=s.pk11
 have s:=s.pk11
 have s:=s.pk11
 exact ⟨y_2403.1.Cols,y_2403.1.Rows,y_2403.2,_,_,_,_,_,_,H,hl_2406,hq_2410,hq_2414,q.sub (zc (zc (zc (zc (zc (zc (zc (zc (zc (zc (zc zz))))))))))),s⟩
 refine spwB (k:=23) rfl rfl s ?_
 refine sl_alloc zeroValue35 s q (by decide) rfl rfl fun a w b_2416 s q=>?_
 refine parKK_nil (s.pk9.pk9.pk9.pk9.pk9.pk9.pk9.pk9.pk9.trunc 9) ?_
 refine tree_list ?_
 refine spw (k:=19) rfl rfl (s.pk9.pk9.pk9.pk9.pk9.pk9.pk9.pk9.pk9.trunc 9) ?_
 obtain ⟨y_2417,h_2418,H⟩:=bs H
 refine sl_call call15 q (by decide) rfl rfl rfl (group_Partial.calls (⟨y_6.Cols,y_2398⟩ : api_Table) y_14.Names y_14.Aggs (lentOf_sub [] _) s.sub (hs_11.mono (hl_17.le.trans (hl_383.le.trans hl_1293.le))) (hs_2401.mono (hl_17.le.trans (hl_383.le.trans hl_1293.le))) (hs_19.mono (hl_383.le.trans hl_1293.le)) (hs_21.mono (hl_383.le.trans hl_1293.le)) (GF.mono (s.raLe0 hRA nil_not) hG) h_2418) fun a v_ w hv_ q=>?_
 obtain ⟨R_2419,v_2422,cs_2423,v_2426,cs_2427,hv_,hr_,hl_2420,hq_2424,hq_2428⟩:=hv_
 have hv_:=hv_.symm
 subst hv_
 obtain ⟨s,hl_2420⟩:=s.sp0.back hr_ hl_2420
 have s:=s.un2
 have hRL:=hRL.trans hl_2420
 refine parK_nil ((s.pk11.pk11.pk11.pk11.pk11.pk11.pk11.pk11.pk11.trunc 9).lower hl_2420.le) ?_
 refine zp rfl q (fun w s=>r_move q rfl) fun a q=>zp rfl q (fun w s=>r_extract q rfl rfl) fun a q=>zp rfl q (fun w s=>r_extract q rfl rfl) fun a q=>?_
 refine spw (k:=24) rfl rfl ((s.pk11.pk11.pk11.pk11.pk11.pk11.pk11.pk11.pk11.trunc 9).lower hl_2420.le) ?_
 have s:=s.pk2
 refine sl_storeA (vs:=[v_2422,v_2426]) (c':=[v_2422,v_2426]) sizeOf35 s q rfl rfl rfl rfl (all_cons (s.row_one z1) (all_cons (s.row_one z2) zz)) (Nat.le_of_ble_eq_true rfl) rfl fun a w s q=>?_
 refine parK_nil ((s.pk11.pk11.pk11.pk11.pk11.pk11.pk11.pk11.pk11.trunc 9).lower hl_2420.le) ?_
 refine thenL_nil ?_
 refine za q rfl fun a q=>?_
 refine wpList_nil (NoP_nil ?_)
 have s:=s.pk2
 have s:=s.pk2
 have s:=s.pk11
 have s:=s.pk11
 have s:=s.pk11
 have s:=s.pk11
 have s:=s.pk11
 have s:=s.pk11
 have s:=s.pk11
 have s:=s.pk11
 have s:=s.pk11
 exact ⟨y_2417.1.Cols,y_2417.1.Rows,y_2417.2,_,_,_,_,_,_,H,hl_2420,hq_2424,hq_2428,q.sub (zc (zc (zc (zc (zc (zc (zc (zc (zc (zc (zc zz))))))))))),s⟩
 rintro a w ⟨x_2323,x_2328,x_2332,R_2333,v_2324,cs_2325,v_2329,cs_2330,b_2321,H,hl_2334,hq_2326,hq_2331,q,s⟩
 unfold law18_GroupCuts.j4 at H
 have hRL:=hRL.trans hl_2334
 refine zq<|zq ?_
 refine wp_mid (fun a w=>∃ (x_2432 : Bool),law18_GroupCuts.j5 (law18_GroupCuts.l3 y_4 y_6 y_14 x_250 y_380 k_l3) y_4 y_14 y_380 x_1277 x_1287 x_1291 x_2323 x_2328 x_2332 x_2432 = some true ∧ Kn 215 a [(3,.pointer (some ⟨b_1,0,none⟩)),(4,.pointer (some ⟨b_2,0,none⟩)),(7,.bool y_4),(8,v_251),(11,.pointer (some ⟨b_388,0,none⟩)),(12,I6 y_380.2),(13,.pointer (some ⟨b_389,0,none⟩)),(14,.pointer (some ⟨b_390,0,none⟩)),(15,I6 x_1291),(16,.pointer (some ⟨b_2321,0,none⟩)),(17,I6 x_2332),(123,.bool x_2432)] ∧ St [] w0 w R_2333 [.cells b_1 [v_10,v_12] 35,.cells b_2 [v_18,v_20] 26,.row 3 1 v_251 x_250.length cs_252,.cells b_388 [v_384,v_386] 35,.row 53 1 v_1278 x_1277.length cs_1279,.cells b_389 [v_1273,v_1278] 35,.row 47 2 v_1283 x_1282.length cs_1284,.row 53 1 v_1288 x_1287.length cs_1289,.cells b_390 [v_1283,v_1288] 35,.row 47 2 v_2324 x_2323.length cs_2325,.row 53 1 v_2329 x_2328.length cs_2330,.cells b_2321 [v_2324,v_2329] 35]) ?_ ?_
 refine zr<|zm q rfl fun a q=>zl q (r_ibin q rfl rfl rfl) fun a q=>zm q rfl fun a q=>zl q (r_ibin q rfl rfl rfl) fun a q=>zl q (r_bne underlying4 q rfl rfl) fun a q=>zm q rfl fun a q=>?_
 rcases or_b (!((x_2332 == 0) == (y_380.2 == 0))) with hb_2434 | hb_2434
 rw [ifb_t hb_2434] at H
 refine zw q (wtt hb_2434) (r_loadA (cs:=[v_10,v_12]) isAgg35 sizeOf35 rfl q rfl (s.cells_of (m:=2) z0 rfl)) fun a q=>?_
 obtain ⟨y_2435,h_2436,H⟩:=bs H
 refine sl_callV call20 s q (by decide) (wtt hb_2434) rfl rfl (ref02_Check.calls y_6 (lentOf_sub [] _) (hs_11.mono ((hl_17.le.trans (hl_383.le.trans (hl_1293.le.trans hl_2334.le))).trans s.rLe0)) (hs_13.mono ((hl_17.le.trans (hl_383.le.trans (hl_1293.le.trans hl_2334.le))).trans s.rLe0)) h_2436) fun a w s q=>?_
 refine zw q (wtt hb_2434) (r_ibin q rfl rfl rfl) fun a q=>zl q (r_pick_t hb_2434 q rfl rfl) fun a q=>zn ?_
 have s:=s.pk11
 have s:=s.pk11
 have s:=s.pk11
 have s:=s.pk11
 have s:=s.pk11
 have s:=s.pk11
 have s:=s.pk11
 have s:=s.pk11
 have s:=s.pk11
 have s:=s.pk11
 have s:=s.pk11
 have s:=s.pk11
 exact ⟨(y_2435 == 0),H,q.sub (zc (zc (zc (zc (zc (zc (zc (zc (zc (zc (zc (zc zz)))))))))))),s⟩
 rw [ifb_f hb_2434] at H
 refine zsw q (wtf hb_2434) fun a q=>zsw q (wtf hb_2434) fun a q=>zsw q (wtf hb_2434) fun a q=>zl q (r_pick_f hb_2434 q rfl rfl) fun a q=>zn ?_
 have s:=s.pk11
 have s:=s.pk11
 have s:=s.pk11
 have s:=s.pk11
 have s:=s.pk11
 have s:=s.pk11
 have s:=s.pk11
 have s:=s.pk11
 have s:=s.pk11
 have s:=s.pk11
 have s:=s.pk11
 have s:=s.pk11
 exact ⟨false,H,q.sub (zc (zc (zc (zc (zc (zc (zc (zc (zc (zc (zc (zc zz)))))))))))),s⟩
 rintro a w ⟨x_2432,H,q,s⟩
 unfold law18_GroupCuts.j5 at H
 refine wp_cond_split (q.ev rfl) (fun (hb_2437 : x_2432 = true)=>?_) fun hb_2437=>?_
 rw [ifb_t hb_2437] at H
 refine zq<|zr<|za q rfl fun a q=>zn ?_
 exact absurd (Option.some.inj H) (by decide)
 rw [ifb_f hb_2437] at H
 refine wp_skip<|zq<|zq ?_
 refine wp_mid (fun a w=>∃ (x_2439 : Bool),law18_GroupCuts.j6 (law18_GroupCuts.l3 y_4 y_6 y_14 x_250 y_380 k_l3) y_4 y_14 x_1277 x_1287 x_1291 x_2323 x_2328 x_2439 = some true ∧ Kn 215 a [(3,.pointer (some ⟨b_1,0,none⟩)),(4,.pointer (some ⟨b_2,0,none⟩)),(7,.bool y_4),(8,v_251),(11,.pointer (some ⟨b_388,0,none⟩)),(12,I6 y_380.2),(13,.pointer (some ⟨b_389,0,none⟩)),(14,.pointer (some ⟨b_390,0,none⟩)),(15,I6 x_1291),(16,.pointer (some ⟨b_2321,0,none⟩)),(129,.bool x_2439)] ∧ St [] w0 w R_2333 [.cells b_1 [v_10,v_12] 35,.cells b_2 [v_18,v_20] 26,.row 3 1 v_251 x_250.length cs_252,.cells b_388 [v_384,v_386] 35,.row 53 1 v_1278 x_1277.length cs_1279,.cells b_389 [v_1273,v_1278] 35,.row 47 2 v_1283 x_1282.length cs_1284,.row 53 1 v_1288 x_1287.length cs_1289,.cells b_390 [v_1283,v_1288] 35,.row 47 2 v_2324 x_2323.length cs_2325,.row 53 1 v_2329 x_2328.length cs_2330,.cells b_2321 [v_2324,v_2329] 35]) ?_ ?_
 refine zr<|zm q rfl fun a q=>zl q (r_ibin q rfl rfl rfl) fun a q=>zm q rfl fun a q=>?_
 rcases or_b (x_2332 != 0) with hb_2441 | hb_2441
 rw [ifb_t hb_2441] at H
 refine zsw q (wft hb_2441) fun a q=>zsw q (wft hb_2441) fun a q=>zl q (r_pick_t hb_2441 q rfl rfl) fun a q=>zn ?_
 have s:=s.pk11
 have s:=s.pk11
 have s:=s.pk11
 have s:=s.pk11
 have s:=s.pk11
 have s:=s.pk11
 have s:=s.pk11
 have s:=s.pk11
 have s:=s.pk11
 have s:=s.pk11
 have s:=s.pk11
 have s:=s.pk11
 exact ⟨true,H,q.sub (zc (zc (zc (zc (zc (zc (zc (zc (zc (zc (zc zz))))))))))),s⟩
 rw [ifb_f hb_2441] at H
 refine zw q (wff hb_2441) (r_move q rfl) fun a q=>zw q (wff hb_2441) (r_ibin q rfl rfl rfl) fun a q=>zl q (r_pick_f hb_2441 q rfl rfl) fun a q=>zn ?_
 have s:=s.pk11
 have s:=s.pk11
 have s:=s.pk11
 have s:=s.pk11
 have s:=s.pk11
 have s:=s.pk11
 have s:=s.pk11
 have s:=s.pk11
 have s:=s.pk11
 have s:=s.pk11
 have s:=s.pk11
 have s:=s.pk11
 exact ⟨(y_380.2 != 0),H,q.sub (zc (zc (zc (zc (zc (zc (zc (zc (zc (zc (zc zz))))))))))),s⟩
 rintro a w ⟨x_2439,H,q,s⟩
 unfold law18_GroupCuts.j6 at H
 refine wp_cond_split (q.ev rfl) (fun (hb_2442 : x_2439 = true)=>?_) fun hb_2442=>?_
 rw [ifb_t hb_2442] at H
 refine zq<|zr<|zm q rfl fun a q=>za q rfl fun a q=>zn ?_
 have hr_:=Option.some.inj H
 refine wp_ret ?_
 repeat first | refine zt ?_ | refine zb ?_ | refine zo ?_
 exact ret_1 results6 q (rv_tmp q rfl) ⟨congrArg (fun b=>Ending.returned (Value.bool b)) hr_,s.bel⟩
 rw [ifb_f hb_2442] at H
 refine wp_skip<|zq<|zr<|zl q (r_fieldAddr underlying35 rfl sizeOf22 q rfl) fun a q=>zl q (r_load isAgg22 q rfl (s.cell (.tail _ (.tail _ (.tail _ z8))) rfl)) fun a q=>zl q (r_fieldAddr underlying35 rfl sizeOf22 q rfl) fun a q=>?_
 have s:=s.pk5
 refine sl_store1 (c':=[v_2324,v_1278]) sizeOf22 s q rfl rfl rfl (s.row_one (.tail _ z8)) (Nat.le_of_ble_eq_true rfl) rfl fun a w s q=>?_
 refine zn<|zq ?_
 refine parT_region (C:=fun w=>St [] w0 w R_2333 [.cells b_389 [v_2324,v_1278] 35,.cells b_1 [v_10,v_12] 35,.cells b_2 [v_18,v_20] 26,.row 3 1 v_251 x_250.length cs_252,.cells b_388 [v_384,v_386] 35,.row 47 2 v_1283 x_1282.length cs_1284,.row 53 1 v_1288 x_1287.length cs_1289,.cells b_390 [v_1283,v_1288] 35,.row 47 2 v_2324 x_2323.length cs_2325,.row 53 1 v_2329 x_2328.length cs_2330,.cells b_2321 [v_2324,v_2329] 35]) 6 [(1,true),(2,true),(4,true),(5,true),(0,false),(3,false)] mixed (by kernel_rfl) s (fun w s=>(s.pk11.pk11.pk11.pk11.pk11.pk11.pk10.pk10.pk10.pk10.pk10.trunc 11)) fun w s=>?_
 refine zp rfl q (fun w s=>r_fieldAddr underlying35 rfl sizeOf33 q rfl) fun a q=>zp rfl q (fun w s=>r_load isAgg33 q rfl (s.cell z0 rfl)) fun a q=>zp rfl q (fun w s=>r_fieldAddr underlying35 rfl sizeOf33 q rfl) fun a q=>zp rfl q (fun w s=>r_load isAgg33 q rfl (s.cell (.tail _ (.tail _ z8)) rfl)) fun a q=>?_
 refine spw (k:=0) rfl rfl (s.pk11.pk11.pk11.pk11.pk11.pk11.pk10.pk10.pk10.pk10.pk10.trunc 11) ?_
 refine sl_buildSliceC (zc:=[.slice none 0 0]) (zs:=[]) (ps:=[]) (c:=[]) underlying33 sizeOf53 zeroValue53 rfl pc_nil rfl rfl (by decide) (by kernel_rfl) rfl s q (by decide) rfl fun a w b_2464 s q=>?_
 refine parK_nil (s.pk12.pk12.pk12.pk12.pk12.pk12.pk11.pk11.pk11.pk11.pk11.trunc 11) ?_
 refine spw (k:=3) rfl rfl (s.pk12.pk12.pk12.pk12.pk12.pk12.pk11.pk11.pk11.pk11.pk11.trunc 11) ?_
 have s:=s.row_lit (size:=1) (m:=0) rfl (by decide)
 have hq_2466 : Reps (tySl ty_api_Value) R_2333 [] ([] : List (List api_Value)):=(Reps.nil _ _)
 have s:=s.pk6
 obtain ⟨R_2467,s,hl_2469,hs_2468⟩:=s.fz_row (hq_1280.mono hl_2334.le) rfl rfl
 have hRL:=hRL.trans hl_2469
 obtain ⟨y_2470,h_2471,H⟩:=bs H
 refine sl_append_R elT33 (by decide) rfl (hq_2466.mono hl_2469.le) rfl hs_2468 h_2471 s q (by decide) rfl rfl rfl fun a w v_2472 cs_2473 hq_2474 s q=>?_
 refine parK_nil ((s.pk11.pk11.pk11.pk11.pk11.pk11.pk11.pk11.pk11.pk11.pk11.trunc 11).lower hl_2469.le) ?_
 refine thenL_nil ?_
 have s:=s.pk10
 obtain ⟨R_2476,s,hl_2478,hs_2477⟩:=s.fz_row (hq_2331.mono hl_2469.le) rfl rfl
 have hRL:=hRL.trans hl_2478
 obtain ⟨y_2479,h_2480,H⟩:=bs H
 refine sl_append_R elT33 (by decide) rfl (hq_2474.mono hl_2478.le) rfl hs_2477 h_2480 s q (by decide) rfl rfl rfl fun a w v_2481 cs_2482 hq_2483 s q=>?_
 refine zl q (r_fieldAddr underlying35 rfl sizeOf33 q rfl) fun a q=>?_
 have s:=s.pk1
 refine sl_store1 (c':=[v_2324,v_2481]) sizeOf33 s q rfl rfl rfl (s.row_one z1) (Nat.le_of_ble_eq_true rfl) rfl fun a w s q=>?_
 refine wpList_nil (NoP_nil ?_)
 refine zq ?_
 refine wp_mid (fun a w=>∃ (x_2815 : List api_Col) (x_2820 : List (List api_Value)) (x_2824 : Int) (R_2825 : Hp) (v_2809 : Value) (v_2811 : Value) (v_2816 : Value) (cs_2817 : List Value) (v_2821 : Value) (cs_2822 : List Value) (b_2813 : Nat),law18_GroupCuts.j7 (law18_GroupCuts.l3 y_4 y_6 y_14 x_250 y_380 k_l3) x_1291 x_2323 y_2479 x_2815 x_2820 x_2824 = some true ∧ RLe [] w0 R_2476 R_2825 ∧ SlR ty_api_Col R_2825 v_2809 x_2323 ∧ SlR (tySl ty_api_Value) R_2825 v_2811 x_1287 ∧ Reps ty_api_Col R_2825 cs_2817 x_2815 ∧ Reps (tySl ty_api_Value) R_2825 cs_2822 x_2820 ∧ Kn 215 a [(3,.pointer (some ⟨b_1,0,none⟩)),(4,.pointer (some ⟨b_2,0,none⟩)),(7,.bool y_4),(8,v_251),(11,.pointer (some ⟨b_388,0,none⟩)),(12,I6 y_380.2),(13,.pointer (some ⟨b_389,0,none⟩)),(14,.pointer (some ⟨b_390,0,none⟩)),(15,I6 x_1291),(18,.pointer (some ⟨b_2813,0,none⟩)),(19,I6 x_2824)] ∧ St [] w0 w R_2825 [.cells b_1 [v_10,v_12] 35,.cells b_2 [v_18,v_20] 26,.row 3 1 v_251 x_250.length cs_252,.cells b_388 [v_384,v_386] 35,.row 53 1 v_2481 y_2479.length cs_2482,.cells b_389 [v_2809,v_2481] 35,.row 47 2 v_1283 x_1282.length cs_1284,.cells b_390 [v_1283,v_2811] 35,.row 47 2 v_2816 x_2815.length cs_2817,.row 53 1 v_2821 x_2820.length cs_2822,.cells b_2813 [v_2816,v_2821] 35]) ?_ ?_
 refine treeT_region (C:=fun w=>St [] w0 w R_2476 [.cells b_389 [v_2324,v_2481] 35,.row 53 1 v_2481 y_2479.length cs_2482,.cells b_1 [v_10,v_12] 35,.cells b_2 [v_18,v_20] 26,.row 3 1 v_251 x_250.length cs_252,.cells b_388 [v_384,v_386] 35,.row 47 2 v_1283 x_1282.length cs_1284,.cells b_390 [v_1283,v_1288] 35,.cells b_2321 [v_2324,v_2329] 35]) 20 (.br [(0,true),(1,true),(3,true),(4,true),(6,true),(7,true),(10,true),(11,true),(12,true),(13,true)] 2 (.br [] 5 (.br [] 8 (.br [(9,true)] 14 (.list [(15,true),(16,true),(17,true),(18,false),(19,false)]) 18 (.list [(14,false),(15,true),(16,true),(17,true),(19,false)])) 18 (.list [(8,false),(9,true),(14,false),(15,true),(16,true),(17,true),(19,false)])) 18 (.list [(5,false),(8,false),(9,true),(14,false),(15,true),(16,true),(17,true),(19,false)])) 18 (.list [(2,false),(5,false),(8,false),(9,true),(14,false),(15,true),(16,true),(17,true),(19,false)])) mixed (by kernel_rfl) s (fun w s=>(s.pk10.pk9.pk8.pk8.pk8.pk8.pk8.pk8.pk8.trunc 9)) fun w s=>?_
 refine tree_fork ?_
 refine zp rfl q (fun w s=>r_fieldAddr underlying35 rfl sizeOf22 q rfl) fun a q=>zp rfl q (fun w s=>r_load isAgg22 q rfl (s.cell z8 rfl)) fun a q=>zp rfl q (fun w s=>r_fieldAddr underlying35 rfl sizeOf33 q rfl) fun a q=>zp rfl q (fun w s=>r_load isAgg33 q rfl (s.cell z7 rfl)) fun a q=>zp rfl q (fun w s=>r_fieldAddr underlying35 rfl sizeOf33 q rfl) fun a q=>zp rfl q (fun w s=>r_load isAgg33 q rfl (s.cell z8 rfl)) fun a q=>zp rfl q (fun w s=>r_fieldAddr underlying26 rfl sizeOf23 q rfl) fun a q=>?_
 refine zp rfl q (fun w s=>r_load isAgg23 q rfl (s.cell z3 rfl)) fun a q=>zp rfl q (fun w s=>r_fieldAddr underlying26 rfl sizeOf24 q rfl) fun a q=>zp rfl q (fun w s=>r_load isAgg24 q rfl (s.cell z3 rfl)) fun a q=>?_
 refine wpPar_nil (tree_br ?_ ?_)
 refine spwB (k:=2) rfl rfl (s.pk10.pk9.pk8.pk8.pk8.pk8.pk8.pk8.pk8.trunc 9) ?_
 refine sl_buildSliceC (zc:=[.slice none 0 0]) (zs:=[]) (ps:=[]) (c:=[]) underlying33 sizeOf53 zeroValue53 rfl pc_nil rfl rfl (by decide) (by kernel_rfl) rfl s q (by decide) rfl fun a w b_2989 s q=>?_
 refine parKK_nil (s.pk11.pk10.pk9.pk9.pk9.pk9.pk9.pk9.pk9.trunc 9) ?_
 refine tree_fork ?_
 refine wpPar_nil (tree_br ?_ ?_)
 refine spwB (k:=5) rfl rfl (s.pk11.pk10.pk9.pk9.pk9.pk9.pk9.pk9.pk9.trunc 9) ?_
 have s:=s.row_lit (size:=1) (m:=0) rfl (by decide)
 have hq_2991 : Reps (tySl ty_api_Value) R_2476 [] ([] : List (List api_Value)):=(Reps.nil _ _)
 have s:=s.pk8
 obtain ⟨R_2992,s,hl_2994,hs_2993⟩:=s.fz_row (hq_1290.mono (hl_2334.le.trans (hl_2469.le.trans hl_2478.le))) rfl rfl
 have hRL:=hRL.trans hl_2994
 obtain ⟨y_2995,h_2996,H⟩:=bs H
 refine sl_append_R elT33 (by decide) rfl (hq_2991.mono hl_2994.le) rfl hs_2993 h_2996 s q (by decide) rfl rfl rfl fun a w v_2997 cs_2998 hq_2999 s q=>?_
 refine parKK_nil ((s.pk10.pk9.pk9.pk9.pk9.pk9.pk9.pk9.pk9.trunc 9).lower hl_2994.le) ?_
 refine tree_fork ?_
 refine wpPar_nil (tree_br ?_ ?_)
 refine spwB (k:=8) rfl rfl ((s.pk10.pk9.pk9.pk9.pk9.pk9.pk9.pk9.pk9.trunc 9).lower hl_2994.le) ?_
 obtain ⟨y_3001,h_3002,H⟩:=bs H
 refine sl_append_R elT33 (by decide) rfl hq_2999 rfl (hs_2477.mono hl_2994.le) h_3002 s q (by decide) rfl rfl rfl fun a w v_3003 cs_3004 hq_3005 s q=>?_
 refine parKK_nil ((s.pk10.pk9.pk9.pk9.pk9.pk9.pk9.pk9.pk9.trunc 9).lower hl_2994.le) ?_
 refine tree_fork ?_
 have ho_3007:=s.row_one (.tail _ z8)
 have ho_3008:=s.row_one z0
 refine zp rfl q (fun w s=>r_buildC (ps:=[(0,v_2324),(1,v_3003)]) (c:=[v_2324,v_3003]) underlying35 zeroValue35 places35 q rfl (pc_cons (cells1 ho_3007) (pc_cons (cells1 ho_3008) pc_nil)) rfl rfl) fun a q=>?_
 refine wpPar_nil (tree_br ?_ ?_)
 refine spwB (k:=14) rfl rfl ((s.pk10.pk9.pk9.pk9.pk9.pk9.pk9.pk9.pk9.trunc 9).lower hl_2994.le) ?_
 have s:=s.pk9
 obtain ⟨R_3009,s,hl_3011,hs_3010⟩:=s.fz_row (hq_2326.mono (hl_2469.le.trans (hl_2478.le.trans hl_2994.le))) rfl rfl
 have hRL:=hRL.trans hl_3011
 obtain ⟨R_3012,s,hl_3014,hs_3013⟩:=s.fz_row (hq_3005.mono hl_3011.le) rfl rfl
 have hRL:=hRL.trans hl_3014
 obtain ⟨y_3015,h_3016,H⟩:=bs H
 refine sl_call call21 q (by decide) rfl rfl rfl (group_Merge.calls (⟨x_2323,y_3001⟩ : api_Table) y_14.Names y_14.Aggs (lentOf_sub [] _) s.sub (hs_3010.mono hl_3014.le) hs_3013 (hs_19.mono (hl_383.le.trans (hl_1293.le.trans (hl_2334.le.trans (hl_2469.le.trans (hl_2478.le.trans (hl_2994.le.trans (hl_3011.le.trans hl_3014.le)))))))) (hs_21.mono (hl_383.le.trans (hl_1293.le.trans (hl_2334.le.trans (hl_2469.le.trans (hl_2478.le.trans (hl_2994.le.trans (hl_3011.le.trans hl_3014.le)))))))) (GF.mono (s.raLe0 hRA nil_not) hG) h_3016) fun a v_ w hv_ q=>?_
 obtain ⟨R_3017,v_3020,cs_3021,v_3024,cs_3025,hv_,hr_,hl_3018,hq_3022,hq_3026⟩:=hv_
 have hv_:=hv_.symm
 subst hv_
 obtain ⟨s,hl_3018⟩:=s.sp0.back hr_ hl_3018
 have s:=s.un2
 have hRL:=hRL.trans hl_3018
 refine parKK_nil ((s.pk10.pk10.pk10.pk10.pk10.pk10.pk10.pk10.pk10.trunc 9).lower (hl_2994.le.trans (hl_3011.le.trans (hl_3014.le.trans hl_3018.le)))) ?_
 refine tree_list ?_
 refine zp rfl q (fun w s=>r_move q rfl) fun a q=>zp rfl q (fun w s=>r_extract q rfl rfl) fun a q=>zp rfl q (fun w s=>r_extract q rfl rfl) fun a q=>?_
 refine spw (k:=18) rfl rfl ((s.pk10.pk10.pk10.pk10.pk10.pk10.pk10.pk10.pk10.trunc 9).lower (hl_2994.le.trans (hl_3011.le.trans (hl_3014.le.trans hl_3018.le)))) ?_
 refine sl_alloc zeroValue35 s q (by decide) rfl rfl fun a w b_3027 s q=>?_
 refine parK_nil ((s.pk11.pk11.pk11.pk11.pk11.pk11.pk11.pk11.pk11.trunc 9).lower (hl_2994.le.trans (hl_3011.le.trans (hl_3014.le.trans hl_3018.le)))) ?_
 refine spw (k:=19) rfl rfl ((s.pk11.pk11.pk11.pk11.pk11.pk11.pk11.pk11.pk11.trunc 9).lower (hl_2994.le.trans (hl_3011.le.trans (hl_3014.le.trans hl_3018.le)))) ?_
 refine sl_storeA (vs:=[v_3020,v_3024]) (c':=[v_3020,v_3024]) sizeOf35 s q rfl rfl rfl rfl (all_cons (s.row_one z1) (all_cons (s.row_one z2) zz)) (Nat.le_of_ble_eq_true rfl) rfl fun a w s q=>?_
 refine parK_nil ((s.pk11.pk11.pk11.pk11.pk11.pk11.pk11.pk11.pk11.trunc 9).lower (hl_2994.le.trans (hl_3011.le.trans (hl_3014.le.trans hl_3018.le)))) ?_
 refine thenL_nil ?_
 refine za q rfl fun a q=>?_
 refine wpList_nil (NoP_nil ?_)
 have s:=s.pk2
 have s:=s.pk2
 have s:=s.pk10
 have s:=s.pk10
 have s:=s.pk5
 have s:=s.pk6
 have s:=s.pk10
 have s:=s.pk10
 have s:=s.pk10
 have s:=s.pk10
 exact ⟨y_3015.1.Cols,y_3015.1.Rows,y_3015.2,_,v_2324,v_1288,_,_,_,_,_,H,(hl_2994.trans (hl_3011.trans (hl_3014.trans hl_3018))),(hs_3010.mono (hl_3014.le.trans hl_3018.le)),(hs_2993.mono (hl_3011.le.trans (hl_3014.le.trans hl_3018.le))),hq_3022,hq_3026,q.sub (zc (zc (zc (zc (zc (zc (zc (zc (zc (zc (zc zz))))))))))),s.trunc 11⟩
 refine spwB (k:=18) rfl rfl ((s.pk10.pk9.pk9.pk9.pk9.pk9.pk9.pk9.pk9.trunc 9).lower hl_2994.le) ?_
 refine sl_alloc zeroValue35 s q (by decide) rfl rfl fun a w b_3028 s q=>?_
 refine parKK_nil ((s.pk11.pk10.pk10.pk10.pk10.pk10.pk10.pk10.pk10.trunc 9).lower hl_2994.le) ?_
 refine tree_list ?_
 refine spw (k:=14) rfl rfl ((s.pk11.pk10.pk10.pk10.pk10.pk10.pk10.pk10.pk10.trunc 9).lower hl_2994.le) ?_
 have s:=s.pk10
 obtain ⟨R_3029,s,hl_3031,hs_3030⟩:=s.fz_row (hq_2326.mono (hl_2469.le.trans (hl_2478.le.trans hl_2994.le))) rfl rfl
 have hRL:=hRL.trans hl_3031
 have s:=s.pk1
 obtain ⟨R_3032,s,hl_3034,hs_3033⟩:=s.fz_row (hq_3005.mono hl_3031.le) rfl rfl
 have hRL:=hRL.trans hl_3034
 obtain ⟨y_3035,h_3036,H⟩:=bs H
 refine sl_call call21 q (by decide) rfl rfl rfl (group_Merge.calls (⟨x_2323,y_3001⟩ : api_Table) y_14.Names y_14.Aggs (lentOf_sub [] _) s.sub (hs_3030.mono hl_3034.le) hs_3033 (hs_19.mono (hl_383.le.trans (hl_1293.le.trans (hl_2334.le.trans (hl_2469.le.trans (hl_2478.le.trans (hl_2994.le.trans (hl_3031.le.trans hl_3034.le)))))))) (hs_21.mono (hl_383.le.trans (hl_1293.le.trans (hl_2334.le.trans (hl_2469.le.trans (hl_2478.le.trans (hl_2994.le.trans (hl_3031.le.trans hl_3034.le)))))))) (GF.mono (s.raLe0 hRA nil_not) hG) h_3036) fun a v_ w hv_ q=>?_
 obtain ⟨R_3037,v_3040,cs_3041,v_3044,cs_3045,hv_,hr_,hl_3038,hq_3042,hq_3046⟩:=hv_
 have hv_:=hv_.symm
 subst hv_
 obtain ⟨s,hl_3038⟩:=s.sp0.back hr_ hl_3038
 have s:=s.un2
 have hRL:=hRL.trans hl_3038
 refine parK_nil ((s.pk11.pk11.pk11.pk11.pk11.pk11.pk11.pk11.pk11.trunc 9).lower (hl_2994.le.trans (hl_3031.le.trans (hl_3034.le.trans hl_3038.le)))) ?_
 refine zp rfl q (fun w s=>r_move q rfl) fun a q=>zp rfl q (fun w s=>r_extract q rfl rfl) fun a q=>zp rfl q (fun w s=>r_extract q rfl rfl) fun a q=>?_
 refine spw (k:=19) rfl rfl ((s.pk11.pk11.pk11.pk11.pk11.pk11.pk11.pk11.pk11.trunc 9).lower (hl_2994.le.trans (hl_3031.le.trans (hl_3034.le.trans hl_3038.le)))) ?_
 have s:=s.pk2
 refine sl_storeA (vs:=[v_3040,v_3044]) (c':=[v_3040,v_3044]) sizeOf35 s q rfl rfl rfl rfl (all_cons (s.row_one z1) (all_cons (s.row_one z2) zz)) (Nat.le_of_ble_eq_true rfl) rfl fun a w s q=>?_
 refine parK_nil ((s.pk11.pk11.pk11.pk11.pk11.pk11.pk11.pk11.pk11.trunc 9).lower (hl_2994.le.trans (hl_3031.le.trans (hl_3034.le.trans hl_3038.le)))) ?_
 refine thenL_nil ?_
 refine za q rfl fun a q=>?_
 refine wpList_nil (NoP_nil ?_)
 have s:=s.pk2
 have s:=s.pk2
 have s:=s.pk10
 have s:=s.pk10
 have s:=s.pk5
 have s:=s.pk6
 have s:=s.pk10
 have s:=s.pk10
 have s:=s.pk10
 have s:=s.pk10
 exact ⟨y_3035.1.Cols,y_3035.1.Rows,y_3035.2,_,v_2324,v_1288,_,_,_,_,_,H,(hl_2994.trans (hl_3031.trans (hl_3034.trans hl_3038))),(hs_3030.mono (hl_3034.le.trans hl_3038.le)),(hs_2993.mono (hl_3031.le.trans (hl_3034.le.trans hl_3038.le))),hq_3042,hq_3046,q.sub (zc (zc (zc (zc (zc (zc (zc (zc (zc (zc (zc zz))))))))))),s.trunc 11⟩
 refine spwB (k:=18) rfl rfl ((s.pk10.pk9.pk9.pk9.pk9.pk9.pk9.pk9.pk9.trunc 9).lower hl_2994.le) ?_
 refine sl_alloc zeroValue35 s q (by decide) rfl rfl fun a w b_3047 s q=>?_
 refine parKK_nil ((s.pk11.pk10.pk10.pk10.pk10.pk10.pk10.pk10.pk10.trunc 9).lower hl_2994.le) ?_
 refine tree_list ?_
 refine spw (k:=8) rfl rfl ((s.pk11.pk10.pk10.pk10.pk10.pk10.pk10.pk10.pk10.trunc 9).lower hl_2994.le) ?_
 obtain ⟨y_3048,h_3049,H⟩:=bs H
 have s:=s.pk1
 refine sl_append_R elT33 (by decide) rfl hq_2999 rfl (hs_2477.mono hl_2994.le) h_3049 s q (by decide) rfl rfl rfl fun a w v_3050 cs_3051 hq_3052 s q=>?_
 refine parK_nil ((s.pk11.pk10.pk10.pk10.pk10.pk10.pk10.pk10.pk10.trunc 9).lower hl_2994.le) ?_
 have ho_3054:=s.row_one (.tail _ (.tail _ z8))
 have ho_3055:=s.row_one z0
 refine zp rfl q (fun w s=>r_buildC (ps:=[(0,v_2324),(1,v_3050)]) (c:=[v_2324,v_3050]) underlying35 zeroValue35 places35 q rfl (pc_cons (cells1 ho_3054) (pc_cons (cells1 ho_3055) pc_nil)) rfl rfl) fun a q=>?_
 refine spw (k:=14) rfl rfl ((s.pk11.pk10.pk10.pk10.pk10.pk10.pk10.pk10.pk10.trunc 9).lower hl_2994.le) ?_
 have s:=s.pk10
 obtain ⟨R_3056,s,hl_3058,hs_3057⟩:=s.fz_row (hq_2326.mono (hl_2469.le.trans (hl_2478.le.trans hl_2994.le))) rfl rfl
 have hRL:=hRL.trans hl_3058
 obtain ⟨R_3059,s,hl_3061,hs_3060⟩:=s.fz_row (hq_3052.mono hl_3058.le) rfl rfl
 have hRL:=hRL.trans hl_3061
 obtain ⟨y_3062,h_3063,H⟩:=bs H
 refine sl_call call21 q (by decide) rfl rfl rfl (group_Merge.calls (⟨x_2323,y_3048⟩ : api_Table) y_14.Names y_14.Aggs (lentOf_sub [] _) s.sub (hs_3057.mono hl_3061.le) hs_3060 (hs_19.mono (hl_383.le.trans (hl_1293.le.trans (hl_2334.le.trans (hl_2469.le.trans (hl_2478.le.trans (hl_2994.le.trans (hl_3058.le.trans hl_3061.le)))))))) (hs_21.mono (hl_383.le.trans (hl_1293.le.trans (hl_2334.le.trans (hl_2469.le.trans (hl_2478.le.trans (hl_2994.le.trans (hl_3058.le.trans hl_3061.le)))))))) (GF.mono (s.raLe0 hRA nil_not) hG) h_3063) fun a v_ w hv_ q=>?_
 obtain ⟨R_3064,v_3067,cs_3068,v_3071,cs_3072,hv_,hr_,hl_3065,hq_3069,hq_3073⟩:=hv_
 have hv_:=hv_.symm
 subst hv_
 obtain ⟨s,hl_3065⟩:=s.sp0.back hr_ hl_3065
 have s:=s.un2
 have hRL:=hRL.trans hl_3065
 refine parK_nil ((s.pk11.pk11.pk11.pk11.pk11.pk11.pk11.pk11.pk11.trunc 9).lower (hl_2994.le.trans (hl_3058.le.trans (hl_3061.le.trans hl_3065.le)))) ?_
 refine zp rfl q (fun w s=>r_move q rfl) fun a q=>zp rfl q (fun w s=>r_extract q rfl rfl) fun a q=>zp rfl q (fun w s=>r_extract q rfl rfl) fun a q=>?_
 refine spw (k:=19) rfl rfl ((s.pk11.pk11.pk11.pk11.pk11.pk11.pk11.pk11.pk11.trunc 9).lower (hl_2994.le.trans (hl_3058.le.trans (hl_3061.le.trans hl_3065.le)))) ?_
 have s:=s.pk2
 refine sl_storeA (vs:=[v_3067,v_3071]) (c':=[v_3067,v_3071]) sizeOf35 s q rfl rfl rfl rfl (all_cons (s.row_one z1) (all_cons (s.row_one z2) zz)) (Nat.le_of_ble_eq_true rfl) rfl fun a w s q=>?_
 refine parK_nil ((s.pk11.pk11.pk11.pk11.pk11.pk11.pk11.pk11.pk11.trunc 9).lower (hl_2994.le.trans (hl_3058.le.trans (hl_3061.le.trans hl_3065.le)))) ?_
 refine thenL_nil ?_
 refine za q rfl fun a q=>?_
 refine wpList_nil (NoP_nil ?_)
 have s:=s.pk2
 have s:=s.pk2
 have s:=s.pk10
 have s:=s.pk10
 have s:=s.pk5
 have s:=s.pk6
 have s:=s.pk10
 have s:=s.pk10
 have s:=s.pk10
 have s:=s.pk10
 exact ⟨y_3062.1.Cols,y_3062.1.Rows,y_3062.2,_,v_2324,v_1288,_,_,_,_,_,H,(hl_2994.trans (hl_3058.trans (hl_3061.trans hl_3065))),(hs_3057.mono (hl_3061.le.trans hl_3065.le)),(hs_2993.mono (hl_3058.le.trans (hl_3061.le.trans hl_3065.le))),hq_3069,hq_3073,q.sub (zc (zc (zc (zc (zc (zc (zc (zc (zc (zc (zc zz))))))))))),s.trunc 11⟩
 refine spwB (k:=18) rfl rfl (s.pk11.pk10.pk9.pk9.pk9.pk9.pk9.pk9.pk9.trunc 9) ?_
 refine sl_alloc zeroValue35 s q (by decide) rfl rfl fun a w b_3074 s q=>?_
 refine parKK_nil (s.pk12.pk11.pk10.pk10.pk10.pk10.pk10.pk10.pk10.trunc 9) ?_
 refine tree_list ?_
 refine spw (k:=5) rfl rfl (s.pk12.pk11.pk10.pk10.pk10.pk10.pk10.pk10.pk10.trunc 9) ?_
 have s:=s.pk1
 have s:=s.row_lit (size:=1) (m:=0) rfl (by decide)
 have hq_3076 : Reps (tySl ty_api_Value) R_2476 [] ([] : List (List api_Value)):=(Reps.nil _ _)
 have s:=s.pk9
 obtain ⟨R_3077,s,hl_3079,hs_3078⟩:=s.fz_row (hq_1290.mono (hl_2334.le.trans (hl_2469.le.trans hl_2478.le))) rfl rfl
 have hRL:=hRL.trans hl_3079
 obtain ⟨y_3080,h_3081,H⟩:=bs H
 refine sl_append_R elT33 (by decide) rfl (hq_3076.mono hl_3079.le) rfl hs_3078 h_3081 s q (by decide) rfl rfl rfl fun a w v_3082 cs_3083 hq_3084 s q=>?_
 refine parK_nil ((s.pk11.pk10.pk10.pk10.pk10.pk10.pk10.pk10.pk10.trunc 9).lower hl_3079.le) ?_
 refine spw (k:=8) rfl rfl ((s.pk11.pk10.pk10.pk10.pk10.pk10.pk10.pk10.pk10.trunc 9).lower hl_3079.le) ?_
 obtain ⟨y_3086,h_3087,H⟩:=bs H
 refine sl_append_R elT33 (by decide) rfl hq_3084 rfl (hs_2477.mono hl_3079.le) h_3087 s q (by decide) rfl rfl rfl fun a w v_3088 cs_3089 hq_3090 s q=>?_
 refine parK_nil ((s.pk11.pk10.pk10.pk10.pk10.pk10.pk10.pk10.pk10.trunc 9).lower hl_3079.le) ?_
 have ho_3092:=s.row_one (.tail _ (.tail _ z8))
 have ho_3093:=s.row_one z0
 refine zp rfl q (fun w s=>r_buildC (ps:=[(0,v_2324),(1,v_3088)]) (c:=[v_2324,v_3088]) underlying35 zeroValue35 places35 q rfl (pc_cons (cells1 ho_3092) (pc_cons (cells1 ho_3093) pc_nil)) rfl rfl) fun a q=>?_
 refine spw (k:=14) rfl rfl ((s.pk11.pk10.pk10.pk10.pk10.pk10.pk10.pk10.pk10.trunc 9).lower hl_3079.le) ?_
 have s:=s.pk10
 obtain ⟨R_3094,s,hl_3096,hs_3095⟩:=s.fz_row (hq_2326.mono (hl_2469.le.trans (hl_2478.le.trans hl_3079.le))) rfl rfl
 have hRL:=hRL.trans hl_3096
 obtain ⟨R_3097,s,hl_3099,hs_3098⟩:=s.fz_row (hq_3090.mono hl_3096.le) rfl rfl
 have hRL:=hRL.trans hl_3099
 obtain ⟨y_3100,h_3101,H⟩:=bs H
 refine sl_call call21 q (by decide) rfl rfl rfl (group_Merge.calls (⟨x_2323,y_3086⟩ : api_Table) y_14.Names y_14.Aggs (lentOf_sub [] _) s.sub (hs_3095.mono hl_3099.le) hs_3098 (hs_19.mono (hl_383.le.trans (hl_1293.le.trans (hl_2334.le.trans (hl_2469.le.trans (hl_2478.le.trans (hl_3079.le.trans (hl_3096.le.trans hl_3099.le)))))))) (hs_21.mono (hl_383.le.trans (hl_1293.le.trans (hl_2334.le.trans (hl_2469.le.trans (hl_2478.le.trans (hl_3079.le.trans (hl_3096.le.trans hl_3099.le)))))))) (GF.mono (s.raLe0 hRA nil_not) hG) h_3101) fun a v_ w hv_ q=>?_
 obtain ⟨R_3102,v_3105,cs_3106,v_3109,cs_3110,hv_,hr_,hl_3103,hq_3107,hq_3111⟩:=hv_
 have hv_:=hv_.symm
 subst hv_
 obtain ⟨s,hl_3103⟩:=s.sp0.back hr_ hl_3103
 have s:=s.un2
 have hRL:=hRL.trans hl_3103
 refine parK_nil ((s.pk11.pk11.pk11.pk11.pk11.pk11.pk11.pk11.pk11.trunc 9).lower (hl_3079.le.trans (hl_3096.le.trans (hl_3099.le.trans hl_3103.le)))) ?_
 refine zp rfl q (fun w s=>r_move q rfl) fun a q=>zp rfl q (fun w s=>r_extract q rfl rfl) fun a q=>zp rfl q (fun w s=>r_extract q rfl rfl) fun a q=>?_
 refine spw (k:=19) rfl rfl ((s.pk11.pk11.pk11.pk11.pk11.pk11.pk11.pk11.pk11.trunc 9).lower (hl_3079.le.trans (hl_3096.le.trans (hl_3099.le.trans hl_3103.le)))) ?_
 have s:=s.pk2
 refine sl_storeA (vs:=[v_3105,v_3109]) (c':=[v_3105,v_3109]) sizeOf35 s q rfl rfl rfl rfl (all_cons (s.row_one z1) (all_cons (s.row_one z2) zz)) (Nat.le_of_ble_eq_true rfl) rfl fun a w s q=>?_
 refine parK_nil ((s.pk11.pk11.pk11.pk11.pk11.pk11.pk11.pk11.pk11.trunc 9).lower (hl_3079.le.trans (hl_3096.le.trans (hl_3099.le.trans hl_3103.le)))) ?_
 refine thenL_nil ?_
 refine za q rfl fun a q=>?_
 refine wpList_nil (NoP_nil ?_)
 have s:=s.pk2
 have s:=s.pk2
 have s:=s.pk10
 have s:=s.pk10
 have s:=s.pk5
 have s:=s.pk6
 have s:=s.pk10
 have s:=s.pk10
 have s:=s.pk10
 have s:=s.pk10
 exact ⟨y_3100.1.Cols,y_3100.1.Rows,y_3100.2,_,v_2324,v_1288,_,_,_,_,_,H,(hl_3079.trans (hl_3096.trans (hl_3099.trans hl_3103))),(hs_3095.mono (hl_3099.le.trans hl_3103.le)),(hs_3078.mono (hl_3096.le.trans (hl_3099.le.trans hl_3103.le))),hq_3107,hq_3111,q.sub (zc (zc (zc (zc (zc (zc (zc (zc (zc (zc (zc zz))))))))))),s.trunc 11⟩
 refine spwB (k:=18) rfl rfl (s.pk10.pk9.pk8.pk8.pk8.pk8.pk8.pk8.pk8.trunc 9) ?_
 refine sl_alloc zeroValue35 s q (by decide) rfl rfl fun a w b_3112 s q=>?_
 refine parKK_nil (s.pk11.pk10.pk9.pk9.pk9.pk9.pk9.pk9.pk9.trunc 9) ?_
 refine tree_list ?_
 refine spw (k:=2) rfl rfl (s.pk11.pk10.pk9.pk9.pk9.pk9.pk9.pk9.pk9.trunc 9) ?_
 refine sl_buildSliceC (zc:=[.slice none 0 0]) (zs:=[]) (ps:=[]) (c:=[]) underlying33 sizeOf53 zeroValue53 rfl pc_nil rfl rfl (by decide) (by kernel_rfl) rfl s q (by decide) rfl fun a w b_3113 s q=>?_
 refine parK_nil (s.pk12.pk11.pk10.pk10.pk10.pk10.pk10.pk10.pk10.trunc 9) ?_
 refine spw (k:=5) rfl rfl (s.pk12.pk11.pk10.pk10.pk10.pk10.pk10.pk10.pk10.trunc 9) ?_
 have s:=s.row_lit (size:=1) (m:=0) rfl (by decide)
 have hq_3115 : Reps (tySl ty_api_Value) R_2476 [] ([] : List (List api_Value)):=(Reps.nil _ _)
 have s:=s.pk9
 obtain ⟨R_3116,s,hl_3118,hs_3117⟩:=s.fz_row (hq_1290.mono (hl_2334.le.trans (hl_2469.le.trans hl_2478.le))) rfl rfl
 have hRL:=hRL.trans hl_3118
 obtain ⟨y_3119,h_3120,H⟩:=bs H
 refine sl_append_R elT33 (by decide) rfl (hq_3115.mono hl_3118.le) rfl hs_3117 h_3120 s q (by decide) rfl rfl rfl fun a w v_3121 cs_3122 hq_3123 s q=>?_
 refine parK_nil ((s.pk11.pk10.pk10.pk10.pk10.pk10.pk10.pk10.pk10.trunc 9).lower hl_3118.le) ?_
 refine spw (k:=8) rfl rfl ((s.pk11.pk10.pk10.pk10.pk10.pk10.pk10.pk10.pk10.trunc 9).lower hl_3118.le) ?_
 obtain ⟨y_3125,h_3126,H⟩:=bs H
 refine sl_append_R elT33 (by decide) rfl hq_3123 rfl (hs_2477.mono hl_3118.le) h_3126 s q (by decide) rfl rfl rfl fun a w v_3127 cs_3128 hq_3129 s q=>?_
 refine parK_nil ((s.pk11.pk10.pk10.pk10.pk10.pk10.pk10.pk10.pk10.trunc 9).lower hl_3118.le) ?_
 have ho_3131:=s.row_one (.tail _ (.tail _ z8))
 have ho_3132:=s.row_one z0
 refine zp rfl q (fun w s=>r_buildC (ps:=[(0,v_2324),(1,v_3127)]) (c:=[v_2324,v_3127]) underlying35 zeroValue35 places35 q rfl (pc_cons (cells1 ho_3131) (pc_cons (cells1 ho_3132) pc_nil)) rfl rfl) fun a q=>?_
 refine spw (k:=14) rfl rfl ((s.pk11.pk10.pk10.pk10.pk10.pk10.pk10.pk10.pk10.trunc 9).lower hl_3118.le) ?_
 have s:=s.pk10
 obtain ⟨R_3133,s,hl_3135,hs_3134⟩:=s.fz_row (hq_2326.mono (hl_2469.le.trans (hl_2478.le.trans hl_3118.le))) rfl rfl
 have hRL:=hRL.trans hl_3135
 obtain ⟨R_3136,s,hl_3138,hs_3137⟩:=s.fz_row (hq_3129.mono hl_3135.le) rfl rfl
 have hRL:=hRL.trans hl_3138
 obtain ⟨y_3139,h_3140,H⟩:=bs H
 refine sl_call call21 q (by decide) rfl rfl rfl (group_Merge.calls (⟨x_2323,y_3125⟩ : api_Table) y_14.Names y_14.Aggs (lentOf_sub [] _) s.sub (hs_3134.mono hl_3138.le) hs_3137 (hs_19.mono (hl_383.le.trans (hl_1293.le.trans (hl_2334.le.trans (hl_2469.le.trans (hl_2478.le.trans (hl_3118.le.trans (hl_3135.le.trans hl_3138.le)))))))) (hs_21.mono (hl_383.le.trans (hl_1293.le.trans (hl_2334.le.trans (hl_2469.le.trans (hl_2478.le.trans (hl_3118.le.trans (hl_3135.le.trans hl_3138.le)))))))) (GF.mono (s.raLe0 hRA nil_not) hG) h_3140) fun a v_ w hv_ q=>?_
 obtain ⟨R_3141,v_3144,cs_3145,v_3148,cs_3149,hv_,hr_,hl_3142,hq_3146,hq_3150⟩:=hv_
 have hv_:=hv_.symm
 subst hv_
 obtain ⟨s,hl_3142⟩:=s.sp0.back hr_ hl_3142
 have s:=s.un2
 have hRL:=hRL.trans hl_3142
 refine parK_nil ((s.pk11.pk11.pk11.pk11.pk11.pk11.pk11.pk11.pk11.trunc 9).lower (hl_3118.le.trans (hl_3135.le.trans (hl_3138.le.trans hl_3142.le)))) ?_
 refine zp rfl q (fun w s=>r_move q rfl) fun a q=>zp rfl q (fun w s=>r_extract q rfl rfl) fun a q=>zp rfl q (fun w s=>r_extract q rfl rfl) fun a q=>?_
 refine spw (k:=19) rfl rfl ((s.pk11.pk11.pk11.pk11.pk11.pk11.pk11.pk11.pk11.trunc 9).lower (hl_3118.le.trans (hl_3135.le.trans (hl_3138.le.trans hl_3142.le)))) ?_
 have s:=s.pk2
 refine sl_storeA (vs:=[v_3144,v_3148]) (c':=[v_3144,v_3148]) sizeOf35 s q rfl rfl rfl rfl (all_cons (s.row_one z1) (all_cons (s.row_one z2) zz)) (Nat.le_of_ble_eq_true rfl) rfl fun a w s q=>?_
 refine parK_nil ((s.pk11.pk11.pk11.pk11.pk11.pk11.pk11.pk11.pk11.trunc 9).lower (hl_3118.le.trans (hl_3135.le.trans (hl_3138.le.trans hl_3142.le)))) ?_
 refine thenL_nil ?_
 refine za q rfl fun a q=>?_
 refine wpList_nil (NoP_nil ?_)
 have s:=s.pk2
 have s:=s.pk2
 have s:=s.pk10
 have s:=s.pk10
 have s:=s.pk5
 have s:=s.pk6
 have s:=s.pk10
 have s:=s.pk10
 have s:=s.pk10
 have s:=s.pk10
 exact ⟨y_3139.1.Cols,y_3139.1.Rows,y_3139.2,_,v_2324,v_1288,_,_,_,_,_,H,(hl_3118.trans (hl_3135.trans (hl_3138.trans hl_3142))),(hs_3134.mono (hl_3138.le.trans hl_3142.le)),(hs_3117.mono (hl_3135.le.trans (hl_3138.le.trans hl_3142.le))),hq_3146,hq_3150,q.sub (zc (zc (zc (zc (zc (zc (zc (zc (zc (zc (zc zz))))))))))),s.trunc 11⟩
 rintro a w ⟨x_2815,x_2820,x_2824,R_2825,v_2809,v_2811,v_2816,cs_2817,v_2821,cs_2822,b_2813,H,hl_2826,hs_2810,hs_2812,hq_2818,hq_2823,q,s⟩
 unfold law18_GroupCuts.j7 at H
 have hRL:=hRL.trans hl_2826
 refine zq<|zq<|zr<|zm q rfl fun a q=>zl q (r_ibin q rfl rfl rfl) fun a q=>zn ?_
 refine wp_cond_split (q.ev rfl) (fun (hb_3151 : (x_2824 != 0) = true)=>?_) fun hb_3151=>?_
 rw [ifb_t hb_3151] at H
 refine zq<|zr<|za q rfl fun a q=>zn ?_
 exact absurd (Option.some.inj H) (by decide)
 rw [ifb_f hb_3151] at H
 refine wp_skip<|zr<|zl q (r_loadA (cs:=[v_2816,v_2821]) isAgg35 sizeOf35 rfl q rfl (s.cells_of (m:=2) (.tail _ (.tail _ z8)) rfl)) fun a q=>?_
 have s:=s.pk7
 refine sl_storeA (vs:=[v_2816,v_2821]) (c':=[v_2816,v_2821]) sizeOf35 s q rfl rfl rfl rfl (all_cons (s.row_one z8) (all_cons (s.row_one (.tail _ z8)) zz)) (Nat.le_of_ble_eq_true rfl) rfl fun a w s q=>?_
 refine zn<|zr<|zm q rfl fun a q=>zl q (r_ibin q rfl rfl rfl) fun a q=>za q rfl fun a q=>zn ?_
 have s:=s.pk9
 have s:=s.pk9
 have s:=s.pk8
 have s:=s.pk8
 have s:=s.pk8
 have s:=s.pk8
 have s:=s.pk8
 have s:=s.pk8
 exact ⟨_,Nat.lt_succ_self _,x_2323,y_2479,x_2815,x_2820,(IntKind.i64.wrap (x_1291 + 1)),_,v_2809,_,_,_,_,_,_,H,(hl_1293.trans (hl_2334.trans (hl_2469.trans (hl_2478.trans hl_2826)))),hs_2810,(hq_2483.mono hl_2826.le),hq_2818,hq_2823,q.sub (zc (zc (zc (zc (zc (zc (zc (zc (zc zz))))))))),s.trunc 9⟩
 rw [ifb_f hb_2226] at H
 refine wp_exit ?_
 refine zq<|zr<|zl q (r_loadA (cs:=[v_1273,v_1278]) isAgg35 sizeOf35 rfl q rfl (s.cells_of (m:=2) z5 rfl)) fun a q=>zl q (r_fieldAddr underlying26 rfl sizeOf23 q rfl) fun a q=>zl q (r_load isAgg23 q rfl (s.cell z1 rfl)) fun a q=>zl q (r_fieldAddr underlying26 rfl sizeOf24 q rfl) fun a q=>zl q (r_load isAgg24 q rfl (s.cell z1 rfl)) fun a q=>?_
 have s:=s.pk4
 obtain ⟨R_3152,s,hl_3154,hs_3153⟩:=s.fz_row hq_1280 rfl rfl
 have hRL:=hRL.trans hl_3154
 obtain ⟨y_3155,h_3156,H⟩:=bs H
 refine sl_call call21 q (by decide) rfl rfl rfl (group_Merge.calls (⟨x_1275,x_1277⟩ : api_Table) y_14.Names y_14.Aggs (lentOf_sub [] _) s.sub (hs_1274.mono hl_3154.le) hs_3153 (hs_19.mono (hl_383.le.trans (hl_1293.le.trans hl_3154.le))) (hs_21.mono (hl_383.le.trans (hl_1293.le.trans hl_3154.le))) (GF.mono (s.raLe0 hRA nil_not) hG) h_3156) fun a v_ w hv_ q=>?_
 obtain ⟨R_3157,v_3160,cs_3161,v_3164,cs_3165,hv_,hr_,hl_3158,hq_3162,hq_3166⟩:=hv_
 have hv_:=hv_.symm
 subst hv_
 obtain ⟨s,hl_3158⟩:=s.sp0.back hr_ hl_3158
 have s:=s.un2
 have hRL:=hRL.trans hl_3158
 refine zm q rfl fun a q=>zl q (r_extract q rfl rfl) fun a q=>zl q (r_extract q rfl rfl) fun a q=>?_
 refine sl_alloc zeroValue35 s q (by decide) rfl rfl fun a w b_3167 s q=>?_
 refine sl_storeA (vs:=[v_3160,v_3164]) (c':=[v_3160,v_3164]) sizeOf35 s q rfl rfl rfl rfl (all_cons (s.row_one z1) (all_cons (s.row_one z2) zz)) (Nat.le_of_ble_eq_true rfl) rfl fun a w s q=>?_
 refine za q rfl fun a q=>zn<|zq<|zr<|zl q (r_loadA (cs:=[v_3160,v_3164]) isAgg35 sizeOf35 rfl q rfl (s.cells_of (m:=2) z0 rfl)) fun a q=>zl q (r_fieldAddr underlying26 rfl sizeOf23 q rfl) fun a q=>zl q (r_load isAgg23 q rfl (s.cell z4 rfl)) fun a q=>zl q (r_fieldAddr underlying26 rfl sizeOf24 q rfl) fun a q=>zl q (r_load isAgg24 q rfl (s.cell z4 rfl)) fun a q=>?_
 obtain ⟨y_3168,h_3169,H⟩:=bs H
 refine sl_call call22 q (by decide) rfl rfl rfl (group_Finish.calls y_3155.1 y_14.Names y_14.Aggs (lentOf_sub [] _) s.sub (s.lend_row0 z1 hq_3162 rfl rfl) (s.lend_row0 z2 hq_3166 rfl rfl) (hs_19.mono (hl_383.le.trans (hl_1293.le.trans (hl_3154.le.trans hl_3158.le)))) (hs_21.mono (hl_383.le.trans (hl_1293.le.trans (hl_3154.le.trans hl_3158.le)))) (GF.mono (s.raLe0 hRA nil_not) hG) h_3169) fun a v_ w hv_ q=>?_
 obtain ⟨R_3170,v_3173,cs_3174,v_3177,cs_3178,hv_,hr_,hl_3171,hq_3175,hq_3179⟩:=hv_
 have hv_:=hv_.symm
 subst hv_
 obtain ⟨s,hl_3171⟩:=s.sp0.back hr_ hl_3171
 have s:=s.un2
 have hRL:=hRL.trans hl_3171
 refine zm q rfl fun a q=>zl q (r_extract q rfl rfl) fun a q=>zl q (r_extract q rfl rfl) fun a q=>?_
 refine sl_alloc zeroValue35 s q (by decide) rfl rfl fun a w b_3180 s q=>?_
 refine sl_storeA (vs:=[v_3173,v_3177]) (c':=[v_3173,v_3177]) sizeOf35 s q rfl rfl rfl rfl (all_cons (s.row_one z1) (all_cons (s.row_one z2) zz)) (Nat.le_of_ble_eq_true rfl) rfl fun a w s q=>?_
 refine za q rfl fun a q=>zn<|zq<|zr<|zl q (r_loadA (cs:=[v_1283,v_1288]) isAgg35 sizeOf35 rfl q rfl (s.cells_of (m:=2) (.tail _ (.tail _ (.tail _ (.tail _ (.tail _ z8))))) rfl)) fun a q=>zl q (r_fieldAddr underlying26 rfl sizeOf23 q rfl) fun a q=>zl q (r_load isAgg23 q rfl (s.cell z7 rfl)) fun a q=>zl q (r_fieldAddr underlying26 rfl sizeOf24 q rfl) fun a q=>zl q (r_load isAgg24 q rfl (s.cell z7 rfl)) fun a q=>?_
 obtain ⟨y_3181,h_3182,H⟩:=bs H
 refine sl_call call22 q (by decide) rfl rfl rfl (group_Finish.calls (⟨x_1282,x_1287⟩ : api_Table) y_14.Names y_14.Aggs (lentOf_sub [] _) s.sub (s.lend_row0 (.tail _ (.tail _ (.tail _ z8))) (hq_1285.mono (hl_3154.le.trans (hl_3158.le.trans hl_3171.le))) rfl rfl) (s.lend_row0 (.tail _ (.tail _ (.tail _ (.tail _ z8)))) (hq_1290.mono (hl_3154.le.trans (hl_3158.le.trans hl_3171.le))) rfl rfl) (hs_19.mono (hl_383.le.trans (hl_1293.le.trans (hl_3154.le.trans (hl_3158.le.trans hl_3171.le))))) (hs_21.mono (hl_383.le.trans (hl_1293.le.trans (hl_3154.le.trans (hl_3158.le.trans hl_3171.le))))) (GF.mono (s.raLe0 hRA nil_not) hG) h_3182) fun a v_ w hv_ q=>?_
 obtain ⟨R_3183,v_3186,cs_3187,v_3190,cs_3191,hv_,hr_,hl_3184,hq_3188,hq_3192⟩:=hv_
 have hv_:=hv_.symm
 subst hv_
 obtain ⟨s,hl_3184⟩:=s.sp0.back hr_ hl_3184
 have s:=s.un2
 have hRL:=hRL.trans hl_3184
 refine zm q rfl fun a q=>zl q (r_extract q rfl rfl) fun a q=>zl q (r_extract q rfl rfl) fun a q=>?_
 refine sl_alloc zeroValue35 s q (by decide) rfl rfl fun a w b_3193 s q=>?_
 refine sl_storeA (vs:=[v_3186,v_3190]) (c':=[v_3186,v_3190]) sizeOf35 s q rfl rfl rfl rfl (all_cons (s.row_one z1) (all_cons (s.row_one z2) zz)) (Nat.le_of_ble_eq_true rfl) rfl fun a w s q=>?_
 refine za q rfl fun a q=>zn<|zq<|zr<|zl q (r_loadA (cs:=[v_3173,v_3177]) isAgg35 sizeOf35 rfl q rfl (s.cells_of (m:=2) z3 rfl)) fun a q=>zl q (r_loadA (cs:=[v_384,v_386]) isAgg35 sizeOf35 rfl q rfl (s.cells_of (m:=2) (.tail _ (.tail _ (.tail _ (.tail _ z8)))) rfl)) fun a q=>?_
 obtain ⟨y_3194,h_3195,H⟩:=bs H
 refine sl_callV call17 s q (by decide) rfl rfl rfl (ref02_Same.calls y_3168.1 y_380.1 (lentOf_sub [] _) (s.lend_row0 z4 (hq_3175.mono hl_3184.le) rfl rfl) (s.lend_row0 z5 (hq_3179.mono hl_3184.le) rfl rfl) (hs_385.mono ((hl_1293.le.trans (hl_3154.le.trans (hl_3158.le.trans (hl_3171.le.trans hl_3184.le)))).trans s.rLe0)) (hs_387.mono ((hl_1293.le.trans (hl_3154.le.trans (hl_3158.le.trans (hl_3171.le.trans hl_3184.le)))).trans s.rLe0)) h_3195) fun a w s q=>?_
 refine za q rfl fun a q=>zn<|zq<|zr<|zl q (r_loadA (cs:=[v_3186,v_3190]) isAgg35 sizeOf35 rfl q rfl (s.cells_of (m:=2) z0 rfl)) fun a q=>zl q (r_loadA (cs:=[v_384,v_386]) isAgg35 sizeOf35 rfl q rfl (s.cells_of (m:=2) (.tail _ (.tail _ (.tail _ (.tail _ z8)))) rfl)) fun a q=>?_
 obtain ⟨y_3196,h_3197,H⟩:=bs H
 refine sl_callV call17 s q (by decide) rfl rfl rfl (ref02_Same.calls y_3181.1 y_380.1 (lentOf_sub [] _) (s.lend_row0 z1 hq_3188 rfl rfl) (s.lend_row0 z2 hq_3192 rfl rfl) (hs_385.mono ((hl_1293.le.trans (hl_3154.le.trans (hl_3158.le.trans (hl_3171.le.trans hl_3184.le)))).trans s.rLe0)) (hs_387.mono ((hl_1293.le.trans (hl_3154.le.trans (hl_3158.le.trans (hl_3171.le.trans hl_3184.le)))).trans s.rLe0)) h_3197) fun a w s q=>?_
 refine za q rfl fun a q=>zn<|zq<|zr<|zm q rfl fun a q=>zm q rfl fun a q=>?_
 rcases or_b y_4 with hb_3198 | hb_3198
 rw [ifb_t hb_3198] at H
 refine zw q (wtt hb_3198) (r_move q rfl) fun a q=>zw q (wtt hb_3198) (r_ibin q rfl rfl rfl) fun a q=>zl q (r_pick_t hb_3198 q rfl rfl) fun a q=>zm q rfl fun a q=>?_
 rcases or_b (y_3155.2 == 0) with hb_3199 | hb_3199
 rw [ifb_t hb_3199] at H
 refine zw q (wtt hb_3199) (r_move q rfl) fun a q=>zw q (wtt hb_3199) (r_ibin q rfl rfl rfl) fun a q=>zl q (r_pick_t hb_3199 q rfl rfl) fun a q=>zm q rfl fun a q=>?_
 rcases or_b (y_3168.2 == 0) with hb_3200 | hb_3200
 rw [ifb_t hb_3200] at H
 refine zw q (wtt hb_3200) (r_move q rfl) fun a q=>zw q (wtt hb_3200) (r_ibin q rfl rfl rfl) fun a q=>zl q (r_pick_t hb_3200 q rfl rfl) fun a q=>zm q rfl fun a q=>?_
 rcases or_b (y_3181.2 == 0) with hb_3201 | hb_3201
 rw [ifb_t hb_3201] at H
 refine zw q (wtt hb_3201) (r_move q rfl) fun a q=>zl q (r_pick_t hb_3201 q rfl rfl) fun a q=>zm q rfl fun a q=>?_
 rcases or_b y_3194 with hb_3202 | hb_3202
 rw [ifb_t hb_3202] at H
 refine zw q (wtt hb_3202) (r_move q rfl) fun a q=>zl q (r_pick_t hb_3202 q rfl rfl) fun a q=>za q rfl fun a q=>zn ?_
 have hr_:=Option.some.inj H
 refine wp_ret ?_
 repeat first | refine zt ?_ | refine zb ?_ | refine zo ?_
 exact ret_1 results6 q (rv_tmp q rfl) ⟨congrArg (fun b=>Ending.returned (Value.bool b)) hr_,s.bel⟩
 rw [ifb_f hb_3202] at H
 refine zsw q (wtf hb_3202) fun a q=>zl q (r_pick_f hb_3202 q rfl rfl) fun a q=>za q rfl fun a q=>zn ?_
 exact absurd (Option.some.inj H) (by decide)
 rw [ifb_f hb_3201] at H
 refine zsw q (wtf hb_3201) fun a q=>zl q (r_pick_f hb_3201 q rfl rfl) fun a q=>zm q rfl fun a q=>zs q fun a q=>zl q (r_pick q rfl rfl rfl) fun a q=>za q rfl fun a q=>zn ?_
 exact absurd (Option.some.inj H) (by decide)
 rw [ifb_f hb_3200] at H
 refine zsw q (wtf hb_3200) fun a q=>zsw q (wtf hb_3200) fun a q=>zl q (r_pick_f hb_3200 q rfl rfl) fun a q=>zm q rfl fun a q=>zs q fun a q=>zl q (r_pick q rfl rfl rfl) fun a q=>zm q rfl fun a q=>zs q fun a q=>zl q (r_pick q rfl rfl rfl) fun a q=>za q rfl fun a q=>zn ?_
 exact absurd (Option.some.inj H) (by decide)
 rw [ifb_f hb_3199] at H
 refine zsw q (wtf hb_3199) fun a q=>zsw q (wtf hb_3199) fun a q=>zl q (r_pick_f hb_3199 q rfl rfl) fun a q=>zm q rfl fun a q=>zs q fun a q=>zs q fun a q=>zl q (r_pick q rfl rfl rfl) fun a q=>zm q rfl fun a q=>zs q fun a q=>zl q (r_pick q rfl rfl rfl) fun a q=>zm q rfl fun a q=>zs q fun a q=>zl q (r_pick q rfl rfl rfl) fun a q=>za q rfl fun a q=>zn ?_
 exact absurd (Option.some.inj H) (by decide)
 rw [ifb_f hb_3198] at H
 refine zsw q (wtf hb_3198) fun a q=>zsw q (wtf hb_3198) fun a q=>zl q (r_pick_f hb_3198 q rfl rfl) fun a q=>zm q rfl fun a q=>zs q fun a q=>zs q fun a q=>zl q (r_pick q rfl rfl rfl) fun a q=>zm q rfl fun a q=>zs q fun a q=>zs q fun a q=>zl q (r_pick q rfl rfl rfl) fun a q=>zm q rfl fun a q=>zs q fun a q=>zl q (r_pick q rfl rfl rfl) fun a q=>zm q rfl fun a q=>zs q fun a q=>zl q (r_pick q rfl rfl rfl) fun a q=>za q rfl fun a q=>zn ?_
 exact absurd (Option.some.inj H) (by decide)
end Go.Proofs.YtonfglmfdhljnaaGreatDoor.M
end
