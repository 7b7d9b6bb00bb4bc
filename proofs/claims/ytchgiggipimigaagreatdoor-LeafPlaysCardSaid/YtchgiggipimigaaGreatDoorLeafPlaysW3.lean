/- For the law LeafPlays: each Go function answers as its plain Lean function tells, wherever that tells something; without further condition. -/
import Derived.Test.YtchgiggipimigaaGreatDoorLeafPlaysW2
section
namespace Go.Proofs.YtchgiggipimigaaGreatDoor.M
open Go Go.Eng Go.Proofs Go.RowKit
set_option linter.unusedVariables false
set_option linter.unusedSimpArgs false
open Go.Proofs.Tryz
set_option maxHeartbeats 4000000
set_option maxRecDepth 100000
theorem ref08_Leaf_Write.calls (a0 : catchmentref08_Leaf) (a1 : api_Point) {w0 : World} {R : Hp} {RA : Hp} {M : List Own} {b0 : Nat} {v0_0 : Value} {v0_1 : Value} {cs0_1 : List Value} {v1_0 : Value} {v1_1 : Value} (hRA : RA.sub w0) (hRM : ∀ b,blks M b → RA b = none) (hS0 : St M w0 w0 R [.cells b0 [v0_0,I6 a0.Room,v0_1] 60,.row 33 4 v0_1 a0.L.length cs0_1]) (h0_0 : SlR ty_api_Schema R v0_0 a0.S) (h0_1 : Reps ty_api_Point R cs0_1 a0.L) (h1_0 : SlR ty_api_Value RA v1_0 a1.Keys) (h1_1 : SlR ty_api_Value RA v1_1 a1.Vals) {r : Bool × Int × catchmentref08_Leaf} (H : ref08_Leaf_Write a0 a1 = some r) : Calls prog 18 #[.pointer (some ⟨b0,0,none⟩),.agg #[.string a1.Schema,v1_0,I6 a1.Time,v1_1]] w0 (Rets fun v w'=>∃ (R' : Hp) (u0 : Value) (u1 : Value) (cu1 : List Value),v = .tuple #[.bool r.1,I6 r.2.1] ∧ St M w0 w' R' [.cells b0 [u0,I6 r.2.2.Room,u1] 60,.row 33 4 u1 r.2.2.L.length cu1] ∧ RLe M w0 R R' ∧ SlR ty_api_Schema R' u0 r.2.2.S ∧ Reps ty_api_Point R' cu1 r.2.2.L):=by
 unfold ref08_Leaf_Write at H
 refine enter (args:=[.pointer (some ⟨b0,0,none⟩),.agg #[.string a1.Schema,v1_0,I6 a1.Time,v1_1]]) func18 rfl ntmps18 rfl fun a q=>?_
 have s:=hS0
 have hRL:=RLe.refl (M:=M) w0 R
 refine zq<|zr ?_
 refine sl_box s q (by decide) rfl rfl (c:=[.string a1.Schema,v1_0,I6 a1.Time,v1_1]) rfl fun a w b_1 s q=>?_
 refine za q rfl fun a q=>za q rfl fun a q=>zn<|zq ?_
 refine parT_region (C:=fun w=>St M w0 w R [.cells b_1 [.string a1.Schema,v1_0,I6 a1.Time,v1_1] 33,.cells b0 [v0_0,I6 a0.Room,v0_1] 60,.row 33 4 v0_1 a0.L.length cs0_1]) 5 [(0,true),(1,true),(2,true),(3,true),(4,true)] mixed (by kernel_rfl) s (fun w s=>s) fun w s=>?_
 refine zp rfl q (fun w s=>r_move q rfl) fun a q=>zp rfl q (fun w s=>r_nilCheck q rfl) fun a q=>zp rfl q (fun w s=>r_fieldAddr underlying60 rfl sizeOf28 q rfl) fun a q=>zp rfl q (fun w s=>r_load isAgg28 q rfl (s.cell z1 rfl)) fun a q=>zp rfl q (fun w s=>r_loadA (cs:=[.string a1.Schema,v1_0,I6 a1.Time,v1_1]) isAgg33 sizeOf33 rfl q rfl (s.cells_of (m:=4) z0 rfl)) fun a q=>?_
 refine thenL_nil ?_
 obtain ⟨y_4,h_5,H⟩:=bs H
 refine sl_callV call43 s q (by decide) rfl rfl rfl (ref05_Fits.calls a0.S a1 (lentOf_sub [] _) s.sub h0_0 (h1_0.mono (s.raLe0 hRA hRM)) (h1_1.mono (s.raLe0 hRA hRM)) h_5) fun a w s q=>?_
 refine za q rfl fun a q=>?_
 refine wpList_nil (NoP_nil ?_)
 refine zq<|zq<|zr<|zm q rfl fun a q=>zl q (r_ibin q rfl rfl rfl) fun a q=>zn ?_
 refine wp_cond_split (q.ev rfl) (fun (hb_6 : (y_4 != 0) = true)=>?_) fun hb_6=>?_
 rw [ifb_t hb_6] at H
 refine zq<|zr<|zm q rfl fun a q=>za q rfl fun a q=>za q rfl fun a q=>zn ?_
 obtain rfl:=Option.some.inj H
 refine wp_ret ?_
 repeat first | refine zt ?_ | refine zb ?_ | refine zo ?_
 exact ret_2 results18 q (rv_tmp q rfl) (rv_tmp q rfl) ⟨_,rfl,_,_,_,_,rfl,(s.pk2.pk2.trunc 2),hRL,h0_0,h0_1⟩
 rw [ifb_f hb_6] at H
 refine wp_skip<|zq<|zq<|zr<|za q rfl fun a q=>zn ?_
 refine wp_block ?_
 refine wp_loop_k (fun k_l0 a w=>∃ (x_33 : Int),ref08_Leaf_Write.l0 a0 a1 k_l0 x_33 = some r ∧ Kn 84 a [(0,.pointer (some ⟨b0,0,none⟩)),(3,.pointer (some ⟨b_1,0,none⟩)),(7,I6 x_33)] ∧ St M w0 w R [.row 33 4 v0_1 a0.L.length cs0_1,.cells b0 [v0_0,I6 a0.Room,v0_1] 60,.cells b_1 [.string a1.Schema,v1_0,I6 a1.Time,v1_1] 33]) (((a0.L.length : Int) - 0).toNat + 1) ?_ ?_
 have s:=s.pk1
 have s:=s.pk2
 exact ⟨0,H,q.sub (zc (zc (zc zz))),s⟩
 rintro k_l0 a w ⟨x_33,H,q,s⟩
 rcases k_l0 with _ | k_l0
 cases H
 rw [ref08_Leaf_Write.l0.eq_2] at H
 refine zq<|zq<|zr<|zm q rfl fun a q=>zm q rfl fun a q=>zl q (r_nilCheck q rfl) fun a q=>zl q (r_fieldAddr underlying60 rfl sizeOf30 q rfl) fun a q=>zl q (r_load isAgg30 q rfl (s.cell z1 rfl)) fun a q=>zl q (r_len_O underlying30 s z0 q rfl) fun a q=>zl q (r_ibin q rfl rfl rfl) fun a q=>zn ?_
 refine wp_cond_split (q.ev rfl) (fun (hb_60 : (decide (x_33 < (a0.L.length : Int))) = true)=>?_) fun hb_60=>?_
 rw [ifb_t hb_60] at H
 refine wp_skip<|zq ?_
 refine wp_block ?_
 refine zq<|zr<|zm q rfl fun a q=>zl q (r_nilCheck q rfl) fun a q=>zl q (r_fieldAddr underlying60 rfl sizeOf30 q rfl) fun a q=>zl q (r_load isAgg30 q rfl (s.cell z1 rfl)) fun a q=>zm q rfl fun a q=>?_
 obtain ⟨y_61,h_62,H⟩:=bs H
 obtain ⟨b_64,c_65,cs_66,hv_63,hr_67,hc_68,h_620,h_621⟩:=s.row_ix z0 h0_1 rfl rfl h_62
 obtain ⟨v_69,v_71,rfl,hs_70,hs_72⟩:=hr_67
 refine zl q (r_indexAddr_R underlying30 sizeOf33 hv_63 h_620 h_621 q rfl rfl) fun a q=>zl q (r_loadA (cs:=[.string y_61.Schema,v_69,I6 y_61.Time,v_71]) isAgg33 sizeOf33 rfl q rfl (fun j v hv=>by have:=s.row_cell z0 hv_63 (hc_68 j v hv); simpa [Nat.add_assoc] using this)) fun a q=>?_
 refine sl_alloc zeroValue33 s q (by decide) rfl rfl fun a w b_73 s q=>?_
 refine sl_storeA (vs:=[.string y_61.Schema,v_69,I6 y_61.Time,v_71]) (c':=[.string y_61.Schema,v_69,I6 y_61.Time,v_71]) sizeOf33 s q rfl rfl rfl rfl (zc (all_cons hs_70.one (zc (all_cons hs_72.one zz)))) (Nat.le_of_ble_eq_true rfl) rfl fun a w s q=>?_
 refine zn<|zq ?_
 refine wp_mid (fun a w=>∃ (x_78 : Bool),ref08_Leaf_Write.j1 (ref08_Leaf_Write.l0 a0 a1 k_l0) a0 x_33 x_78 = some r ∧ Kn 84 a [(0,.pointer (some ⟨b0,0,none⟩)),(3,.pointer (some ⟨b_1,0,none⟩)),(7,I6 x_33),(53,.bool x_78)] ∧ St M w0 w R [.row 33 4 v0_1 a0.L.length cs0_1,.cells b0 [v0_0,I6 a0.Room,v0_1] 60,.cells b_1 [.string a1.Schema,v1_0,I6 a1.Time,v1_1] 33]) ?_ ?_
 refine zr<|zl q (r_fieldAddr underlying33 rfl sizeOf9 q rfl) fun a q=>zl q (r_load isAgg9 q rfl (s.cell z0 rfl)) fun a q=>zl q (r_fieldAddr underlying33 rfl sizeOf9 q rfl) fun a q=>zl q (r_load isAgg9 q rfl (s.cell z3 rfl)) fun a q=>zl q (r_sbin q rfl rfl rfl) fun a q=>zm q rfl fun a q=>?_
 rcases or_b (y_61.Schema.toList == a1.Schema.toList) with hb_80 | hb_80
 rw [ifb_t hb_80] at H
 refine zw q (wtt hb_80) (r_fieldAddr underlying33 rfl sizeOf3 q rfl) fun a q=>zw q (wtt hb_80) (r_load isAgg3 q rfl (s.cell z0 rfl)) fun a q=>zw q (wtt hb_80) (r_fieldAddr underlying33 rfl sizeOf3 q rfl) fun a q=>zw q (wtt hb_80) (r_load isAgg3 q rfl (s.cell z3 rfl)) fun a q=>zw q (wtt hb_80) (r_ibin q rfl rfl rfl) fun a q=>zl q (r_pick_t hb_80 q rfl rfl) fun a q=>zm q rfl fun a q=>?_
 rcases or_b (y_61.Time == a1.Time) with hb_81 | hb_81
 rw [ifb_t hb_81] at H
 refine zw q (wtt hb_81) (r_fieldAddr underlying33 rfl sizeOf31 q rfl) fun a q=>zw q (wtt hb_81) (r_load isAgg31 q rfl (s.cell z0 rfl)) fun a q=>zw q (wtt hb_81) (r_fieldAddr underlying33 rfl sizeOf31 q rfl) fun a q=>zw q (wtt hb_81) (r_load isAgg31 q rfl (s.cell z3 rfl)) fun a q=>?_
 obtain ⟨y_82,h_83,H⟩:=bs H
 refine sl_callV call37 s q (by decide) (wtt hb_81) rfl rfl (ref02_Row.calls y_61.Keys a1.Keys (lentOf_sub [] _) (hs_70.mono s.rLe0) (h1_0.mono (s.raLe0 hRA hRM)) h_83) fun a w s q=>?_
 refine zw q (wtt hb_81) (r_ibin q rfl rfl rfl) fun a q=>zl q (r_pick_t hb_81 q rfl rfl) fun a q=>zn ?_
 have s:=s.pk3
 have s:=s.pk3
 have s:=s.pk3
 exact ⟨(y_82 == 0),H,q.sub (zc (zc (zc (zc zz)))),s.trunc 3⟩
 rw [ifb_f hb_81] at H
 refine zsw q (wtf hb_81) fun a q=>zsw q (wtf hb_81) fun a q=>zsw q (wtf hb_81) fun a q=>zsw q (wtf hb_81) fun a q=>zsw q (wtf hb_81) fun a q=>zsw q (wtf hb_81) fun a q=>zl q (r_pick_f hb_81 q rfl rfl) fun a q=>zn ?_
 have s:=s.pk3
 have s:=s.pk3
 have s:=s.pk3
 exact ⟨false,H,q.sub (zc (zc (zc (zc zz)))),s.trunc 3⟩
 rw [ifb_f hb_80] at H
 refine zsw q (wtf hb_80) fun a q=>zsw q (wtf hb_80) fun a q=>zsw q (wtf hb_80) fun a q=>zsw q (wtf hb_80) fun a q=>zsw q (wtf hb_80) fun a q=>zl q (r_pick_f hb_80 q rfl rfl) fun a q=>zm q rfl fun a q=>zs q fun a q=>zs q fun a q=>zs q fun a q=>zs q fun a q=>zs q fun a q=>zs q fun a q=>zl q (r_pick q rfl rfl rfl) fun a q=>zn ?_
 have s:=s.pk3
 have s:=s.pk3
 have s:=s.pk3
 exact ⟨false,H,q.sub (zc (zc (zc (zc zz)))),s.trunc 3⟩
 rintro a w ⟨x_78,H,q,s⟩
 unfold ref08_Leaf_Write.j1 at H
 refine wp_cond_split (q.ev rfl) (fun (hb_84 : x_78 = true)=>?_) fun hb_84=>?_
 rw [ifb_t hb_84] at H
 refine zq<|zr<|za q rfl fun a q=>za q rfl fun a q=>zn ?_
 obtain rfl:=Option.some.inj H
 refine wp_ret ?_
 repeat first | refine zt ?_ | refine zb ?_ | refine zo ?_
 exact ret_2 results18 q (rv_tmp q rfl) (rv_tmp q rfl) ⟨_,rfl,_,_,_,_,rfl,(s.pk1.trunc 2),hRL,h0_0,h0_1⟩
 rw [ifb_f hb_84] at H
 refine wp_skip<|zr<|zm q rfl fun a q=>zl q (r_ibin q rfl rfl rfl) fun a q=>za q rfl fun a q=>zn ?_
 have s:=s.pk2
 have s:=s.pk2
 have s:=s.pk2
 exact ⟨_,Nat.lt_succ_self _,(IntKind.i64.wrap (x_33 + 1)),H,q.sub (zc (zc (zc zz))),s⟩
 rw [ifb_f hb_60] at H
 refine wp_exit ?_
 refine zq<|zq ?_
 refine par_region (C:=fun w=>St M w0 w R [.row 33 4 v0_1 a0.L.length cs0_1,.cells b0 [v0_0,I6 a0.Room,v0_1] 60,.cells b_1 [.string a1.Schema,v1_0,I6 a1.Time,v1_1] 33]) [(0,true),(1,true),(2,true),(3,true),(4,true),(5,true),(6,true),(7,true),(8,true),(9,true)] mixed (by kernel_rfl) s (fun w s=>s) fun w s=>?_
 refine zp rfl q (fun w s=>r_move q rfl) fun a q=>zp rfl q (fun w s=>r_nilCheck q rfl) fun a q=>zp rfl q (fun w s=>r_fieldAddr underlying60 rfl sizeOf30 q rfl) fun a q=>zp rfl q (fun w s=>r_load isAgg30 q rfl (s.cell z1 rfl)) fun a q=>zp rfl q (fun w s=>r_len_O underlying30 s z0 q rfl) fun a q=>zp rfl q (fun w s=>r_move q rfl) fun a q=>zp rfl q (fun w s=>r_nilCheck q rfl) fun a q=>zp rfl q (fun w s=>r_fieldAddr underlying60 rfl sizeOf3 q rfl) fun a q=>zp rfl q (fun w s=>r_load isAgg3 q rfl (s.cell z1 rfl)) fun a q=>zp rfl q (fun w s=>r_ibin q rfl rfl rfl) fun a q=>?_
 refine wpPar_nil (NoP_nil ?_)
 refine wp_cond_split (q.ev rfl) (fun (hb_85 : (decide ((a0.L.length : Int) ≥ a0.Room)) = true)=>?_) fun hb_85=>?_
 rw [ifb_t hb_85] at H
 refine zq<|zr<|za q rfl fun a q=>za q rfl fun a q=>zn ?_
 obtain rfl:=Option.some.inj H
 refine wp_ret ?_
 repeat first | refine zt ?_ | refine zb ?_ | refine zo ?_
 exact ret_2 results18 q (rv_tmp q rfl) (rv_tmp q rfl) ⟨_,rfl,_,_,_,_,rfl,(s.pk1.trunc 2),hRL,h0_0,h0_1⟩
 rw [ifb_f hb_85] at H
 refine wp_skip<|zq<|zr ?_
 refine sl_buildSliceC (zc:=[I6 0,I6 0,.string (⟨#[]⟩ : ByteArray),I6 0,I6 0,I6 0,I6 0,I6 0,I6 0,I6 0,I6 0]) (zs:=[]) (ps:=[]) (c:=[]) underlying31 sizeOf58 zeroValue58 rfl pc_nil rfl rfl (by decide) (by kernel_rfl) rfl s q (by decide) rfl fun a w b_86 s q=>?_
 refine zl q (r_fieldAddr underlying33 rfl sizeOf31 q rfl) fun a q=>zl q (r_load isAgg31 q rfl (s.cell z3 rfl)) fun a q=>?_
 obtain ⟨y_89,h_90,H⟩:=bs H
 have s:=s.row_lit (size:=11) (m:=0) rfl (by decide)
 have hq_88 : Reps ty_api_Value R [] ([] : List api_Value):=(Reps.nil _ _)
 refine sl_append_A elT31 (by decide) rfl (fun _ _ _ _ h=>h) (s.ra hRA hRM) hq_88 rfl h1_0 h_90 s q (by decide) rfl rfl rfl fun a w v_91 cs_92 hq_93 s q=>?_
 refine zl q (r_fieldAddr underlying33 rfl sizeOf31 q rfl) fun a q=>?_
 have s:=s.pk3
 refine sl_store1 (c':=[.string a1.Schema,v_91,I6 a1.Time,v1_1]) sizeOf31 s q rfl rfl rfl (s.row_one z1) (Nat.le_of_ble_eq_true rfl) rfl fun a w s q=>?_
 refine zn<|zq<|zr ?_
 refine sl_buildSliceC (zc:=[I6 0,I6 0,.string (⟨#[]⟩ : ByteArray),I6 0,I6 0,I6 0,I6 0,I6 0,I6 0,I6 0,I6 0]) (zs:=[]) (ps:=[]) (c:=[]) underlying31 sizeOf58 zeroValue58 rfl pc_nil rfl rfl (by decide) (by kernel_rfl) rfl s q (by decide) rfl fun a w b_95 s q=>?_
 refine zl q (r_fieldAddr underlying33 rfl sizeOf31 q rfl) fun a q=>zl q (r_load isAgg31 q rfl (s.cell z1 rfl)) fun a q=>?_
 obtain ⟨y_98,h_99,H⟩:=bs H
 have s:=s.row_lit (size:=11) (m:=0) rfl (by decide)
 have hq_97 : Reps ty_api_Value R [] ([] : List api_Value):=(Reps.nil _ _)
 refine sl_append_A elT31 (by decide) rfl (fun _ _ _ _ h=>h) (s.ra hRA hRM) hq_97 rfl h1_1 h_99 s q (by decide) rfl rfl rfl fun a w v_100 cs_101 hq_102 s q=>?_
 refine zl q (r_fieldAddr underlying33 rfl sizeOf31 q rfl) fun a q=>?_
 have s:=s.pk1
 refine sl_store1 (c':=[.string a1.Schema,v_91,I6 a1.Time,v_100]) sizeOf31 s q rfl rfl rfl (s.row_one z1) (Nat.le_of_ble_eq_true rfl) rfl fun a w s q=>?_
 refine zn<|zq ?_
 refine parT_region (C:=fun w=>St M w0 w R [.cells b_1 [.string a1.Schema,v_91,I6 a1.Time,v_100] 33,.cells b0 [v0_0,I6 a0.Room,v0_1] 60]) 8 [(0,true),(1,true),(2,true),(3,true),(4,true),(5,true),(6,false),(7,false)] mixed (by kernel_rfl) s (fun w s=>(s.pk4.pk1.trunc 2)) fun w s=>?_
 refine zp rfl q (fun w s=>r_move q rfl) fun a q=>zp rfl q (fun w s=>r_move q rfl) fun a q=>zp rfl q (fun w s=>r_nilCheck q rfl) fun a q=>zp rfl q (fun w s=>r_fieldAddr underlying60 rfl sizeOf30 q rfl) fun a q=>zp rfl q (fun w s=>r_load isAgg30 q rfl (s.cell z1 rfl)) fun a q=>zp rfl q (fun w s=>r_loadA (cs:=[.string a1.Schema,v_91,I6 a1.Time,v_100]) isAgg33 sizeOf33 rfl q rfl (s.cells_of (m:=4) z0 rfl)) fun a q=>?_
 refine spw (k:=6) rfl rfl (s.pk4.pk1.trunc 2) ?_
 refine sl_buildSliceF (zc:=[.string (⟨#[]⟩ : ByteArray),.slice none 0 0,I6 0,.slice none 0 0]) (ps:=[(0,.agg #[.string a1.Schema,v_91,I6 a1.Time,v_100])]) (c:=[.string a1.Schema,v_91,I6 a1.Time,v_100]) [[.string a1.Schema,v_91,I6 a1.Time,v_100]] underlying30 sizeOf33 zeroValue33 rfl (pc_cons rfl pc_nil) rfl rfl (Nat.le_of_ble_eq_true rfl) rfl (zc zz) rfl s q (by decide) rfl fun a w b_117 s q=>?_
 refine parK_nil (s.pk5.pk2.trunc 2) ?_
 refine spw (k:=7) rfl rfl (s.pk5.pk2.trunc 2) ?_
 have s:=s.pk4
 have s:=s.pk4
 obtain ⟨R_118,s,hl_120,hs_119⟩:=s.fz_row hq_93 rfl rfl
 have hRL:=hRL.trans hl_120
 have s:=s.pk3
 obtain ⟨R_121,s,hl_123,hs_122⟩:=s.fz_row (hq_102.mono hl_120.le) rfl rfl
 have hRL:=hRL.trans hl_123
 obtain ⟨y_124,h_125,H⟩:=bs H
 refine sl_append_L (ty:=ty_api_Point) (ys:=[(⟨a1.Schema,y_89,a1.Time,y_98⟩ : api_Point)]) elT30 (by decide) rfl (h0_1.mono (hl_120.le.trans hl_123.le)) rfl (Reps.cons (show Ty.rep ty_api_Point _ [.string a1.Schema,v_91,I6 a1.Time,v_100] (⟨a1.Schema,y_89,a1.Time,y_98⟩ : api_Point) from ⟨_,_,rfl,(hs_119.mono hl_123.le),hs_122⟩) (Reps.nil _ _)) rfl h_125 s q (by decide) rfl rfl rfl fun a w v_126 cs_127 hq_128 s q=>?_
 refine parK_nil ((s.pk2.pk2.trunc 2).lower (hl_120.le.trans hl_123.le)) ?_
 refine thenL_nil ?_
 refine zl q (r_nilCheck q rfl) fun a q=>zl q (r_fieldAddr underlying60 rfl sizeOf30 q rfl) fun a q=>?_
 have s:=s.pk2
 refine sl_store1 (c':=[v0_0,I6 a0.Room,v_126]) sizeOf30 s q rfl rfl rfl (s.row_one z1) (Nat.le_of_ble_eq_true rfl) rfl fun a w s q=>?_
 refine wpList_nil (NoP_nil ?_)
 refine zq<|zr<|za q rfl fun a q=>za q rfl fun a q=>zn ?_
 obtain rfl:=Option.some.inj H
 refine wp_ret ?_
 repeat first | refine zt ?_ | refine zb ?_ | refine zo ?_
 exact ret_2 results18 q (rv_tmp q rfl) (rv_tmp q rfl) ⟨_,rfl,_,_,_,_,rfl,(s.trunc 2),hRL,(h0_0.mono (hl_120.le.trans hl_123.le)),hq_128⟩
theorem ref05_Cols.calls (a0 : api_Schema) {w0 : World} {R : Hp} {RA : Hp} {v0_0 : Value} {v0_1 : Value} (hRA : RA.sub w0) (hR : R.sub w0) (h0_0 : SlR ty_api_Col RA v0_0 a0.Keys) (h0_1 : SlR ty_api_Col RA v0_1 a0.Vals) {r : List api_Col} (H : ref05_Cols a0 = some r) : Calls prog 45 #[.agg #[.string a0.Name,v0_0,v0_1]] w0 (Rets fun v w'=>∃ (R' : Hp) (u0 : Value) (cu0 : List Value),v = u0 ∧ St [] w0 w' R' [.row 65 2 u0 r.length cu0] ∧ RLe [] w0 R R' ∧ Reps ty_api_Col R' cu0 r):=by
 unfold ref05_Cols at H
 refine enter (args:=[.agg #[.string a0.Name,v0_0,v0_1]]) func45 rfl ntmps45 rfl fun a q=>?_
 have s:=St.init hR
 have hRL:=RLe.refl (M:=[]) w0 R
 refine zq<|zr ?_
 refine sl_box s q (by decide) rfl rfl (c:=[.string a0.Name,v0_0,v0_1]) rfl fun a w b_1 s q=>?_
 refine za q rfl fun a q=>zn<|zq<|zr<|zl q (r_buildC (ps:=[(0,.string (⟨#[116,105,109,101]⟩ : ByteArray)),(1,I6 1)]) (c:=[.string (⟨#[116,105,109,101]⟩ : ByteArray),I6 1]) underlying65 zeroValue65 places65 q rfl (pc_cons rfl (pc_cons rfl pc_nil)) rfl rfl) fun a q=>?_
 refine sl_buildSliceF (zc:=[.string (⟨#[]⟩ : ByteArray),I6 0]) (ps:=[(0,.agg #[.string (⟨#[116,105,109,101]⟩ : ByteArray),I6 1])]) (c:=[.string (⟨#[116,105,109,101]⟩ : ByteArray),I6 1]) [[.string (⟨#[116,105,109,101]⟩ : ByteArray),I6 1]] underlying38 sizeOf65 zeroValue65 rfl (pc_cons rfl pc_nil) rfl rfl (Nat.le_of_ble_eq_true rfl) rfl (zc zz) rfl s q (by decide) rfl fun a w b_2 s q=>?_
 refine za q rfl fun a q=>zn<|zq ?_
 refine parT_region (C:=fun w=>St [] w0 w R [.cells b_1 [.string a0.Name,v0_0,v0_1] 49]) 6 [(0,true),(1,true),(2,true),(4,true),(5,true),(3,false)] mixed (by kernel_rfl) s (fun w s=>(s.pk1.trunc 1)) fun w s=>?_
 refine zp rfl q (fun w s=>r_move q rfl) fun a q=>zp rfl q (fun w s=>r_fieldAddr underlying49 rfl sizeOf38 q rfl) fun a q=>zp rfl q (fun w s=>r_load isAgg38 q rfl (s.cell z0 rfl)) fun a q=>zp rfl q (fun w s=>r_fieldAddr underlying49 rfl sizeOf38 q rfl) fun a q=>zp rfl q (fun w s=>r_load isAgg38 q rfl (s.cell z0 rfl)) fun a q=>?_
 refine spw (k:=3) rfl rfl (s.pk1.trunc 1) ?_
 obtain ⟨y_19,h_20,H⟩:=bs H
 have s:=s.row_lit (size:=2) (m:=1) rfl (by decide)
 have hq_18 : Reps ty_api_Col R [.string (⟨#[116,105,109,101]⟩ : ByteArray),I6 1] [(⟨(⟨#[116,105,109,101]⟩ : ByteArray),1⟩ : api_Col)]:=(Reps.cons (show Ty.rep ty_api_Col _ [.string (⟨#[116,105,109,101]⟩ : ByteArray),I6 1] (⟨(⟨#[116,105,109,101]⟩ : ByteArray),1⟩ : api_Col) from rfl) (Reps.nil _ _))
 refine sl_append_A elT38 (by decide) rfl (fun _ _ _ _ h=>h) (s.ra hRA nil_not) hq_18 rfl h0_0 h_20 s q (by decide) rfl rfl rfl fun a w v_21 cs_22 hq_23 s q=>?_
 refine parK_nil (s.pk1.trunc 1) ?_
 refine thenL_nil ?_
 obtain ⟨y_25,h_26,H⟩:=bs H
 refine sl_append_A elT38 (by decide) rfl (fun _ _ _ _ h=>h) (s.ra hRA nil_not) hq_23 rfl h0_1 h_26 s q (by decide) rfl rfl rfl fun a w v_27 cs_28 hq_29 s q=>?_
 refine za q rfl fun a q=>?_
 refine wpList_nil (NoP_nil ?_)
 obtain rfl:=Option.some.inj H
 refine wp_ret ?_
 repeat first | refine zt ?_ | refine zb ?_ | refine zo ?_
 exact ret_1 results45 q (rv_tmp q rfl) ⟨_,rfl,_,_,_,rfl,(s.trunc 1),hRL,hq_29⟩
theorem ref08_Leaf_Scan.calls (a0 : catchmentref08_Leaf) (a1 : ByteArray) (a2 : Int) (a3 : Int) {w0 : World} {R : Hp} {M : List Own} {b0 : Nat} {v0_0 : Value} {v0_1 : Value} {cs0_1 : List Value} (hS0 : St M w0 w0 R [.cells b0 [v0_0,I6 a0.Room,v0_1] 60,.row 33 4 v0_1 a0.L.length cs0_1]) (h0_0 : SlR ty_api_Schema R v0_0 a0.S) (h0_1 : Reps ty_api_Point R cs0_1 a0.L) {r : api_Table × Int × catchmentref08_Leaf} (H : ref08_Leaf_Scan a0 a1 a2 a3 = some r) : Calls prog 19 #[.pointer (some ⟨b0,0,none⟩),.string a1,I6 a2,I6 a3] w0 (Rets fun v w'=>∃ (R' : Hp) (u0 : Value) (cu0 : List Value) (u1 : Value) (cu1 : List Value) (u2 : Value) (u3 : Value) (cu3 : List Value),v = .tuple #[.agg #[u0,u1],I6 r.2.1] ∧ St M w0 w' R' [.row 65 2 u0 r.1.Cols.length cu0,.row 31 1 u1 r.1.Rows.length cu1,.cells b0 [u2,I6 r.2.2.Room,u3] 60,.row 33 4 u3 r.2.2.L.length cu3] ∧ RLe M w0 R R' ∧ Reps ty_api_Col R' cu0 r.1.Cols ∧ Reps (tySl ty_api_Value) R' cu1 r.1.Rows ∧ SlR ty_api_Schema R u2 r.2.2.S ∧ Reps ty_api_Point R cu3 r.2.2.L):=by
 unfold ref08_Leaf_Scan at H
 refine enter (args:=[.pointer (some ⟨b0,0,none⟩),.string a1,I6 a2,I6 a3]) func19 rfl ntmps19 rfl fun a q=>?_
 have s:=hS0
 have hRL:=RLe.refl (M:=M) w0 R
 refine zq<|zr ?_
 refine sl_alloc zeroValue41 s q (by decide) rfl rfl fun a w b_1 s q=>?_
 refine za q rfl fun a q=>zn<|zq<|zr<|zm q rfl fun a q=>zl q (r_nilCheck q rfl) fun a q=>zl q (r_fieldAddr underlying60 rfl sizeOf28 q rfl) fun a q=>zl q (r_load isAgg28 q rfl (s.cell z1 rfl)) fun a q=>zm q rfl fun a q=>?_
 obtain ⟨y_2,h_3,H⟩:=bs H
 refine sl_call call44 q (by decide) rfl rfl rfl (ref05_Find.calls a0.S a1 s.sub h0_0 h_3) fun a v_ w hv_ q=>?_
 obtain ⟨R_4,v_6,v_8,hv_,hr_,hl_5,hs_7,hs_9⟩:=hv_
 have hv_:=hv_.symm
 subst hv_
 obtain ⟨s,hl_5⟩:=s.sp0.back hr_ hl_5
 have s:=s.un0
 have hRL:=hRL.trans hl_5
 refine zm q rfl fun a q=>zl q (r_extract q rfl rfl) fun a q=>zl q (r_extract q rfl rfl) fun a q=>?_
 refine sl_alloc zeroValue49 s q (by decide) rfl rfl fun a w b_10 s q=>?_
 refine sl_storeA (vs:=[.string y_2.1.Name,v_6,v_8]) (c':=[.string y_2.1.Name,v_6,v_8]) sizeOf49 s q rfl rfl rfl rfl (zc (all_cons hs_7.one (all_cons hs_9.one zz))) (Nat.le_of_ble_eq_true rfl) rfl fun a w s q=>?_
 refine za q rfl fun a q=>zn<|zq<|zq<|zr<|zm q rfl fun a q=>zl q (r_un q rfl (u_not _)) fun a q=>zn ?_
 refine wp_cond_split (q.ev rfl) (fun (hb_11 : (!y_2.2) = true)=>?_) fun hb_11=>?_
 rw [ifb_t hb_11] at H
 refine zq<|zr<|zl q (r_buildC (ps:=[]) (c:=[.slice none 0 0,.slice none 0 0]) underlying41 zeroValue41 places41 q rfl pc_nil rfl rfl) fun a q=>?_
 have s:=s.pk1
 refine sl_storeA (vs:=[.slice none 0 0,.slice none 0 0]) (c':=[.slice none 0 0,.slice none 0 0]) sizeOf41 s q rfl rfl rfl rfl (zc (zc zz)) (Nat.le_of_ble_eq_true rfl) rfl fun a w s q=>?_
 refine za q rfl fun a q=>zn ?_
 have s:=s.row_nil 65 2
 have hq_13 : Reps ty_api_Col R_4 [] ([] : List api_Col):=Reps.nil _ _
 have s:=s.row_nil 31 1
 have hq_15 : Reps (tySl ty_api_Value) R_4 [] ([] : List (List api_Value)):=Reps.nil _ _
 obtain rfl:=Option.some.inj H
 refine wp_ret ?_
 repeat first | refine zt ?_ | refine zb ?_ | refine zo ?_
 exact ret_2 results19 q (rv_cell (c:=[(.slice none 0 0),(.slice none 0 0)]) isAgg41 sizeOf41 s z2 rfl q rfl) (rv_tmp q rfl) ⟨_,rfl,_,_,_,_,_,_,_,_,rfl,(s.pk5.pk5.pk2.pk3.trunc 4),hRL,hq_13,hq_15,h0_0,h0_1⟩
 rw [ifb_f hb_11] at H
 refine wp_skip<|zq<|zr<|zl q (r_loadA (cs:=[.string y_2.1.Name,v_6,v_8]) isAgg49 sizeOf49 rfl q rfl (s.cells_of (m:=3) z0 rfl)) fun a q=>?_
 obtain ⟨y_16,h_17,H⟩:=bs H
 refine sl_call call45 q (by decide) rfl rfl rfl (ref05_Cols.calls y_2.1 (lentOf_sub [] _) s.sub (hs_7.mono s.rLe0) (hs_9.mono s.rLe0) h_17) fun a v_ w hv_ q=>?_
 obtain ⟨R_18,v_21,cs_22,hv_,hr_,hl_19,hq_23⟩:=hv_
 have hv_:=hv_.symm
 subst hv_
 obtain ⟨s,hl_19⟩:=s.sp0.back hr_ hl_19
 have s:=s.un1
 have hRL:=hRL.trans hl_19
 have ho_24:=s.row_one z0
 refine zl q (r_buildC (ps:=[(0,v_21)]) (c:=[v_21,.slice none 0 0]) underlying41 zeroValue41 places41 q rfl (pc_cons (cells1 ho_24) pc_nil) rfl rfl) fun a q=>?_
 refine sl_alloc zeroValue41 s q (by decide) rfl rfl fun a w b_25 s q=>?_
 refine sl_storeA (vs:=[v_21,.slice none 0 0]) (c':=[v_21,.slice none 0 0]) sizeOf41 s q rfl rfl rfl rfl (all_cons (s.row_one z1) (zc zz)) (Nat.le_of_ble_eq_true rfl) rfl fun a w s q=>?_
 refine zn<|zq<|zq<|zr<|za q rfl fun a q=>zn ?_
 refine wp_block ?_
 refine wp_loop_k (fun k_l0 a w=>∃ (x_177 : List (List api_Value)) (x_181 : Int) (R_182 : Hp) (v_178 : Value) (cs_179 : List Value),ref08_Leaf_Scan.l0 a0 a1 a2 a3 y_16 k_l0 x_177 x_181 = some r ∧ RLe M w0 R_18 R_182 ∧ Reps (tySl ty_api_Value) R_182 cs_179 x_177 ∧ Kn 81 a [(0,.pointer (some ⟨b0,0,none⟩)),(1,.string a1),(2,I6 a2),(3,I6 a3),(8,.pointer (some ⟨b_1,0,none⟩)),(12,.pointer (some ⟨b_25,0,none⟩)),(13,I6 x_181)] ∧ St M w0 w R_182 [.row 33 4 v0_1 a0.L.length cs0_1,.cells b0 [v0_0,I6 a0.Room,v0_1] 60,.cells b_1 [.slice none 0 0,.slice none 0 0] 41,.row 65 2 v_21 y_16.length cs_22,.row 31 1 v_178 x_177.length cs_179,.cells b_25 [v_21,v_178] 41]) (((a0.L.length : Int) - 0).toNat + 1) ?_ ?_
 have s:=s.row_nil 31 1
 have hq_316 : Reps (tySl ty_api_Value) R_18 [] ([] : List (List api_Value)):=Reps.nil _ _
 have s:=s.pk1
 have s:=s.pk1
 have s:=s.pk2
 have s:=s.pk4
 have s:=s.pk5
 have s:=s.pk6
 exact ⟨[],0,_,_,_,H,(RLe.refl _ _),hq_316,q.sub (zc (zc (zc (zc (zc (zc (zc zz))))))),s.trunc 6⟩
 rintro k_l0 a w ⟨x_177,x_181,R_182,v_178,cs_179,H,hl_183,hq_180,q,s⟩
 rcases k_l0 with _ | k_l0
 cases H
 rw [ref08_Leaf_Scan.l0.eq_2] at H
 have hRL:=hRL.trans hl_183
 refine zq<|zq<|zr<|zm q rfl fun a q=>zm q rfl fun a q=>zl q (r_nilCheck q rfl) fun a q=>zl q (r_fieldAddr underlying60 rfl sizeOf30 q rfl) fun a q=>zl q (r_load isAgg30 q rfl (s.cell z1 rfl)) fun a q=>zl q (r_len_O underlying30 s z0 q rfl) fun a q=>zl q (r_ibin q rfl rfl rfl) fun a q=>zn ?_
 refine wp_cond_split (q.ev rfl) (fun (hb_317 : (decide (x_181 < (a0.L.length : Int))) = true)=>?_) fun hb_317=>?_
 rw [ifb_t hb_317] at H
 refine wp_skip<|zq ?_
 refine wp_block ?_
 refine zq<|zr<|zm q rfl fun a q=>zl q (r_nilCheck q rfl) fun a q=>zl q (r_fieldAddr underlying60 rfl sizeOf30 q rfl) fun a q=>zl q (r_load isAgg30 q rfl (s.cell z1 rfl)) fun a q=>zm q rfl fun a q=>?_
 obtain ⟨y_318,h_319,H⟩:=bs H
 obtain ⟨b_321,c_322,cs_323,hv_320,hr_324,hc_325,h_3190,h_3191⟩:=s.row_ix z0 (h0_1.mono (hl_5.le.trans (hl_19.le.trans hl_183.le))) rfl rfl h_319
 obtain ⟨v_326,v_328,rfl,hs_327,hs_329⟩:=hr_324
 refine zl q (r_indexAddr_R underlying30 sizeOf33 hv_320 h_3190 h_3191 q rfl rfl) fun a q=>zl q (r_loadA (cs:=[.string y_318.Schema,v_326,I6 y_318.Time,v_328]) isAgg33 sizeOf33 rfl q rfl (fun j v hv=>by have:=s.row_cell z0 hv_320 (hc_325 j v hv); simpa [Nat.add_assoc] using this)) fun a q=>?_
 refine sl_alloc zeroValue33 s q (by decide) rfl rfl fun a w b_330 s q=>?_
 refine sl_storeA (vs:=[.string y_318.Schema,v_326,I6 y_318.Time,v_328]) (c':=[.string y_318.Schema,v_326,I6 y_318.Time,v_328]) sizeOf33 s q rfl rfl rfl rfl (zc (all_cons hs_327.one (zc (all_cons hs_329.one zz)))) (Nat.le_of_ble_eq_true rfl) rfl fun a w s q=>?_
 refine zn<|zq ?_
 refine wp_mid (fun a w=>∃ (x_333 : Bool),ref08_Leaf_Scan.j1 (ref08_Leaf_Scan.l0 a0 a1 a2 a3 y_16 k_l0) a0 x_177 x_181 y_318 x_333 = some r ∧ Kn 81 a [(0,.pointer (some ⟨b0,0,none⟩)),(1,.string a1),(2,I6 a2),(3,I6 a3),(8,.pointer (some ⟨b_1,0,none⟩)),(12,.pointer (some ⟨b_25,0,none⟩)),(13,I6 x_181),(14,.pointer (some ⟨b_330,0,none⟩)),(62,.bool x_333)] ∧ St M w0 w R_182 [.row 33 4 v0_1 a0.L.length cs0_1,.cells b0 [v0_0,I6 a0.Room,v0_1] 60,.cells b_1 [.slice none 0 0,.slice none 0 0] 41,.row 65 2 v_21 y_16.length cs_22,.row 31 1 v_178 x_177.length cs_179,.cells b_25 [v_21,v_178] 41,.cells b_330 [.string y_318.Schema,v_326,I6 y_318.Time,v_328] 33]) ?_ ?_
 refine zr<|zl q (r_fieldAddr underlying33 rfl sizeOf9 q rfl) fun a q=>zl q (r_load isAgg9 q rfl (s.cell z0 rfl)) fun a q=>zm q rfl fun a q=>zl q (r_sbin q rfl rfl rfl) fun a q=>zm q rfl fun a q=>?_
 rcases or_b (y_318.Schema.toList == a1.toList) with hb_335 | hb_335
 rw [ifb_t hb_335] at H
 refine zw q (wtt hb_335) (r_fieldAddr underlying33 rfl sizeOf3 q rfl) fun a q=>zw q (wtt hb_335) (r_load isAgg3 q rfl (s.cell z0 rfl)) fun a q=>zw q (wtt hb_335) (r_move q rfl) fun a q=>zw q (wtt hb_335) (r_ibin q rfl rfl rfl) fun a q=>zl q (r_pick_t hb_335 q rfl rfl) fun a q=>zm q rfl fun a q=>?_
 rcases or_b (decide (y_318.Time ≥ a2)) with hb_336 | hb_336
 rw [ifb_t hb_336] at H
 refine zw q (wtt hb_336) (r_fieldAddr underlying33 rfl sizeOf3 q rfl) fun a q=>zw q (wtt hb_336) (r_load isAgg3 q rfl (s.cell z0 rfl)) fun a q=>zw q (wtt hb_336) (r_move q rfl) fun a q=>zw q (wtt hb_336) (r_ibin q rfl rfl rfl) fun a q=>zl q (r_pick_t hb_336 q rfl rfl) fun a q=>zn ?_
 have s:=s.pk6
 have s:=s.pk6
 have s:=s.pk6
 have s:=s.pk6
 have s:=s.pk6
 have s:=s.pk6
 exact ⟨(decide (y_318.Time ≤ a3)),H,q.sub (zc (zc (zc (zc (zc (zc (zc (zc (zc zz))))))))),s⟩
 rw [ifb_f hb_336] at H
 refine zsw q (wtf hb_336) fun a q=>zsw q (wtf hb_336) fun a q=>zsw q (wtf hb_336) fun a q=>zsw q (wtf hb_336) fun a q=>zl q (r_pick_f hb_336 q rfl rfl) fun a q=>zn ?_
 have s:=s.pk6
 have s:=s.pk6
 have s:=s.pk6
 have s:=s.pk6
 have s:=s.pk6
 have s:=s.pk6
 exact ⟨false,H,q.sub (zc (zc (zc (zc (zc (zc (zc (zc (zc zz))))))))),s⟩
 rw [ifb_f hb_335] at H
 refine zsw q (wtf hb_335) fun a q=>zsw q (wtf hb_335) fun a q=>zsw q (wtf hb_335) fun a q=>zsw q (wtf hb_335) fun a q=>zl q (r_pick_f hb_335 q rfl rfl) fun a q=>zm q rfl fun a q=>zs q fun a q=>zs q fun a q=>zs q fun a q=>zs q fun a q=>zl q (r_pick q rfl rfl rfl) fun a q=>zn ?_
 have s:=s.pk6
 have s:=s.pk6
 have s:=s.pk6
 have s:=s.pk6
 have s:=s.pk6
 have s:=s.pk6
 exact ⟨false,H,q.sub (zc (zc (zc (zc (zc (zc (zc (zc (zc zz))))))))),s⟩
 rintro a w ⟨x_333,H,q,s⟩
 unfold ref08_Leaf_Scan.j1 at H
 refine wp_mid (fun a w=>∃ (x_390 : List (List api_Value)) (R_394 : Hp) (v_391 : Value) (cs_392 : List Value),ref08_Leaf_Scan.j2 (ref08_Leaf_Scan.l0 a0 a1 a2 a3 y_16 k_l0) a0 x_181 x_390 = some r ∧ RLe M w0 R_182 R_394 ∧ Reps (tySl ty_api_Value) R_394 cs_392 x_390 ∧ Kn 81 a [(0,.pointer (some ⟨b0,0,none⟩)),(1,.string a1),(2,I6 a2),(3,I6 a3),(8,.pointer (some ⟨b_1,0,none⟩)),(12,.pointer (some ⟨b_25,0,none⟩)),(13,I6 x_181)] ∧ St M w0 w R_394 [.row 33 4 v0_1 a0.L.length cs0_1,.cells b0 [v0_0,I6 a0.Room,v0_1] 60,.cells b_1 [.slice none 0 0,.slice none 0 0] 41,.row 65 2 v_21 y_16.length cs_22,.row 31 1 v_391 x_390.length cs_392,.cells b_25 [v_21,v_391] 41]) ?_ ?_
 refine wp_cond_split (q.ev rfl) (fun (hb_396 : x_333 = true)=>?_) fun hb_396=>?_
 rw [ifb_t hb_396] at H
 refine zq<|zr<|zl q (r_fieldAddr underlying33 rfl sizeOf3 q rfl) fun a q=>zl q (r_load isAgg3 q rfl (s.cell z6 rfl)) fun a q=>zl q (r_buildC (ps:=[(0,I6 1),(1,I6 y_318.Time)]) (c:=[I6 1,I6 y_318.Time,.string (⟨#[]⟩ : ByteArray),I6 0,I6 0,I6 0,I6 0,I6 0,I6 0,I6 0,I6 0]) underlying58 zeroValue58 places58 q rfl (pc_cons rfl (pc_cons rfl pc_nil)) rfl rfl) fun a q=>?_
 refine sl_buildSliceF (zc:=[I6 0,I6 0,.string (⟨#[]⟩ : ByteArray),I6 0,I6 0,I6 0,I6 0,I6 0,I6 0,I6 0,I6 0]) (ps:=[(0,.agg #[I6 1,I6 y_318.Time,.string (⟨#[]⟩ : ByteArray),I6 0,I6 0,I6 0,I6 0,I6 0,I6 0,I6 0,I6 0])]) (c:=[I6 1,I6 y_318.Time,.string (⟨#[]⟩ : ByteArray),I6 0,I6 0,I6 0,I6 0,I6 0,I6 0,I6 0,I6 0]) [[I6 1,I6 y_318.Time,.string (⟨#[]⟩ : ByteArray),I6 0,I6 0,I6 0,I6 0,I6 0,I6 0,I6 0,I6 0]] underlying31 sizeOf58 zeroValue58 rfl (pc_cons rfl pc_nil) rfl rfl (Nat.le_of_ble_eq_true rfl) rfl (zc zz) rfl s q (by decide) rfl fun a w b_397 s q=>?_
 refine za q rfl fun a q=>zn ?_
 refine parT_region (C:=fun w=>St M w0 w R_182 [.row 33 4 v0_1 a0.L.length cs0_1,.cells b0 [v0_0,I6 a0.Room,v0_1] 60,.cells b_1 [.slice none 0 0,.slice none 0 0] 41,.row 65 2 v_21 y_16.length cs_22,.row 31 1 v_178 x_177.length cs_179,.cells b_25 [v_21,v_178] 41,.cells b_330 [.string y_318.Schema,v_326,I6 y_318.Time,v_328] 33]) 10 [(0,true),(1,true),(2,true),(3,true),(4,true),(6,true),(7,true),(5,false),(8,false),(9,false)] mixed (by kernel_rfl) s (fun w s=>(s.pk7.pk7.pk7.pk7.pk7.pk7.pk7.trunc 7)) fun w s=>?_
 refine zp rfl q (fun w s=>r_fieldAddr underlying41 rfl sizeOf39 q rfl) fun a q=>zp rfl q (fun w s=>r_load isAgg39 q rfl (s.cell z5 rfl)) fun a q=>zp rfl q (fun w s=>r_move q rfl) fun a q=>zp rfl q (fun w s=>r_fieldAddr underlying33 rfl sizeOf31 q rfl) fun a q=>zp rfl q (fun w s=>r_load isAgg31 q rfl (s.cell z6 rfl)) fun a q=>zp rfl q (fun w s=>r_fieldAddr underlying33 rfl sizeOf31 q rfl) fun a q=>zp rfl q (fun w s=>r_load isAgg31 q rfl (s.cell z6 rfl)) fun a q=>?_
 refine spw (k:=5) rfl rfl (s.pk7.pk7.pk7.pk7.pk7.pk7.pk7.trunc 7) ?_
 obtain ⟨y_425,h_426,H⟩:=bs H
 have s:=s.row_lit (size:=11) (m:=1) rfl (by decide)
 have hq_424 : Reps ty_api_Value R_182 [I6 1,I6 y_318.Time,.string (⟨#[]⟩ : ByteArray),I6 0,I6 0,I6 0,I6 0,I6 0,I6 0,I6 0,I6 0] [(⟨1,y_318.Time,(⟨#[]⟩ : ByteArray),(⟨0,0,0,0,0,0,0,0⟩ : Arr8)⟩ : api_Value)]:=(Reps.cons (show Ty.rep ty_api_Value _ [I6 1,I6 y_318.Time,.string (⟨#[]⟩ : ByteArray),I6 0,I6 0,I6 0,I6 0,I6 0,I6 0,I6 0,I6 0] (⟨1,y_318.Time,(⟨#[]⟩ : ByteArray),(⟨0,0,0,0,0,0,0,0⟩ : Arr8)⟩ : api_Value) from rfl) (Reps.nil _ _))
 refine sl_append_R elT31 (by decide) rfl hq_424 rfl hs_327 h_426 s q (by decide) rfl rfl rfl fun a w v_427 cs_428 hq_429 s q=>?_
 refine parK_nil (s.pk7.pk7.pk7.pk7.pk7.pk7.pk7.trunc 7) ?_
 refine spw (k:=8) rfl rfl (s.pk7.pk7.pk7.pk7.pk7.pk7.pk7.trunc 7) ?_
 obtain ⟨y_431,h_432,H⟩:=bs H
 refine sl_append_R elT31 (by decide) rfl hq_429 rfl hs_329 h_432 s q (by decide) rfl rfl rfl fun a w v_433 cs_434 hq_435 s q=>?_
 refine parK_nil (s.pk7.pk7.pk7.pk7.pk7.pk7.pk7.trunc 7) ?_
 refine spw (k:=9) rfl rfl (s.pk7.pk7.pk7.pk7.pk7.pk7.pk7.trunc 7) ?_
 have ho_437:=s.row_one z0
 refine sl_buildSliceF (zc:=[.slice none 0 0]) (ps:=[(0,v_433)]) (c:=[v_433]) [[v_433]] underlying39 sizeOf31 zeroValue31 rfl (pc_cons (cells1 ho_437) pc_nil) rfl rfl (Nat.le_of_ble_eq_true rfl) rfl (zc zz) rfl s q (by decide) rfl fun a w b_438 s q=>?_
 refine parK_nil (s.pk8.pk8.pk8.pk8.pk8.pk8.pk8.trunc 7) ?_
 refine thenL_nil ?_
 have s:=s.pk6
 have s:=s.pk2
 obtain ⟨R_439,s,hl_441,hs_440⟩:=s.fz_row hq_435 rfl rfl
 have hRL:=hRL.trans hl_441
 obtain ⟨y_442,h_443,H⟩:=bs H
 refine sl_append_L (ty:=(tySl ty_api_Value)) (ys:=[y_431]) elT39 (by decide) rfl (hq_180.mono hl_441.le) rfl (Reps.cons (show Ty.rep (tySl ty_api_Value) _ [v_433] y_431 from ⟨_,rfl,hs_440⟩) (Reps.nil _ _)) rfl h_443 s q (by decide) rfl rfl rfl fun a w v_444 cs_445 hq_446 s q=>?_
 refine zl q (r_fieldAddr underlying41 rfl sizeOf39 q rfl) fun a q=>?_
 have s:=s.pk5
 refine sl_store1 (c':=[v_21,v_444]) sizeOf39 s q rfl rfl rfl (s.row_one z1) (Nat.le_of_ble_eq_true rfl) rfl fun a w s q=>?_
 refine wpList_nil (NoP_nil ?_)
 have s:=s.pk1
 have s:=s.pk5
 have s:=s.pk5
 have s:=s.pk5
 have s:=s.pk5
 exact ⟨y_442,_,_,_,H,hl_441,hq_446,q.sub (zc (zc (zc (zc (zc (zc (zc zz))))))),s.trunc 6⟩
 rw [ifb_f hb_396] at H
 refine wp_skip ?_
 have s:=s.pk5
 have s:=s.pk5
 have s:=s.pk5
 have s:=s.pk5
 have s:=s.pk5
 have s:=s.pk5
 exact ⟨x_177,_,_,_,H,(RLe.refl _ _),hq_180,q.sub (zc (zc (zc (zc (zc (zc (zc zz))))))),s.trunc 6⟩
 rintro a w ⟨x_390,R_394,v_391,cs_392,H,hl_395,hq_393,q,s⟩
 unfold ref08_Leaf_Scan.j2 at H
 have hRL:=hRL.trans hl_395
 refine zr<|zm q rfl fun a q=>zl q (r_ibin q rfl rfl rfl) fun a q=>za q rfl fun a q=>zn ?_
 have s:=s.pk5
 have s:=s.pk5
 have s:=s.pk5
 have s:=s.pk5
 have s:=s.pk5
 have s:=s.pk5
 exact ⟨_,Nat.lt_succ_self _,x_390,(IntKind.i64.wrap (x_181 + 1)),_,_,_,H,(hl_183.trans hl_395),hq_393,q.sub (zc (zc (zc (zc (zc (zc (zc zz))))))),s⟩
 rw [ifb_f hb_317] at H
 refine wp_exit ?_
 refine zq<|zr<|zl q (r_loadA (cs:=[v_21,v_178]) isAgg41 sizeOf41 rfl q rfl (s.cells_of (m:=2) z5 rfl)) fun a q=>?_
 have s:=s.pk3
 obtain ⟨R_448,s,hl_450,hs_449⟩:=s.fz_row (hq_23.mono hl_183.le) rfl rfl
 have hRL:=hRL.trans hl_450
 have s:=s.pk3
 obtain ⟨R_451,s,hl_453,hs_452⟩:=s.fz_row (hq_180.mono hl_450.le) rfl rfl
 have hRL:=hRL.trans hl_453
 obtain ⟨y_454,h_455,H⟩:=bs H
 refine sl_call call39 q (by decide) rfl rfl rfl (ref02_Canon.calls (⟨y_16,x_177⟩ : api_Table) s.sub (hs_449.mono hl_453.le) hs_452 h_455) fun a v_ w hv_ q=>?_
 obtain ⟨R_456,v_459,cs_460,v_463,cs_464,hv_,hr_,hl_457,hq_461,hq_465⟩:=hv_
 have hv_:=hv_.symm
 subst hv_
 obtain ⟨s,hl_457⟩:=s.sp0.back hr_ hl_457
 have s:=s.un2
 have hRL:=hRL.trans hl_457
 have s:=s.pk4
 refine sl_storeA (vs:=[v_459,v_463]) (c':=[v_459,v_463]) sizeOf41 s q rfl rfl rfl rfl (all_cons (s.row_one z1) (all_cons (s.row_one z2) zz)) (Nat.le_of_ble_eq_true rfl) rfl fun a w s q=>?_
 refine za q rfl fun a q=>zn ?_
 obtain rfl:=Option.some.inj H
 refine wp_ret ?_
 repeat first | refine zt ?_ | refine zb ?_ | refine zo ?_
 exact ret_2 results19 q (rv_cell (c:=[v_459,v_463]) isAgg41 sizeOf41 s z0 rfl q rfl) (rv_tmp q rfl) ⟨_,rfl,_,_,_,_,_,_,_,_,rfl,(s.pk3.pk4.pk4.pk4.trunc 4),hRL,hq_461,hq_465,h0_0,h0_1⟩
theorem law08_LeafPlays.calls (a0 : List api_Schema) (a1 : Int) (a2 : List api_Point) {w0 : World} {R : Hp} {RA : Hp} {v0_0 : Value} {v2_0 : Value} (hRA : RA.sub w0) (hR : R.sub w0) (h0_0 : SlR ty_api_Schema R v0_0 a0) (h2_0 : SlR ty_api_Point RA v2_0 a2) (hG : GF RA) (H : law08_LeafPlays a0 a1 a2 = some true) : CallsV prog 6 #[v0_0,I6 a1,v2_0] w0 (.bool true):=by
 unfold law08_LeafPlays at H
 refine enter (args:=[v0_0,I6 a1,v2_0]) func6 rfl ntmps6 rfl fun a q=>?_
 have s:=St.init hR
 have hRL:=RLe.refl (M:=[]) w0 R
 refine zq<|zr<|za q rfl fun a q=>zn<|zq<|zr ?_
 obtain ⟨y_1,h_2,H⟩:=bs H
 refine sl_callV call7 s q (by decide) rfl rfl rfl (law08_shown.calls (lentOf_sub [] _) (GF.mono (s.raLe0 hRA nil_not) hG) h_2) fun a w s q=>?_
 refine za q rfl fun a q=>zn<|zq<|zq<|zr<|zm q rfl fun a q=>zl q (r_len_R underlying28 h0_0 q rfl) fun a q=>zl q (r_ibin q rfl rfl rfl) fun a q=>zn ?_
 refine wp_mid (fun a w=>∃ (x_11 : List api_Schema) (v_9 : Value),law08_LeafPlays.j0 a1 y_1 a2 x_11 = some true ∧ SlR ty_api_Schema R v_9 x_11 ∧ Kn 261 a [(0,v_9),(1,I6 a1),(2,v2_0),(7,.bool y_1)] ∧ St [] w0 w R []) ?_ ?_
 refine wp_cond_split (q.ev rfl) (fun (hb_13 : (decide ((a0.length : Int) > 10)) = true)=>?_) fun hb_13=>?_
 rw [ifb_t hb_13] at H
 refine zr<|zm q rfl fun a q=>?_
 obtain ⟨y_14,h_15,H⟩:=bs H
 obtain ⟨v_16,hs_17,hr_18⟩:=r_slice_R (x:=.tmp 37) (lo:=none) (hi:=some (.const (I6 10))) underlying28 sizeOf49 h0_0 h_15 q rfl rfl ⟨_,rfl⟩
 refine zl q (hr_18 _ _ _ _ _ _ _ q) fun a q=>za q rfl fun a q=>zn ?_
 exact ⟨y_14,v_16,H,hs_17,q.sub (zc (zc (zc (zc zz)))),s⟩
 rw [ifb_f hb_13] at H
 refine wp_skip ?_
 exact ⟨a0,v0_0,H,h0_0,q.sub (zc (zc (zc (zc zz)))),s⟩
 rintro a w ⟨x_11,v_9,H,hs_10,q,s⟩
 unfold law08_LeafPlays.j0 at H
 refine zq<|zr<|zm q rfl fun a q=>zm q rfl fun a q=>?_
 obtain ⟨y_19,h_20,H⟩:=bs H
 refine sl_call call8 q (by decide) rfl rfl rfl (leaf_New.calls x_11 a1 (lentOf_sub [] _) s.sub hs_10 (GF.mono (s.raLe0 hRA nil_not) hG) h_20) fun a v_ w hv_ q=>?_
 rcases hv_ with ⟨h_36,R_38,hv_,hr_,hl_39⟩ | ⟨y_23,h_37,R_21,b_24,v_25,b_27,v_29,cs_30,mb_32,mb_33,E_34,hv_,hr_,hl_22,hs_26,hq_31,hm_35⟩
 rw [oel_none h_36] at H
 have hv_:=hv_.symm
 subst hv_
 obtain ⟨s,hl_39⟩:=s.sp0.back hr_ hl_39
 have s:=s.un0
 have hRL:=hRL.trans hl_39
 refine zm q rfl fun a q=>zl q (r_extract q rfl rfl) fun a q=>zl q (r_extract q rfl rfl) fun a q=>za q rfl fun a q=>za q rfl fun a q=>zn<|zq<|zr<|zm q rfl fun a q=>zm q rfl fun a q=>?_
 obtain ⟨y_40,h_41,H⟩:=bs H
 refine sl_call call16 q (by decide) rfl rfl rfl (ref08_New.calls x_11 a1 s.sub (hs_10.mono hl_39.le) h_41) fun a v_ w hv_ q=>?_
 rcases hv_ with ⟨h_52,R_54,hv_,hr_,hl_55⟩ | ⟨y_44,h_53,R_42,b_45,v_46,v_49,cs_50,hv_,hr_,hl_43,hs_47,hq_51⟩
 rw [oel_none h_52] at H
 have hv_:=hv_.symm
 subst hv_
 obtain ⟨s,hl_55⟩:=s.sp0.back hr_ hl_55
 have s:=s.un0
 have hRL:=hRL.trans hl_55
 refine zm q rfl fun a q=>zl q (r_extract q rfl rfl) fun a q=>zl q (r_extract q rfl rfl) fun a q=>za q rfl fun a q=>za q rfl fun a q=>zn<|zq<|zq ?_
 refine wp_mid (fun a w=>∃ (x_57 : Bool),law08_LeafPlays.j1 y_19 x_57 = some true ∧ Kn 261 a [(0,v_9),(2,v2_0),(8,.pointer none),(9,I6 y_19.2),(10,.pointer none),(57,.bool x_57)] ∧ St [] w0 w R_54 []) ?_ ?_
 refine zr<|zm q rfl fun a q=>zl q (r_un q rfl (u_not _)) fun a q=>zm q rfl fun a q=>?_
 rcases or_b (!y_1) with hb_59 | hb_59
 rw [ifb_t hb_59] at H
 refine zsw q (wft hb_59) fun a q=>zsw q (wft hb_59) fun a q=>zsw q (wft hb_59) fun a q=>zl q (r_pick_t hb_59 q rfl rfl) fun a q=>zn ?_
 exact ⟨true,H,q.sub (zc (zc (zc (zc (zc (zc zz)))))),s⟩
 rw [ifb_f hb_59] at H
 refine zw q (wff hb_59) (r_move q rfl) fun a q=>zw q (wff hb_59) (r_move q rfl) fun a q=>zw q (wff hb_59) (r_ibin q rfl rfl rfl) fun a q=>zl q (r_pick_f hb_59 q rfl rfl) fun a q=>zn ?_
 exact ⟨(y_19.2 != y_40.2),H,q.sub (zc (zc (zc (zc (zc (zc zz)))))),s⟩
 rintro a w ⟨x_57,H,q,s⟩
 unfold law08_LeafPlays.j1 at H
 refine wp_cond_split (q.ev rfl) (fun (hb_60 : x_57 = true)=>?_) fun hb_60=>?_
 rw [ifb_t hb_60] at H
 refine zq<|zr<|za q rfl fun a q=>zn ?_
 exact absurd (Option.some.inj H) (by decide)
 rw [ifb_f hb_60] at H
 refine wp_skip<|zq<|zq<|zr<|zm q rfl fun a q=>zl q (r_ibin q rfl rfl rfl) fun a q=>zn ?_
 refine wp_cond_split (q.ev rfl) (fun (hb_61 : (y_19.2 != 0) = true)=>?_) fun hb_61=>?_
 rw [ifb_t hb_61] at H
 refine zq<|zr<|zm q rfl fun a q=>zl q (r_pnn underlying24 q rfl rfl) fun a q=>za q rfl fun a q=>zn ?_
 refine wp_ret ?_
 repeat first | refine zt ?_ | refine zb ?_ | refine zo ?_
 exact ret_1 results6 q (rv_tmp q rfl) ⟨rfl,s.bel⟩
 rw [ifb_f hb_61] at H
 refine wp_skip<|zq<|zq<|zr<|zm q rfl fun a q=>zl q (r_pnn underlying24 q rfl rfl) fun a q=>zn ?_
 refine wp_cond_true (q.ev rfl) ?_
 refine zq<|zr<|za q rfl fun a q=>zn ?_
 exact absurd (Option.some.inj H) (by decide)
 rw [oel_some h_53] at H
 have hv_:=hv_.symm
 subst hv_
 obtain ⟨s,hl_43⟩:=s.sp0.back hr_ hl_43
 have s:=s.un2
 have hRL:=hRL.trans hl_43
 refine zm q rfl fun a q=>zl q (r_extract q rfl rfl) fun a q=>zl q (r_extract q rfl rfl) fun a q=>za q rfl fun a q=>za q rfl fun a q=>zn<|zq<|zq ?_
 refine wp_mid (fun a w=>∃ (x_63 : Bool),law08_LeafPlays.j2 y_19 x_63 = some true ∧ Kn 261 a [(0,v_9),(2,v2_0),(8,.pointer none),(9,I6 y_19.2),(10,.pointer (some ⟨b_45,0,none⟩)),(57,.bool x_63)] ∧ St [] w0 w R_42 [.row 33 4 v_49 y_44.L.length cs_50,.cells b_45 [v_46,I6 y_44.Room,v_49] 60]) ?_ ?_
 refine zr<|zm q rfl fun a q=>zl q (r_un q rfl (u_not _)) fun a q=>zm q rfl fun a q=>?_
 rcases or_b (!y_1) with hb_65 | hb_65
 rw [ifb_t hb_65] at H
 refine zsw q (wft hb_65) fun a q=>zsw q (wft hb_65) fun a q=>zsw q (wft hb_65) fun a q=>zl q (r_pick_t hb_65 q rfl rfl) fun a q=>zn ?_
 have s:=s.pk1
 exact ⟨true,H,q.sub (zc (zc (zc (zc (zc (zc zz)))))),s⟩
 rw [ifb_f hb_65] at H
 refine zw q (wff hb_65) (r_move q rfl) fun a q=>zw q (wff hb_65) (r_move q rfl) fun a q=>zw q (wff hb_65) (r_ibin q rfl rfl rfl) fun a q=>zl q (r_pick_f hb_65 q rfl rfl) fun a q=>zn ?_
 have s:=s.pk1
 exact ⟨(y_19.2 != y_40.2),H,q.sub (zc (zc (zc (zc (zc (zc zz)))))),s⟩
 rintro a w ⟨x_63,H,q,s⟩
 unfold law08_LeafPlays.j2 at H
 refine wp_cond_split (q.ev rfl) (fun (hb_66 : x_63 = true)=>?_) fun hb_66=>?_
 rw [ifb_t hb_66] at H
 refine zq<|zr<|za q rfl fun a q=>zn ?_
 exact absurd (Option.some.inj H) (by decide)
 rw [ifb_f hb_66] at H
 refine wp_skip<|zq<|zq<|zr<|zm q rfl fun a q=>zl q (r_ibin q rfl rfl rfl) fun a q=>zn ?_
 refine wp_cond_split (q.ev rfl) (fun (hb_67 : (y_19.2 != 0) = true)=>?_) fun hb_67=>?_
 rw [ifb_t hb_67] at H
 refine zq<|zr<|zm q rfl fun a q=>zl q (r_pnn underlying24 q rfl rfl) fun a q=>za q rfl fun a q=>zn ?_
 refine wp_ret ?_
 repeat first | refine zt ?_ | refine zb ?_ | refine zo ?_
 exact ret_1 results6 q (rv_tmp q rfl) ⟨rfl,s.bel⟩
 rw [ifb_f hb_67] at H
 refine wp_skip<|zq<|zq<|zr<|zm q rfl fun a q=>zl q (r_pnn underlying24 q rfl rfl) fun a q=>zn ?_
 refine wp_cond_true (q.ev rfl) ?_
 refine zq<|zr<|za q rfl fun a q=>zn ?_
 exact absurd (Option.some.inj H) (by decide)
 rw [oel_some h_37] at H
 have hv_:=hv_.symm
 subst hv_
 obtain ⟨s,hl_22⟩:=s.sp0.back hr_ hl_22
 have s:=s.un5
 have hRL:=hRL.trans hl_22
 refine zm q rfl fun a q=>zl q (r_extract q rfl rfl) fun a q=>zl q (r_extract q rfl rfl) fun a q=>za q rfl fun a q=>za q rfl fun a q=>zn<|zq<|zr<|zm q rfl fun a q=>zm q rfl fun a q=>?_
 obtain ⟨y_68,h_69,H⟩:=bs H
 refine sl_call call16 q (by decide) rfl rfl rfl (ref08_New.calls x_11 a1 s.sub (hs_10.mono hl_22.le) h_69) fun a v_ w hv_ q=>?_
 rcases hv_ with ⟨h_80,R_82,hv_,hr_,hl_83⟩ | ⟨y_72,h_81,R_70,b_73,v_74,v_77,cs_78,hv_,hr_,hl_71,hs_75,hq_79⟩
 rw [oel_none h_80] at H
 have hv_:=hv_.symm
 subst hv_
 obtain ⟨s,hl_83⟩:=s.sp0.back hr_ hl_83
 have s:=s.un0
 have hRL:=hRL.trans hl_83
 refine zm q rfl fun a q=>zl q (r_extract q rfl rfl) fun a q=>zl q (r_extract q rfl rfl) fun a q=>za q rfl fun a q=>za q rfl fun a q=>zn<|zq<|zq ?_
 refine wp_mid (fun a w=>∃ (x_85 : Bool),law08_LeafPlays.j3 a2 x_11 y_19 y_23 x_85 = some true ∧ Kn 261 a [(0,v_9),(2,v2_0),(8,.pointer (some ⟨b_24,0,none⟩)),(9,I6 y_19.2),(10,.pointer none),(57,.bool x_85)] ∧ St [] w0 w R_82 [.row 113 2 v_29 y_23.dict.l.length cs_30,.mp mb_32 (kvs Value.string (Value.int .i64) y_23.dict.ids),.cells b_27 [I6 y_23.dict.most,v_29,.map (some mb_32)] 102,mbo mb_33 (kvs (Value.int .i64) id (mbp E_34)) 111 90 2 E_34,.cells b_24 [v_25,I6 y_23.room,I6 y_23.points,.pointer (some ⟨b_27,0,none⟩),.map (some mb_33)] 70]) ?_ ?_
 refine zr<|zm q rfl fun a q=>zl q (r_un q rfl (u_not _)) fun a q=>zm q rfl fun a q=>?_
 rcases or_b (!y_1) with hb_87 | hb_87
 rw [ifb_t hb_87] at H
 refine zsw q (wft hb_87) fun a q=>zsw q (wft hb_87) fun a q=>zsw q (wft hb_87) fun a q=>zl q (r_pick_t hb_87 q rfl rfl) fun a q=>zn ?_
 have s:=s.pk4
 have s:=s.pk2
 have s:=s.pk4
 have s:=s.pk4
 exact ⟨true,H,q.sub (zc (zc (zc (zc (zc (zc zz)))))),s⟩
 rw [ifb_f hb_87] at H
 refine zw q (wff hb_87) (r_move q rfl) fun a q=>zw q (wff hb_87) (r_move q rfl) fun a q=>zw q (wff hb_87) (r_ibin q rfl rfl rfl) fun a q=>zl q (r_pick_f hb_87 q rfl rfl) fun a q=>zn ?_
 have s:=s.pk4
 have s:=s.pk2
 have s:=s.pk4
 have s:=s.pk4
 exact ⟨(y_19.2 != y_68.2),H,q.sub (zc (zc (zc (zc (zc (zc zz)))))),s⟩
 rintro a w ⟨x_85,H,q,s⟩
 unfold law08_LeafPlays.j3 at H
 refine wp_cond_split (q.ev rfl) (fun (hb_88 : x_85 = true)=>?_) fun hb_88=>?_
 rw [ifb_t hb_88] at H
 refine zq<|zr<|za q rfl fun a q=>zn ?_
 exact absurd (Option.some.inj H) (by decide)
 rw [ifb_f hb_88] at H
 refine wp_skip<|zq<|zq<|zr<|zm q rfl fun a q=>zl q (r_ibin q rfl rfl rfl) fun a q=>zn ?_
 refine wp_cond_split (q.ev rfl) (fun (hb_89 : (y_19.2 != 0) = true)=>?_) fun hb_89=>?_
 rw [ifb_t hb_89] at H
 refine zq<|zr<|zm q rfl fun a q=>zl q (r_peq underlying24 q rfl rfl) fun a q=>za q rfl fun a q=>zn ?_
 exact absurd (Option.some.inj H) (by decide)
 rw [ifb_f hb_89] at H
 refine wp_skip<|zq<|zq<|zr<|zm q rfl fun a q=>zl q (r_peq underlying24 q rfl rfl) fun a q=>zn ?_
 refine wp_cond_false (q.ev rfl) ?_
 refine wp_skip<|zq<|zq<|zr<|za q rfl fun a q=>zn ?_
 refine wp_block ?_
 refine wp_loop_k (fun k_l4 a w=>law08_LeafPlays.l4 a2 x_11 y_23 k_l4 = some true ∧ Kn 261 a [(0,v_9),(2,v2_0),(8,.pointer (some ⟨b_24,0,none⟩)),(10,.pointer none),(12,I6 0)] ∧ St [] w0 w R_82 [.row 113 2 v_29 y_23.dict.l.length cs_30,.mp mb_32 (kvs Value.string (Value.int .i64) y_23.dict.ids),.cells b_27 [I6 y_23.dict.most,v_29,.map (some mb_32)] 102,mbo mb_33 (kvs (Value.int .i64) id (mbp E_34)) 111 90 2 E_34,.cells b_24 [v_25,I6 y_23.room,I6 y_23.points,.pointer (some ⟨b_27,0,none⟩),.map (some mb_33)] 70]) (((a2.length : Int) - 0).toNat + 1) ?_ ?_
 have s:=s.pk4
 have s:=s.pk4
 have s:=s.pk4
 have s:=s.pk4
 have s:=s.pk4
 exact ⟨H,q.sub (zc (zc (zc (zc (zc zz))))),s⟩
 rintro k_l4 a w ⟨H,q,s⟩
 rcases k_l4 with _ | k_l4
 cases H
 rw [law08_LeafPlays.l4.eq_2] at H
 refine zq<|zq ?_
 refine wp_mid (fun a w=>∃ (x_347 : Bool),law08_LeafPlays.j5 a2 x_11 y_23 x_347 = some true ∧ Kn 261 a [(0,v_9),(2,v2_0),(8,.pointer (some ⟨b_24,0,none⟩)),(10,.pointer none),(12,I6 0),(71,.bool x_347)] ∧ St [] w0 w R_82 [.row 113 2 v_29 y_23.dict.l.length cs_30,.mp mb_32 (kvs Value.string (Value.int .i64) y_23.dict.ids),.cells b_27 [I6 y_23.dict.most,v_29,.map (some mb_32)] 102,mbo mb_33 (kvs (Value.int .i64) id (mbp E_34)) 111 90 2 E_34,.cells b_24 [v_25,I6 y_23.room,I6 y_23.points,.pointer (some ⟨b_27,0,none⟩),.map (some mb_33)] 70]) ?_ ?_
 refine zr<|zm q rfl fun a q=>zm q rfl fun a q=>zl q (r_len_R underlying30 h2_0 q rfl) fun a q=>zl q (r_ibin q rfl rfl rfl) fun a q=>zm q rfl fun a q=>?_
 rcases or_b (decide (0 < (a2.length : Int))) with hb_349 | hb_349
 rw [ifb_t hb_349] at H
 refine zw q (wtt hb_349) (r_move q rfl) fun a q=>zw q (wtt hb_349) (r_ibin q rfl rfl rfl) fun a q=>zl q (r_pick_t hb_349 q rfl rfl) fun a q=>zn ?_
 have s:=s.pk4
 have s:=s.pk4
 have s:=s.pk4
 have s:=s.pk4
 have s:=s.pk4
 exact ⟨true,H,q.sub (zc (zc (zc (zc (zc (zc zz)))))),s⟩
 rw [ifb_f hb_349] at H
 refine zsw q (wtf hb_349) fun a q=>zsw q (wtf hb_349) fun a q=>zl q (r_pick_f hb_349 q rfl rfl) fun a q=>zn ?_
 have s:=s.pk4
 have s:=s.pk4
 have s:=s.pk4
 have s:=s.pk4
 have s:=s.pk4
 exact ⟨false,H,q.sub (zc (zc (zc (zc (zc (zc zz)))))),s⟩
 rintro a w ⟨x_347,H,q,s⟩
 unfold law08_LeafPlays.j5 at H
 refine wp_cond_split (q.ev rfl) (fun (hb_350 : x_347 = true)=>?_) fun hb_350=>?_
 rw [ifb_t hb_350] at H
 refine wp_skip<|zq ?_
 refine wp_block ?_
 refine zq<|zr<|zm q rfl fun a q=>zm q rfl fun a q=>?_
 obtain ⟨y_351,h_352,H⟩:=bs H
 obtain ⟨b_353,o_354,c_355,cs_356,hv_357,hr_358,hc_359,h_3520,h_3521⟩:=h2_0.ix h_352
 obtain ⟨v_360,v_362,rfl,hs_361,hs_363⟩:=hr_358
 refine zl q (r_indexAddr_R underlying30 sizeOf33 hv_357 h_3520 h_3521 q rfl rfl) fun a q=>zl q (r_loadA (cs:=[.string y_351.Schema,v_360,I6 y_351.Time,v_362]) isAgg33 sizeOf33 rfl q rfl (fun j v hv=>(s.ra hRA nil_not).cell (hc_359 j v hv))) fun a q=>?_
 refine sl_alloc zeroValue33 s q (by decide) rfl rfl fun a w b_364 s q=>?_
 refine sl_storeA (vs:=[.string y_351.Schema,v_360,I6 y_351.Time,v_362]) (c':=[.string y_351.Schema,v_360,I6 y_351.Time,v_362]) sizeOf33 s q rfl rfl rfl rfl (zc (all_cons hs_361.one (zc (all_cons hs_363.one zz)))) (Nat.le_of_ble_eq_true rfl) rfl fun a w s q=>?_
 refine zn<|zq<|zr ?_
 refine sl_buildSliceC (zc:=[I6 0,I6 0,.string (⟨#[]⟩ : ByteArray),I6 0,I6 0,I6 0,I6 0,I6 0,I6 0,I6 0,I6 0]) (zs:=[]) (ps:=[]) (c:=[]) underlying31 sizeOf58 zeroValue58 rfl pc_nil rfl rfl (by decide) (by kernel_rfl) rfl s q (by decide) rfl fun a w b_365 s q=>?_
 refine zl q (r_fieldAddr underlying33 rfl sizeOf31 q rfl) fun a q=>zl q (r_load isAgg31 q rfl (s.cell z1 rfl)) fun a q=>?_
 obtain ⟨y_368,h_369,H⟩:=bs H
 have s:=s.row_lit (size:=11) (m:=0) rfl (by decide)
 have hq_367 : Reps ty_api_Value R_82 [] ([] : List api_Value):=(Reps.nil _ _)
 refine sl_append_A elT31 (by decide) rfl (fun _ _ _ _ h=>h) (s.ra hRA nil_not) hq_367 rfl hs_361 h_369 s q (by decide) rfl rfl rfl fun a w v_370 cs_371 hq_372 s q=>?_
 refine zl q (r_fieldAddr underlying33 rfl sizeOf31 q rfl) fun a q=>?_
 have s:=s.pk1
 refine sl_store1 (c':=[.string y_351.Schema,v_370,I6 y_351.Time,v_362]) sizeOf31 s q rfl rfl rfl (s.row_one z1) (Nat.le_of_ble_eq_true rfl) rfl fun a w s q=>?_
 refine zn<|zq<|zr ?_
 refine sl_buildSliceC (zc:=[I6 0,I6 0,.string (⟨#[]⟩ : ByteArray),I6 0,I6 0,I6 0,I6 0,I6 0,I6 0,I6 0,I6 0]) (zs:=[]) (ps:=[]) (c:=[]) underlying31 sizeOf58 zeroValue58 rfl pc_nil rfl rfl (by decide) (by kernel_rfl) rfl s q (by decide) rfl fun a w b_374 s q=>?_
 refine zl q (r_fieldAddr underlying33 rfl sizeOf31 q rfl) fun a q=>zl q (r_load isAgg31 q rfl (s.cell z1 rfl)) fun a q=>?_
 obtain ⟨y_377,h_378,H⟩:=bs H
 have s:=s.row_lit (size:=11) (m:=0) rfl (by decide)
 have hq_376 : Reps ty_api_Value R_82 [] ([] : List api_Value):=(Reps.nil _ _)
 refine sl_append_A elT31 (by decide) rfl (fun _ _ _ _ h=>h) (s.ra hRA nil_not) hq_376 rfl hs_363 h_378 s q (by decide) rfl rfl rfl fun a w v_379 cs_380 hq_381 s q=>?_
 refine zl q (r_fieldAddr underlying33 rfl sizeOf31 q rfl) fun a q=>?_
 have s:=s.pk1
 refine sl_store1 (c':=[.string y_351.Schema,v_370,I6 y_351.Time,v_379]) sizeOf31 s q rfl rfl rfl (s.row_one z1) (Nat.le_of_ble_eq_true rfl) rfl fun a w s q=>?_
 refine zn<|zq<|zq<|zr<|zm q rfl fun a q=>zl q (r_rem q rfl rfl (by decide)) fun a q=>?_
 refine zl q (r_ibin q rfl rfl rfl) fun a q=>zn ?_
 refine wp_mid (fun a w=>∃ (x_470 : List api_Schema) (x_471 : Int) (x_472 : Int) (x_474 : Int) (x_476 : List streams_stream) (x_481 : List (ByteArray × Int)) (x_483 : List (Int × runs_Run)) (R_486 : Hp) (v_468 : Value) (v_477 : Value) (cs_478 : List Value) (E_484 : List (MB Int)) (b_480 : Nat) (b_473 : Nat) (b_482 : Nat) (b_467 : Nat),law08_LeafPlays.j6 a2 y_351 y_368 y_377 x_470 x_471 x_472 x_474 x_476 x_481 x_483 = some true ∧ RLe [] w0 R_82 R_486 ∧ SlR ty_api_Schema R_486 v_468 x_470 ∧ Reps ty_streams_stream R_486 cs_478 x_476 ∧ MBel ty_api_Sample runs_Run.l R_486 E_484 x_483 ∧ Kn 261 a [(0,v_9),(2,v2_0),(8,.pointer (some ⟨b_467,0,none⟩)),(10,.pointer none),(12,I6 0),(13,.pointer (some ⟨b_364,0,none⟩))] ∧ St [] w0 w R_486 [.row 113 2 v_477 x_476.length cs_478,.mp b_480 (kvs Value.string (Value.int .i64) x_481),.cells b_473 [I6 x_474,v_477,.map (some b_480)] 102,mbo b_482 (kvs (Value.int .i64) id (mbp E_484)) 111 90 2 E_484,.cells b_467 [v_468,I6 x_471,I6 x_472,.pointer (some ⟨b_473,0,none⟩),.map (some b_482)] 70,.row 58 11 v_370 y_368.length cs_371,.row 58 11 v_379 y_377.length cs_380,.cells b_364 [.string y_351.Schema,v_370,I6 y_351.Time,v_379] 33]) ?_ ?_
 refine wp_cond_split (q.ev rfl) (fun (hb_488 : (((0 : Int).tmod 7) == 6) = true)=>?_) fun hb_488=>?_
 rw [ifb_t hb_488] at H
 refine zq<|zr<|zm q rfl fun a q=>za q rfl fun a q=>zn<|zq<|zr<|zm q rfl fun a q=>?_
 obtain ⟨y_489,h_490,H⟩:=bs H
 have s:=s.pk6
 have s:=s.pk5
 have s:=s.pk5
 have s:=s.pk6
 have s:=s.pk7
 have hS1:=s.sp5
 refine sl_call call17 q (by decide) rfl rfl rfl (leaf_Leaf_Clone.calls y_23 hS1.lend (hs_26.mono hl_83.le) (hq_31.mono hl_83.le) (hm_35.mono hl_83.le) h_490) fun a v_ w hv_ q=>?_
 obtain ⟨R_491,b_493,v_494,b_496,v_498,cs_499,mb_501,mb_502,E_503,v_505,b_507,v_509,cs_510,mb_512,mb_513,E_514,hv_,hr_,hl_492,hs_495,hq_500,hm_504,hs_506,hq_511,hm_515⟩:=hv_
 have hv_:=hv_.symm
 subst hv_
 obtain ⟨s,hl_492⟩:=hS1.back hr_ hl_492
 have s:=s.un10
 have hRL:=hRL.trans hl_492
 refine za q rfl fun a q=>zn<|zq<|zq<|zr<|zm q rfl fun a q=>zl q (r_peq underlying24 q rfl rfl) fun a q=>zn ?_
 refine wp_cond_false (q.ev rfl) ?_
 refine wp_skip<|zq<|zr<|zm q rfl fun a q=>zm q rfl fun a q=>zm q rfl fun a q=>?_
 obtain ⟨y_516,h_517,H⟩:=bs H
 obtain ⟨b_518,o_519,c_520,cs_521,hv_522,hr_523,hc_524,h_5170,h_5171⟩:=h2_0.ix h_517
 obtain ⟨v_525,v_527,rfl,hs_526,hs_528⟩:=hr_523
 refine zl q (r_indexAddr_R underlying30 sizeOf33 hv_522 h_5170 h_5171 q rfl rfl) fun a q=>zl q (r_loadA (cs:=[.string y_516.Schema,v_525,I6 y_516.Time,v_527]) isAgg33 sizeOf33 rfl q rfl (fun j v hv=>(s.ra hRA nil_not).cell (hc_524 j v hv))) fun a q=>?_
 obtain ⟨y_529,h_530,H⟩:=bs H
 have s:=s.pk9
 have s:=s.pk9
 have s:=s.pk9
 have s:=s.pk9
 have s:=s.pk9
 have hS1:=s.sp5
 refine sl_call call11 q (by decide) rfl rfl rfl (leaf_Leaf_Write.calls y_489.2 y_516 (lentOf_sub _ _) lentOf_not hS1.lend hs_506 hq_511 hm_515 (hs_526.mono (hS1.raLe hRA nil_not)) (hs_528.mono (hS1.raLe hRA nil_not)) (GF.mono (hS1.raLe hRA nil_not) hG) h_530) fun a v_ w hv_ q=>?_
 obtain ⟨R_531,v_533,b_535,v_537,cs_538,mb_540,mb_541,E_542,hv_,hr_,hl_532,hs_534,hq_539,hm_543⟩:=hv_
 have hv_:=hv_.symm
 subst hv_
 obtain ⟨s,hl_532⟩:=hS1.back hr_ hl_532
 have s:=s.un5
 have hRL:=hRL.trans hl_532
 refine zn<|zr<|zm q rfl fun a q=>zm q rfl fun a q=>?_
 obtain ⟨y_544,h_545,H⟩:=bs H
 obtain ⟨b_546,o_547,c_548,cs_549,hv_550,hr_551,hc_552,h_5450,h_5451⟩:=h2_0.ix h_545
 obtain ⟨v_553,v_555,rfl,hs_554,hs_556⟩:=hr_551
 refine zl q (r_indexAddr_R underlying30 sizeOf33 hv_550 h_5450 h_5451 q rfl rfl) fun a q=>zl q (r_loadA (cs:=[.string y_544.Schema,v_553,I6 y_544.Time,v_555]) isAgg33 sizeOf33 rfl q rfl (fun j v hv=>(s.ra hRA nil_not).cell (hc_552 j v hv))) fun a q=>?_
 obtain ⟨y_557,h_558,H⟩:=bs H
 have s:=s.pk4
 have s:=s.pk4
 have s:=s.pk4
 have s:=s.pk4
 have s:=s.pk4
 have hS1:=s.sp5
 refine sl_call call11 q (by decide) rfl rfl rfl (leaf_Leaf_Write.calls y_529.2.2 y_544 (lentOf_sub _ _) lentOf_not hS1.lend hs_534 hq_539 hm_543 (hs_554.mono (hS1.raLe hRA nil_not)) (hs_556.mono (hS1.raLe hRA nil_not)) (GF.mono (hS1.raLe hRA nil_not) hG) h_558) fun a v_ w hv_ q=>?_
 obtain ⟨R_559,v_561,b_563,v_565,cs_566,mb_568,mb_569,E_570,hv_,hr_,hl_560,hs_562,hq_567,hm_571⟩:=hv_
 have hv_:=hv_.symm
 subst hv_
 obtain ⟨s,hl_560⟩:=hS1.back hr_ hl_560
 have s:=s.un5
 have hRL:=hRL.trans hl_560
 refine zn ?_
 have s:=s.pk10
 have s:=s.pk11
 have s:=s.pk12
 have s:=s.pk8
 have s:=s.pk12
 have s:=s.pk10
 have s:=s.pk12
 have s:=s.pk12
 exact ⟨y_489.1.schemas,y_489.1.room,y_489.1.points,y_489.1.dict.most,y_489.1.dict.l,y_489.1.dict.ids,y_489.1.runs,_,v_494,_,_,_,_,_,_,_,H,(hl_492.trans (hl_532.trans hl_560)),(hs_495.mono (hl_532.le.trans hl_560.le)),(hq_500.mono (hl_532.le.trans hl_560.le)),(hm_504.mono (hl_532.le.trans hl_560.le)),q.sub (zc (zc (zc (zc (zc (zc zz)))))),s.trunc 8⟩
 rw [ifb_f hb_488] at H
 refine wp_skip ?_
 have s:=s.pk1
 have s:=s.pk2
 have s:=s.pk7
 have s:=s.pk7
 have s:=s.pk7
 have s:=s.pk7
 have s:=s.pk7
 exact ⟨y_23.schemas,y_23.room,y_23.points,y_23.dict.most,y_23.dict.l,y_23.dict.ids,y_23.runs,_,v_25,_,_,_,_,_,_,_,H,(RLe.refl _ _),(hs_26.mono hl_83.le),(hq_31.mono hl_83.le),(hm_35.mono hl_83.le),q.sub (zc (zc (zc (zc (zc (zc zz)))))),s⟩
 rintro a w ⟨x_470,x_471,x_472,x_474,x_476,x_481,x_483,R_486,v_468,v_477,cs_478,E_484,b_480,b_473,b_482,b_467,H,hl_487,hs_469,hq_479,hm_485,q,s⟩
 unfold law08_LeafPlays.j6 at H
 have hRL:=hRL.trans hl_487
 refine zq<|zr<|zm q rfl fun a q=>zl q (r_loadA (cs:=[.string y_351.Schema,v_370,I6 y_351.Time,v_379]) isAgg33 sizeOf33 rfl q rfl (s.cells_of (m:=4) z7 rfl)) fun a q=>?_
 obtain ⟨y_572,h_573,H⟩:=bs H
 have s:=s.pk3
 have s:=s.pk2
 have s:=s.pk2
 have s:=s.pk3
 have s:=s.pk4
 have hS1:=s.sp5
 refine sl_call call11 q (by decide) rfl rfl rfl (leaf_Leaf_Write.calls (⟨x_470,x_471,x_472,(⟨x_474,x_476,x_481⟩ : streams_Dict),x_483⟩ : leaf_Leaf) (⟨y_351.Schema,y_368,y_351.Time,y_377⟩ : api_Point) (lentOf_sub _ _) lentOf_not hS1.lend hs_469 hq_479 hm_485 (hS1.lend_row z0 (hq_372.mono hl_487.le) rfl rfl) (hS1.lend_row z1 (hq_381.mono hl_487.le) rfl rfl) (GF.mono (hS1.raLe hRA nil_not) hG) h_573) fun a v_ w hv_ q=>?_
 obtain ⟨R_574,v_576,b_578,v_580,cs_581,mb_583,mb_584,E_585,hv_,hr_,hl_575,hs_577,hq_582,hm_586⟩:=hv_
 have hv_:=hv_.symm
 subst hv_
 obtain ⟨s,hl_575⟩:=hS1.back hr_ hl_575
 have s:=s.un5
 have hRL:=hRL.trans hl_575
 refine zm q rfl fun a q=>zl q (r_extract q rfl rfl) fun a q=>zl q (r_extract q rfl rfl) fun a q=>za q rfl fun a q=>za q rfl fun a q=>zn<|zq<|zr<|zm q rfl fun a q=>zm q rfl fun a q=>zm q rfl fun a q=>?_
 obtain ⟨y_587,h_588,H⟩:=bs H
 obtain ⟨b_589,o_590,c_591,cs_592,hv_593,hr_594,hc_595,h_5880,h_5881⟩:=h2_0.ix h_588
 obtain ⟨v_596,v_598,rfl,hs_597,hs_599⟩:=hr_594
 refine zl q (r_indexAddr_R underlying30 sizeOf33 hv_593 h_5880 h_5881 q rfl rfl) fun a q=>zl q (r_loadA (cs:=[.string y_587.Schema,v_596,I6 y_587.Time,v_598]) isAgg33 sizeOf33 rfl q rfl (fun j v hv=>(s.ra hRA nil_not).cell (hc_595 j v hv))) fun a q=>?_
 cases H
 rw [ifb_f hb_350] at H
 refine wp_exit ?_
 refine zq<|zq<|zr<|za q rfl fun a q=>zn ?_
 refine wp_block ?_
 refine wp_loop_k (fun k_l7 a w=>law08_LeafPlays.l7 x_11 y_23 k_l7 = some true ∧ Kn 261 a [(0,v_9),(8,.pointer (some ⟨b_24,0,none⟩)),(10,.pointer none),(27,I6 0)] ∧ St [] w0 w R_82 [.row 113 2 v_29 y_23.dict.l.length cs_30,.mp mb_32 (kvs Value.string (Value.int .i64) y_23.dict.ids),.cells b_27 [I6 y_23.dict.most,v_29,.map (some mb_32)] 102,mbo mb_33 (kvs (Value.int .i64) id (mbp E_34)) 111 90 2 E_34,.cells b_24 [v_25,I6 y_23.room,I6 y_23.points,.pointer (some ⟨b_27,0,none⟩),.map (some mb_33)] 70]) (((x_11.length : Int) - 0).toNat + 1) ?_ ?_
 have s:=s.pk4
 have s:=s.pk4
 have s:=s.pk4
 have s:=s.pk4
 have s:=s.pk4
 exact ⟨H,q.sub (zc (zc (zc (zc zz)))),s⟩
 rintro k_l7 a w ⟨H,q,s⟩
 rcases k_l7 with _ | k_l7
 cases H
 rw [law08_LeafPlays.l7.eq_2] at H
 refine zq<|zq<|zr<|zm q rfl fun a q=>zm q rfl fun a q=>zl q (r_len_R underlying28 hs_10 q rfl) fun a q=>zl q (r_ibin q rfl rfl rfl) fun a q=>zn ?_
 refine wp_cond_split (q.ev rfl) (fun (hb_653 : (decide (0 < (x_11.length : Int))) = true)=>?_) fun hb_653=>?_
 rw [ifb_t hb_653] at H
 refine wp_skip<|zq ?_
 refine wp_block ?_
 refine zq<|zr<|zm q rfl fun a q=>zm q rfl fun a q=>zm q rfl fun a q=>?_
 obtain ⟨y_654,h_655,H⟩:=bs H
 obtain ⟨b_656,o_657,c_658,cs_659,hv_660,hr_661,hc_662,h_6550,h_6551⟩:=hs_10.ix h_655
 obtain ⟨v_663,v_665,rfl,hs_664,hs_666⟩:=hr_661
 refine zl q (r_indexAddr_R underlying28 sizeOf49 hv_660 h_6550 h_6551 q rfl rfl) fun a q=>zl q (r_fieldAddr underlying49 rfl sizeOf9 q rfl) fun a q=>zl q (r_load isAgg9 q rfl ((s.sub.le (hl_22.le.trans hl_83.le)).cell (hc_662 0 _ rfl))) fun a q=>?_
 obtain ⟨y_667,h_668,H⟩:=bs H
 have s:=s.pk3
 have s:=s.pk2
 have s:=s.pk2
 have s:=s.pk3
 have s:=s.pk4
 have hS1:=s.sp5
 refine sl_call call12 q (by decide) rfl rfl rfl (leaf_Leaf_Scan.calls y_23 y_654.Name (-9223372036854775808) 9223372036854775807 hS1.lend (hs_26.mono hl_83.le) (hq_31.mono hl_83.le) (hm_35.mono hl_83.le) h_668) fun a v_ w hv_ q=>?_
 obtain ⟨R_669,v_672,cs_673,v_676,cs_677,v_680,b_682,v_684,cs_685,mb_687,mb_688,E_689,hv_,hr_,hl_670,hq_674,hq_678,hap_679,hs_681,hq_686,hm_690⟩:=hv_
 have hv_:=hv_.symm
 subst hv_
 obtain ⟨s,hl_670⟩:=hS1.back hr_ hl_670
 have s:=s.un7
 have hRL:=hRL.trans hl_670
 refine zm q rfl fun a q=>zl q (r_extract q rfl rfl) fun a q=>zl q (r_extract q rfl rfl) fun a q=>?_
 refine sl_alloc zeroValue41 s q (by decide) rfl rfl fun a w b_691 s q=>?_
 refine sl_storeA (vs:=[v_672,v_676]) (c':=[v_672,v_676]) sizeOf41 s q rfl rfl rfl rfl (all_cons (s.row_one z1) (all_cons (s.row_one z2) zz)) (Nat.le_of_ble_eq_true rfl) rfl fun a w s q=>?_
 refine za q rfl fun a q=>zn<|zq<|zr<|zm q rfl fun a q=>zm q rfl fun a q=>zm q rfl fun a q=>?_
 obtain ⟨y_692,h_693,H⟩:=bs H
 obtain ⟨b_694,o_695,c_696,cs_697,hv_698,hr_699,hc_700,h_6930,h_6931⟩:=hs_10.ix h_693
 obtain ⟨v_701,v_703,rfl,hs_702,hs_704⟩:=hr_699
 refine zl q (r_indexAddr_R underlying28 sizeOf49 hv_698 h_6930 h_6931 q rfl rfl) fun a q=>zl q (r_fieldAddr underlying49 rfl sizeOf9 q rfl) fun a q=>zl q (r_load isAgg9 q rfl ((s.sub.le (hl_22.le.trans (hl_83.le.trans hl_670.le))).cell (hc_700 0 _ rfl))) fun a q=>?_
 cases H
 rw [ifb_f hb_653] at H
 refine wp_exit ?_
 refine zq<|zr<|za q rfl fun a q=>zn ?_
 refine wp_ret ?_
 repeat first | refine zt ?_ | refine zb ?_ | refine zo ?_
 exact ret_1 results6 q (rv_tmp q rfl) ⟨rfl,s.bel⟩
 rw [oel_some h_81] at H
 have hv_:=hv_.symm
 subst hv_
 obtain ⟨s,hl_71⟩:=s.sp0.back hr_ hl_71
 have s:=s.un2
 have hRL:=hRL.trans hl_71
 refine zm q rfl fun a q=>zl q (r_extract q rfl rfl) fun a q=>zl q (r_extract q rfl rfl) fun a q=>za q rfl fun a q=>za q rfl fun a q=>zn<|zq<|zq ?_
 refine wp_mid (fun a w=>∃ (x_706 : Bool),law08_LeafPlays.j8 a2 x_11 y_19 y_23 y_72 x_706 = some true ∧ Kn 261 a [(0,v_9),(2,v2_0),(8,.pointer (some ⟨b_24,0,none⟩)),(9,I6 y_19.2),(10,.pointer (some ⟨b_73,0,none⟩)),(57,.bool x_706)] ∧ St [] w0 w R_70 [.row 113 2 v_29 y_23.dict.l.length cs_30,.mp mb_32 (kvs Value.string (Value.int .i64) y_23.dict.ids),.cells b_27 [I6 y_23.dict.most,v_29,.map (some mb_32)] 102,mbo mb_33 (kvs (Value.int .i64) id (mbp E_34)) 111 90 2 E_34,.cells b_24 [v_25,I6 y_23.room,I6 y_23.points,.pointer (some ⟨b_27,0,none⟩),.map (some mb_33)] 70,.row 33 4 v_77 y_72.L.length cs_78,.cells b_73 [v_74,I6 y_72.Room,v_77] 60]) ?_ ?_
 refine zr<|zm q rfl fun a q=>zl q (r_un q rfl (u_not _)) fun a q=>zm q rfl fun a q=>?_
 rcases or_b (!y_1) with hb_708 | hb_708
 rw [ifb_t hb_708] at H
 refine zsw q (wft hb_708) fun a q=>zsw q (wft hb_708) fun a q=>zsw q (wft hb_708) fun a q=>zl q (r_pick_t hb_708 q rfl rfl) fun a q=>zn ?_
 have s:=s.pk1
 have s:=s.pk2
 have s:=s.pk6
 have s:=s.pk4
 have s:=s.pk6
 have s:=s.pk6
 exact ⟨true,H,q.sub (zc (zc (zc (zc (zc (zc zz)))))),s⟩
 rw [ifb_f hb_708] at H
 refine zw q (wff hb_708) (r_move q rfl) fun a q=>zw q (wff hb_708) (r_move q rfl) fun a q=>zw q (wff hb_708) (r_ibin q rfl rfl rfl) fun a q=>zl q (r_pick_f hb_708 q rfl rfl) fun a q=>zn ?_
 have s:=s.pk1
 have s:=s.pk2
 have s:=s.pk6
 have s:=s.pk4
 have s:=s.pk6
 have s:=s.pk6
 exact ⟨(y_19.2 != y_68.2),H,q.sub (zc (zc (zc (zc (zc (zc zz)))))),s⟩
 rintro a w ⟨x_706,H,q,s⟩
 unfold law08_LeafPlays.j8 at H
 refine wp_cond_split (q.ev rfl) (fun (hb_709 : x_706 = true)=>?_) fun hb_709=>?_
 rw [ifb_t hb_709] at H
 refine zq<|zr<|za q rfl fun a q=>zn ?_
 exact absurd (Option.some.inj H) (by decide)
 rw [ifb_f hb_709] at H
 refine wp_skip<|zq<|zq<|zr<|zm q rfl fun a q=>zl q (r_ibin q rfl rfl rfl) fun a q=>zn ?_
 refine wp_cond_split (q.ev rfl) (fun (hb_710 : (y_19.2 != 0) = true)=>?_) fun hb_710=>?_
 rw [ifb_t hb_710] at H
 refine zq<|zr<|zm q rfl fun a q=>zl q (r_peq underlying24 q rfl rfl) fun a q=>za q rfl fun a q=>zn ?_
 exact absurd (Option.some.inj H) (by decide)
 rw [ifb_f hb_710] at H
 refine wp_skip<|zq<|zq<|zr<|zm q rfl fun a q=>zl q (r_peq underlying24 q rfl rfl) fun a q=>zn ?_
 refine wp_cond_false (q.ev rfl) ?_
 refine wp_skip<|zq<|zq<|zr<|za q rfl fun a q=>zn ?_
 refine wp_block ?_
 refine wp_loop_k (fun k_l9 a w=>∃ (x_1965 : List api_Schema) (x_1966 : Int) (x_1967 : Int) (x_1969 : Int) (x_1971 : List streams_stream) (x_1976 : List (ByteArray × Int)) (x_1978 : List (Int × runs_Run)) (x_1983 : List api_Schema) (x_1984 : Int) (x_1986 : List api_Point) (x_1990 : Int) (R_1991 : Hp) (v_1963 : Value) (v_1981 : Value) (v_1972 : Value) (cs_1973 : List Value) (v_1987 : Value) (cs_1988 : List Value) (E_1979 : List (MB Int)) (b_1975 : Nat) (b_1968 : Nat) (b_1977 : Nat) (b_1962 : Nat),law08_LeafPlays.l9 a2 x_11 k_l9 x_1965 x_1966 x_1967 x_1969 x_1971 x_1976 x_1978 x_1983 x_1984 x_1986 x_1990 = some true ∧ RLe [] w0 R_70 R_1991 ∧ SlR ty_api_Schema R_1991 v_1963 x_1965 ∧ SlR ty_api_Schema R_1991 v_1981 x_1983 ∧ Reps ty_streams_stream R_1991 cs_1973 x_1971 ∧ Reps ty_api_Point R_1991 cs_1988 x_1986 ∧ MBel ty_api_Sample runs_Run.l R_1991 E_1979 x_1978 ∧ Kn 261 a [(0,v_9),(2,v2_0),(8,.pointer (some ⟨b_1962,0,none⟩)),(10,.pointer (some ⟨b_73,0,none⟩)),(12,I6 x_1990)] ∧ St [] w0 w R_1991 [.row 113 2 v_1972 x_1971.length cs_1973,.mp b_1975 (kvs Value.string (Value.int .i64) x_1976),.cells b_1968 [I6 x_1969,v_1972,.map (some b_1975)] 102,mbo b_1977 (kvs (Value.int .i64) id (mbp E_1979)) 111 90 2 E_1979,.cells b_1962 [v_1963,I6 x_1966,I6 x_1967,.pointer (some ⟨b_1968,0,none⟩),.map (some b_1977)] 70,.row 33 4 v_1987 x_1986.length cs_1988,.cells b_73 [v_1981,I6 x_1984,v_1987] 60]) (((a2.length : Int) - 0).toNat + 1) ?_ ?_
 have s:=s.pk6
 have s:=s.pk6
 have s:=s.pk6
 have s:=s.pk6
 have s:=s.pk6
 have s:=s.pk6
 have s:=s.pk6
 exact ⟨y_23.schemas,y_23.room,y_23.points,y_23.dict.most,y_23.dict.l,y_23.dict.ids,y_23.runs,y_72.S,y_72.Room,y_72.L,0,_,v_25,v_74,_,_,_,_,_,_,_,_,_,H,(RLe.refl _ _),(hs_26.mono hl_71.le),hs_75,(hq_31.mono hl_71.le),hq_79,(hm_35.mono hl_71.le),q.sub (zc (zc (zc (zc (zc zz))))),s⟩
 rintro k_l9 a w ⟨x_1965,x_1966,x_1967,x_1969,x_1971,x_1976,x_1978,x_1983,x_1984,x_1986,x_1990,R_1991,v_1963,v_1981,v_1972,cs_1973,v_1987,cs_1988,E_1979,b_1975,b_1968,b_1977,b_1962,H,hl_1992,hs_1964,hs_1982,hq_1974,hq_1989,hm_1980,q,s⟩
 rcases k_l9 with _ | k_l9
 cases H
 rw [law08_LeafPlays.l9.eq_2] at H
 have hRL:=hRL.trans hl_1992
 refine zq<|zq ?_
 refine wp_mid (fun a w=>∃ (x_3245 : Bool),law08_LeafPlays.j10 (law08_LeafPlays.l9 a2 x_11 k_l9) a2 x_11 x_1965 x_1966 x_1967 x_1969 x_1971 x_1976 x_1978 x_1983 x_1984 x_1986 x_1990 x_3245 = some true ∧ Kn 261 a [(0,v_9),(2,v2_0),(8,.pointer (some ⟨b_1962,0,none⟩)),(10,.pointer (some ⟨b_73,0,none⟩)),(12,I6 x_1990),(71,.bool x_3245)] ∧ St [] w0 w R_1991 [.row 113 2 v_1972 x_1971.length cs_1973,.mp b_1975 (kvs Value.string (Value.int .i64) x_1976),.cells b_1968 [I6 x_1969,v_1972,.map (some b_1975)] 102,mbo b_1977 (kvs (Value.int .i64) id (mbp E_1979)) 111 90 2 E_1979,.cells b_1962 [v_1963,I6 x_1966,I6 x_1967,.pointer (some ⟨b_1968,0,none⟩),.map (some b_1977)] 70,.row 33 4 v_1987 x_1986.length cs_1988,.cells b_73 [v_1981,I6 x_1984,v_1987] 60]) ?_ ?_
 refine zr<|zm q rfl fun a q=>zm q rfl fun a q=>zl q (r_len_R underlying30 h2_0 q rfl) fun a q=>zl q (r_ibin q rfl rfl rfl) fun a q=>zm q rfl fun a q=>?_
 rcases or_b (decide (x_1990 < (a2.length : Int))) with hb_3247 | hb_3247
 rw [ifb_t hb_3247] at H
 refine zw q (wtt hb_3247) (r_move q rfl) fun a q=>zw q (wtt hb_3247) (r_ibin q rfl rfl rfl) fun a q=>zl q (r_pick_t hb_3247 q rfl rfl) fun a q=>zn ?_
 have s:=s.pk6
 have s:=s.pk6
 have s:=s.pk6
 have s:=s.pk6
 have s:=s.pk6
 have s:=s.pk6
 have s:=s.pk6
 exact ⟨(decide (x_1990 < 100)),H,q.sub (zc (zc (zc (zc (zc (zc zz)))))),s⟩
 rw [ifb_f hb_3247] at H
 refine zsw q (wtf hb_3247) fun a q=>zsw q (wtf hb_3247) fun a q=>zl q (r_pick_f hb_3247 q rfl rfl) fun a q=>zn ?_
 have s:=s.pk6
 have s:=s.pk6
 have s:=s.pk6
 have s:=s.pk6
 have s:=s.pk6
 have s:=s.pk6
 have s:=s.pk6
 exact ⟨false,H,q.sub (zc (zc (zc (zc (zc (zc zz)))))),s⟩
 rintro a w ⟨x_3245,H,q,s⟩
 unfold law08_LeafPlays.j10 at H
 refine wp_cond_split (q.ev rfl) (fun (hb_3248 : x_3245 = true)=>?_) fun hb_3248=>?_
 rw [ifb_t hb_3248] at H
 refine wp_skip<|zq ?_
 refine wp_block ?_
 refine zq<|zr<|zm q rfl fun a q=>zm q rfl fun a q=>?_
 obtain ⟨y_3249,h_3250,H⟩:=bs H
 obtain ⟨b_3251,o_3252,c_3253,cs_3254,hv_3255,hr_3256,hc_3257,h_32500,h_32501⟩:=h2_0.ix h_3250
 obtain ⟨v_3258,v_3260,rfl,hs_3259,hs_3261⟩:=hr_3256
 refine zl q (r_indexAddr_R underlying30 sizeOf33 hv_3255 h_32500 h_32501 q rfl rfl) fun a q=>zl q (r_loadA (cs:=[.string y_3249.Schema,v_3258,I6 y_3249.Time,v_3260]) isAgg33 sizeOf33 rfl q rfl (fun j v hv=>(s.ra hRA nil_not).cell (hc_3257 j v hv))) fun a q=>?_
 refine sl_alloc zeroValue33 s q (by decide) rfl rfl fun a w b_3262 s q=>?_
 refine sl_storeA (vs:=[.string y_3249.Schema,v_3258,I6 y_3249.Time,v_3260]) (c':=[.string y_3249.Schema,v_3258,I6 y_3249.Time,v_3260]) sizeOf33 s q rfl rfl rfl rfl (zc (all_cons hs_3259.one (zc (all_cons hs_3261.one zz)))) (Nat.le_of_ble_eq_true rfl) rfl fun a w s q=>?_
 refine zn<|zq<|zr ?_
 refine sl_buildSliceC (zc:=[I6 0,I6 0,.string (⟨#[]⟩ : ByteArray),I6 0,I6 0,I6 0,I6 0,I6 0,I6 0,I6 0,I6 0]) (zs:=[]) (ps:=[]) (c:=[]) underlying31 sizeOf58 zeroValue58 rfl pc_nil rfl rfl (by decide) (by kernel_rfl) rfl s q (by decide) rfl fun a w b_3263 s q=>?_
 refine zl q (r_fieldAddr underlying33 rfl sizeOf31 q rfl) fun a q=>zl q (r_load isAgg31 q rfl (s.cell z1 rfl)) fun a q=>?_
 obtain ⟨y_3266,h_3267,H⟩:=bs H
 have s:=s.row_lit (size:=11) (m:=0) rfl (by decide)
 have hq_3265 : Reps ty_api_Value R_1991 [] ([] : List api_Value):=(Reps.nil _ _)
 refine sl_append_A elT31 (by decide) rfl (fun _ _ _ _ h=>h) (s.ra hRA nil_not) hq_3265 rfl hs_3259 h_3267 s q (by decide) rfl rfl rfl fun a w v_3268 cs_3269 hq_3270 s q=>?_
 refine zl q (r_fieldAddr underlying33 rfl sizeOf31 q rfl) fun a q=>?_
 have s:=s.pk1
 refine sl_store1 (c':=[.string y_3249.Schema,v_3268,I6 y_3249.Time,v_3260]) sizeOf31 s q rfl rfl rfl (s.row_one z1) (Nat.le_of_ble_eq_true rfl) rfl fun a w s q=>?_
 refine zn<|zq<|zr ?_
 refine sl_buildSliceC (zc:=[I6 0,I6 0,.string (⟨#[]⟩ : ByteArray),I6 0,I6 0,I6 0,I6 0,I6 0,I6 0,I6 0,I6 0]) (zs:=[]) (ps:=[]) (c:=[]) underlying31 sizeOf58 zeroValue58 rfl pc_nil rfl rfl (by decide) (by kernel_rfl) rfl s q (by decide) rfl fun a w b_3272 s q=>?_
 refine zl q (r_fieldAddr underlying33 rfl sizeOf31 q rfl) fun a q=>zl q (r_load isAgg31 q rfl (s.cell z1 rfl)) fun a q=>?_
 obtain ⟨y_3275,h_3276,H⟩:=bs H
 have s:=s.row_lit (size:=11) (m:=0) rfl (by decide)
 have hq_3274 : Reps ty_api_Value R_1991 [] ([] : List api_Value):=(Reps.nil _ _)
 refine sl_append_A elT31 (by decide) rfl (fun _ _ _ _ h=>h) (s.ra hRA nil_not) hq_3274 rfl hs_3261 h_3276 s q (by decide) rfl rfl rfl fun a w v_3277 cs_3278 hq_3279 s q=>?_
 refine zl q (r_fieldAddr underlying33 rfl sizeOf31 q rfl) fun a q=>?_
 have s:=s.pk1
 refine sl_store1 (c':=[.string y_3249.Schema,v_3268,I6 y_3249.Time,v_3277]) sizeOf31 s q rfl rfl rfl (s.row_one z1) (Nat.le_of_ble_eq_true rfl) rfl fun a w s q=>?_
 refine zn<|zq<|zq<|zr<|zm q rfl fun a q=>zl q (r_rem q rfl rfl (by decide)) fun a q=>?_
 refine zl q (r_ibin q rfl rfl rfl) fun a q=>zn ?_
 refine wp_mid (fun a w=>∃ (x_3368 : List api_Schema) (x_3369 : Int) (x_3370 : Int) (x_3372 : Int) (x_3374 : List streams_stream) (x_3379 : List (ByteArray × Int)) (x_3381 : List (Int × runs_Run)) (R_3384 : Hp) (v_3366 : Value) (v_3375 : Value) (cs_3376 : List Value) (E_3382 : List (MB Int)) (b_3378 : Nat) (b_3371 : Nat) (b_3380 : Nat) (b_3365 : Nat),law08_LeafPlays.j11 (law08_LeafPlays.l9 a2 x_11 k_l9) a2 x_1983 x_1984 x_1986 x_1990 y_3249 y_3266 y_3275 x_3368 x_3369 x_3370 x_3372 x_3374 x_3379 x_3381 = some true ∧ RLe [] w0 R_1991 R_3384 ∧ SlR ty_api_Schema R_3384 v_3366 x_3368 ∧ Reps ty_streams_stream R_3384 cs_3376 x_3374 ∧ MBel ty_api_Sample runs_Run.l R_3384 E_3382 x_3381 ∧ Kn 261 a [(0,v_9),(2,v2_0),(8,.pointer (some ⟨b_3365,0,none⟩)),(10,.pointer (some ⟨b_73,0,none⟩)),(12,I6 x_1990),(13,.pointer (some ⟨b_3262,0,none⟩))] ∧ St [] w0 w R_3384 [.row 113 2 v_3375 x_3374.length cs_3376,.mp b_3378 (kvs Value.string (Value.int .i64) x_3379),.cells b_3371 [I6 x_3372,v_3375,.map (some b_3378)] 102,mbo b_3380 (kvs (Value.int .i64) id (mbp E_3382)) 111 90 2 E_3382,.cells b_3365 [v_3366,I6 x_3369,I6 x_3370,.pointer (some ⟨b_3371,0,none⟩),.map (some b_3380)] 70,.row 33 4 v_1987 x_1986.length cs_1988,.cells b_73 [v_1981,I6 x_1984,v_1987] 60,.row 58 11 v_3268 y_3266.length cs_3269,.row 58 11 v_3277 y_3275.length cs_3278,.cells b_3262 [.string y_3249.Schema,v_3268,I6 y_3249.Time,v_3277] 33]) ?_ ?_
 refine wp_cond_split (q.ev rfl) (fun (hb_3386 : ((x_1990.tmod 7) == 6) = true)=>?_) fun hb_3386=>?_
 rw [ifb_t hb_3386] at H
 refine zq<|zr<|zm q rfl fun a q=>za q rfl fun a q=>zn<|zq<|zr<|zm q rfl fun a q=>?_
 obtain ⟨y_3387,h_3388,H⟩:=bs H
 have s:=s.pk6
 have s:=s.pk5
 have s:=s.pk5
 have s:=s.pk6
 have s:=s.pk7
 have hS1:=s.sp5
 refine sl_call call17 q (by decide) rfl rfl rfl (leaf_Leaf_Clone.calls (⟨x_1965,x_1966,x_1967,(⟨x_1969,x_1971,x_1976⟩ : streams_Dict),x_1978⟩ : leaf_Leaf) hS1.lend hs_1964 hq_1974 hm_1980 h_3388) fun a v_ w hv_ q=>?_
 obtain ⟨R_3389,b_3391,v_3392,b_3394,v_3396,cs_3397,mb_3399,mb_3400,E_3401,v_3403,b_3405,v_3407,cs_3408,mb_3410,mb_3411,E_3412,hv_,hr_,hl_3390,hs_3393,hq_3398,hm_3402,hs_3404,hq_3409,hm_3413⟩:=hv_
 have hv_:=hv_.symm
 subst hv_
 obtain ⟨s,hl_3390⟩:=hS1.back hr_ hl_3390
 have s:=s.un10
 have hRL:=hRL.trans hl_3390
 refine za q rfl fun a q=>zn<|zq<|zq<|zr<|zm q rfl fun a q=>zl q (r_peq underlying24 q rfl rfl) fun a q=>zn ?_
 refine wp_cond_false (q.ev rfl) ?_
 refine wp_skip<|zq<|zr<|zm q rfl fun a q=>zm q rfl fun a q=>zm q rfl fun a q=>?_
 obtain ⟨y_3414,h_3415,H⟩:=bs H
 obtain ⟨b_3416,o_3417,c_3418,cs_3419,hv_3420,hr_3421,hc_3422,h_34150,h_34151⟩:=h2_0.ix h_3415
 obtain ⟨v_3423,v_3425,rfl,hs_3424,hs_3426⟩:=hr_3421
 refine zl q (r_indexAddr_R underlying30 sizeOf33 hv_3420 h_34150 h_34151 q rfl rfl) fun a q=>zl q (r_loadA (cs:=[.string y_3414.Schema,v_3423,I6 y_3414.Time,v_3425]) isAgg33 sizeOf33 rfl q rfl (fun j v hv=>(s.ra hRA nil_not).cell (hc_3422 j v hv))) fun a q=>?_
 obtain ⟨y_3427,h_3428,H⟩:=bs H
 have s:=s.pk9
 have s:=s.pk9
 have s:=s.pk9
 have s:=s.pk9
 have s:=s.pk9
 have hS1:=s.sp5
 refine sl_call call11 q (by decide) rfl rfl rfl (leaf_Leaf_Write.calls y_3387.2 y_3414 (lentOf_sub _ _) lentOf_not hS1.lend hs_3404 hq_3409 hm_3413 (hs_3424.mono (hS1.raLe hRA nil_not)) (hs_3426.mono (hS1.raLe hRA nil_not)) (GF.mono (hS1.raLe hRA nil_not) hG) h_3428) fun a v_ w hv_ q=>?_
 obtain ⟨R_3429,v_3431,b_3433,v_3435,cs_3436,mb_3438,mb_3439,E_3440,hv_,hr_,hl_3430,hs_3432,hq_3437,hm_3441⟩:=hv_
 have hv_:=hv_.symm
 subst hv_
 obtain ⟨s,hl_3430⟩:=hS1.back hr_ hl_3430
 have s:=s.un5
 have hRL:=hRL.trans hl_3430
 refine zn<|zr<|zm q rfl fun a q=>zm q rfl fun a q=>?_
 obtain ⟨y_3442,h_3443,H⟩:=bs H
 obtain ⟨b_3444,o_3445,c_3446,cs_3447,hv_3448,hr_3449,hc_3450,h_34430,h_34431⟩:=h2_0.ix h_3443
 obtain ⟨v_3451,v_3453,rfl,hs_3452,hs_3454⟩:=hr_3449
 refine zl q (r_indexAddr_R underlying30 sizeOf33 hv_3448 h_34430 h_34431 q rfl rfl) fun a q=>zl q (r_loadA (cs:=[.string y_3442.Schema,v_3451,I6 y_3442.Time,v_3453]) isAgg33 sizeOf33 rfl q rfl (fun j v hv=>(s.ra hRA nil_not).cell (hc_3450 j v hv))) fun a q=>?_
 obtain ⟨y_3455,h_3456,H⟩:=bs H
 have s:=s.pk4
 have s:=s.pk4
 have s:=s.pk4
 have s:=s.pk4
 have s:=s.pk4
 have hS1:=s.sp5
 refine sl_call call11 q (by decide) rfl rfl rfl (leaf_Leaf_Write.calls y_3427.2.2 y_3442 (lentOf_sub _ _) lentOf_not hS1.lend hs_3432 hq_3437 hm_3441 (hs_3452.mono (hS1.raLe hRA nil_not)) (hs_3454.mono (hS1.raLe hRA nil_not)) (GF.mono (hS1.raLe hRA nil_not) hG) h_3456) fun a v_ w hv_ q=>?_
 obtain ⟨R_3457,v_3459,b_3461,v_3463,cs_3464,mb_3466,mb_3467,E_3468,hv_,hr_,hl_3458,hs_3460,hq_3465,hm_3469⟩:=hv_
 have hv_:=hv_.symm
 subst hv_
 obtain ⟨s,hl_3458⟩:=hS1.back hr_ hl_3458
 have s:=s.un5
 have hRL:=hRL.trans hl_3458
 refine zn ?_
 have s:=s.pk10
 have s:=s.pk11
 have s:=s.pk12
 have s:=s.pk14
 have s:=s.pk14
 have s:=s.pk10
 have s:=s.pk14
 have s:=s.pk12
 have s:=s.pk14
 have s:=s.pk14
 exact ⟨y_3387.1.schemas,y_3387.1.room,y_3387.1.points,y_3387.1.dict.most,y_3387.1.dict.l,y_3387.1.dict.ids,y_3387.1.runs,_,v_3392,_,_,_,_,_,_,_,H,(hl_3390.trans (hl_3430.trans hl_3458)),(hs_3393.mono (hl_3430.le.trans hl_3458.le)),(hq_3398.mono (hl_3430.le.trans hl_3458.le)),(hm_3402.mono (hl_3430.le.trans hl_3458.le)),q.sub (zc (zc (zc (zc (zc (zc zz)))))),s.trunc 10⟩
 rw [ifb_f hb_3386] at H
 refine wp_skip ?_
 have s:=s.pk1
 have s:=s.pk2
 have s:=s.pk9
 have s:=s.pk9
 have s:=s.pk9
 have s:=s.pk9
 have s:=s.pk9
 have s:=s.pk9
 have s:=s.pk9
 exact ⟨x_1965,x_1966,x_1967,x_1969,x_1971,x_1976,x_1978,_,v_1963,_,_,_,_,_,_,_,H,(RLe.refl _ _),hs_1964,hq_1974,hm_1980,q.sub (zc (zc (zc (zc (zc (zc zz)))))),s⟩
 rintro a w ⟨x_3368,x_3369,x_3370,x_3372,x_3374,x_3379,x_3381,R_3384,v_3366,v_3375,cs_3376,E_3382,b_3378,b_3371,b_3380,b_3365,H,hl_3385,hs_3367,hq_3377,hm_3383,q,s⟩
 unfold law08_LeafPlays.j11 at H
 have hRL:=hRL.trans hl_3385
 refine zq<|zr<|zm q rfl fun a q=>zl q (r_loadA (cs:=[.string y_3249.Schema,v_3268,I6 y_3249.Time,v_3277]) isAgg33 sizeOf33 rfl q rfl (s.cells_of (m:=4) (.tail _ z8) rfl)) fun a q=>?_
 obtain ⟨y_3470,h_3471,H⟩:=bs H
 have s:=s.pk3
 have s:=s.pk2
 have s:=s.pk2
 have s:=s.pk3
 have s:=s.pk4
 have hS1:=s.sp5
 refine sl_call call11 q (by decide) rfl rfl rfl (leaf_Leaf_Write.calls (⟨x_3368,x_3369,x_3370,(⟨x_3372,x_3374,x_3379⟩ : streams_Dict),x_3381⟩ : leaf_Leaf) (⟨y_3249.Schema,y_3266,y_3249.Time,y_3275⟩ : api_Point) (lentOf_sub _ _) lentOf_not hS1.lend hs_3367 hq_3377 hm_3383 (hS1.lend_row z2 (hq_3270.mono hl_3385.le) rfl rfl) (hS1.lend_row z3 (hq_3279.mono hl_3385.le) rfl rfl) (GF.mono (hS1.raLe hRA nil_not) hG) h_3471) fun a v_ w hv_ q=>?_
 obtain ⟨R_3472,v_3474,b_3476,v_3478,cs_3479,mb_3481,mb_3482,E_3483,hv_,hr_,hl_3473,hs_3475,hq_3480,hm_3484⟩:=hv_
 have hv_:=hv_.symm
 subst hv_
 obtain ⟨s,hl_3473⟩:=hS1.back hr_ hl_3473
 have s:=s.un5
 have hRL:=hRL.trans hl_3473
 refine zm q rfl fun a q=>zl q (r_extract q rfl rfl) fun a q=>zl q (r_extract q rfl rfl) fun a q=>za q rfl fun a q=>za q rfl fun a q=>zn<|zq<|zr<|zm q rfl fun a q=>zm q rfl fun a q=>zm q rfl fun a q=>?_
 obtain ⟨y_3485,h_3486,H⟩:=bs H
 obtain ⟨b_3487,o_3488,c_3489,cs_3490,hv_3491,hr_3492,hc_3493,h_34860,h_34861⟩:=h2_0.ix h_3486
 obtain ⟨v_3494,v_3496,rfl,hs_3495,hs_3497⟩:=hr_3492
 refine zl q (r_indexAddr_R underlying30 sizeOf33 hv_3491 h_34860 h_34861 q rfl rfl) fun a q=>zl q (r_loadA (cs:=[.string y_3485.Schema,v_3494,I6 y_3485.Time,v_3496]) isAgg33 sizeOf33 rfl q rfl (fun j v hv=>(s.ra hRA nil_not).cell (hc_3493 j v hv))) fun a q=>?_
 obtain ⟨y_3498,h_3499,H⟩:=bs H
 have s:=s.pk5
 have s:=s.pk6
 have hS1:=s.sp2
 refine sl_call call18 q (by decide) rfl rfl rfl (ref08_Leaf_Write.calls (⟨x_1983,x_1984,x_1986⟩ : catchmentref08_Leaf) y_3485 (lentOf_sub _ _) lentOf_not hS1.lend (hs_1982.mono (hl_3385.le.trans hl_3473.le)) (hq_1989.mono (hl_3385.le.trans hl_3473.le)) (hs_3495.mono (hS1.raLe hRA nil_not)) (hs_3497.mono (hS1.raLe hRA nil_not)) h_3499) fun a v_ w hv_ q=>?_
 obtain ⟨R_3500,v_3502,v_3505,cs_3506,hv_,hr_,hl_3501,hs_3503,hq_3507⟩:=hv_
 have hv_:=hv_.symm
 subst hv_
 obtain ⟨s,hl_3501⟩:=hS1.back hr_ hl_3501
 have s:=s.un2
 have hRL:=hRL.trans hl_3501
 refine zm q rfl fun a q=>zl q (r_extract q rfl rfl) fun a q=>zl q (r_extract q rfl rfl) fun a q=>za q rfl fun a q=>za q rfl fun a q=>zn<|zq<|zq<|zr<|za q rfl fun a q=>zn ?_
 refine wp_block ?_
 refine wp_loop_k (fun k_l12 a w=>∃ (x_3522 : List api_Value) (x_3526 : Int) (v_3523 : Value) (cs_3524 : List Value),law08_LeafPlays.l12 (law08_LeafPlays.l9 a2 x_11 k_l9) a2 x_1990 y_3266 y_3275 y_3470 y_3498 k_l12 x_3522 x_3526 = some true ∧ Reps ty_api_Value R_3500 cs_3524 x_3522 ∧ Kn 261 a [(0,v_9),(2,v2_0),(8,.pointer (some ⟨b_3365,0,none⟩)),(10,.pointer (some ⟨b_73,0,none⟩)),(12,I6 x_1990),(13,.pointer (some ⟨b_3262,0,none⟩)),(15,.bool y_3470.1),(16,I6 y_3470.2.1),(17,.bool y_3498.1),(18,I6 y_3498.2.1),(19,I6 x_3526)] ∧ St [] w0 w R_3500 [.row 113 2 v_3478 y_3470.2.2.dict.l.length cs_3479,.mp mb_3481 (kvs Value.string (Value.int .i64) y_3470.2.2.dict.ids),.cells b_3476 [I6 y_3470.2.2.dict.most,v_3478,.map (some mb_3481)] 102,mbo mb_3482 (kvs (Value.int .i64) id (mbp E_3483)) 111 90 2 E_3483,.cells b_3365 [v_3474,I6 y_3470.2.2.room,I6 y_3470.2.2.points,.pointer (some ⟨b_3476,0,none⟩),.map (some mb_3482)] 70,.row 33 4 v_3505 y_3498.2.2.L.length cs_3506,.cells b_73 [v_3502,I6 y_3498.2.2.Room,v_3505] 60,.row 58 11 v_3523 x_3522.length cs_3524,.row 58 11 v_3277 y_3275.length cs_3278,.cells b_3262 [.string y_3249.Schema,v_3523,I6 y_3249.Time,v_3277] 33]) (((y_3266.length : Int) - 0).toNat + 1) ?_ ?_
 have s:=s.pk9
 have s:=s.pk9
 have s:=s.pk9
 have s:=s.pk3
 have s:=s.pk4
 have s:=s.pk5
 have s:=s.pk9
 have s:=s.pk7
 have s:=s.pk9
 have s:=s.pk9
 exact ⟨y_3266,0,_,_,H,(hq_3270.mono (hl_3385.le.trans (hl_3473.le.trans hl_3501.le))),q.sub (zc (zc (zc (zc (zc (zc (zc (zc (zc (zc (zc zz))))))))))),s⟩
 rintro k_l12 a w ⟨x_3522,x_3526,v_3523,cs_3524,H,hq_3525,q,s⟩
 rcases k_l12 with _ | k_l12
 cases H
 rw [law08_LeafPlays.l12.eq_2] at H
 refine zq<|zq<|zr<|zm q rfl fun a q=>zl q (r_fieldAddr underlying33 rfl sizeOf31 q rfl) fun a q=>zl q (r_load isAgg31 q rfl (s.cell (.tail _ z8) rfl)) fun a q=>zl q (r_len_O underlying31 s z7 q rfl) fun a q=>zl q (r_ibin q rfl rfl rfl) fun a q=>zn ?_
 refine wp_cond_split (q.ev rfl) (fun (hb_3540 : (decide (x_3526 < (x_3522.length : Int))) = true)=>?_) fun hb_3540=>?_
 rw [ifb_t hb_3540] at H
 refine wp_skip<|zq ?_
 refine wp_block ?_
 refine zr<|zl q (r_fieldAddr underlying33 rfl sizeOf31 q rfl) fun a q=>zl q (r_load isAgg31 q rfl (s.cell (.tail _ z8) rfl)) fun a q=>zm q rfl fun a q=>zl q (r_buildC (ps:=[]) (c:=[I6 0,I6 0,.string (⟨#[]⟩ : ByteArray),I6 0,I6 0,I6 0,I6 0,I6 0,I6 0,I6 0,I6 0]) underlying58 zeroValue58 places58 q rfl pc_nil rfl rfl) fun a q=>?_
 obtain ⟨y_3541,h_3542,H⟩:=bs H
 obtain ⟨b_3544,c_3545,cs_3546,hv_3543,hr_3547,hc_3548,h_35420,h_35421⟩:=s.row_ix z7 hq_3525 rfl rfl h_3542
 subst hr_3547
 refine zl q (r_indexAddr_R underlying31 sizeOf58 hv_3543 h_35420 h_35421 q rfl rfl) fun a q=>?_
 have s:=s.pk7
 refine sl_store_rowA (es:=(cV y_3541)) (vs:=[I6 0,I6 0,.string (⟨#[]⟩ : ByteArray),I6 0,I6 0,I6 0,I6 0,I6 0,I6 0,I6 0,I6 0]) (ps:=0) sizeOf58 hv_3543 h_3542 rfl rfl hc_3548 rfl (Nat.le_of_ble_eq_true rfl) (Nat.le_of_ble_eq_true rfl) (show Ty.rep ty_api_Value _ (spl (cV y_3541) 0 [I6 0,I6 0,.string (⟨#[]⟩ : ByteArray),I6 0,I6 0,I6 0,I6 0,I6 0,I6 0,I6 0,I6 0]) (⟨0,0,(⟨#[]⟩ : ByteArray),(⟨0,0,0,0,0,0,0,0⟩ : Arr8)⟩ : api_Value) from rfl) hq_3525 rfl s q rfl rfl rfl (zc (zc (zc (zc (zc (zc (zc (zc (zc (zc (zc zz))))))))))) fun a w cs_3549 hq_3550 s q=>?_
 refine zn<|zr<|zm q rfl fun a q=>zl q (r_ibin q rfl rfl rfl) fun a q=>za q rfl fun a q=>zn ?_
 have s:=s.pk9
 have s:=s.pk9
 have s:=s.pk2
 have s:=s.pk9
 have s:=s.pk9
 have s:=s.pk9
 have s:=s.pk9
 have s:=s.pk9
 have s:=s.pk9
 have s:=s.pk9
 exact ⟨_,Nat.lt_succ_self _,(upd x_3522 x_3526 (⟨0,0,(⟨#[]⟩ : ByteArray),(⟨0,0,0,0,0,0,0,0⟩ : Arr8)⟩ : api_Value)),(IntKind.i64.wrap (x_3526 + 1)),_,_,H,hq_3550,q.sub (zc (zc (zc (zc (zc (zc (zc (zc (zc (zc (zc zz))))))))))),s⟩
 rw [ifb_f hb_3540] at H
 refine wp_exit ?_
 refine zq<|zq<|zr<|za q rfl fun a q=>zn ?_
 refine wp_block ?_
 refine wp_loop_k (fun k_l13 a w=>∃ (x_3566 : List api_Value) (x_3570 : Int) (v_3567 : Value) (cs_3568 : List Value),law08_LeafPlays.l13 (law08_LeafPlays.l9 a2 x_11 k_l9) a2 x_1990 y_3275 y_3470 y_3498 k_l13 x_3566 x_3570 = some true ∧ Reps ty_api_Value R_3500 cs_3568 x_3566 ∧ Kn 261 a [(0,v_9),(2,v2_0),(8,.pointer (some ⟨b_3365,0,none⟩)),(10,.pointer (some ⟨b_73,0,none⟩)),(12,I6 x_1990),(13,.pointer (some ⟨b_3262,0,none⟩)),(15,.bool y_3470.1),(16,I6 y_3470.2.1),(17,.bool y_3498.1),(18,I6 y_3498.2.1),(20,I6 x_3570)] ∧ St [] w0 w R_3500 [.row 113 2 v_3478 y_3470.2.2.dict.l.length cs_3479,.mp mb_3481 (kvs Value.string (Value.int .i64) y_3470.2.2.dict.ids),.cells b_3476 [I6 y_3470.2.2.dict.most,v_3478,.map (some mb_3481)] 102,mbo mb_3482 (kvs (Value.int .i64) id (mbp E_3483)) 111 90 2 E_3483,.cells b_3365 [v_3474,I6 y_3470.2.2.room,I6 y_3470.2.2.points,.pointer (some ⟨b_3476,0,none⟩),.map (some mb_3482)] 70,.row 33 4 v_3505 y_3498.2.2.L.length cs_3506,.cells b_73 [v_3502,I6 y_3498.2.2.Room,v_3505] 60,.row 58 11 v_3523 x_3522.length cs_3524,.row 58 11 v_3567 x_3566.length cs_3568,.cells b_3262 [.string y_3249.Schema,v_3523,I6 y_3249.Time,v_3567] 33]) (((y_3275.length : Int) - 0).toNat + 1) ?_ ?_
 have s:=s.pk9
 have s:=s.pk9
 have s:=s.pk9
 have s:=s.pk9
 have s:=s.pk9
 have s:=s.pk9
 have s:=s.pk9
 have s:=s.pk9
 have s:=s.pk9
 have s:=s.pk9
 exact ⟨y_3275,0,_,_,H,(hq_3279.mono (hl_3385.le.trans (hl_3473.le.trans hl_3501.le))),q.sub (zc (zc (zc (zc (zc (zc (zc (zc (zc (zc (zc zz))))))))))),s⟩
 rintro k_l13 a w ⟨x_3566,x_3570,v_3567,cs_3568,H,hq_3569,q,s⟩
 rcases k_l13 with _ | k_l13
 cases H
 rw [law08_LeafPlays.l13.eq_2] at H
 refine zq<|zq<|zr<|zm q rfl fun a q=>zl q (r_fieldAddr underlying33 rfl sizeOf31 q rfl) fun a q=>zl q (r_load isAgg31 q rfl (s.cell (.tail _ z8) rfl)) fun a q=>zl q (r_len_O underlying31 s z8 q rfl) fun a q=>zl q (r_ibin q rfl rfl rfl) fun a q=>zn ?_
 refine wp_cond_split (q.ev rfl) (fun (hb_3584 : (decide (x_3570 < (x_3566.length : Int))) = true)=>?_) fun hb_3584=>?_
 rw [ifb_t hb_3584] at H
 refine wp_skip<|zq ?_
 refine wp_block ?_
 refine zr<|zl q (r_fieldAddr underlying33 rfl sizeOf31 q rfl) fun a q=>zl q (r_load isAgg31 q rfl (s.cell (.tail _ z8) rfl)) fun a q=>zm q rfl fun a q=>zl q (r_buildC (ps:=[]) (c:=[I6 0,I6 0,.string (⟨#[]⟩ : ByteArray),I6 0,I6 0,I6 0,I6 0,I6 0,I6 0,I6 0,I6 0]) underlying58 zeroValue58 places58 q rfl pc_nil rfl rfl) fun a q=>?_
 obtain ⟨y_3585,h_3586,H⟩:=bs H
 obtain ⟨b_3588,c_3589,cs_3590,hv_3587,hr_3591,hc_3592,h_35860,h_35861⟩:=s.row_ix z8 hq_3569 rfl rfl h_3586
 subst hr_3591
 refine zl q (r_indexAddr_R underlying31 sizeOf58 hv_3587 h_35860 h_35861 q rfl rfl) fun a q=>?_
 have s:=s.pk8
 refine sl_store_rowA (es:=(cV y_3585)) (vs:=[I6 0,I6 0,.string (⟨#[]⟩ : ByteArray),I6 0,I6 0,I6 0,I6 0,I6 0,I6 0,I6 0,I6 0]) (ps:=0) sizeOf58 hv_3587 h_3586 rfl rfl hc_3592 rfl (Nat.le_of_ble_eq_true rfl) (Nat.le_of_ble_eq_true rfl) (show Ty.rep ty_api_Value _ (spl (cV y_3585) 0 [I6 0,I6 0,.string (⟨#[]⟩ : ByteArray),I6 0,I6 0,I6 0,I6 0,I6 0,I6 0,I6 0,I6 0]) (⟨0,0,(⟨#[]⟩ : ByteArray),(⟨0,0,0,0,0,0,0,0⟩ : Arr8)⟩ : api_Value) from rfl) hq_3569 rfl s q rfl rfl rfl (zc (zc (zc (zc (zc (zc (zc (zc (zc (zc (zc zz))))))))))) fun a w cs_3593 hq_3594 s q=>?_
 refine zn<|zr<|zm q rfl fun a q=>zl q (r_ibin q rfl rfl rfl) fun a q=>za q rfl fun a q=>zn ?_
 have s:=s.pk9
 have s:=s.pk1
 have s:=s.pk9
 have s:=s.pk9
 have s:=s.pk9
 have s:=s.pk9
 have s:=s.pk9
 have s:=s.pk9
 have s:=s.pk9
 have s:=s.pk9
 exact ⟨_,Nat.lt_succ_self _,(upd x_3566 x_3570 (⟨0,0,(⟨#[]⟩ : ByteArray),(⟨0,0,0,0,0,0,0,0⟩ : Arr8)⟩ : api_Value)),(IntKind.i64.wrap (x_3570 + 1)),_,_,H,hq_3594,q.sub (zc (zc (zc (zc (zc (zc (zc (zc (zc (zc (zc zz))))))))))),s⟩
 rw [ifb_f hb_3584] at H
 refine wp_exit ?_
 refine zq ?_
 refine par_region (C:=fun w=>St [] w0 w R_3500 [.row 113 2 v_3478 y_3470.2.2.dict.l.length cs_3479,.mp mb_3481 (kvs Value.string (Value.int .i64) y_3470.2.2.dict.ids),.cells b_3476 [I6 y_3470.2.2.dict.most,v_3478,.map (some mb_3481)] 102,mbo mb_3482 (kvs (Value.int .i64) id (mbp E_3483)) 111 90 2 E_3483,.cells b_3365 [v_3474,I6 y_3470.2.2.room,I6 y_3470.2.2.points,.pointer (some ⟨b_3476,0,none⟩),.map (some mb_3482)] 70,.row 33 4 v_3505 y_3498.2.2.L.length cs_3506,.cells b_73 [v_3502,I6 y_3498.2.2.Room,v_3505] 60,.row 58 11 v_3523 x_3522.length cs_3524,.row 58 11 v_3567 x_3566.length cs_3568,.cells b_3262 [.string y_3249.Schema,v_3523,I6 y_3249.Time,v_3567] 33]) [(0,true),(1,true),(2,true),(3,true),(4,true),(5,true),(6,true),(7,true),(8,true),(9,true),(10,true),(11,true),(12,true)] mixed (by kernel_rfl) s (fun w s=>s) fun w s=>?_
 refine zp rfl q (fun w s=>r_move q rfl) fun a q=>zp rfl q (fun w s=>r_move q rfl) fun a q=>?_
 obtain ⟨y_3622,h_3623,H⟩:=bs H
 obtain ⟨b_3624,o_3625,c_3626,cs_3627,hv_3628,hr_3629,hc_3630,h_36230,h_36231⟩:=h2_0.ix h_3623
 obtain ⟨v_3631,v_3633,rfl,hs_3632,hs_3634⟩:=hr_3629
 refine zp rfl q (fun w s=>r_indexAddr_R underlying30 sizeOf33 hv_3628 h_36230 h_36231 q rfl rfl) fun a q=>zp rfl q (fun w s=>r_fieldAddr underlying33 rfl sizeOf3 q rfl) fun a q=>zp rfl q (fun w s=>r_load isAgg3 q rfl ((s.ra hRA nil_not).cell (hc_3630 2 _ rfl))) fun a q=>zp rfl q (fun w s=>r_move q rfl) fun a q=>zp rfl q (fun w s=>r_move q rfl) fun a q=>?_
 obtain ⟨y_3635,h_3636,H⟩:=bs H
 obtain ⟨b_3637,o_3638,c_3639,cs_3640,hv_3641,hr_3642,hc_3643,h_36360,h_36361⟩:=h2_0.ix h_3636
 obtain ⟨v_3644,v_3646,rfl,hs_3645,hs_3647⟩:=hr_3642
 refine zp rfl q (fun w s=>r_indexAddr_R underlying30 sizeOf33 hv_3641 h_36360 h_36361 q rfl rfl) fun a q=>zp rfl q (fun w s=>r_fieldAddr underlying33 rfl sizeOf3 q rfl) fun a q=>zp rfl q (fun w s=>r_load isAgg3 q rfl ((s.ra hRA nil_not).cell (hc_3643 2 _ rfl))) fun a q=>zp rfl q (fun w s=>r_rem q rfl rfl (by decide)) fun a q=>?_
 refine zp rfl q (fun w s=>r_ibin q rfl rfl rfl) fun a q=>zp rfl q (fun w s=>r_assign q rfl) fun a q=>?_
 refine wpPar_nil (NoP_nil ?_)
 refine zq ?_
 refine wp_mid (fun a w=>∃ (x_3802 : List api_Schema) (x_3803 : Int) (x_3804 : Int) (x_3806 : Int) (x_3808 : List streams_stream) (x_3813 : List (ByteArray × Int)) (x_3815 : List (Int × runs_Run)) (x_3820 : List api_Col) (x_3825 : List (List api_Value)) (x_3830 : Int) (R_3831 : Hp) (v_3800 : Value) (v_3809 : Value) (cs_3810 : List Value) (v_3821 : Value) (cs_3822 : List Value) (v_3826 : Value) (cs_3827 : List Value) (E_3816 : List (MB Int)) (b_3812 : Nat) (b_3805 : Nat) (b_3814 : Nat) (b_3818 : Nat),law08_LeafPlays.j14 (law08_LeafPlays.l9 a2 x_11 k_l9) a2 x_1990 y_3470 y_3498 y_3622 y_3635 x_3802 x_3803 x_3804 x_3806 x_3808 x_3813 x_3815 x_3820 x_3825 x_3830 = some true ∧ RLe [] w0 R_3500 R_3831 ∧ SlR ty_api_Schema R_3500 v_3800 x_3802 ∧ Reps ty_streams_stream R_3500 cs_3810 x_3808 ∧ Reps ty_api_Col R_3831 cs_3822 x_3820 ∧ Reps (tySl ty_api_Value) R_3831 cs_3827 x_3825 ∧ Apart R_3500 R_3831 cs_3827 ∧ MBel ty_api_Sample runs_Run.l R_3500 E_3816 x_3815 ∧ Kn 261 a [(0,v_9),(2,v2_0),(8,.pointer (some ⟨b_3365,0,none⟩)),(10,.pointer (some ⟨b_73,0,none⟩)),(12,I6 x_1990),(15,.bool y_3470.1),(16,I6 y_3470.2.1),(17,.bool y_3498.1),(18,I6 y_3498.2.1),(21,I6 (IntKind.i64.wrap (y_3622.Time - (y_3635.Time.tmod 8)))),(22,.pointer (some ⟨b_3818,0,none⟩)),(23,I6 x_3830)] ∧ St [] w0 w R_3831 [.row 113 2 v_3809 x_3808.length cs_3810,.mp b_3812 (kvs Value.string (Value.int .i64) x_3813),.cells b_3805 [I6 x_3806,v_3809,.map (some b_3812)] 102,mbo b_3814 (kvs (Value.int .i64) id (mbp E_3816)) 111 90 2 E_3816,.cells b_3365 [v_3800,I6 x_3803,I6 x_3804,.pointer (some ⟨b_3805,0,none⟩),.map (some b_3814)] 70,.row 33 4 v_3505 y_3498.2.2.L.length cs_3506,.cells b_73 [v_3502,I6 y_3498.2.2.Room,v_3505] 60,.row 65 2 v_3821 x_3820.length cs_3822,.row 31 1 v_3826 x_3825.length cs_3827,.cells b_3818 [v_3821,v_3826] 41]) ?_ ?_
 refine treeT_region (C:=fun w=>St [] w0 w R_3500 [.row 33 4 v_3505 y_3498.2.2.L.length cs_3506,.cells b_73 [v_3502,I6 y_3498.2.2.Room,v_3505] 60,.row 58 11 v_3523 x_3522.length cs_3524,.row 58 11 v_3567 x_3566.length cs_3568,.cells b_3262 [.string y_3249.Schema,v_3523,I6 y_3249.Time,v_3567] 33]) 18 (.br [(0,true),(1,true),(2,true),(3,true),(4,true),(5,true),(6,true),(7,true),(8,true),(9,true),(10,true),(11,true)] 12 (.list [(13,true),(14,true),(15,true),(16,false),(17,false)]) 16 (.list [(12,false),(13,true),(14,true),(15,true),(17,false)])) mixed (by kernel_rfl) s (fun w s=>(s.pk9.pk9.pk9.pk9.pk9.trunc 5)) fun w s=>?_
 refine tree_fork ?_
 refine zp rfl q (fun w s=>r_move q rfl) fun a q=>zp rfl q (fun w s=>r_move q rfl) fun a q=>zp rfl q (fun w s=>r_move q rfl) fun a q=>?_
 obtain ⟨y_3909,h_3910,H⟩:=bs H
 obtain ⟨b_3911,o_3912,c_3913,cs_3914,hv_3915,hr_3916,hc_3917,h_39100,h_39101⟩:=h2_0.ix h_3910
 obtain ⟨v_3918,v_3920,rfl,hs_3919,hs_3921⟩:=hr_3916
 refine zp rfl q (fun w s=>r_indexAddr_R underlying30 sizeOf33 hv_3915 h_39100 h_39101 q rfl rfl) fun a q=>zp rfl q (fun w s=>r_fieldAddr underlying33 rfl sizeOf9 q rfl) fun a q=>zp rfl q (fun w s=>r_load isAgg9 q rfl ((s.ra hRA nil_not).cell (hc_3917 0 _ rfl))) fun a q=>zp rfl q (fun w s=>r_move q rfl) fun a q=>zp rfl q (fun w s=>r_move q rfl) fun a q=>zp rfl q (fun w s=>r_move q rfl) fun a q=>?_
 obtain ⟨y_3922,h_3923,H⟩:=bs H
 obtain ⟨b_3924,o_3925,c_3926,cs_3927,hv_3928,hr_3929,hc_3930,h_39230,h_39231⟩:=h2_0.ix h_3923
 obtain ⟨v_3931,v_3933,rfl,hs_3932,hs_3934⟩:=hr_3929
 refine zp rfl q (fun w s=>r_indexAddr_R underlying30 sizeOf33 hv_3928 h_39230 h_39231 q rfl rfl) fun a q=>zp rfl q (fun w s=>r_fieldAddr underlying33 rfl sizeOf3 q rfl) fun a q=>zp rfl q (fun w s=>r_load isAgg3 q rfl ((s.ra hRA nil_not).cell (hc_3930 2 _ rfl))) fun a q=>?_
 refine wpPar_nil (tree_br ?_ ?_)
 refine spwB (k:=12) rfl rfl (s.pk9.pk9.pk9.pk9.pk9.trunc 5) ?_
 obtain ⟨y_3935,h_3936,H⟩:=bs H
 have s:=s.pk3
 have s:=s.pk2
 have s:=s.pk2
 have s:=s.pk3
 have s:=s.pk4
 have hS1:=s.sp5
 refine sl_call call12 q (by decide) rfl rfl rfl (leaf_Leaf_Scan.calls y_3470.2.2 y_3909.Schema (IntKind.i64.wrap (y_3622.Time - (y_3635.Time.tmod 8))) y_3922.Time hS1.lend (hs_3475.mono hl_3501.le) (hq_3480.mono hl_3501.le) (hm_3484.mono hl_3501.le) h_3936) fun a v_ w hv_ q=>?_
 obtain ⟨R_3937,v_3940,cs_3941,v_3944,cs_3945,v_3948,b_3950,v_3952,cs_3953,mb_3955,mb_3956,E_3957,hv_,hr_,hl_3938,hq_3942,hq_3946,hap_3947,hs_3949,hq_3954,hm_3958⟩:=hv_
 have hv_:=hv_.symm
 subst hv_
 obtain ⟨s,hl_3938⟩:=hS1.back hr_ hl_3938
 have s:=s.un7
 have hRL:=hRL.trans hl_3938
 refine parKK_nil ((s.pk11.pk11.pk11.pk11.pk11.trunc 5).lower hl_3938.le) ?_
 refine tree_list ?_
 refine zp rfl q (fun w s=>r_move q rfl) fun a q=>zp rfl q (fun w s=>r_extract q rfl rfl) fun a q=>zp rfl q (fun w s=>r_extract q rfl rfl) fun a q=>?_
 refine spw (k:=16) rfl rfl ((s.pk11.pk11.pk11.pk11.pk11.trunc 5).lower hl_3938.le) ?_
 refine sl_alloc zeroValue41 s q (by decide) rfl rfl fun a w b_3959 s q=>?_
 refine parK_nil ((s.pk12.pk12.pk12.pk12.pk12.trunc 5).lower hl_3938.le) ?_
 refine spw (k:=17) rfl rfl ((s.pk12.pk12.pk12.pk12.pk12.trunc 5).lower hl_3938.le) ?_
 refine sl_storeA (vs:=[v_3940,v_3944]) (c':=[v_3940,v_3944]) sizeOf41 s q rfl rfl rfl rfl (all_cons (s.row_one z1) (all_cons (s.row_one z2) zz)) (Nat.le_of_ble_eq_true rfl) rfl fun a w s q=>?_
 refine parK_nil ((s.pk12.pk12.pk12.pk12.pk12.trunc 5).lower hl_3938.le) ?_
 refine thenL_nil ?_
 refine za q rfl fun a q=>?_
 refine wpList_nil (NoP_nil ?_)
 have s:=s.pk2
 have s:=s.pk2
 have s:=s.pk9
 have s:=s.pk9
 have s:=s.pk5
 have s:=s.pk9
 have s:=s.pk7
 have s:=s.pk9
 have s:=s.pk9
 exact ⟨y_3935.2.2.schemas,y_3935.2.2.room,y_3935.2.2.points,y_3935.2.2.dict.most,y_3935.2.2.dict.l,y_3935.2.2.dict.ids,y_3935.2.2.runs,y_3935.1.Cols,y_3935.1.Rows,y_3935.2.1,_,v_3948,_,_,_,_,_,_,_,_,_,_,_,H,hl_3938,hs_3949,hq_3954,hq_3942,hq_3946,hap_3947,hm_3958,q.sub (zc (zc (zc (zc (zc (zc (zc (zc (zc (zc (zc (zc zz)))))))))))),s.trunc 10⟩
 refine spwB (k:=16) rfl rfl (s.pk9.pk9.pk9.pk9.pk9.trunc 5) ?_
 refine sl_alloc zeroValue41 s q (by decide) rfl rfl fun a w b_3960 s q=>?_
 refine parKK_nil (s.pk10.pk10.pk10.pk10.pk10.trunc 5) ?_
 refine tree_list ?_
 refine spw (k:=12) rfl rfl (s.pk10.pk10.pk10.pk10.pk10.trunc 5) ?_
 obtain ⟨y_3961,h_3962,H⟩:=bs H
 have s:=s.pk4
 have s:=s.pk3
 have s:=s.pk3
 have s:=s.pk4
 have s:=s.pk5
 have hS1:=s.sp5
 refine sl_call call12 q (by decide) rfl rfl rfl (leaf_Leaf_Scan.calls y_3470.2.2 y_3909.Schema (IntKind.i64.wrap (y_3622.Time - (y_3635.Time.tmod 8))) y_3922.Time hS1.lend (hs_3475.mono hl_3501.le) (hq_3480.mono hl_3501.le) (hm_3484.mono hl_3501.le) h_3962) fun a v_ w hv_ q=>?_
 obtain ⟨R_3963,v_3966,cs_3967,v_3970,cs_3971,v_3974,b_3976,v_3978,cs_3979,mb_3981,mb_3982,E_3983,hv_,hr_,hl_3964,hq_3968,hq_3972,hap_3973,hs_3975,hq_3980,hm_3984⟩:=hv_
 have hv_:=hv_.symm
 subst hv_
 obtain ⟨s,hl_3964⟩:=hS1.back hr_ hl_3964
 have s:=s.un7
 have hRL:=hRL.trans hl_3964
 refine parK_nil ((s.pk12.pk12.pk12.pk12.pk12.trunc 5).lower hl_3964.le) ?_
 refine zp rfl q (fun w s=>r_move q rfl) fun a q=>zp rfl q (fun w s=>r_extract q rfl rfl) fun a q=>zp rfl q (fun w s=>r_extract q rfl rfl) fun a q=>?_
 refine spw (k:=17) rfl rfl ((s.pk12.pk12.pk12.pk12.pk12.trunc 5).lower hl_3964.le) ?_
 have s:=s.pk7
 refine sl_storeA (vs:=[v_3966,v_3970]) (c':=[v_3966,v_3970]) sizeOf41 s q rfl rfl rfl rfl (all_cons (s.row_one z1) (all_cons (s.row_one z2) zz)) (Nat.le_of_ble_eq_true rfl) rfl fun a w s q=>?_
 refine parK_nil ((s.pk12.pk12.pk12.pk12.pk12.trunc 5).lower hl_3964.le) ?_
 refine thenL_nil ?_
 refine za q rfl fun a q=>?_
 refine wpList_nil (NoP_nil ?_)
 have s:=s.pk2
 have s:=s.pk2
 have s:=s.pk9
 have s:=s.pk9
 have s:=s.pk5
 have s:=s.pk9
 have s:=s.pk7
 have s:=s.pk9
 have s:=s.pk9
 exact ⟨y_3961.2.2.schemas,y_3961.2.2.room,y_3961.2.2.points,y_3961.2.2.dict.most,y_3961.2.2.dict.l,y_3961.2.2.dict.ids,y_3961.2.2.runs,y_3961.1.Cols,y_3961.1.Rows,y_3961.2.1,_,v_3974,_,_,_,_,_,_,_,_,_,_,_,H,hl_3964,hs_3975,hq_3980,hq_3968,hq_3972,hap_3973,hm_3984,q.sub (zc (zc (zc (zc (zc (zc (zc (zc (zc (zc (zc (zc zz)))))))))))),s.trunc 10⟩
 rintro a w ⟨x_3802,x_3803,x_3804,x_3806,x_3808,x_3813,x_3815,x_3820,x_3825,x_3830,R_3831,v_3800,v_3809,cs_3810,v_3821,cs_3822,v_3826,cs_3827,E_3816,b_3812,b_3805,b_3814,b_3818,H,hl_3832,hs_3801,hq_3811,hq_3823,hq_3828,hap_3829,hm_3817,q,s⟩
 unfold law08_LeafPlays.j14 at H
 have hRL:=hRL.trans hl_3832
 refine zq ?_
 refine wp_mid (fun a w=>∃ (x_4135 : List api_Schema) (x_4136 : Int) (x_4138 : List api_Point) (x_4143 : List (List api_Value)) (x_4150 : List api_Col) (x_4155 : List (List api_Value)) (x_4159 : Int) (R_4160 : Hp) (v_4133 : Value) (v_4139 : Value) (cs_4140 : List Value) (v_4144 : Value) (cs_4145 : List Value) (v_4151 : Value) (cs_4152 : List Value) (v_4156 : Value) (cs_4157 : List Value) (b_4148 : Nat),law08_LeafPlays.j15 (law08_LeafPlays.l9 a2 x_11 k_l9) a2 x_1990 y_3470 y_3498 x_3802 x_3803 x_3804 x_3806 x_3808 x_3813 x_3815 x_3820 x_3830 x_4135 x_4136 x_4138 x_4143 x_4150 x_4155 x_4159 = some true ∧ RLe [] w0 R_3831 R_4160 ∧ SlR ty_api_Schema R_3500 v_4133 x_4135 ∧ Reps ty_api_Point R_3500 cs_4140 x_4138 ∧ Reps (tySl ty_api_Value) R_4160 cs_4145 x_4143 ∧ Apart R_3500 R_4160 cs_4145 ∧ Reps ty_api_Col R_4160 cs_4152 x_4150 ∧ Reps (tySl ty_api_Value) R_4160 cs_4157 x_4155 ∧ Kn 261 a [(0,v_9),(2,v2_0),(8,.pointer (some ⟨b_3365,0,none⟩)),(10,.pointer (some ⟨b_73,0,none⟩)),(12,I6 x_1990),(15,.bool y_3470.1),(16,I6 y_3470.2.1),(17,.bool y_3498.1),(18,I6 y_3498.2.1),(22,.pointer (some ⟨b_3818,0,none⟩)),(23,I6 x_3830),(24,.pointer (some ⟨b_4148,0,none⟩)),(25,I6 x_4159)] ∧ St [] w0 w R_4160 [.row 113 2 v_3809 x_3808.length cs_3810,.mp b_3812 (kvs Value.string (Value.int .i64) x_3813),.cells b_3805 [I6 x_3806,v_3809,.map (some b_3812)] 102,mbo b_3814 (kvs (Value.int .i64) id (mbp E_3816)) 111 90 2 E_3816,.cells b_3365 [v_3800,I6 x_3803,I6 x_3804,.pointer (some ⟨b_3805,0,none⟩),.map (some b_3814)] 70,.row 33 4 v_4139 x_4138.length cs_4140,.cells b_73 [v_4133,I6 x_4136,v_4139] 60,.row 65 2 v_3821 x_3820.length cs_3822,.row 31 1 v_4144 x_4143.length cs_4145,.cells b_3818 [v_3821,v_4144] 41,.row 65 2 v_4151 x_4150.length cs_4152,.row 31 1 v_4156 x_4155.length cs_4157,.cells b_4148 [v_4151,v_4156] 41]) ?_ ?_
 refine treeT_region (C:=fun w=>St [] w0 w R_3831 [.row 113 2 v_3809 x_3808.length cs_3810,.mp b_3812 (kvs Value.string (Value.int .i64) x_3813),.cells b_3805 [I6 x_3806,v_3809,.map (some b_3812)] 102,mbo b_3814 (kvs (Value.int .i64) id (mbp E_3816)) 111 90 2 E_3816,.cells b_3365 [v_3800,I6 x_3803,I6 x_3804,.pointer (some ⟨b_3805,0,none⟩),.map (some b_3814)] 70,.row 65 2 v_3821 x_3820.length cs_3822,.row 31 1 v_3826 x_3825.length cs_3827,.cells b_3818 [v_3821,v_3826] 41]) 18 (.br [(0,true),(1,true),(2,true),(3,true),(4,true),(5,true),(6,true),(7,true),(8,true),(9,true),(10,true),(11,true)] 12 (.list [(13,true),(14,true),(15,true),(16,false),(17,false)]) 16 (.list [(12,false),(13,true),(14,true),(15,true),(17,false)])) mixed (by kernel_rfl) s (fun w s=>(s.pk9.pk9.pk9.pk7.pk7.pk7.pk7.pk7.trunc 8)) fun w s=>?_
 refine tree_fork ?_
 refine zp rfl q (fun w s=>r_move q rfl) fun a q=>zp rfl q (fun w s=>r_move q rfl) fun a q=>zp rfl q (fun w s=>r_move q rfl) fun a q=>?_
 obtain ⟨y_4236,h_4237,H⟩:=bs H
 obtain ⟨b_4238,o_4239,c_4240,cs_4241,hv_4242,hr_4243,hc_4244,h_42370,h_42371⟩:=h2_0.ix h_4237
 obtain ⟨v_4245,v_4247,rfl,hs_4246,hs_4248⟩:=hr_4243
 refine zp rfl q (fun w s=>r_indexAddr_R underlying30 sizeOf33 hv_4242 h_42370 h_42371 q rfl rfl) fun a q=>zp rfl q (fun w s=>r_fieldAddr underlying33 rfl sizeOf9 q rfl) fun a q=>zp rfl q (fun w s=>r_load isAgg9 q rfl ((s.ra hRA nil_not).cell (hc_4244 0 _ rfl))) fun a q=>zp rfl q (fun w s=>r_move q rfl) fun a q=>zp rfl q (fun w s=>r_move q rfl) fun a q=>zp rfl q (fun w s=>r_move q rfl) fun a q=>?_
 obtain ⟨y_4249,h_4250,H⟩:=bs H
 obtain ⟨b_4251,o_4252,c_4253,cs_4254,hv_4255,hr_4256,hc_4257,h_42500,h_42501⟩:=h2_0.ix h_4250
 obtain ⟨v_4258,v_4260,rfl,hs_4259,hs_4261⟩:=hr_4256
 refine zp rfl q (fun w s=>r_indexAddr_R underlying30 sizeOf33 hv_4255 h_42500 h_42501 q rfl rfl) fun a q=>zp rfl q (fun w s=>r_fieldAddr underlying33 rfl sizeOf3 q rfl) fun a q=>zp rfl q (fun w s=>r_load isAgg3 q rfl ((s.ra hRA nil_not).cell (hc_4257 2 _ rfl))) fun a q=>?_
 refine wpPar_nil (tree_br ?_ ?_)
 refine spwB (k:=12) rfl rfl (s.pk9.pk9.pk9.pk7.pk7.pk7.pk7.pk7.trunc 8) ?_
 obtain ⟨y_4262,h_4263,H⟩:=bs H
 have s:=s.pk5
 have s:=s.pk6
 have hS1:=s.sp2
 refine sl_call call19 q (by decide) rfl rfl rfl (ref08_Leaf_Scan.calls y_3498.2.2 y_4236.Schema (IntKind.i64.wrap (y_3622.Time - (y_3635.Time.tmod 8))) y_4249.Time (hS1.lend.lower hl_3832.le) hs_3503 hq_3507 h_4263) fun a v_ w hv_ q=>?_
 obtain ⟨R_4264,v_4267,cs_4268,v_4271,cs_4272,v_4274,v_4277,cs_4278,hv_,hr_,hl_4265,hq_4269,hq_4273,hs_4275,hq_4279⟩:=hv_
 have hv_:=hv_.symm
 subst hv_
 obtain ⟨R_4280,s,hl_4281,hl_4282,hl_4283,hd_4284⟩:=hS1.backF hl_3832 hr_ hl_4265
 have s:=s.un4
 have hRL:=hRL.trans hl_4281
 refine parKK_nil ((s.pk11.pk11.pk11.pk11.pk11.pk11.pk11.pk11.trunc 8).lower hl_4281.le) ?_
 refine tree_list ?_
 refine zp rfl q (fun w s=>r_move q rfl) fun a q=>zp rfl q (fun w s=>r_extract q rfl rfl) fun a q=>zp rfl q (fun w s=>r_extract q rfl rfl) fun a q=>?_
 refine spw (k:=16) rfl rfl ((s.pk11.pk11.pk11.pk11.pk11.pk11.pk11.pk11.trunc 8).lower hl_4281.le) ?_
 refine sl_alloc zeroValue41 s q (by decide) rfl rfl fun a w b_4285 s q=>?_
 refine parK_nil ((s.pk12.pk12.pk12.pk12.pk12.pk12.pk12.pk12.trunc 8).lower hl_4281.le) ?_
 refine spw (k:=17) rfl rfl ((s.pk12.pk12.pk12.pk12.pk12.pk12.pk12.pk12.trunc 8).lower hl_4281.le) ?_
 refine sl_storeA (vs:=[v_4267,v_4271]) (c':=[v_4267,v_4271]) sizeOf41 s q rfl rfl rfl rfl (all_cons (s.row_one z1) (all_cons (s.row_one z2) zz)) (Nat.le_of_ble_eq_true rfl) rfl fun a w s q=>?_
 refine parK_nil ((s.pk12.pk12.pk12.pk12.pk12.pk12.pk12.pk12.trunc 8).lower hl_4281.le) ?_
 refine thenL_nil ?_
 refine za q rfl fun a q=>?_
 refine wpList_nil (NoP_nil ?_)
 have s:=s.pk2
 have s:=s.pk2
 have s:=s.pk12
 have s:=s.pk12
 have s:=s.pk12
 have s:=s.pk6
 have s:=s.pk7
 have s:=s.pk12
 have s:=s.pk12
 have s:=s.pk12
 have s:=s.pk12
 have s:=s.pk12
 exact ⟨y_4262.2.2.S,y_4262.2.2.Room,y_4262.2.2.L,x_3825,y_4262.1.Cols,y_4262.1.Rows,y_4262.2.1,_,v_4274,_,_,_,_,_,_,_,_,_,H,hl_4281,hs_4275,hq_4279,(hq_3828.mono hl_4281.le),(Apart.base (Apart.frame hap_3829 hl_4281.le hd_4284) hl_4282.le),(hq_4269.mono hl_4283.le),(hq_4273.mono hl_4283.le),q.sub (zc (zc (zc (zc (zc (zc (zc (zc (zc (zc (zc (zc (zc zz))))))))))))),s⟩
 refine spwB (k:=16) rfl rfl (s.pk9.pk9.pk9.pk7.pk7.pk7.pk7.pk7.trunc 8) ?_
 refine sl_alloc zeroValue41 s q (by decide) rfl rfl fun a w b_4286 s q=>?_
 refine parKK_nil (s.pk10.pk10.pk10.pk8.pk8.pk8.pk8.pk8.trunc 8) ?_
 refine tree_list ?_
 refine spw (k:=12) rfl rfl (s.pk10.pk10.pk10.pk8.pk8.pk8.pk8.pk8.trunc 8) ?_
 obtain ⟨y_4287,h_4288,H⟩:=bs H
 have s:=s.pk6
 have s:=s.pk7
 have hS1:=s.sp2
 refine sl_call call19 q (by decide) rfl rfl rfl (ref08_Leaf_Scan.calls y_3498.2.2 y_4236.Schema (IntKind.i64.wrap (y_3622.Time - (y_3635.Time.tmod 8))) y_4249.Time (hS1.lend.lower hl_3832.le) hs_3503 hq_3507 h_4288) fun a v_ w hv_ q=>?_
 obtain ⟨R_4289,v_4292,cs_4293,v_4296,cs_4297,v_4299,v_4302,cs_4303,hv_,hr_,hl_4290,hq_4294,hq_4298,hs_4300,hq_4304⟩:=hv_
 have hv_:=hv_.symm
 subst hv_
 obtain ⟨R_4305,s,hl_4306,hl_4307,hl_4308,hd_4309⟩:=hS1.backF hl_3832 hr_ hl_4290
 have s:=s.un4
 have hRL:=hRL.trans hl_4306
 refine parK_nil ((s.pk12.pk12.pk12.pk12.pk12.pk12.pk12.pk12.trunc 8).lower hl_4306.le) ?_
 refine zp rfl q (fun w s=>r_move q rfl) fun a q=>zp rfl q (fun w s=>r_extract q rfl rfl) fun a q=>zp rfl q (fun w s=>r_extract q rfl rfl) fun a q=>?_
 refine spw (k:=17) rfl rfl ((s.pk12.pk12.pk12.pk12.pk12.pk12.pk12.pk12.trunc 8).lower hl_4306.le) ?_
 have s:=s.pk4
 refine sl_storeA (vs:=[v_4292,v_4296]) (c':=[v_4292,v_4296]) sizeOf41 s q rfl rfl rfl rfl (all_cons (s.row_one z1) (all_cons (s.row_one z2) zz)) (Nat.le_of_ble_eq_true rfl) rfl fun a w s q=>?_
 refine parK_nil ((s.pk12.pk12.pk12.pk12.pk12.pk12.pk12.pk12.trunc 8).lower hl_4306.le) ?_
 refine thenL_nil ?_
 refine za q rfl fun a q=>?_
 refine wpList_nil (NoP_nil ?_)
 have s:=s.pk2
 have s:=s.pk2
 have s:=s.pk12
 have s:=s.pk12
 have s:=s.pk12
 have s:=s.pk6
 have s:=s.pk7
 have s:=s.pk12
 have s:=s.pk12
 have s:=s.pk12
 have s:=s.pk12
 have s:=s.pk12
 exact ⟨y_4287.2.2.S,y_4287.2.2.Room,y_4287.2.2.L,x_3825,y_4287.1.Cols,y_4287.1.Rows,y_4287.2.1,_,v_4299,_,_,_,_,_,_,_,_,_,H,hl_4306,hs_4300,hq_4304,(hq_3828.mono hl_4306.le),(Apart.base (Apart.frame hap_3829 hl_4306.le hd_4309) hl_4307.le),(hq_4294.mono hl_4308.le),(hq_4298.mono hl_4308.le),q.sub (zc (zc (zc (zc (zc (zc (zc (zc (zc (zc (zc (zc (zc zz))))))))))))),s⟩
 rintro a w ⟨x_4135,x_4136,x_4138,x_4143,x_4150,x_4155,x_4159,R_4160,v_4133,v_4139,cs_4140,v_4144,cs_4145,v_4151,cs_4152,v_4156,cs_4157,b_4148,H,hl_4161,hs_4134,hq_4141,hq_4146,hap_4147,hq_4153,hq_4158,q,s⟩
 unfold law08_LeafPlays.j15 at H
 have hRL:=hRL.trans hl_4161
 refine zq<|zr<|zl q (r_loadA (cs:=[v_3821,v_4144]) isAgg41 sizeOf41 rfl q rfl (s.cells_of (m:=2) (.tail _ z8) rfl)) fun a q=>zl q (r_loadA (cs:=[v_4151,v_4156]) isAgg41 sizeOf41 rfl q rfl (s.cells_of (m:=2) (.tail _ (.tail _ (.tail _ (.tail _ z8)))) rfl)) fun a q=>?_
 obtain ⟨y_4310,h_4311,H⟩:=bs H
 refine sl_callV call13 s q (by decide) rfl rfl rfl (ref02_Same.calls (⟨x_3820,x_4143⟩ : api_Table) (⟨x_4150,x_4155⟩ : api_Table) (lentOf_sub [] _) (s.lend_row0 z7 (hq_3823.mono hl_4161.le) rfl rfl) (s.lend_row0 z8 hq_4146 rfl rfl) (s.lend_row0 (.tail _ (.tail _ z8)) hq_4153 rfl rfl) (s.lend_row0 (.tail _ (.tail _ (.tail _ z8))) hq_4158 rfl rfl) h_4311) fun a w s q=>?_
 refine za q rfl fun a q=>zn<|zq<|zq ?_
 refine wp_mid (fun a w=>∃ (x_4362 : List api_Schema) (x_4363 : Int) (x_4364 : Int) (x_4366 : Int) (x_4368 : List streams_stream) (x_4373 : List (ByteArray × Int)) (x_4375 : List (Int × runs_Run)) (x_4379 : List (List api_Value)) (x_4384 : Bool) (R_4385 : Hp) (v_4360 : Value) (v_4369 : Value) (cs_4370 : List Value) (v_4380 : Value) (cs_4381 : List Value) (E_4376 : List (MB Int)) (b_4372 : Nat) (b_4365 : Nat) (b_4374 : Nat),law08_LeafPlays.j16 (law08_LeafPlays.l9 a2 x_11 k_l9) a2 x_1990 x_4135 x_4136 x_4138 x_4362 x_4363 x_4364 x_4366 x_4368 x_4373 x_4375 x_4379 x_4384 = some true ∧ RLe [] w0 R_4160 R_4385 ∧ SlR ty_api_Schema R_3500 v_4360 x_4362 ∧ Reps ty_streams_stream R_3500 cs_4370 x_4368 ∧ Reps (tySl ty_api_Value) R_4385 cs_4381 x_4379 ∧ Apart R_3500 R_4385 cs_4381 ∧ MBel ty_api_Sample runs_Run.l R_3500 E_4376 x_4375 ∧ Kn 261 a [(0,v_9),(2,v2_0),(8,.pointer (some ⟨b_3365,0,none⟩)),(10,.pointer (some ⟨b_73,0,none⟩)),(12,I6 x_1990),(22,.pointer (some ⟨b_3818,0,none⟩)),(219,.bool x_4384)] ∧ St [] w0 w R_4385 [.row 113 2 v_4369 x_4368.length cs_4370,.mp b_4372 (kvs Value.string (Value.int .i64) x_4373),.cells b_4365 [I6 x_4366,v_4369,.map (some b_4372)] 102,mbo b_4374 (kvs (Value.int .i64) id (mbp E_4376)) 111 90 2 E_4376,.cells b_3365 [v_4360,I6 x_4363,I6 x_4364,.pointer (some ⟨b_4365,0,none⟩),.map (some b_4374)] 70,.row 33 4 v_4139 x_4138.length cs_4140,.cells b_73 [v_4133,I6 x_4136,v_4139] 60,.row 65 2 v_3821 x_3820.length cs_3822,.row 31 1 v_4380 x_4379.length cs_4381,.cells b_3818 [v_3821,v_4380] 41]) ?_ ?_
 refine parT_region (C:=fun w=>St [] w0 w R_4160 [.row 33 4 v_4139 x_4138.length cs_4140,.cells b_73 [v_4133,I6 x_4136,v_4139] 60,.row 65 2 v_3821 x_3820.length cs_3822,.row 31 1 v_4144 x_4143.length cs_4145,.cells b_3818 [v_3821,v_4144] 41,.row 65 2 v_4151 x_4150.length cs_4152,.row 31 1 v_4156 x_4155.length cs_4157,.cells b_4148 [v_4151,v_4156] 41]) 25 [(0,true),(1,true),(2,true),(3,true),(4,true),(5,true),(6,true),(7,true),(8,true),(9,true),(10,true),(11,true),(12,true),(13,true),(14,true),(15,true),(16,true),(17,true),(18,true),(20,true),(21,true),(22,true),(23,true),(24,true),(19,false)] mixed (by kernel_rfl) s (fun w s=>(s.pk12.pk12.pk12.pk12.pk12.pk12.pk12.pk12.trunc 8)) fun w s=>?_
 refine zp rfl q (fun w s=>r_move q rfl) fun a q=>zp rfl q (fun w s=>r_move q rfl) fun a q=>zp rfl q (fun w s=>r_bne underlying4 q rfl rfl) fun a q=>zp rfl q (fun w s=>r_move q rfl) fun a q=>?_
 rcases or_b (!(y_3470.1 == y_3498.1)) with hb_4411 | hb_4411
 rw [ifb_t hb_4411] at H
 refine zps rfl q (wft hb_4411) fun a q=>zps rfl q (wft hb_4411) fun a q=>zps rfl q (wft hb_4411) fun a q=>zp rfl q (fun w s=>r_pick_t hb_4411 q rfl rfl) fun a q=>zp rfl q (fun w s=>r_move q rfl) fun a q=>zps rfl q rfl fun a q=>zps rfl q rfl fun a q=>zp rfl q (fun w s=>r_pick q rfl rfl rfl) fun a q=>zp rfl q (fun w s=>r_move q rfl) fun a q=>zps rfl q rfl fun a q=>zps rfl q rfl fun a q=>zps rfl q rfl fun a q=>zp rfl q (fun w s=>r_pick q rfl rfl rfl) fun a q=>zp rfl q (fun w s=>r_move q rfl) fun a q=>zps rfl q rfl fun a q=>zps rfl q rfl fun a q=>zps rfl q rfl fun a q=>zps rfl q rfl fun a q=>zps rfl q rfl fun a q=>zps rfl q rfl fun a q=>?_
 refine spw (k:=19) rfl rfl (s.pk12.pk12.pk12.pk12.pk12.pk12.pk12.pk12.trunc 8) ?_
 refine zs q fun a q=>?_
 refine parK_nil (s.pk12.pk12.pk12.pk12.pk12.pk12.pk12.pk12.trunc 8) ?_
 refine thenL_nil ?_
 refine zs q fun a q=>zl q (r_pick q rfl rfl rfl) fun a q=>?_
 refine wpList_nil (NoP_nil ?_)
 have s:=s.pk9
 have s:=s.pk9
 have s:=s.pk9
 have s:=s.pk9
 have s:=s.pk9
 have s:=s.pk9
 have s:=s.pk9
 have s:=s.pk9
 have s:=s.pk9
 have s:=s.pk9
 exact ⟨x_3802,x_3803,x_3804,x_3806,x_3808,x_3813,x_3815,x_4143,true,_,v_3800,_,_,_,_,_,_,_,_,H,(RLe.refl _ _),hs_3801,hq_3811,hq_4146,hap_4147,hm_3817,q.sub (zc (zc (zc (zc (zc (zc (zc zz))))))),s.trunc 10⟩
 rw [ifb_f hb_4411] at H
 refine zpw rfl q (wff hb_4411) (fun w s=>r_move q rfl) fun a q=>zpw rfl q (wff hb_4411) (fun w s=>r_move q rfl) fun a q=>zpw rfl q (wff hb_4411) (fun w s=>r_ibin q rfl rfl rfl) fun a q=>zp rfl q (fun w s=>r_pick_f hb_4411 q rfl rfl) fun a q=>zp rfl q (fun w s=>r_move q rfl) fun a q=>?_
 rcases or_b (y_3470.2.1 != y_3498.2.1) with hb_4412 | hb_4412
 rw [ifb_t hb_4412] at H
 refine zps rfl q (wft hb_4412) fun a q=>zps rfl q (wft hb_4412) fun a q=>zp rfl q (fun w s=>r_pick_t hb_4412 q rfl rfl) fun a q=>zp rfl q (fun w s=>r_move q rfl) fun a q=>zps rfl q rfl fun a q=>zps rfl q rfl fun a q=>zps rfl q rfl fun a q=>zp rfl q (fun w s=>r_pick q rfl rfl rfl) fun a q=>zp rfl q (fun w s=>r_move q rfl) fun a q=>zps rfl q rfl fun a q=>zps rfl q rfl fun a q=>zps rfl q rfl fun a q=>zps rfl q rfl fun a q=>zps rfl q rfl fun a q=>zps rfl q rfl fun a q=>?_
 refine spw (k:=19) rfl rfl (s.pk12.pk12.pk12.pk12.pk12.pk12.pk12.pk12.trunc 8) ?_
 refine zs q fun a q=>?_
 refine parK_nil (s.pk12.pk12.pk12.pk12.pk12.pk12.pk12.pk12.trunc 8) ?_
 refine thenL_nil ?_
 refine zs q fun a q=>zl q (r_pick q rfl rfl rfl) fun a q=>?_
 refine wpList_nil (NoP_nil ?_)
 have s:=s.pk9
 have s:=s.pk9
 have s:=s.pk9
 have s:=s.pk9
 have s:=s.pk9
 have s:=s.pk9
 have s:=s.pk9
 have s:=s.pk9
 have s:=s.pk9
 have s:=s.pk9
 exact ⟨x_3802,x_3803,x_3804,x_3806,x_3808,x_3813,x_3815,x_4143,true,_,v_3800,_,_,_,_,_,_,_,_,H,(RLe.refl _ _),hs_3801,hq_3811,hq_4146,hap_4147,hm_3817,q.sub (zc (zc (zc (zc (zc (zc (zc zz))))))),s.trunc 10⟩
 rw [ifb_f hb_4412] at H
 refine zpw rfl q (wff hb_4412) (fun w s=>r_move q rfl) fun a q=>zpw rfl q (wff hb_4412) (fun w s=>r_un q rfl (u_not _)) fun a q=>zp rfl q (fun w s=>r_pick_f hb_4412 q rfl rfl) fun a q=>zp rfl q (fun w s=>r_move q rfl) fun a q=>?_
 rcases or_b (!y_4310) with hb_4413 | hb_4413
 rw [ifb_t hb_4413] at H
 refine zps rfl q (wft hb_4413) fun a q=>zps rfl q (wft hb_4413) fun a q=>zps rfl q (wft hb_4413) fun a q=>zp rfl q (fun w s=>r_pick_t hb_4413 q rfl rfl) fun a q=>zp rfl q (fun w s=>r_move q rfl) fun a q=>zps rfl q rfl fun a q=>zps rfl q rfl fun a q=>zps rfl q rfl fun a q=>zps rfl q rfl fun a q=>zps rfl q rfl fun a q=>zps rfl q rfl fun a q=>?_
 refine spw (k:=19) rfl rfl (s.pk12.pk12.pk12.pk12.pk12.pk12.pk12.pk12.trunc 8) ?_
 refine zs q fun a q=>?_
 refine parK_nil (s.pk12.pk12.pk12.pk12.pk12.pk12.pk12.pk12.trunc 8) ?_
 refine thenL_nil ?_
 refine zs q fun a q=>zl q (r_pick q rfl rfl rfl) fun a q=>?_
 refine wpList_nil (NoP_nil ?_)
 have s:=s.pk9
 have s:=s.pk9
 have s:=s.pk9
 have s:=s.pk9
 have s:=s.pk9
 have s:=s.pk9
 have s:=s.pk9
 have s:=s.pk9
 have s:=s.pk9
 have s:=s.pk9
 exact ⟨x_3802,x_3803,x_3804,x_3806,x_3808,x_3813,x_3815,x_4143,true,_,v_3800,_,_,_,_,_,_,_,_,H,(RLe.refl _ _),hs_3801,hq_3811,hq_4146,hap_4147,hm_3817,q.sub (zc (zc (zc (zc (zc (zc (zc zz))))))),s.trunc 10⟩
 rw [ifb_f hb_4413] at H
 refine zpw rfl q (wff hb_4413) (fun w s=>r_move q rfl) fun a q=>zpw rfl q (wff hb_4413) (fun w s=>r_move q rfl) fun a q=>zpw rfl q (wff hb_4413) (fun w s=>r_ibin q rfl rfl rfl) fun a q=>zp rfl q (fun w s=>r_pick_f hb_4413 q rfl rfl) fun a q=>zp rfl q (fun w s=>r_move q rfl) fun a q=>?_
 rcases or_b (x_3830 != x_4159) with hb_4414 | hb_4414
 rw [ifb_t hb_4414] at H
 refine zps rfl q (wft hb_4414) fun a q=>zps rfl q (wft hb_4414) fun a q=>zps rfl q (wft hb_4414) fun a q=>zps rfl q (wft hb_4414) fun a q=>zps rfl q (wft hb_4414) fun a q=>zps rfl q (wft hb_4414) fun a q=>?_
 refine spw (k:=19) rfl rfl (s.pk12.pk12.pk12.pk12.pk12.pk12.pk12.pk12.trunc 8) ?_
 refine zsw q (wft hb_4414) fun a q=>?_
 refine parK_nil (s.pk12.pk12.pk12.pk12.pk12.pk12.pk12.pk12.trunc 8) ?_
 refine thenL_nil ?_
 refine zsw q (wft hb_4414) fun a q=>zl q (r_pick_t hb_4414 q rfl rfl) fun a q=>?_
 refine wpList_nil (NoP_nil ?_)
 have s:=s.pk9
 have s:=s.pk9
 have s:=s.pk9
 have s:=s.pk9
 have s:=s.pk9
 have s:=s.pk9
 have s:=s.pk9
 have s:=s.pk9
 have s:=s.pk9
 have s:=s.pk9
 exact ⟨x_3802,x_3803,x_3804,x_3806,x_3808,x_3813,x_3815,x_4143,true,_,v_3800,_,_,_,_,_,_,_,_,H,(RLe.refl _ _),hs_3801,hq_3811,hq_4146,hap_4147,hm_3817,q.sub (zc (zc (zc (zc (zc (zc (zc zz))))))),s.trunc 10⟩
 rw [ifb_f hb_4414] at H
 refine zpw rfl q (wff hb_4414) (fun w s=>r_move q rfl) fun a q=>zpw rfl q (wff hb_4414) (fun w s=>r_move q rfl) fun a q=>zpw rfl q (wff hb_4414) (fun w s=>r_nilCheck q rfl) fun a q=>zpw rfl q (wff hb_4414) (fun w s=>r_fieldAddr underlying60 rfl sizeOf30 q rfl) fun a q=>zpw rfl q (wff hb_4414) (fun w s=>r_load isAgg30 q rfl (s.cell z1 rfl)) fun a q=>zpw rfl q (wff hb_4414) (fun w s=>r_len_O underlying30 s z0 q rfl) fun a q=>?_
 refine spw (k:=19) rfl rfl (s.pk12.pk12.pk12.pk12.pk12.pk12.pk12.pk12.trunc 8) ?_
 obtain ⟨y_4415,h_4416,H⟩:=bs H
 have s:=s.pk3
 have s:=s.pk2
 have s:=s.pk2
 have s:=s.pk3
 have s:=s.pk4
 have hS1:=s.sp5
 refine sl_call call14 q (by decide) (wff hb_4414) rfl rfl (leaf_Leaf_Points.calls (⟨x_3802,x_3803,x_3804,(⟨x_3806,x_3808,x_3813⟩ : streams_Dict),x_3815⟩ : leaf_Leaf) (hS1.lend.lower (hl_3832.le.trans hl_4161.le)) hs_3801 hq_3811 hm_3817 h_4416) fun a v_ w hv_ q=>?_
 obtain ⟨R_4417,v_4419,b_4421,v_4423,cs_4424,mb_4426,mb_4427,E_4428,hv_,hr_,hl_4418,hs_4420,hq_4425,hm_4429⟩:=hv_
 have hv_:=hv_.symm
 subst hv_
 obtain ⟨R_4430,s,hl_4431,hl_4432,hl_4433,hd_4434⟩:=hS1.backF (hl_3832.trans hl_4161) hr_ hl_4418
 have s:=s.un5
 have hRL:=hRL.trans hl_4431
 refine parK_nil ((s.pk12.pk12.pk12.pk12.pk12.pk12.pk12.pk12.trunc 8).lower hl_4431.le) ?_
 refine thenL_nil ?_
 refine zw q (wff hb_4414) (r_ibin q rfl rfl rfl) fun a q=>zl q (r_pick_f hb_4414 q rfl rfl) fun a q=>?_
 refine wpList_nil (NoP_nil ?_)
 have s:=s.pk9
 have s:=s.pk9
 have s:=s.pk9
 have s:=s.pk9
 have s:=s.pk9
 have s:=s.pk5
 have s:=s.pk9
 have s:=s.pk7
 have s:=s.pk9
 have s:=s.pk9
 exact ⟨y_4415.2.schemas,y_4415.2.room,y_4415.2.points,y_4415.2.dict.most,y_4415.2.dict.l,y_4415.2.dict.ids,y_4415.2.runs,x_4143,(y_4415.1 != (x_4138.length : Int)),_,v_4419,_,_,_,_,_,_,_,_,H,hl_4431,hs_4420,hq_4425,(hq_4146.mono hl_4431.le),(Apart.base (Apart.frame hap_4147 hl_4431.le hd_4434) hl_4432.le),hm_4429,q.sub (zc (zc (zc (zc (zc (zc (zc zz))))))),s.trunc 10⟩
 rintro a w ⟨x_4362,x_4363,x_4364,x_4366,x_4368,x_4373,x_4375,x_4379,x_4384,R_4385,v_4360,v_4369,cs_4370,v_4380,cs_4381,E_4376,b_4372,b_4365,b_4374,H,hl_4386,hs_4361,hq_4371,hq_4382,hap_4383,hm_4377,q,s⟩
 unfold law08_LeafPlays.j16 at H
 have hRL:=hRL.trans hl_4386
 refine wp_cond_split (q.ev rfl) (fun (hb_4435 : x_4384 = true)=>?_) fun hb_4435=>?_
 rw [ifb_t hb_4435] at H
 refine zq<|zr<|za q rfl fun a q=>zn ?_
 exact absurd (Option.some.inj H) (by decide)
 rw [ifb_f hb_4435] at H
 refine wp_skip<|zq<|zr<|zl q (r_fieldAddr underlying41 rfl sizeOf39 q rfl) fun a q=>zl q (r_load isAgg39 q rfl (s.cell (.tail _ z8) rfl)) fun a q=>zl q (r_len_O underlying39 s z8 q rfl) fun a q=>zl q (r_ibin q rfl rfl rfl) fun a q=>zn ?_
 refine wp_mid (fun a w=>∃ (R_4464 : Hp),law08_LeafPlays.j17 (law08_LeafPlays.l9 a2 x_11 k_l9) a2 x_1990 x_4135 x_4136 x_4138 x_4362 x_4363 x_4364 x_4366 x_4368 x_4373 x_4375 = some true ∧ RLe [] w0 R_3500 R_4464 ∧ Kn 261 a [(0,v_9),(2,v2_0),(8,.pointer (some ⟨b_3365,0,none⟩)),(10,.pointer (some ⟨b_73,0,none⟩)),(12,I6 x_1990)] ∧ St [] w0 w R_4464 [.row 113 2 v_4369 x_4368.length cs_4370,.mp b_4372 (kvs Value.string (Value.int .i64) x_4373),.cells b_4365 [I6 x_4366,v_4369,.map (some b_4372)] 102,mbo b_4374 (kvs (Value.int .i64) id (mbp E_4376)) 111 90 2 E_4376,.cells b_3365 [v_4360,I6 x_4363,I6 x_4364,.pointer (some ⟨b_4365,0,none⟩),.map (some b_4374)] 70,.row 33 4 v_4139 x_4138.length cs_4140,.cells b_73 [v_4133,I6 x_4136,v_4139] 60]) ?_ ?_
 refine wp_cond_split (q.ev rfl) (fun (hb_4466 : (decide ((x_4379.length : Int) > 0)) = true)=>?_) fun hb_4466=>?_
 rw [ifb_t hb_4466] at H
 refine zr<|zl q (r_fieldAddr underlying41 rfl sizeOf39 q rfl) fun a q=>zl q (r_load isAgg39 q rfl (s.cell (.tail _ z8) rfl)) fun a q=>?_
 obtain ⟨y_4467,h_4468,H⟩:=bs H
 obtain ⟨b_4470,c_4471,cs_4472,hv_4469,hr_4473,hc_4474,h_44680,h_44681⟩:=s.row_ix z8 hq_4382 rfl rfl h_4468
 obtain ⟨v_4475,rfl,hs_4476⟩:=hr_4473
 refine zl q (r_indexAddr_R underlying39 sizeOf31 hv_4469 h_44680 h_44681 q rfl rfl) fun a q=>zl q (r_load isAgg31 q rfl (s.row_cell z8 hv_4469 (hc_4474 0 _ rfl))) fun a q=>zl q (r_buildC (ps:=[]) (c:=[I6 0,I6 0,.string (⟨#[]⟩ : ByteArray),I6 0,I6 0,I6 0,I6 0,I6 0,I6 0,I6 0,I6 0]) underlying58 zeroValue58 places58 q rfl pc_nil rfl rfl) fun a q=>?_
 obtain ⟨y_4477,h_4478,H⟩:=bs H
 obtain ⟨b_4479,o_4480,c_4481,cs_4482,hv_4483,hr_4484,hc_4485,h_44780,h_44781⟩:=hs_4476.ix h_4478
 subst hr_4484
 refine zl q (r_indexAddr_R underlying31 sizeOf58 hv_4483 h_44780 h_44781 q rfl rfl) fun a q=>?_
 have s:=s.pk8
 obtain ⟨l_4486,t_4487,hR_4488,s⟩:=s.thaw (hl_3832.trans (hl_4161.trans hl_4386)) hap_4383 (hc_4474 0 _ rfl) hv_4483
 have hlt_ : o_4480 + (0 : Int).toNat * 11 + 0 + 10 < l_4486.length:=(cell_len ((hc_4485) 10 _ rfl) hR_4488).1
 refine sl_storeA (vs:=[I6 0,I6 0,.string (⟨#[]⟩ : ByteArray),I6 0,I6 0,I6 0,I6 0,I6 0,I6 0,I6 0,I6 0]) (c':=spl l_4486 (o_4480 + (0 : Int).toNat * 11 + 0) [I6 0,I6 0,.string (⟨#[]⟩ : ByteArray),I6 0,I6 0,I6 0,I6 0,I6 0,I6 0,I6 0,I6 0]) sizeOf58 s q rfl rfl rfl rfl (zc (zc (zc (zc (zc (zc (zc (zc (zc (zc (zc zz))))))))))) (by omega) rfl fun a w s q=>?_
 obtain ⟨R_4489,s,hl_4490,hq_4491,hap_4492⟩:=s.refreeze (ty:=ty_api_Value) (es:=(cV y_4477)) (vs:=[I6 0,I6 0,.string (⟨#[]⟩ : ByteArray),I6 0,I6 0,I6 0,I6 0,I6 0,I6 0,I6 0,I6 0]) (ps:=0) (y:=(⟨0,0,(⟨#[]⟩ : ByteArray),(⟨0,0,0,0,0,0,0,0⟩ : Arr8)⟩ : api_Value)) (fun _ _ _ _ h=>h) (hl_3832.trans (hl_4161.trans hl_4386)) hap_4383 hq_4382 h_4468 (hc_4474 0 _ rfl) hv_4483 hR_4488 h_4478 (show Ty.rep ty_api_Value _ (cV y_4477) y_4477 from rfl) (hc_4485) (Nat.le_of_ble_eq_true rfl) (Nat.le_of_ble_eq_true rfl) (show Ty.rep ty_api_Value _ (spl (cV y_4477) 0 [I6 0,I6 0,.string (⟨#[]⟩ : ByteArray),I6 0,I6 0,I6 0,I6 0,I6 0,I6 0,I6 0,I6 0]) (⟨0,0,(⟨#[]⟩ : ByteArray),(⟨0,0,0,0,0,0,0,0⟩ : Arr8)⟩ : api_Value) from rfl)
 have s:=s.relen (show (upd x_4379 0 (upd y_4467 0 (⟨0,0,(⟨#[]⟩ : ByteArray),(⟨0,0,0,0,0,0,0,0⟩ : Arr8)⟩ : api_Value))).length = x_4379.length from upd_length)
 have hRL:=(hl_22.trans (hl_71.trans (hl_1992.trans (hl_3385.trans (hl_3473.trans hl_3501))))).trans hl_4490
 refine zn ?_
 have s:=s.pk7
 have s:=s.pk7
 have s:=s.pk7
 have s:=s.pk7
 have s:=s.pk7
 have s:=s.pk7
 have s:=s.pk7
 exact ⟨_,H,hl_4490,q.sub (zc (zc (zc (zc (zc zz))))),s.trunc 7⟩
 rw [ifb_f hb_4466] at H
 refine wp_skip ?_
 have s:=s.pk6
 have s:=s.pk6
 have s:=s.pk6
 have s:=s.pk6
 have s:=s.pk6
 have s:=s.pk6
 have s:=s.pk6
 exact ⟨_,H,(hl_3832.trans (hl_4161.trans hl_4386)),q.sub (zc (zc (zc (zc (zc zz))))),s.trunc 7⟩
 rintro a w ⟨R_4464,H,hl_4465,q,s⟩
 unfold law08_LeafPlays.j17 at H
 have hRL:=(hl_22.trans (hl_71.trans (hl_1992.trans (hl_3385.trans (hl_3473.trans hl_3501))))).trans hl_4465
 refine zr<|zm q rfl fun a q=>zl q (r_ibin q rfl rfl rfl) fun a q=>za q rfl fun a q=>zn ?_
 have s:=s.pk6
 have s:=s.pk6
 have s:=s.pk6
 have s:=s.pk6
 have s:=s.pk6
 have s:=s.pk6
 have s:=s.pk6
 exact ⟨_,Nat.lt_succ_self _,x_4362,x_4363,x_4364,x_4366,x_4368,x_4373,x_4375,x_4135,x_4136,x_4138,(IntKind.i64.wrap (x_1990 + 1)),_,v_4360,v_4133,_,_,_,_,_,_,_,_,_,H,(hl_1992.trans (hl_3385.trans (hl_3473.trans (hl_3501.trans hl_4465)))),(hs_4361.mono hl_4465.le),(hs_4134.mono hl_4465.le),(hq_4371.mono hl_4465.le),(hq_4141.mono hl_4465.le),(hm_4377.mono hl_4465.le),q.sub (zc (zc (zc (zc (zc zz))))),s⟩
 rw [ifb_f hb_3248] at H
 refine wp_exit ?_
 refine zq<|zq<|zr<|za q rfl fun a q=>zn ?_
 refine wp_block ?_
 refine wp_loop_k (fun k_l18 a w=>∃ (x_4576 : List api_Schema) (x_4577 : Int) (x_4578 : Int) (x_4580 : Int) (x_4582 : List streams_stream) (x_4587 : List (ByteArray × Int)) (x_4589 : List (Int × runs_Run)) (x_4594 : List api_Schema) (x_4595 : Int) (x_4597 : List api_Point) (x_4601 : Int) (R_4602 : Hp) (v_4574 : Value) (v_4592 : Value) (v_4583 : Value) (cs_4584 : List Value) (v_4598 : Value) (cs_4599 : List Value) (E_4590 : List (MB Int)) (b_4586 : Nat) (b_4579 : Nat) (b_4588 : Nat),law08_LeafPlays.l18 x_11 k_l18 x_4576 x_4577 x_4578 x_4580 x_4582 x_4587 x_4589 x_4594 x_4595 x_4597 x_4601 = some true ∧ RLe [] w0 R_1991 R_4602 ∧ SlR ty_api_Schema R_4602 v_4574 x_4576 ∧ SlR ty_api_Schema R_4602 v_4592 x_4594 ∧ Reps ty_streams_stream R_4602 cs_4584 x_4582 ∧ Reps ty_api_Point R_4602 cs_4599 x_4597 ∧ MBel ty_api_Sample runs_Run.l R_4602 E_4590 x_4589 ∧ Kn 261 a [(0,v_9),(8,.pointer (some ⟨b_1962,0,none⟩)),(10,.pointer (some ⟨b_73,0,none⟩)),(27,I6 x_4601)] ∧ St [] w0 w R_4602 [.row 113 2 v_4583 x_4582.length cs_4584,.mp b_4586 (kvs Value.string (Value.int .i64) x_4587),.cells b_4579 [I6 x_4580,v_4583,.map (some b_4586)] 102,mbo b_4588 (kvs (Value.int .i64) id (mbp E_4590)) 111 90 2 E_4590,.cells b_1962 [v_4574,I6 x_4577,I6 x_4578,.pointer (some ⟨b_4579,0,none⟩),.map (some b_4588)] 70,.row 33 4 v_4598 x_4597.length cs_4599,.cells b_73 [v_4592,I6 x_4595,v_4598] 60]) (((x_11.length : Int) - 0).toNat + 1) ?_ ?_
 have s:=s.pk6
 have s:=s.pk6
 have s:=s.pk6
 have s:=s.pk6
 have s:=s.pk6
 have s:=s.pk6
 have s:=s.pk6
 exact ⟨x_1965,x_1966,x_1967,x_1969,x_1971,x_1976,x_1978,x_1983,x_1984,x_1986,0,_,v_1963,v_1981,_,_,_,_,_,_,_,_,H,(RLe.refl _ _),hs_1964,hs_1982,hq_1974,hq_1989,hm_1980,q.sub (zc (zc (zc (zc zz)))),s⟩
 rintro k_l18 a w ⟨x_4576,x_4577,x_4578,x_4580,x_4582,x_4587,x_4589,x_4594,x_4595,x_4597,x_4601,R_4602,v_4574,v_4592,v_4583,cs_4584,v_4598,cs_4599,E_4590,b_4586,b_4579,b_4588,H,hl_4603,hs_4575,hs_4593,hq_4585,hq_4600,hm_4591,q,s⟩
 rcases k_l18 with _ | k_l18
 cases H
 rw [law08_LeafPlays.l18.eq_2] at H
 have hRL:=hRL.trans hl_4603
 refine zq<|zq<|zr<|zm q rfl fun a q=>zm q rfl fun a q=>zl q (r_len_R underlying28 hs_10 q rfl) fun a q=>zl q (r_ibin q rfl rfl rfl) fun a q=>zn ?_
 refine wp_cond_split (q.ev rfl) (fun (hb_4683 : (decide (x_4601 < (x_11.length : Int))) = true)=>?_) fun hb_4683=>?_
 rw [ifb_t hb_4683] at H
 refine wp_skip<|zq ?_
 refine wp_block ?_
 refine zq<|zr<|zm q rfl fun a q=>zm q rfl fun a q=>zm q rfl fun a q=>?_
 obtain ⟨y_4684,h_4685,H⟩:=bs H
 obtain ⟨b_4686,o_4687,c_4688,cs_4689,hv_4690,hr_4691,hc_4692,h_46850,h_46851⟩:=hs_10.ix h_4685
 obtain ⟨v_4693,v_4695,rfl,hs_4694,hs_4696⟩:=hr_4691
 refine zl q (r_indexAddr_R underlying28 sizeOf49 hv_4690 h_46850 h_46851 q rfl rfl) fun a q=>zl q (r_fieldAddr underlying49 rfl sizeOf9 q rfl) fun a q=>zl q (r_load isAgg9 q rfl ((s.sub.le (hl_22.le.trans (hl_71.le.trans (hl_1992.le.trans hl_4603.le)))).cell (hc_4692 0 _ rfl))) fun a q=>?_
 obtain ⟨y_4697,h_4698,H⟩:=bs H
 have s:=s.pk3
 have s:=s.pk2
 have s:=s.pk2
 have s:=s.pk3
 have s:=s.pk4
 have hS1:=s.sp5
 refine sl_call call12 q (by decide) rfl rfl rfl (leaf_Leaf_Scan.calls (⟨x_4576,x_4577,x_4578,(⟨x_4580,x_4582,x_4587⟩ : streams_Dict),x_4589⟩ : leaf_Leaf) y_4684.Name (-9223372036854775808) 9223372036854775807 hS1.lend hs_4575 hq_4585 hm_4591 h_4698) fun a v_ w hv_ q=>?_
 obtain ⟨R_4699,v_4702,cs_4703,v_4706,cs_4707,v_4710,b_4712,v_4714,cs_4715,mb_4717,mb_4718,E_4719,hv_,hr_,hl_4700,hq_4704,hq_4708,hap_4709,hs_4711,hq_4716,hm_4720⟩:=hv_
 have hv_:=hv_.symm
 subst hv_
 obtain ⟨s,hl_4700⟩:=hS1.back hr_ hl_4700
 have s:=s.un7
 have hRL:=hRL.trans hl_4700
 refine zm q rfl fun a q=>zl q (r_extract q rfl rfl) fun a q=>zl q (r_extract q rfl rfl) fun a q=>?_
 refine sl_alloc zeroValue41 s q (by decide) rfl rfl fun a w b_4721 s q=>?_
 refine sl_storeA (vs:=[v_4702,v_4706]) (c':=[v_4702,v_4706]) sizeOf41 s q rfl rfl rfl rfl (all_cons (s.row_one z1) (all_cons (s.row_one z2) zz)) (Nat.le_of_ble_eq_true rfl) rfl fun a w s q=>?_
 refine za q rfl fun a q=>zn<|zq<|zr<|zm q rfl fun a q=>zm q rfl fun a q=>zm q rfl fun a q=>?_
 obtain ⟨y_4722,h_4723,H⟩:=bs H
 obtain ⟨b_4724,o_4725,c_4726,cs_4727,hv_4728,hr_4729,hc_4730,h_47230,h_47231⟩:=hs_10.ix h_4723
 obtain ⟨v_4731,v_4733,rfl,hs_4732,hs_4734⟩:=hr_4729
 refine zl q (r_indexAddr_R underlying28 sizeOf49 hv_4728 h_47230 h_47231 q rfl rfl) fun a q=>zl q (r_fieldAddr underlying49 rfl sizeOf9 q rfl) fun a q=>zl q (r_load isAgg9 q rfl ((s.sub.le (hl_22.le.trans (hl_71.le.trans (hl_1992.le.trans (hl_4603.le.trans hl_4700.le))))).cell (hc_4730 0 _ rfl))) fun a q=>?_
 obtain ⟨y_4735,h_4736,H⟩:=bs H
 have s:=s.pk8
 have s:=s.pk9
 have hS1:=s.sp2
 refine sl_call call19 q (by decide) rfl rfl rfl (ref08_Leaf_Scan.calls (⟨x_4594,x_4595,x_4597⟩ : catchmentref08_Leaf) y_4722.Name (-9223372036854775808) 9223372036854775807 (hS1.lend.lower hl_4700.le) hs_4593 hq_4600 h_4736) fun a v_ w hv_ q=>?_
 obtain ⟨R_4737,v_4740,cs_4741,v_4744,cs_4745,v_4747,v_4750,cs_4751,hv_,hr_,hl_4738,hq_4742,hq_4746,hs_4748,hq_4752⟩:=hv_
 have hv_:=hv_.symm
 subst hv_
 obtain ⟨R_4753,s,hl_4754,hl_4755,hl_4756,hd_4757⟩:=hS1.backF hl_4700 hr_ hl_4738
 have s:=s.un4
 have hRL:=hRL.trans hl_4754
 refine zm q rfl fun a q=>zl q (r_extract q rfl rfl) fun a q=>zl q (r_extract q rfl rfl) fun a q=>?_
 refine sl_alloc zeroValue41 s q (by decide) rfl rfl fun a w b_4758 s q=>?_
 refine sl_storeA (vs:=[v_4740,v_4744]) (c':=[v_4740,v_4744]) sizeOf41 s q rfl rfl rfl rfl (all_cons (s.row_one z1) (all_cons (s.row_one z2) zz)) (Nat.le_of_ble_eq_true rfl) rfl fun a w s q=>?_
 refine za q rfl fun a q=>zn<|zq<|zr<|zl q (r_loadA (cs:=[v_4702,v_4706]) isAgg41 sizeOf41 rfl q rfl (s.cells_of (m:=2) z5 rfl)) fun a q=>zl q (r_loadA (cs:=[v_4740,v_4744]) isAgg41 sizeOf41 rfl q rfl (s.cells_of (m:=2) z0 rfl)) fun a q=>?_
 obtain ⟨y_4759,h_4760,H⟩:=bs H
 refine sl_callV call13 s q (by decide) rfl rfl rfl (ref02_Same.calls y_4697.1 y_4735.1 (lentOf_sub [] _) (s.lend_row0 z6 (hq_4704.mono hl_4754.le) rfl rfl) (s.lend_row0 z7 (hq_4708.mono hl_4754.le) rfl rfl) (s.lend_row0 z1 (hq_4742.mono hl_4756.le) rfl rfl) (s.lend_row0 z2 (hq_4746.mono hl_4756.le) rfl rfl) h_4760) fun a w s q=>?_
 refine za q rfl fun a q=>zn<|zq<|zr<|zm q rfl fun a q=>zl q (r_un q rfl (u_not _)) fun a q=>zn ?_
 refine wp_cond_split (q.ev rfl) (fun (hb_4761 : (!y_4759) = true)=>?_) fun hb_4761=>?_
 rw [ifb_t hb_4761] at H
 refine zq<|zr<|za q rfl fun a q=>zn ?_
 exact absurd (Option.some.inj H) (by decide)
 rw [ifb_f hb_4761] at H
 refine wp_skip<|zr<|zm q rfl fun a q=>zl q (r_ibin q rfl rfl rfl) fun a q=>za q rfl fun a q=>zn ?_
 have s:=s.pk3
 have s:=s.pk4
 have s:=s.pk8
 have s:=s.pk12
 have s:=s.pk10
 have s:=s.pk12
 have s:=s.pk12
 exact ⟨_,Nat.lt_succ_self _,y_4697.2.2.schemas,y_4697.2.2.room,y_4697.2.2.points,y_4697.2.2.dict.most,y_4697.2.2.dict.l,y_4697.2.2.dict.ids,y_4697.2.2.runs,y_4735.2.2.S,y_4735.2.2.Room,y_4735.2.2.L,(IntKind.i64.wrap (x_4601 + 1)),_,v_4710,v_4747,_,_,_,_,_,_,_,_,H,(hl_4603.trans (hl_4700.trans hl_4754)),(hs_4711.mono (hl_4700.le.trans hl_4754.le)),(hs_4748.mono (hl_4700.le.trans hl_4754.le)),(hq_4716.mono (hl_4700.le.trans hl_4754.le)),(hq_4752.mono (hl_4700.le.trans hl_4754.le)),(hm_4720.mono (hl_4700.le.trans hl_4754.le)),q.sub (zc (zc (zc (zc zz)))),s.trunc 7⟩
 rw [ifb_f hb_4683] at H
 refine wp_exit ?_
 refine zq<|zr<|za q rfl fun a q=>zn ?_
 refine wp_ret ?_
 repeat first | refine zt ?_ | refine zb ?_ | refine zo ?_
 exact ret_1 results6 q (rv_tmp q rfl) ⟨rfl,s.bel⟩
end Go.Proofs.YtchgiggipimigaaGreatDoor.M
end
