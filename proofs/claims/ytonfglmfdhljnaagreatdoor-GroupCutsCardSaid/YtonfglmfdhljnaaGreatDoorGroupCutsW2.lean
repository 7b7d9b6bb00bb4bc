/- For the law GroupCuts: each Go function answers as its plain Lean function tells, wherever that tells something; without further condition. -/
import Derived.Test.YtonfglmfdhljnaaGreatDoorGroupCutsW1
section
namespace Go.Proofs.YtonfglmfdhljnaaGreatDoor.M
open Go Go.Eng Go.Proofs Go.RowKit
set_option linter.unusedVariables false
set_option linter.unusedSimpArgs false
open Go.Proofs.Tryz
set_option maxHeartbeats 4000000
set_option maxRecDepth 100000
theorem group_together.calls (a0 : api_Table) (a1 : Int) (a2 : List api_Agg) {w0 : World} {R : Hp} {RA : Hp} {v0_0 : Value} {v0_1 : Value} {v2_0 : Value} (hRA : RA.sub w0) (hR : R.sub w0) (h0_0 : SlR ty_api_Col R v0_0 a0.Cols) (h0_1 : SlR (tySl ty_api_Value) R v0_1 a0.Rows) (h2_0 : SlR ty_api_Agg RA v2_0 a2) {r : api_Table} (H : group_together a0 a1 a2 = some r) : Calls prog 35 #[.agg #[v0_0,v0_1],I6 a1,v2_0] w0 (Rets fun v w'=>∃ (R' : Hp) (u0 : Value) (cu0 : List Value) (u1 : Value) (cu1 : List Value),v = .agg #[u0,u1] ∧ St [] w0 w' R' [.row 47 2 u0 r.Cols.length cu0,.row 53 1 u1 r.Rows.length cu1] ∧ RLe [] w0 R R' ∧ Reps ty_api_Col R' cu0 r.Cols ∧ Reps (tySl ty_api_Value) R' cu1 r.Rows):=by
 unfold group_together at H
 refine enter (args:=[.agg #[v0_0,v0_1],I6 a1,v2_0]) func35 rfl ntmps35 rfl fun a q=>?_
 have s:=St.init hR
 have hRL:=RLe.refl (M:=[]) w0 R
 refine zq<|zr ?_
 refine sl_box s q (by decide) rfl rfl (c:=[v0_0,v0_1]) rfl fun a w b_1 s q=>?_
 refine sl_box s q (by decide) rfl rfl (c:=[I6 a1]) rfl fun a w b_2 s q=>?_
 refine sl_alloc zeroValue35 s q (by decide) rfl rfl fun a w b_3 s q=>?_
 refine zn<|zq<|zr<|za q rfl fun a q=>zn<|zq<|zq<|zr<|zm q rfl fun a q=>zl q (r_len_R underlying24 h2_0 q rfl) fun a q=>zm q rfl fun a q=>zn ?_
 refine wp_block ?_
 refine wp_loop_k (fun k_l0 a w=>∃ (x_55 : List Int) (x_59 : Int) (v_56 : Value) (cs_57 : List Value),group_together.l0 a0 a1 a2 k_l0 x_55 x_59 = some r ∧ Reps (tyInt .i64) R cs_57 x_55 ∧ Kn 95 a [(3,.pointer (some ⟨b_1,0,none⟩)),(4,.pointer (some ⟨b_2,0,none⟩)),(6,.pointer (some ⟨b_3,0,none⟩)),(7,v_56),(18,v2_0),(19,I6 (a2.length : Int)),(20,I6 x_59)] ∧ St [] w0 w R [.cells b_1 [v0_0,v0_1] 35,.cells b_2 [I6 a1] 3,.cells b_3 [.slice none 0 0,.slice none 0 0] 35,.row 3 1 v_56 x_55.length cs_57]) (((a2.length : Int) - 0).toNat + 1) ?_ ?_
 have s:=s.row_nil 3 1
 have hq_107 : Reps (tyInt .i64) R [] ([] : List Int):=Reps.nil _ _
 have s:=s.pk1
 have s:=s.pk2
 have s:=s.pk3
 exact ⟨[],0,_,_,H,hq_107,q.sub (zc (zc (zc (zc (zc (zc (zc zz))))))),s⟩
 rintro k_l0 a w ⟨x_55,x_59,v_56,cs_57,H,hq_58,q,s⟩
 rcases k_l0 with _ | k_l0
 cases H
 rw [group_together.l0.eq_2] at H
 refine zq<|zr<|zl q (r_ibin q rfl rfl rfl) fun a q=>zn<|zq ?_
 refine wp_cond_split (q.ev rfl) (fun (hb_108 : (decide (x_59 < (a2.length : Int))) = true)=>?_) fun hb_108=>?_
 rw [ifb_t hb_108] at H
 refine wp_skip<|zq ?_
 refine wp_block ?_
 refine zq<|zr ?_
 obtain ⟨y_109,h_110,H⟩:=bs H
 obtain ⟨b_111,o_112,c_113,cs_114,hv_115,hr_116,hc_117,h_1100,h_1101⟩:=h2_0.ix h_110
 subst hr_116
 refine zl q (r_indexAddr_R underlying24 sizeOf49 hv_115 h_1100 h_1101 q rfl rfl) fun a q=>zl q (r_loadA (cs:=[I6 y_109.Kind,.string y_109.Col]) isAgg49 sizeOf49 rfl q rfl (fun j v hv=>(s.ra hRA nil_not).cell (hc_117 j v hv))) fun a q=>?_
 refine sl_alloc zeroValue49 s q (by decide) rfl rfl fun a w b_118 s q=>?_
 refine sl_storeA (vs:=[I6 y_109.Kind,.string y_109.Col]) (c':=[I6 y_109.Kind,.string y_109.Col]) sizeOf49 s q rfl rfl rfl rfl (zc (zc zz)) (Nat.le_of_ble_eq_true rfl) rfl fun a w s q=>?_
 refine zn<|zq<|zr<|zl q (r_loadA (cs:=[I6 y_109.Kind,.string y_109.Col]) isAgg49 sizeOf49 rfl q rfl (s.cells_of (m:=2) z0 rfl)) fun a q=>?_
 obtain ⟨y_119,h_120,H⟩:=bs H
 refine sl_callV call44 s q (by decide) rfl rfl rfl (group_width.calls y_109 h_120 _) fun a w s q=>?_
 refine zm q rfl fun a q=>zn ?_
 refine wp_block ?_
 refine wp_loop_k (fun k_l1 a w=>∃ (x_131 : List Int) (x_135 : Int) (v_132 : Value) (cs_133 : List Value),group_together.l1 (group_together.l0 a0 a1 a2 k_l0) a2 x_59 y_109 y_119 k_l1 x_131 x_135 = some r ∧ Reps (tyInt .i64) R cs_133 x_131 ∧ Kn 95 a [(3,.pointer (some ⟨b_1,0,none⟩)),(4,.pointer (some ⟨b_2,0,none⟩)),(6,.pointer (some ⟨b_3,0,none⟩)),(7,v_132),(9,.pointer (some ⟨b_118,0,none⟩)),(18,v2_0),(19,I6 (a2.length : Int)),(20,I6 x_59),(25,I6 y_119),(26,I6 x_135)] ∧ St [] w0 w R [.cells b_1 [v0_0,v0_1] 35,.cells b_2 [I6 a1] 3,.cells b_3 [.slice none 0 0,.slice none 0 0] 35,.row 3 1 v_132 x_131.length cs_133,.cells b_118 [I6 y_109.Kind,.string y_109.Col] 49]) ((y_119 - 0).toNat + 1) ?_ ?_
 have s:=s.pk4
 have s:=s.pk4
 have s:=s.pk4
 have s:=s.pk4
 exact ⟨x_55,0,_,_,H,hq_58,q.sub (zc (zc (zc (zc (zc (zc (zc (zc (zc (zc zz)))))))))),s⟩
 rintro k_l1 a w ⟨x_131,x_135,v_132,cs_133,H,hq_134,q,s⟩
 rcases k_l1 with _ | k_l1
 cases H
 rw [group_together.l1.eq_2] at H
 refine zq<|zr<|zl q (r_ibin q rfl rfl rfl) fun a q=>zn<|zq ?_
 refine wp_cond_split (q.ev rfl) (fun (hb_145 : (decide (x_135 < y_119)) = true)=>?_) fun hb_145=>?_
 rw [ifb_t hb_145] at H
 refine wp_skip<|zq ?_
 refine wp_block ?_
 refine zr<|zm q rfl fun a q=>zl q (r_fieldAddr underlying49 rfl sizeOf3 q rfl) fun a q=>zl q (r_load isAgg3 q rfl (s.cell z4 rfl)) fun a q=>?_
 refine sl_buildSliceF (zc:=[I6 0]) (ps:=[(0,I6 y_109.Kind)]) (c:=[I6 y_109.Kind]) [[I6 y_109.Kind]] underlying43 sizeOf3 zeroValue3 rfl (pc_cons rfl pc_nil) rfl rfl (Nat.le_of_ble_eq_true rfl) rfl (zc zz) rfl s q (by decide) rfl fun a w b_146 s q=>?_
 obtain ⟨y_147,h_148,H⟩:=bs H
 have s:=s.pk4
 refine sl_append_L (ty:=(tyInt .i64)) (ys:=[y_109.Kind]) elT43 (by decide) rfl hq_134 rfl (Reps.cons (show Ty.rep (tyInt .i64) _ [I6 y_109.Kind] y_109.Kind from rfl) (Reps.nil _ _)) rfl h_148 s q (by decide) rfl rfl rfl fun a w v_149 cs_150 hq_151 s q=>?_
 refine za q rfl fun a q=>zn<|zr<|zl q (r_ibin q rfl rfl rfl) fun a q=>zm q rfl fun a q=>zn ?_
 have s:=s.pk4
 have s:=s.pk1
 have s:=s.pk4
 have s:=s.pk4
 have s:=s.pk4
 exact ⟨_,Nat.lt_succ_self _,y_147,(IntKind.i64.wrap (x_135 + 1)),_,_,H,hq_151,q.sub (zc (zc (zc (zc (zc (zc (zc (zc (zc (zc zz)))))))))),s⟩
 rw [ifb_f hb_145] at H
 refine wp_exit ?_
 refine zr<|zl q (r_ibin q rfl rfl rfl) fun a q=>zm q rfl fun a q=>zn ?_
 have s:=s.pk3
 have s:=s.pk3
 have s:=s.pk3
 have s:=s.pk3
 exact ⟨_,Nat.lt_succ_self _,x_131,(IntKind.i64.wrap (x_59 + 1)),_,_,H,hq_134,q.sub (zc (zc (zc (zc (zc (zc (zc zz))))))),s.trunc 4⟩
 rw [ifb_f hb_108] at H
 refine wp_exit ?_
 refine zq<|zr<|zl q (r_fieldAddr underlying35 rfl sizeOf22 q rfl) fun a q=>zl q (r_load isAgg22 q rfl (s.cell z0 rfl)) fun a q=>zl q (r_buildC (ps:=[(0,v0_0)]) (c:=[v0_0,.slice none 0 0]) underlying35 zeroValue35 places35 q rfl (pc_cons (cells1 h0_0.one) pc_nil) rfl rfl) fun a q=>?_
 refine sl_alloc zeroValue35 s q (by decide) rfl rfl fun a w b_153 s q=>?_
 refine sl_storeA (vs:=[v0_0,.slice none 0 0]) (c':=[v0_0,.slice none 0 0]) sizeOf35 s q rfl rfl rfl rfl (all_cons h0_0.one (zc zz)) (Nat.le_of_ble_eq_true rfl) rfl fun a w s q=>?_
 refine zn<|zq<|zq<|zr<|zl q (r_fieldAddr underlying35 rfl sizeOf33 q rfl) fun a q=>zl q (r_load isAgg33 q rfl (s.cell z1 rfl)) fun a q=>zl q (r_func (us:=[]) (vs:=[.pointer (some ⟨b_2,0,none⟩)]) rfl (q.evs rfl)) fun a q=>?_
 obtain ⟨y_154,h_155,H⟩:=bs H
 refine sl_call call55 q (by decide) rfl rfl rfl (group_bucket_api_Value_f_group_together_1p.calls a0.Rows a1 (lentOf_sub [] _) s.sub h0_1 (s.lend_box0 z2) h_155) fun a v_ w hv_ q=>?_
 obtain ⟨R_156,v_159,cs_160,hv_,hr_,hl_157,hq_161⟩:=hv_
 have hv_:=hv_.symm
 subst hv_
 obtain ⟨s,hl_157⟩:=s.sp0.back hr_ hl_157
 have s:=s.un1
 have hRL:=hRL.trans hl_157
 refine zl q (r_len_O underlying88 s z0 q rfl) fun a q=>zm q rfl fun a q=>zn ?_
 refine wp_block ?_
 refine wp_loop_k (fun k_l2 a w=>∃ (x_957 : List (List api_Value)) (x_961 : Int) (R_962 : Hp) (v_958 : Value) (cs_959 : List Value),group_together.l2 a0 a1 x_55 y_154 k_l2 x_957 x_961 = some r ∧ RLe [] w0 R_156 R_962 ∧ Reps (tySl ty_api_Value) R_962 cs_959 x_957 ∧ Kn 95 a [(4,.pointer (some ⟨b_2,0,none⟩)),(6,.pointer (some ⟨b_3,0,none⟩)),(7,v_56),(10,.pointer (some ⟨b_153,0,none⟩)),(41,v_159),(42,I6 (y_154.length : Int)),(43,I6 x_961)] ∧ St [] w0 w R_962 [.cells b_2 [I6 a1] 3,.cells b_3 [.slice none 0 0,.slice none 0 0] 35,.row 3 1 v_56 x_55.length cs_57,.row 53 1 v_958 x_957.length cs_959,.cells b_153 [v0_0,v_958] 35,.row 33 1 v_159 y_154.length cs_160]) (((y_154.length : Int) - 0).toNat + 1) ?_ ?_
 have s:=s.row_nil 53 1
 have hq_1754 : Reps (tySl ty_api_Value) R_156 [] ([] : List (List api_Value)):=Reps.nil _ _
 have s:=s.pk1
 have s:=s.pk2
 have s:=s.pk2
 have s:=s.pk6
 have s:=s.pk6
 have s:=s.pk6
 exact ⟨[],0,_,_,_,H,(RLe.refl _ _),hq_1754,q.sub (zc (zc (zc (zc (zc (zc (zc zz))))))),s.trunc 6⟩
 rintro k_l2 a w ⟨x_957,x_961,R_962,v_958,cs_959,H,hl_963,hq_960,q,s⟩
 rcases k_l2 with _ | k_l2
 cases H
 rw [group_together.l2.eq_2] at H
 have hRL:=hRL.trans hl_963
 refine zq<|zr<|zl q (r_ibin q rfl rfl rfl) fun a q=>zn<|zq ?_
 refine wp_cond_split (q.ev rfl) (fun (hb_1755 : (decide (x_961 < (y_154.length : Int))) = true)=>?_) fun hb_1755=>?_
 rw [ifb_t hb_1755] at H
 refine wp_skip<|zq ?_
 refine wp_block ?_
 refine zq<|zr ?_
 obtain ⟨y_1756,h_1757,H⟩:=bs H
 obtain ⟨b_1759,c_1760,cs_1761,hv_1758,hr_1762,hc_1763,h_17570,h_17571⟩:=s.row_ix z5 (hq_161.mono hl_963.le) rfl rfl h_1757
 obtain ⟨v_1764,rfl,hs_1765⟩:=hr_1762
 refine zl q (r_indexAddr_R underlying88 sizeOf33 hv_1758 h_17570 h_17571 q rfl rfl) fun a q=>zl q (r_load isAgg33 q rfl (s.row_cell z5 hv_1758 (hc_1763 0 _ rfl))) fun a q=>za q rfl fun a q=>zn<|zq<|zr<|zm q rfl fun a q=>?_
 obtain ⟨y_1766,h_1767,H⟩:=bs H
 obtain ⟨b_1768,o_1769,c_1770,cs_1771,hv_1772,hr_1773,hc_1774,h_17670,h_17671⟩:=hs_1765.ix h_1767
 obtain ⟨v_1775,rfl,hs_1776⟩:=hr_1773
 refine zl q (r_indexAddr_R underlying33 sizeOf53 hv_1772 h_17670 h_17671 q rfl rfl) fun a q=>zl q (r_load isAgg53 q rfl (s.sub.cell (hc_1774 0 _ rfl))) fun a q=>?_
 obtain ⟨y_1777,h_1778,H⟩:=bs H
 refine sl_call call43 q (by decide) rfl rfl rfl (slices_Clone_api_Value_api_Value.calls y_1766 (lentOf_sub [] _) s.sub (hs_1776.mono s.rLe0) h_1778) fun a v_ w hv_ q=>?_
 obtain ⟨R_1779,v_1782,cs_1783,hv_,hr_,hl_1780,hq_1784⟩:=hv_
 have hv_:=hv_.symm
 subst hv_
 obtain ⟨s,hl_1780⟩:=s.sp0.back hr_ hl_1780
 have s:=s.un1
 have hRL:=hRL.trans hl_1780
 refine za q rfl fun a q=>zn<|zq<|zq<|zr<|zm q rfl fun a q=>?_
 obtain ⟨y_1785,h_1786,H⟩:=bs H
 obtain ⟨v_1787,hs_1788,hr_1789⟩:=r_slice_R (x:=.tmp 51) (lo:=some (.const (I6 1))) (hi:=none) underlying33 sizeOf53 hs_1765 h_1786 q rfl ⟨_,rfl⟩ rfl
 refine zl q (hr_1789 _ _ _ _ _ _ _ q) fun a q=>zl q (r_len_R underlying33 hs_1788 q rfl) fun a q=>zm q rfl fun a q=>zn ?_
 refine wp_block ?_
 refine wp_loop_k (fun k_l3 a w=>∃ (x_2037 : List api_Value) (x_2041 : Int) (v_2038 : Value) (cs_2039 : List Value),group_together.l3 (group_together.l2 a0 a1 x_55 y_154 k_l2) a1 x_55 y_154 x_957 x_961 y_1785 k_l3 x_2037 x_2041 = some r ∧ Reps ty_api_Value R_1779 cs_2039 x_2037 ∧ Kn 95 a [(4,.pointer (some ⟨b_2,0,none⟩)),(6,.pointer (some ⟨b_3,0,none⟩)),(7,v_56),(10,.pointer (some ⟨b_153,0,none⟩)),(13,v_2038),(41,v_159),(42,I6 (y_154.length : Int)),(43,I6 x_961),(52,v_1787),(53,I6 (y_1785.length : Int)),(54,I6 x_2041)] ∧ St [] w0 w R_1779 [.cells b_2 [I6 a1] 3,.cells b_3 [.slice none 0 0,.slice none 0 0] 35,.row 3 1 v_56 x_55.length cs_57,.row 53 1 v_958 x_957.length cs_959,.cells b_153 [v0_0,v_958] 35,.row 52 11 v_2038 x_2037.length cs_2039,.row 33 1 v_159 y_154.length cs_160]) (((y_1785.length : Int) - 0).toNat + 1) ?_ ?_
 have s:=s.pk6
 have s:=s.pk1
 have s:=s.pk6
 have s:=s.pk6
 have s:=s.pk6
 have s:=s.pk6
 have s:=s.pk6
 exact ⟨y_1777,0,_,_,H,hq_1784,q.sub (zc (zc (zc (zc (zc (zc (zc (zc (zc (zc (zc zz))))))))))),s⟩
 rintro k_l3 a w ⟨x_2037,x_2041,v_2038,cs_2039,H,hq_2040,q,s⟩
 rcases k_l3 with _ | k_l3
 cases H
 rw [group_together.l3.eq_2] at H
 refine zq<|zr<|zl q (r_ibin q rfl rfl rfl) fun a q=>zn<|zq ?_
 refine wp_cond_split (q.ev rfl) (fun (hb_2288 : (decide (x_2041 < (y_1785.length : Int))) = true)=>?_) fun hb_2288=>?_
 rw [ifb_t hb_2288] at H
 refine wp_skip<|zq ?_
 refine wp_block ?_
 refine zq<|zr ?_
 obtain ⟨y_2289,h_2290,H⟩:=bs H
 obtain ⟨b_2291,o_2292,c_2293,cs_2294,hv_2295,hr_2296,hc_2297,h_22900,h_22901⟩:=hs_1788.ix h_2290
 obtain ⟨v_2298,rfl,hs_2299⟩:=hr_2296
 refine zl q (r_indexAddr_R underlying33 sizeOf53 hv_2295 h_22900 h_22901 q rfl rfl) fun a q=>zl q (r_load isAgg53 q rfl ((s.sub.le hl_1780.le).cell (hc_2297 0 _ rfl))) fun a q=>za q rfl fun a q=>zn<|zq<|zr<|zm q rfl fun a q=>zl q (r_len_O underlying43 s z2 q rfl) fun a q=>zm q rfl fun a q=>zn ?_
 refine wp_block ?_
 refine wp_loop_k (fun k_l4 a w=>∃ (x_2377 : List api_Value) (x_2381 : Int) (v_2378 : Value) (cs_2379 : List Value),group_together.l4 (group_together.l3 (group_together.l2 a0 a1 x_55 y_154 k_l2) a1 x_55 y_154 x_957 x_961 y_1785 k_l3) a1 x_55 y_1785 x_2041 y_2289 k_l4 x_2377 x_2381 = some r ∧ Reps ty_api_Value R_1779 cs_2379 x_2377 ∧ Kn 95 a [(4,.pointer (some ⟨b_2,0,none⟩)),(6,.pointer (some ⟨b_3,0,none⟩)),(7,v_56),(10,.pointer (some ⟨b_153,0,none⟩)),(13,v_2378),(15,v_2298),(41,v_159),(42,I6 (y_154.length : Int)),(43,I6 x_961),(52,v_1787),(53,I6 (y_1785.length : Int)),(54,I6 x_2041),(58,v_56),(59,I6 (x_55.length : Int)),(60,I6 x_2381)] ∧ St [] w0 w R_1779 [.cells b_2 [I6 a1] 3,.cells b_3 [.slice none 0 0,.slice none 0 0] 35,.row 3 1 v_56 x_55.length cs_57,.row 53 1 v_958 x_957.length cs_959,.cells b_153 [v0_0,v_958] 35,.row 52 11 v_2378 x_2377.length cs_2379,.row 33 1 v_159 y_154.length cs_160]) (((x_55.length : Int) - 0).toNat + 1) ?_ ?_
 have s:=s.pk6
 have s:=s.pk6
 have s:=s.pk6
 have s:=s.pk6
 have s:=s.pk6
 have s:=s.pk6
 have s:=s.pk6
 exact ⟨x_2037,0,_,_,H,hq_2040,q.sub (zc (zc (zc (zc (zc (zc (zc (zc (zc (zc (zc (zc (zc (zc (zc zz))))))))))))))),s⟩
 rintro k_l4 a w ⟨x_2377,x_2381,v_2378,cs_2379,H,hq_2380,q,s⟩
 rcases k_l4 with _ | k_l4
 cases H
 rw [group_together.l4.eq_2] at H
 refine zq<|zr<|zl q (r_ibin q rfl rfl rfl) fun a q=>zn<|zq ?_
 refine wp_cond_split (q.ev rfl) (fun (hb_2458 : (decide (x_2381 < (x_55.length : Int))) = true)=>?_) fun hb_2458=>?_
 rw [ifb_t hb_2458] at H
 refine wp_skip<|zq ?_
 refine wp_block ?_
 refine zq<|zr<|zm q rfl fun a q=>?_
 obtain ⟨y_2459,h_2460,H⟩:=bs H
 obtain ⟨b_2462,c_2463,cs_2464,hv_2461,hr_2465,hc_2466,h_24600,h_24601⟩:=s.row_ix z2 (hq_58.mono (hl_157.le.trans (hl_963.le.trans hl_1780.le))) rfl rfl h_2460
 subst hr_2465
 refine zl q (r_indexAddr_R underlying43 sizeOf3 hv_2461 h_24600 h_24601 q rfl rfl) fun a q=>zl q (r_load isAgg3 q rfl (s.row_cell z2 hv_2461 (hc_2466 0 _ rfl))) fun a q=>za q rfl fun a q=>za q rfl fun a q=>zn ?_
 refine parT_region (C:=fun w=>St [] w0 w R_1779 [.cells b_2 [I6 a1] 3,.cells b_3 [.slice none 0 0,.slice none 0 0] 35,.row 3 1 v_56 x_55.length cs_57,.row 53 1 v_958 x_957.length cs_959,.cells b_153 [v0_0,v_958] 35,.row 52 11 v_2378 x_2377.length cs_2379,.row 33 1 v_159 y_154.length cs_160]) 18 [(0,true),(1,true),(2,true),(3,true),(4,true),(5,true),(6,true),(7,true),(8,true),(9,true),(10,true),(11,true),(12,true),(13,true),(14,true),(15,true),(16,true),(17,false)] mixed (by kernel_rfl) s (fun w s=>s) fun w s=>?_
 refine zp rfl q (fun w s=>r_move q rfl) fun a q=>zp rfl q (fun w s=>r_load isAgg3 q rfl (s.cell z0 rfl)) fun a q=>zp rfl q (fun w s=>r_move q rfl) fun a q=>zp rfl q (fun w s=>r_ibin q rfl rfl rfl) fun a q=>zp rfl q (fun w s=>r_move q rfl) fun a q=>zp rfl q (fun w s=>r_move q rfl) fun a q=>zp rfl q (fun w s=>r_load isAgg3 q rfl (s.cell z0 rfl)) fun a q=>zp rfl q (fun w s=>r_move q rfl) fun a q=>zp rfl q (fun w s=>r_ibin q rfl rfl rfl) fun a q=>?_
 obtain ⟨y_2500,h_2501,H⟩:=bs H
 obtain ⟨b_2503,c_2504,cs_2505,hv_2502,hr_2506,hc_2507,h_25010,h_25011⟩:=s.row_ix z5 hq_2380 rfl rfl h_2501
 subst hr_2506
 refine zp rfl q (fun w s=>r_indexAddr_R underlying53 sizeOf52 hv_2502 h_25010 h_25011 q rfl rfl) fun a q=>zp rfl q (fun w s=>r_loadA (cs:=(cV y_2500)) isAgg52 sizeOf52 rfl q rfl (fun j v hv=>by have:=s.row_cell z5 hv_2502 (hc_2507 j v hv); simpa [Nat.add_assoc] using this)) fun a q=>?_
 refine zp rfl q (fun w s=>r_move q rfl) fun a q=>zp rfl q (fun w s=>r_load isAgg3 q rfl (s.cell z0 rfl)) fun a q=>zp rfl q (fun w s=>r_move q rfl) fun a q=>zp rfl q (fun w s=>r_ibin q rfl rfl rfl) fun a q=>?_
 obtain ⟨y_2508,h_2509,H⟩:=bs H
 obtain ⟨b_2510,o_2511,c_2512,cs_2513,hv_2514,hr_2515,hc_2516,h_25090,h_25091⟩:=hs_2299.ix h_2509
 subst hr_2515
 refine zp rfl q (fun w s=>r_indexAddr_R underlying53 sizeOf52 hv_2514 h_25090 h_25091 q rfl rfl) fun a q=>zp rfl q (fun w s=>r_loadA (cs:=(cV y_2508)) isAgg52 sizeOf52 rfl q rfl (fun j v hv=>(s.sub.le hl_1780.le).cell (hc_2516 j v hv))) fun a q=>?_
 refine spw (k:=17) rfl rfl s ?_
 obtain ⟨y_2517,h_2518,H⟩:=bs H
 refine sl_callV call58 s q (by decide) rfl rfl rfl (group_lay.calls y_2459 y_2500 y_2508 h_2518 _) fun a w s q=>?_
 refine parK_nil s ?_
 refine thenL_nil ?_
 obtain ⟨y_2519,h_2520,H⟩:=bs H
 obtain ⟨b_2522,c_2523,cs_2524,hv_2521,hr_2525,hc_2526,h_25200,h_25201⟩:=s.row_ix z5 hq_2380 rfl rfl h_2520
 subst hr_2525
 refine zl q (r_indexAddr_R underlying53 sizeOf52 hv_2521 h_25200 h_25201 q rfl rfl) fun a q=>?_
 have s:=s.pk5
 refine sl_store_rowA (es:=(cV y_2519)) (vs:=(cV y_2517)) (ps:=0) sizeOf52 hv_2521 h_2520 rfl rfl hc_2526 rfl (Nat.le_of_ble_eq_true rfl) (Nat.le_of_ble_eq_true rfl) (show Ty.rep ty_api_Value _ (spl (cV y_2519) 0 (cV y_2517)) y_2517 from rfl) hq_2380 rfl s q rfl rfl rfl (zc (zc (zc (zc (zc (zc (zc (zc (zc (zc (zc zz))))))))))) fun a w cs_2527 hq_2528 s q=>?_
 obtain ⟨z_2532,h_2530⟩:=ix_upd (IntKind.i64.wrap (a1 + x_2381)) y_2517 h_2501
 have hv_2531 : v_2378 = Value.slice (some ⟨b_2503,0,none⟩) (upd x_2377 (IntKind.i64.wrap (a1 + x_2381)) y_2517).length c_2504:=by rw [upd_length]; exact hv_2502
 refine wpList_nil (NoP_nil ?_)
 refine zr<|zl q (r_ibin q rfl rfl rfl) fun a q=>zm q rfl fun a q=>zn ?_
 have s:=s.pk6
 have s:=s.pk1
 have s:=s.pk6
 have s:=s.pk6
 have s:=s.pk6
 have s:=s.pk6
 have s:=s.pk6
 exact ⟨_,Nat.lt_succ_self _,(upd x_2377 (IntKind.i64.wrap (a1 + x_2381)) y_2517),(IntKind.i64.wrap (x_2381 + 1)),_,_,H,hq_2528,q.sub (zc (zc (zc (zc (zc (zc (zc (zc (zc (zc (zc (zc (zc (zc (zc zz))))))))))))))),s⟩
 rw [ifb_f hb_2458] at H
 refine wp_exit ?_
 refine zr<|zl q (r_ibin q rfl rfl rfl) fun a q=>zm q rfl fun a q=>zn ?_
 have s:=s.pk6
 have s:=s.pk6
 have s:=s.pk6
 have s:=s.pk6
 have s:=s.pk6
 have s:=s.pk6
 have s:=s.pk6
 exact ⟨_,Nat.lt_succ_self _,x_2377,(IntKind.i64.wrap (x_2041 + 1)),_,_,H,hq_2380,q.sub (zc (zc (zc (zc (zc (zc (zc (zc (zc (zc (zc zz))))))))))),s⟩
 rw [ifb_f hb_2288] at H
 refine wp_exit ?_
 refine zr<|zl q (r_fieldAddr underlying35 rfl sizeOf33 q rfl) fun a q=>zl q (r_load isAgg33 q rfl (s.cell z4 rfl)) fun a q=>zm q rfl fun a q=>?_
 have ho_2533:=s.row_one z5
 refine sl_buildSliceF (zc:=[.slice none 0 0]) (ps:=[(0,v_2038)]) (c:=[v_2038]) [[v_2038]] underlying33 sizeOf53 zeroValue53 rfl (pc_cons (cells1 ho_2533) pc_nil) rfl rfl (Nat.le_of_ble_eq_true rfl) rfl (zc zz) rfl s q (by decide) rfl fun a w b_2534 s q=>?_
 have s:=s.pk4
 have s:=s.pk6
 obtain ⟨R_2535,s,hl_2537,hs_2536⟩:=s.fz_row hq_2040 rfl rfl
 have hRL:=hRL.trans hl_2537
 obtain ⟨y_2538,h_2539,H⟩:=bs H
 refine sl_append_L (ty:=(tySl ty_api_Value)) (ys:=[x_2037]) elT33 (by decide) rfl (hq_960.mono (hl_1780.le.trans hl_2537.le)) rfl (Reps.cons (show Ty.rep (tySl ty_api_Value) _ [v_2038] x_2037 from ⟨_,rfl,hs_2536⟩) (Reps.nil _ _)) rfl h_2539 s q (by decide) rfl rfl rfl fun a w v_2540 cs_2541 hq_2542 s q=>?_
 refine zl q (r_fieldAddr underlying35 rfl sizeOf33 q rfl) fun a q=>?_
 have s:=s.pk4
 refine sl_store1 (c':=[v0_0,v_2540]) sizeOf33 s q rfl rfl rfl (s.row_one z1) (Nat.le_of_ble_eq_true rfl) rfl fun a w s q=>?_
 refine zn<|zr<|zl q (r_ibin q rfl rfl rfl) fun a q=>zm q rfl fun a q=>zn ?_
 have s:=s.pk5
 have s:=s.pk1
 have s:=s.pk2
 have s:=s.pk5
 have s:=s.pk5
 have s:=s.pk5
 exact ⟨_,Nat.lt_succ_self _,y_2538,(IntKind.i64.wrap (x_961 + 1)),_,_,_,H,(hl_963.trans (hl_1780.trans hl_2537)),hq_2542,q.sub (zc (zc (zc (zc (zc (zc (zc zz))))))),s⟩
 rw [ifb_f hb_1755] at H
 refine wp_exit ?_
 refine zq<|zr<|zl q (r_loadA (cs:=[v0_0,v_958]) isAgg35 sizeOf35 rfl q rfl (s.cells_of (m:=2) z4 rfl)) fun a q=>?_
 obtain ⟨y_2544,h_2545,H⟩:=bs H
 refine sl_call call45 q (by decide) rfl rfl rfl (table_Canon.calls (⟨a0.Cols,x_957⟩ : api_Table) (lentOf_sub [] _) s.sub (h0_0.mono ((hl_157.le.trans hl_963.le).trans s.rLe0)) (s.lend_row0 z3 hq_960 rfl rfl) h_2545) fun a v_ w hv_ q=>?_
 obtain ⟨R_2546,v_2549,cs_2550,v_2553,cs_2554,hv_,hr_,hl_2547,hq_2551,hq_2555,hap_2556⟩:=hv_
 have hv_:=hv_.symm
 subst hv_
 obtain ⟨s,hl_2547⟩:=s.sp0.back hr_ hl_2547
 have s:=s.un2
 have hRL:=hRL.trans hl_2547
 have s:=s.pk3
 refine sl_storeA (vs:=[v_2549,v_2553]) (c':=[v_2549,v_2553]) sizeOf35 s q rfl rfl rfl rfl (all_cons (s.row_one z1) (all_cons (s.row_one z2) zz)) (Nat.le_of_ble_eq_true rfl) rfl fun a w s q=>?_
 refine zn ?_
 obtain rfl:=Option.some.inj H
 refine wp_ret ?_
 repeat first | refine zt ?_ | refine zb ?_ | refine zo ?_
 exact ret_1 results35 q (rv_cell (c:=[v_2549,v_2553]) isAgg35 sizeOf35 s z0 rfl q rfl) ⟨_,rfl,_,_,_,_,_,rfl,(s.pk2.pk2.trunc 2),hRL,hq_2551,hq_2555⟩
theorem group_Partial.calls (a0 : api_Table) (a1 : List ByteArray) (a2 : List api_Agg) {w0 : World} {R : Hp} {RA : Hp} {v0_0 : Value} {v0_1 : Value} {v1_0 : Value} {v2_0 : Value} (hRA : RA.sub w0) (hR : R.sub w0) (h0_0 : SlR ty_api_Col R v0_0 a0.Cols) (h0_1 : SlR (tySl ty_api_Value) R v0_1 a0.Rows) (h1_0 : SlR tyStr R v1_0 a1) (h2_0 : SlR ty_api_Agg R v2_0 a2) (hG : GF RA) {r : api_Table × Int} (H : group_Partial a0 a1 a2 = some r) : Calls prog 15 #[.agg #[v0_0,v0_1],v1_0,v2_0] w0 (Rets fun v w'=>∃ (R' : Hp) (u0 : Value) (cu0 : List Value) (u1 : Value) (cu1 : List Value),v = .tuple #[.agg #[u0,u1],I6 r.2] ∧ St [] w0 w' R' [.row 47 2 u0 r.1.Cols.length cu0,.row 53 1 u1 r.1.Rows.length cu1] ∧ RLe [] w0 R R' ∧ Reps ty_api_Col R' cu0 r.1.Cols ∧ Reps (tySl ty_api_Value) R' cu1 r.1.Rows):=by
 unfold group_Partial at H
 refine enter (args:=[.agg #[v0_0,v0_1],v1_0,v2_0]) func15 rfl ntmps15 rfl fun a q=>?_
 have s:=St.init hR
 have hRL:=RLe.refl (M:=[]) w0 R
 refine zq<|zr ?_
 refine sl_box s q (by decide) rfl rfl (c:=[v0_0,v0_1]) rfl fun a w b_1 s q=>?_
 refine sl_alloc zeroValue35 s q (by decide) rfl rfl fun a w b_2 s q=>?_
 refine za q rfl fun a q=>zn<|zq<|zq<|zr<|zl q (r_loadA (cs:=[v0_0,v0_1]) isAgg35 sizeOf35 rfl q rfl (s.cells_of (m:=2) z1 rfl)) fun a q=>?_
 obtain ⟨y_3,h_4,H⟩:=bs H
 refine sl_callV call28 s q (by decide) rfl rfl rfl (table_Check.calls a0 (lentOf_sub [] _) (h0_0.mono s.rLe0) (h0_1.mono s.rLe0) h_4) fun a w s q=>?_
 refine za q rfl fun a q=>zn<|zq<|zr<|zm q rfl fun a q=>zl q (r_ibin q rfl rfl rfl) fun a q=>zn ?_
 refine wp_cond_split (q.ev rfl) (fun (hb_5 : (y_3 != 0) = true)=>?_) fun hb_5=>?_
 rw [ifb_t hb_5] at H
 refine zq<|zr<|zl q (r_buildC (ps:=[]) (c:=[.slice none 0 0,.slice none 0 0]) underlying35 zeroValue35 places35 q rfl pc_nil rfl rfl) fun a q=>zm q rfl fun a q=>?_
 refine sl_storeA (vs:=[.slice none 0 0,.slice none 0 0]) (c':=[.slice none 0 0,.slice none 0 0]) sizeOf35 s q rfl rfl rfl rfl (zc (zc zz)) (Nat.le_of_ble_eq_true rfl) rfl fun a w s q=>?_
 refine za q rfl fun a q=>zn ?_
 have s:=s.row_nil 47 2
 have hq_7 : Reps ty_api_Col R [] ([] : List api_Col):=Reps.nil _ _
 have s:=s.row_nil 53 1
 have hq_9 : Reps (tySl ty_api_Value) R [] ([] : List (List api_Value)):=Reps.nil _ _
 obtain rfl:=Option.some.inj H
 refine wp_ret ?_
 repeat first | refine zt ?_ | refine zb ?_ | refine zo ?_
 exact ret_2 results15 q (rv_cell (c:=[(.slice none 0 0),(.slice none 0 0)]) isAgg35 sizeOf35 s z2 rfl q rfl) (rv_tmp q rfl) ⟨_,rfl,_,_,_,_,_,rfl,(s.pk1.trunc 2),hRL,hq_7,hq_9⟩
 rw [ifb_f hb_5] at H
 refine wp_skip<|zq<|zr<|zl q (r_fieldAddr underlying35 rfl sizeOf22 q rfl) fun a q=>zl q (r_load isAgg22 q rfl (s.cell z1 rfl)) fun a q=>zm q rfl fun a q=>zm q rfl fun a q=>?_
 obtain ⟨y_10,h_11,H⟩:=bs H
 refine sl_call call11 q (by decide) rfl rfl rfl (group_Cols.calls a0.Cols a1 a2 (lentOf_sub [] _) s.sub h0_0 h1_0 h2_0 (GF.mono (s.raLe0 hRA nil_not) hG) h_11) fun a v_ w hv_ q=>?_
 obtain ⟨R_12,v_15,cs_16,v_18,hv_,hr_,hl_13,hq_17,hs_19⟩:=hv_
 have hv_:=hv_.symm
 subst hv_
 obtain ⟨s,hl_13⟩:=s.sp0.back hr_ hl_13
 have s:=s.un1
 have hRL:=hRL.trans hl_13
 refine zm q rfl fun a q=>zl q (r_extract q rfl rfl) fun a q=>zl q (r_extract q rfl rfl) fun a q=>zl q (r_extract q rfl rfl) fun a q=>za q rfl fun a q=>za q rfl fun a q=>za q rfl fun a q=>zn<|zq<|zq<|zr<|zm q rfl fun a q=>zl q (r_un q rfl (u_not _)) fun a q=>zn ?_
 refine wp_cond_split (q.ev rfl) (fun (hb_20 : (!y_10.2.2) = true)=>?_) fun hb_20=>?_
 rw [ifb_t hb_20] at H
 refine zq<|zr<|zl q (r_buildC (ps:=[]) (c:=[.slice none 0 0,.slice none 0 0]) underlying35 zeroValue35 places35 q rfl pc_nil rfl rfl) fun a q=>?_
 have s:=s.pk1
 refine sl_storeA (vs:=[.slice none 0 0,.slice none 0 0]) (c':=[.slice none 0 0,.slice none 0 0]) sizeOf35 s q rfl rfl rfl rfl (zc (zc zz)) (Nat.le_of_ble_eq_true rfl) rfl fun a w s q=>?_
 refine za q rfl fun a q=>zn ?_
 have s:=s.row_nil 47 2
 have hq_22 : Reps ty_api_Col R_12 [] ([] : List api_Col):=Reps.nil _ _
 have s:=s.row_nil 53 1
 have hq_24 : Reps (tySl ty_api_Value) R_12 [] ([] : List (List api_Value)):=Reps.nil _ _
 obtain rfl:=Option.some.inj H
 refine wp_ret ?_
 repeat first | refine zt ?_ | refine zb ?_ | refine zo ?_
 exact ret_2 results15 q (rv_cell (c:=[(.slice none 0 0),(.slice none 0 0)]) isAgg35 sizeOf35 s z2 rfl q rfl) (rv_tmp q rfl) ⟨_,rfl,_,_,_,_,_,rfl,(s.pk1.trunc 2),hRL,hq_22,hq_24⟩
 rw [ifb_f hb_20] at H
 refine wp_skip<|zq<|zr<|zm q rfl fun a q=>?_
 have ho_25:=s.row_one z0
 refine zl q (r_buildC (ps:=[(0,v_15)]) (c:=[v_15,.slice none 0 0]) underlying35 zeroValue35 places35 q rfl (pc_cons (cells1 ho_25) pc_nil) rfl rfl) fun a q=>?_
 refine sl_alloc zeroValue35 s q (by decide) rfl rfl fun a w b_26 s q=>?_
 refine sl_storeA (vs:=[v_15,.slice none 0 0]) (c':=[v_15,.slice none 0 0]) sizeOf35 s q rfl rfl rfl rfl (all_cons (s.row_one z1) (zc zz)) (Nat.le_of_ble_eq_true rfl) rfl fun a w s q=>?_
 refine zn<|zq<|zq<|zr<|zl q (r_fieldAddr underlying35 rfl sizeOf33 q rfl) fun a q=>zl q (r_load isAgg33 q rfl (s.cell z3 rfl)) fun a q=>zl q (r_len_R underlying33 h0_1 q rfl) fun a q=>zm q rfl fun a q=>zn ?_
 refine wp_block ?_
 refine wp_loop_k (fun k_l0 a w=>∃ (x_335 : List (List api_Value)) (x_339 : Int) (R_340 : Hp) (v_336 : Value) (cs_337 : List Value),group_Partial.l0 a0 a1 a2 y_10 k_l0 x_335 x_339 = some r ∧ RLe [] w0 R_12 R_340 ∧ Reps (tySl ty_api_Value) R_340 cs_337 x_335 ∧ Kn 103 a [(1,v1_0),(2,v2_0),(3,.pointer (some ⟨b_1,0,none⟩)),(6,.pointer (some ⟨b_2,0,none⟩)),(12,.pointer (some ⟨b_26,0,none⟩)),(42,v0_1),(43,I6 (a0.Rows.length : Int)),(44,I6 x_339)] ∧ St [] w0 w R_340 [.cells b_1 [v0_0,v0_1] 35,.cells b_2 [.slice none 0 0,.slice none 0 0] 35,.row 47 2 v_15 y_10.1.length cs_16,.row 53 1 v_336 x_335.length cs_337,.cells b_26 [v_15,v_336] 35]) (((a0.Rows.length : Int) - 0).toNat + 1) ?_ ?_
 have s:=s.row_nil 53 1
 have hq_645 : Reps (tySl ty_api_Value) R_12 [] ([] : List (List api_Value)):=Reps.nil _ _
 have s:=s.pk1
 have s:=s.pk1
 have s:=s.pk2
 have s:=s.pk3
 have s:=s.pk4
 exact ⟨[],0,_,_,_,H,(RLe.refl _ _),hq_645,q.sub (zc (zc (zc (zc (zc (zc (zc (zc zz)))))))),s⟩
 rintro k_l0 a w ⟨x_335,x_339,R_340,v_336,cs_337,H,hl_341,hq_338,q,s⟩
 rcases k_l0 with _ | k_l0
 cases H
 rw [group_Partial.l0.eq_2] at H
 have hRL:=hRL.trans hl_341
 refine zq<|zr<|zl q (r_ibin q rfl rfl rfl) fun a q=>zn<|zq ?_
 refine wp_cond_split (q.ev rfl) (fun (hb_646 : (decide (x_339 < (a0.Rows.length : Int))) = true)=>?_) fun hb_646=>?_
 rw [ifb_t hb_646] at H
 refine wp_skip<|zq ?_
 refine wp_block ?_
 refine zq<|zr ?_
 obtain ⟨y_647,h_648,H⟩:=bs H
 obtain ⟨b_649,o_650,c_651,cs_652,hv_653,hr_654,hc_655,h_6480,h_6481⟩:=h0_1.ix h_648
 obtain ⟨v_656,rfl,hs_657⟩:=hr_654
 refine zl q (r_indexAddr_R underlying33 sizeOf53 hv_653 h_6480 h_6481 q rfl rfl) fun a q=>zl q (r_load isAgg53 q rfl ((s.sub.le (hl_13.le.trans hl_341.le)).cell (hc_655 0 _ rfl))) fun a q=>?_
 refine sl_alloc zeroValue53 s q (by decide) rfl rfl fun a w b_658 s q=>?_
 refine sl_store1 (c':=[v_656]) sizeOf53 s q rfl rfl rfl hs_657.one (Nat.le_of_ble_eq_true rfl) rfl fun a w s q=>?_
 refine zn<|zq<|zr<|zl q (r_func (us:=[]) (vs:=[.pointer (some ⟨b_658,0,none⟩),.pointer (some ⟨b_1,0,none⟩)]) rfl (q.evs rfl)) fun a q=>za q rfl fun a q=>zn<|zq<|zr<|za q rfl fun a q=>zn<|zq<|zq<|zr<|zm q rfl fun a q=>zl q (r_len_R underlying23 h1_0 q rfl) fun a q=>zm q rfl fun a q=>zn ?_
 refine wp_block ?_
 refine wp_loop_k (fun k_l1 a w=>∃ (x_682 : List api_Value) (x_686 : Int) (v_683 : Value) (cs_684 : List Value),group_Partial.l1 (group_Partial.l0 a0 a1 a2 y_10 k_l0) a0 a1 a2 x_335 x_339 y_647 k_l1 x_682 x_686 = some r ∧ Reps ty_api_Value R_340 cs_684 x_682 ∧ Kn 103 a [(1,v1_0),(2,v2_0),(3,.pointer (some ⟨b_1,0,none⟩)),(6,.pointer (some ⟨b_2,0,none⟩)),(12,.pointer (some ⟨b_26,0,none⟩)),(15,.func (.func 32) #[] #[.pointer (some ⟨b_658,0,none⟩),.pointer (some ⟨b_1,0,none⟩)]),(16,v_683),(42,v0_1),(43,I6 (a0.Rows.length : Int)),(44,I6 x_339),(49,v1_0),(50,I6 (a1.length : Int)),(51,I6 x_686)] ∧ St [] w0 w R_340 [.cells b_1 [v0_0,v0_1] 35,.cells b_2 [.slice none 0 0,.slice none 0 0] 35,.row 47 2 v_15 y_10.1.length cs_16,.row 53 1 v_336 x_335.length cs_337,.cells b_26 [v_15,v_336] 35,.cells b_658 [v_656] 53,.row 52 11 v_683 x_682.length cs_684]) (((a1.length : Int) - 0).toNat + 1) ?_ ?_
 have s:=s.row_nil 52 11
 have hq_708 : Reps ty_api_Value R_340 [] ([] : List api_Value):=Reps.nil _ _
 have s:=s.pk1
 have s:=s.pk6
 have s:=s.pk6
 have s:=s.pk6
 have s:=s.pk6
 have s:=s.pk6
 exact ⟨[],0,_,_,H,hq_708,q.sub (zc (zc (zc (zc (zc (zc (zc (zc (zc (zc (zc (zc (zc zz))))))))))))),s⟩
 rintro k_l1 a w ⟨x_682,x_686,v_683,cs_684,H,hq_685,q,s⟩
 rcases k_l1 with _ | k_l1
 cases H
 rw [group_Partial.l1.eq_2] at H
 refine zq<|zr<|zl q (r_ibin q rfl rfl rfl) fun a q=>zn<|zq ?_
 refine wp_cond_split (q.ev rfl) (fun (hb_709 : (decide (x_686 < (a1.length : Int))) = true)=>?_) fun hb_709=>?_
 rw [ifb_t hb_709] at H
 refine wp_skip<|zq ?_
 refine wp_block ?_
 refine zq<|zr ?_
 obtain ⟨y_710,h_711,H⟩:=bs H
 obtain ⟨b_712,o_713,c_714,cs_715,hv_716,hr_717,hc_718,h_7110,h_7111⟩:=h1_0.ix h_711
 subst hr_717
 refine zl q (r_indexAddr_R underlying23 sizeOf9 hv_716 h_7110 h_7111 q rfl rfl) fun a q=>zl q (r_load isAgg9 q rfl ((s.sub.le (hl_13.le.trans hl_341.le)).cell (hc_718 0 _ rfl))) fun a q=>za q rfl fun a q=>zn<|zr<|zm q rfl fun a q=>zm q rfl fun a q=>zm q rfl fun a q=>?_
 obtain ⟨y_719,h_720,H⟩:=bs H
 refine sl_callV call32 s q (by decide) rfl rfl rfl (group_Partial_1_cp_cp.calls y_710 y_647 a0 (lentOf_sub [] _) (s.lend_box0 z5) (hs_657.mono ((hl_13.le.trans hl_341.le).trans s.rLe0)) (s.lend_box0 z0) (h0_0.mono ((hl_13.le.trans hl_341.le).trans s.rLe0)) (h0_1.mono ((hl_13.le.trans hl_341.le).trans s.rLe0)) h_720) fun a w s q=>?_
 refine sl_buildSliceF (zc:=[I6 0,I6 0,.string (⟨#[]⟩ : ByteArray),I6 0,I6 0,I6 0,I6 0,I6 0,I6 0,I6 0,I6 0]) (ps:=[(0,.agg ⟨cV y_719⟩)]) (c:=(cV y_719)) [(cV y_719)] underlying53 sizeOf52 zeroValue52 rfl (pc_cons rfl pc_nil) rfl rfl (Nat.le_of_ble_eq_true rfl) rfl (zc zz) rfl s q (by decide) rfl fun a w b_721 s q=>?_
 obtain ⟨y_722,h_723,H⟩:=bs H
 have s:=s.pk7
 refine sl_append_L (ty:=ty_api_Value) (ys:=[y_719]) elT53 (by decide) rfl hq_685 rfl (Reps.cons (show Ty.rep ty_api_Value _ (cV y_719) y_719 from rfl) (Reps.nil _ _)) rfl h_723 s q (by decide) rfl rfl rfl fun a w v_724 cs_725 hq_726 s q=>?_
 refine za q rfl fun a q=>zn<|zr<|zl q (r_ibin q rfl rfl rfl) fun a q=>zm q rfl fun a q=>zn ?_
 have s:=s.pk6
 have s:=s.pk6
 have s:=s.pk6
 have s:=s.pk6
 have s:=s.pk6
 have s:=s.pk6
 exact ⟨_,Nat.lt_succ_self _,y_722,(IntKind.i64.wrap (x_686 + 1)),_,_,H,hq_726,q.sub (zc (zc (zc (zc (zc (zc (zc (zc (zc (zc (zc (zc (zc zz))))))))))))),s⟩
 rw [ifb_f hb_709] at H
 refine wp_exit ?_
 refine zq<|zq<|zr<|zm q rfl fun a q=>zl q (r_len_R underlying24 h2_0 q rfl) fun a q=>zm q rfl fun a q=>zn ?_
 refine wp_block ?_
 refine wp_loop_k (fun k_l2 a w=>∃ (x_797 : List api_Value) (x_801 : Int) (v_798 : Value) (cs_799 : List Value),group_Partial.l2 (group_Partial.l0 a0 a1 a2 y_10 k_l0) a0 a2 x_335 x_339 y_647 k_l2 x_797 x_801 = some r ∧ Reps ty_api_Value R_340 cs_799 x_797 ∧ Kn 103 a [(1,v1_0),(2,v2_0),(3,.pointer (some ⟨b_1,0,none⟩)),(6,.pointer (some ⟨b_2,0,none⟩)),(12,.pointer (some ⟨b_26,0,none⟩)),(15,.func (.func 32) #[] #[.pointer (some ⟨b_658,0,none⟩),.pointer (some ⟨b_1,0,none⟩)]),(16,v_798),(42,v0_1),(43,I6 (a0.Rows.length : Int)),(44,I6 x_339),(62,v2_0),(63,I6 (a2.length : Int)),(64,I6 x_801)] ∧ St [] w0 w R_340 [.cells b_1 [v0_0,v0_1] 35,.cells b_2 [.slice none 0 0,.slice none 0 0] 35,.row 47 2 v_15 y_10.1.length cs_16,.row 53 1 v_336 x_335.length cs_337,.cells b_26 [v_15,v_336] 35,.cells b_658 [v_656] 53,.row 52 11 v_798 x_797.length cs_799]) (((a2.length : Int) - 0).toNat + 1) ?_ ?_
 have s:=s.pk6
 have s:=s.pk6
 have s:=s.pk6
 have s:=s.pk6
 have s:=s.pk6
 have s:=s.pk6
 have s:=s.pk6
 exact ⟨x_682,0,_,_,H,hq_685,q.sub (zc (zc (zc (zc (zc (zc (zc (zc (zc (zc (zc (zc (zc zz))))))))))))),s⟩
 rintro k_l2 a w ⟨x_797,x_801,v_798,cs_799,H,hq_800,q,s⟩
 rcases k_l2 with _ | k_l2
 cases H
 rw [group_Partial.l2.eq_2] at H
 refine zq<|zr<|zl q (r_ibin q rfl rfl rfl) fun a q=>zn<|zq ?_
 refine wp_cond_split (q.ev rfl) (fun (hb_870 : (decide (x_801 < (a2.length : Int))) = true)=>?_) fun hb_870=>?_
 rw [ifb_t hb_870] at H
 refine wp_skip<|zq ?_
 refine wp_block ?_
 refine zq<|zr ?_
 obtain ⟨y_871,h_872,H⟩:=bs H
 obtain ⟨b_873,o_874,c_875,cs_876,hv_877,hr_878,hc_879,h_8720,h_8721⟩:=h2_0.ix h_872
 subst hr_878
 refine zl q (r_indexAddr_R underlying24 sizeOf49 hv_877 h_8720 h_8721 q rfl rfl) fun a q=>zl q (r_loadA (cs:=[I6 y_871.Kind,.string y_871.Col]) isAgg49 sizeOf49 rfl q rfl (fun j v hv=>(s.sub.le (hl_13.le.trans hl_341.le)).cell (hc_879 j v hv))) fun a q=>?_
 refine sl_alloc zeroValue49 s q (by decide) rfl rfl fun a w b_880 s q=>?_
 refine sl_storeA (vs:=[I6 y_871.Kind,.string y_871.Col]) (c':=[I6 y_871.Kind,.string y_871.Col]) sizeOf49 s q rfl rfl rfl rfl (zc (zc zz)) (Nat.le_of_ble_eq_true rfl) rfl fun a w s q=>?_
 refine zn<|zq<|zq<|zr<|zl q (r_fieldAddr underlying49 rfl sizeOf3 q rfl) fun a q=>zl q (r_load isAgg3 q rfl (s.cell z0 rfl)) fun a q=>zl q (r_ibin q rfl rfl rfl) fun a q=>zn ?_
 refine wp_mid (fun a w=>∃ (x_892 : List api_Value) (v_893 : Value) (cs_894 : List Value),group_Partial.j3 (group_Partial.l2 (group_Partial.l0 a0 a1 a2 y_10 k_l0) a0 a2 x_335 x_339 y_647 k_l2) a2 x_801 y_871 x_892 = some r ∧ Reps ty_api_Value R_340 cs_894 x_892 ∧ Kn 103 a [(1,v1_0),(2,v2_0),(3,.pointer (some ⟨b_1,0,none⟩)),(6,.pointer (some ⟨b_2,0,none⟩)),(12,.pointer (some ⟨b_26,0,none⟩)),(15,.func (.func 32) #[] #[.pointer (some ⟨b_658,0,none⟩),.pointer (some ⟨b_1,0,none⟩)]),(16,v_893),(20,.pointer (some ⟨b_880,0,none⟩)),(42,v0_1),(43,I6 (a0.Rows.length : Int)),(44,I6 x_339),(62,v2_0),(63,I6 (a2.length : Int)),(64,I6 x_801)] ∧ St [] w0 w R_340 [.cells b_1 [v0_0,v0_1] 35,.cells b_2 [.slice none 0 0,.slice none 0 0] 35,.row 47 2 v_15 y_10.1.length cs_16,.row 53 1 v_336 x_335.length cs_337,.cells b_26 [v_15,v_336] 35,.cells b_658 [v_656] 53,.row 52 11 v_893 x_892.length cs_894,.cells b_880 [I6 y_871.Kind,.string y_871.Col] 49]) ?_ ?_
 refine wp_cond_split (q.ev rfl) (fun (hb_897 : (y_871.Kind != 1) = true)=>?_) fun hb_897=>?_
 rw [ifb_t hb_897] at H
 refine zr<|zm q rfl fun a q=>zm q rfl fun a q=>zl q (r_fieldAddr underlying49 rfl sizeOf9 q rfl) fun a q=>zl q (r_load isAgg9 q rfl (s.cell z0 rfl)) fun a q=>?_
 obtain ⟨y_898,h_899,H⟩:=bs H
 refine sl_callV call32 s q (by decide) rfl rfl rfl (group_Partial_1_cp_cp.calls y_871.Col y_647 a0 (lentOf_sub [] _) (s.lend_box0 z6) (hs_657.mono ((hl_13.le.trans hl_341.le).trans s.rLe0)) (s.lend_box0 z1) (h0_0.mono ((hl_13.le.trans hl_341.le).trans s.rLe0)) (h0_1.mono ((hl_13.le.trans hl_341.le).trans s.rLe0)) h_899) fun a w s q=>?_
 refine sl_buildSliceF (zc:=[I6 0,I6 0,.string (⟨#[]⟩ : ByteArray),I6 0,I6 0,I6 0,I6 0,I6 0,I6 0,I6 0,I6 0]) (ps:=[(0,.agg ⟨cV y_898⟩)]) (c:=(cV y_898)) [(cV y_898)] underlying53 sizeOf52 zeroValue52 rfl (pc_cons rfl pc_nil) rfl rfl (Nat.le_of_ble_eq_true rfl) rfl (zc zz) rfl s q (by decide) rfl fun a w b_900 s q=>?_
 obtain ⟨y_901,h_902,H⟩:=bs H
 have s:=s.pk8
 refine sl_append_L (ty:=ty_api_Value) (ys:=[y_898]) elT53 (by decide) rfl hq_800 rfl (Reps.cons (show Ty.rep ty_api_Value _ (cV y_898) y_898 from rfl) (Reps.nil _ _)) rfl h_902 s q (by decide) rfl rfl rfl fun a w v_903 cs_904 hq_905 s q=>?_
 refine za q rfl fun a q=>zn ?_
 have s:=s.pk1
 have s:=s.pk1
 have s:=s.pk7
 have s:=s.pk7
 have s:=s.pk7
 have s:=s.pk7
 have s:=s.pk7
 have s:=s.pk7
 exact ⟨y_901,_,_,H,hq_905,q.sub (zc (zc (zc (zc (zc (zc (zc (zc (zc (zc (zc (zc (zc (zc zz)))))))))))))),s⟩
 rw [ifb_f hb_897] at H
 refine wp_skip ?_
 have s:=s.pk7
 have s:=s.pk7
 have s:=s.pk7
 have s:=s.pk7
 have s:=s.pk7
 have s:=s.pk7
 have s:=s.pk7
 exact ⟨x_797,_,_,H,hq_800,q.sub (zc (zc (zc (zc (zc (zc (zc (zc (zc (zc (zc (zc (zc (zc zz)))))))))))))),s⟩
 rintro a w ⟨x_892,v_893,cs_894,H,hq_895,q,s⟩
 unfold group_Partial.j3 at H
 refine zq ?_
 refine wp_mid (fun a w=>∃ (x_908 : Bool),group_Partial.j4 (group_Partial.l2 (group_Partial.l0 a0 a1 a2 y_10 k_l0) a0 a2 x_335 x_339 y_647 k_l2) a2 x_801 x_892 x_908 = some r ∧ Kn 103 a [(1,v1_0),(2,v2_0),(3,.pointer (some ⟨b_1,0,none⟩)),(6,.pointer (some ⟨b_2,0,none⟩)),(12,.pointer (some ⟨b_26,0,none⟩)),(15,.func (.func 32) #[] #[.pointer (some ⟨b_658,0,none⟩),.pointer (some ⟨b_1,0,none⟩)]),(16,v_893),(42,v0_1),(43,I6 (a0.Rows.length : Int)),(44,I6 x_339),(62,v2_0),(63,I6 (a2.length : Int)),(64,I6 x_801),(85,.bool x_908)] ∧ St [] w0 w R_340 [.cells b_1 [v0_0,v0_1] 35,.cells b_2 [.slice none 0 0,.slice none 0 0] 35,.row 47 2 v_15 y_10.1.length cs_16,.row 53 1 v_336 x_335.length cs_337,.cells b_26 [v_15,v_336] 35,.cells b_658 [v_656] 53,.row 52 11 v_893 x_892.length cs_894]) ?_ ?_
 refine zr<|zl q (r_fieldAddr underlying49 rfl sizeOf3 q rfl) fun a q=>zl q (r_load isAgg3 q rfl (s.cell z7 rfl)) fun a q=>zl q (r_ibin q rfl rfl rfl) fun a q=>zm q rfl fun a q=>?_
 rcases or_b (y_871.Kind == 1) with hb_910 | hb_910
 rw [ifb_t hb_910] at H
 refine zsw q (wft hb_910) fun a q=>zsw q (wft hb_910) fun a q=>zsw q (wft hb_910) fun a q=>zl q (r_pick_t hb_910 q rfl rfl) fun a q=>zn ?_
 have s:=s.pk6
 have s:=s.pk6
 have s:=s.pk6
 have s:=s.pk6
 have s:=s.pk6
 have s:=s.pk6
 have s:=s.pk6
 exact ⟨true,H,q.sub (zc (zc (zc (zc (zc (zc (zc (zc (zc (zc (zc (zc (zc (zc zz)))))))))))))),s.trunc 7⟩
 rw [ifb_f hb_910] at H
 refine zw q (wff hb_910) (r_fieldAddr underlying49 rfl sizeOf3 q rfl) fun a q=>zw q (wff hb_910) (r_load isAgg3 q rfl (s.cell z7 rfl)) fun a q=>zw q (wff hb_910) (r_ibin q rfl rfl rfl) fun a q=>zl q (r_pick_f hb_910 q rfl rfl) fun a q=>zn ?_
 have s:=s.pk6
 have s:=s.pk6
 have s:=s.pk6
 have s:=s.pk6
 have s:=s.pk6
 have s:=s.pk6
 have s:=s.pk6
 exact ⟨(y_871.Kind == 5),H,q.sub (zc (zc (zc (zc (zc (zc (zc (zc (zc (zc (zc (zc (zc (zc zz)))))))))))))),s.trunc 7⟩
 rintro a w ⟨x_908,H,q,s⟩
 unfold group_Partial.j4 at H
 refine wp_mid (fun a w=>∃ (x_922 : List api_Value) (v_923 : Value) (cs_924 : List Value),group_Partial.j5 (group_Partial.l2 (group_Partial.l0 a0 a1 a2 y_10 k_l0) a0 a2 x_335 x_339 y_647 k_l2) a2 x_801 x_922 = some r ∧ Reps ty_api_Value R_340 cs_924 x_922 ∧ Kn 103 a [(1,v1_0),(2,v2_0),(3,.pointer (some ⟨b_1,0,none⟩)),(6,.pointer (some ⟨b_2,0,none⟩)),(12,.pointer (some ⟨b_26,0,none⟩)),(15,.func (.func 32) #[] #[.pointer (some ⟨b_658,0,none⟩),.pointer (some ⟨b_1,0,none⟩)]),(16,v_923),(42,v0_1),(43,I6 (a0.Rows.length : Int)),(44,I6 x_339),(62,v2_0),(63,I6 (a2.length : Int)),(64,I6 x_801)] ∧ St [] w0 w R_340 [.cells b_1 [v0_0,v0_1] 35,.cells b_2 [.slice none 0 0,.slice none 0 0] 35,.row 47 2 v_15 y_10.1.length cs_16,.row 53 1 v_336 x_335.length cs_337,.cells b_26 [v_15,v_336] 35,.cells b_658 [v_656] 53,.row 52 11 v_923 x_922.length cs_924]) ?_ ?_
 refine wp_cond_split (q.ev rfl) (fun (hb_927 : x_908 = true)=>?_) fun hb_927=>?_
 rw [ifb_t hb_927] at H
 refine zr<|zm q rfl fun a q=>?_
 obtain ⟨y_928,h_929,H⟩:=bs H
 refine sl_callV call34 s q (by decide) rfl rfl rfl (value_OfInt.calls 1 h_929 _) fun a w s q=>?_
 refine sl_buildSliceF (zc:=[I6 0,I6 0,.string (⟨#[]⟩ : ByteArray),I6 0,I6 0,I6 0,I6 0,I6 0,I6 0,I6 0,I6 0]) (ps:=[(0,.agg ⟨cV y_928⟩)]) (c:=(cV y_928)) [(cV y_928)] underlying53 sizeOf52 zeroValue52 rfl (pc_cons rfl pc_nil) rfl rfl (Nat.le_of_ble_eq_true rfl) rfl (zc zz) rfl s q (by decide) rfl fun a w b_930 s q=>?_
 obtain ⟨y_931,h_932,H⟩:=bs H
 have s:=s.pk7
 refine sl_append_L (ty:=ty_api_Value) (ys:=[y_928]) elT53 (by decide) rfl hq_895 rfl (Reps.cons (show Ty.rep ty_api_Value _ (cV y_928) y_928 from rfl) (Reps.nil _ _)) rfl h_932 s q (by decide) rfl rfl rfl fun a w v_933 cs_934 hq_935 s q=>?_
 refine za q rfl fun a q=>zn ?_
 have s:=s.pk6
 have s:=s.pk6
 have s:=s.pk6
 have s:=s.pk6
 have s:=s.pk6
 have s:=s.pk6
 exact ⟨y_931,_,_,H,hq_935,q.sub (zc (zc (zc (zc (zc (zc (zc (zc (zc (zc (zc (zc (zc zz))))))))))))),s⟩
 rw [ifb_f hb_927] at H
 refine wp_skip ?_
 have s:=s.pk6
 have s:=s.pk6
 have s:=s.pk6
 have s:=s.pk6
 have s:=s.pk6
 have s:=s.pk6
 have s:=s.pk6
 exact ⟨x_892,_,_,H,hq_895,q.sub (zc (zc (zc (zc (zc (zc (zc (zc (zc (zc (zc (zc (zc zz))))))))))))),s⟩
 rintro a w ⟨x_922,v_923,cs_924,H,hq_925,q,s⟩
 unfold group_Partial.j5 at H
 refine zr<|zl q (r_ibin q rfl rfl rfl) fun a q=>zm q rfl fun a q=>zn ?_
 have s:=s.pk6
 have s:=s.pk6
 have s:=s.pk6
 have s:=s.pk6
 have s:=s.pk6
 have s:=s.pk6
 have s:=s.pk6
 exact ⟨_,Nat.lt_succ_self _,x_922,(IntKind.i64.wrap (x_801 + 1)),_,_,H,hq_925,q.sub (zc (zc (zc (zc (zc (zc (zc (zc (zc (zc (zc (zc (zc zz))))))))))))),s⟩
 rw [ifb_f hb_870] at H
 refine wp_exit ?_
 refine zr<|zl q (r_fieldAddr underlying35 rfl sizeOf33 q rfl) fun a q=>zl q (r_load isAgg33 q rfl (s.cell z4 rfl)) fun a q=>zm q rfl fun a q=>?_
 have ho_937:=s.row_one z6
 refine sl_buildSliceF (zc:=[.slice none 0 0]) (ps:=[(0,v_798)]) (c:=[v_798]) [[v_798]] underlying33 sizeOf53 zeroValue53 rfl (pc_cons (cells1 ho_937) pc_nil) rfl rfl (Nat.le_of_ble_eq_true rfl) rfl (zc zz) rfl s q (by decide) rfl fun a w b_938 s q=>?_
 have s:=s.pk4
 have s:=s.pk7
 obtain ⟨R_939,s,hl_941,hs_940⟩:=s.fz_row hq_800 rfl rfl
 have hRL:=hRL.trans hl_941
 obtain ⟨y_942,h_943,H⟩:=bs H
 refine sl_append_L (ty:=(tySl ty_api_Value)) (ys:=[x_797]) elT33 (by decide) rfl (hq_338.mono hl_941.le) rfl (Reps.cons (show Ty.rep (tySl ty_api_Value) _ [v_798] x_797 from ⟨_,rfl,hs_940⟩) (Reps.nil _ _)) rfl h_943 s q (by decide) rfl rfl rfl fun a w v_944 cs_945 hq_946 s q=>?_
 refine zl q (r_fieldAddr underlying35 rfl sizeOf33 q rfl) fun a q=>?_
 have s:=s.pk4
 refine sl_store1 (c':=[v_15,v_944]) sizeOf33 s q rfl rfl rfl (s.row_one z1) (Nat.le_of_ble_eq_true rfl) rfl fun a w s q=>?_
 refine zn<|zr<|zl q (r_ibin q rfl rfl rfl) fun a q=>zm q rfl fun a q=>zn ?_
 have s:=s.pk1
 have s:=s.pk4
 have s:=s.pk4
 have s:=s.pk4
 exact ⟨_,Nat.lt_succ_self _,y_942,(IntKind.i64.wrap (x_339 + 1)),_,_,_,H,(hl_341.trans hl_941),hq_946,q.sub (zc (zc (zc (zc (zc (zc (zc (zc zz)))))))),s.trunc 5⟩
 rw [ifb_f hb_646] at H
 refine wp_exit ?_
 refine zq<|zr<|zl q (r_loadA (cs:=[v_15,v_336]) isAgg35 sizeOf35 rfl q rfl (s.cells_of (m:=2) z4 rfl)) fun a q=>zm q rfl fun a q=>zl q (r_len_R underlying23 h1_0 q rfl) fun a q=>zm q rfl fun a q=>?_
 have s:=s.pk2
 obtain ⟨R_948,s,hl_950,hs_949⟩:=s.fz_row (hq_17.mono hl_341.le) rfl rfl
 have hRL:=hRL.trans hl_950
 have s:=s.pk2
 obtain ⟨R_951,s,hl_953,hs_952⟩:=s.fz_row (hq_338.mono hl_950.le) rfl rfl
 have hRL:=hRL.trans hl_953
 obtain ⟨y_954,h_955,H⟩:=bs H
 refine sl_call call35 q (by decide) rfl rfl rfl (group_together.calls (⟨y_10.1,x_335⟩ : api_Table) (a1.length : Int) a2 (lentOf_sub [] _) s.sub (hs_949.mono hl_953.le) hs_952 (h2_0.mono ((hl_13.le.trans (hl_341.le.trans (hl_950.le.trans hl_953.le))).trans s.rLe0)) h_955) fun a v_ w hv_ q=>?_
 obtain ⟨R_956,v_959,cs_960,v_963,cs_964,hv_,hr_,hl_957,hq_961,hq_965⟩:=hv_
 have hv_:=hv_.symm
 subst hv_
 obtain ⟨s,hl_957⟩:=s.sp0.back hr_ hl_957
 have s:=s.un2
 have hRL:=hRL.trans hl_957
 have s:=s.pk3
 refine sl_storeA (vs:=[v_959,v_963]) (c':=[v_959,v_963]) sizeOf35 s q rfl rfl rfl rfl (all_cons (s.row_one z1) (all_cons (s.row_one z2) zz)) (Nat.le_of_ble_eq_true rfl) rfl fun a w s q=>?_
 refine za q rfl fun a q=>zn ?_
 obtain rfl:=Option.some.inj H
 refine wp_ret ?_
 repeat first | refine zt ?_ | refine zb ?_ | refine zo ?_
 exact ret_2 results15 q (rv_cell (c:=[v_959,v_963]) isAgg35 sizeOf35 s z0 rfl q rfl) (rv_tmp q rfl) ⟨_,rfl,_,_,_,_,_,rfl,(s.pk2.pk2.trunc 2),hRL,hq_961,hq_965⟩
theorem group_origin.calls (a0 : List api_Col) (a1 : List ByteArray) (a2 : List api_Agg) {w0 : World} {R : Hp} {RA : Hp} {v0_0 : Value} {v1_0 : Value} {v2_0 : Value} (hRA : RA.sub w0) (hR : R.sub w0) (h0_0 : SlR ty_api_Col RA v0_0 a0) (h1_0 : SlR tyStr R v1_0 a1) (h2_0 : SlR ty_api_Agg R v2_0 a2) (hG : GF RA) {r : (List api_Col) × (List api_Col) × Bool} (H : group_origin a0 a1 a2 = some r) : Calls prog 42 #[v0_0,v1_0,v2_0] w0 (Rets fun v w'=>∃ (R' : Hp) (u0 : Value) (u1 : Value),v = .tuple #[u0,u1,.bool r.2.2] ∧ St [] w0 w' R' [] ∧ RLe [] w0 R R' ∧ SlR ty_api_Col R' u0 r.1 ∧ SlR ty_api_Col R' u1 r.2.1):=by
 unfold group_origin at H
 refine enter (args:=[v0_0,v1_0,v2_0]) func42 rfl ntmps42 rfl fun a q=>?_
 have s:=St.init hR
 have hRL:=RLe.refl (M:=[]) w0 R
 refine zq<|zr<|za q rfl fun a q=>za q rfl fun a q=>za q rfl fun a q=>zn<|zq<|zq<|zr<|zm q rfl fun a q=>zl q (r_len_R underlying22 h0_0 q rfl) fun a q=>zm q rfl fun a q=>zl q (r_len_R underlying23 h1_0 q rfl) fun a q=>zl q (r_ibin q rfl rfl rfl) fun a q=>zn ?_
 refine wp_cond_split (q.ev rfl) (fun (hb_1 : (decide ((a0.length : Int) < (a1.length : Int))) = true)=>?_) fun hb_1=>?_
 rw [ifb_t hb_1] at H
 refine zq<|zr<|za q rfl fun a q=>za q rfl fun a q=>za q rfl fun a q=>zn ?_
 obtain rfl:=Option.some.inj H
 refine wp_ret ?_
 repeat first | refine zt ?_ | refine zb ?_ | refine zo ?_
 exact ret_3 results42 q (rv_tmp q rfl) (rv_tmp q rfl) (rv_tmp q rfl) ⟨_,rfl,_,_,_,rfl,s,hRL,SlR.nil _ _,SlR.nil _ _⟩
 rw [ifb_f hb_1] at H
 refine wp_skip<|zq<|zr<|zm q rfl fun a q=>zm q rfl fun a q=>zl q (r_len_R underlying23 h1_0 q rfl) fun a q=>?_
 obtain ⟨y_2,h_3,H⟩:=bs H
 obtain ⟨v_4,hs_5,hr_6⟩:=r_slice_R (x:=.tmp 18) (lo:=none) (hi:=some (.tmp 20)) underlying22 sizeOf47 h0_0 h_3 q rfl rfl ⟨_,rfl⟩
 refine zl q (hr_6 _ _ _ _ _ _ _ q) fun a q=>?_
 obtain ⟨y_7,h_8,H⟩:=bs H
 refine sl_call call26 q (by decide) rfl rfl rfl (slices_Clone_api_Col_api_Col.calls y_2 (lentOf_sub [] _) s.sub (hs_5.mono (s.raLe0 hRA nil_not)) h_8) fun a v_ w hv_ q=>?_
 obtain ⟨R_9,v_12,cs_13,hv_,hr_,hl_10,hq_14⟩:=hv_
 have hv_:=hv_.symm
 subst hv_
 obtain ⟨s,hl_10⟩:=s.sp0.back hr_ hl_10
 have s:=s.un1
 have hRL:=hRL.trans hl_10
 refine za q rfl fun a q=>zn<|zq<|zr<|zm q rfl fun a q=>zm q rfl fun a q=>zl q (r_len_R underlying23 h1_0 q rfl) fun a q=>?_
 obtain ⟨y_15,h_16,H⟩:=bs H
 obtain ⟨v_17,hs_18,hr_19⟩:=r_slice_R (x:=.tmp 23) (lo:=some (.tmp 25)) (hi:=none) underlying22 sizeOf47 h0_0 h_16 q rfl ⟨_,rfl⟩ rfl
 refine zl q (hr_19 _ _ _ _ _ _ _ q) fun a q=>za q rfl fun a q=>zn<|zq<|zq<|zr<|zm q rfl fun a q=>zl q (r_len_R underlying24 h2_0 q rfl) fun a q=>zm q rfl fun a q=>zn ?_
 refine wp_block ?_
 refine wp_loop_k (fun k_l0 a w=>∃ (x_121 : List api_Col) (x_127 : List api_Col) (x_128 : Int) (v_125 : Value) (v_122 : Value) (cs_123 : List Value),group_origin.l0 a0 a1 a2 k_l0 x_121 x_127 x_128 = some r ∧ SlR ty_api_Col RA v_125 x_127 ∧ Reps ty_api_Col R_9 cs_123 x_121 ∧ Kn 85 a [(0,v0_0),(1,v1_0),(2,v2_0),(6,v_122),(9,v_125),(27,v2_0),(28,I6 (a2.length : Int)),(29,I6 x_128)] ∧ St [] w0 w R_9 [.row 47 2 v_122 x_121.length cs_123]) (((a2.length : Int) - 0).toNat + 1) ?_ ?_
 exact ⟨y_7,y_15,0,v_17,_,_,H,hs_18,hq_14,q.sub (zc (zc (zc (zc (zc (zc (zc (zc zz)))))))),s⟩
 rintro k_l0 a w ⟨x_121,x_127,x_128,v_125,v_122,cs_123,H,hs_126,hq_124,q,s⟩
 rcases k_l0 with _ | k_l0
 cases H
 rw [group_origin.l0.eq_2] at H
 refine zq<|zr<|zl q (r_ibin q rfl rfl rfl) fun a q=>zn<|zq ?_
 refine wp_cond_split (q.ev rfl) (fun (hb_229 : (decide (x_128 < (a2.length : Int))) = true)=>?_) fun hb_229=>?_
 rw [ifb_t hb_229] at H
 refine wp_skip<|zq ?_
 refine wp_block ?_
 refine zq<|zr ?_
 obtain ⟨y_230,h_231,H⟩:=bs H
 obtain ⟨b_232,o_233,c_234,cs_235,hv_236,hr_237,hc_238,h_2310,h_2311⟩:=h2_0.ix h_231
 subst hr_237
 refine zl q (r_indexAddr_R underlying24 sizeOf49 hv_236 h_2310 h_2311 q rfl rfl) fun a q=>zl q (r_loadA (cs:=[I6 y_230.Kind,.string y_230.Col]) isAgg49 sizeOf49 rfl q rfl (fun j v hv=>(s.sub.le hl_10.le).cell (hc_238 j v hv))) fun a q=>?_
 refine sl_alloc zeroValue49 s q (by decide) rfl rfl fun a w b_239 s q=>?_
 refine sl_storeA (vs:=[I6 y_230.Kind,.string y_230.Col]) (c':=[I6 y_230.Kind,.string y_230.Col]) sizeOf49 s q rfl rfl rfl rfl (zc (zc zz)) (Nat.le_of_ble_eq_true rfl) rfl fun a w s q=>?_
 refine zn<|zq<|zq<|zr<|zm q rfl fun a q=>zl q (r_len_R underlying22 hs_126 q rfl) fun a q=>zl q (r_ibin q rfl rfl rfl) fun a q=>zn ?_
 refine wp_cond_split (q.ev rfl) (fun (hb_240 : ((x_127.length : Int) == 0) = true)=>?_) fun hb_240=>?_
 rw [ifb_t hb_240] at H
 refine zq<|zr<|za q rfl fun a q=>za q rfl fun a q=>za q rfl fun a q=>zn ?_
 obtain rfl:=Option.some.inj H
 refine wp_ret ?_
 repeat first | refine zt ?_ | refine zb ?_ | refine zo ?_
 exact ret_3 results42 q (rv_tmp q rfl) (rv_tmp q rfl) (rv_tmp q rfl) ⟨_,rfl,_,_,_,rfl,(s.trunc 0),hRL,SlR.nil _ _,SlR.nil _ _⟩
 rw [ifb_f hb_240] at H
 refine wp_skip<|zq<|zq ?_
 refine wp_mid (fun a w=>∃ (x_244 : Bool),group_origin.j1 (group_origin.l0 a0 a1 a2 k_l0) a2 x_121 x_127 x_128 y_230 x_244 = some r ∧ Kn 85 a [(0,v0_0),(1,v1_0),(2,v2_0),(6,v_122),(9,v_125),(11,.pointer (some ⟨b_239,0,none⟩)),(27,v2_0),(28,I6 (a2.length : Int)),(29,I6 x_128),(45,.bool x_244)] ∧ St [] w0 w R_9 [.row 47 2 v_122 x_121.length cs_123,.cells b_239 [I6 y_230.Kind,.string y_230.Col] 49]) ?_ ?_
 refine zr<|zl q (r_fieldAddr underlying49 rfl sizeOf3 q rfl) fun a q=>zl q (r_load isAgg3 q rfl (s.cell z0 rfl)) fun a q=>zl q (r_ibin q rfl rfl rfl) fun a q=>zm q rfl fun a q=>?_
 rcases or_b (y_230.Kind != 1) with hb_246 | hb_246
 rw [ifb_t hb_246] at H
 refine zw q (wtt hb_246) (r_move q rfl) fun a q=>zw q (wtt hb_246) (r_fieldAddr underlying49 rfl sizeOf9 q rfl) fun a q=>zw q (wtt hb_246) (r_load isAgg9 q rfl (s.cell z0 rfl)) fun a q=>?_
 obtain ⟨y_247,h_248,H⟩:=bs H
 refine sl_callV call33 s q (by decide) (wtt hb_246) rfl rfl (table_Find.calls x_121 y_230.Col (lentOf_sub [] _) (s.lend_row0 z1 hq_124 rfl rfl) h_248) fun a w s q=>?_
 refine zw q (wtt hb_246) (r_ibin q rfl rfl rfl) fun a q=>zl q (r_pick_t hb_246 q rfl rfl) fun a q=>zn ?_
 have s:=s.pk1
 exact ⟨(decide (y_247 < 0)),H,q.sub (zc (zc (zc (zc (zc (zc (zc (zc (zc (zc zz)))))))))),s⟩
 rw [ifb_f hb_246] at H
 refine zsw q (wtf hb_246) fun a q=>zsw q (wtf hb_246) fun a q=>zsw q (wtf hb_246) fun a q=>zsw q (wtf hb_246) fun a q=>zsw q (wtf hb_246) fun a q=>zl q (r_pick_f hb_246 q rfl rfl) fun a q=>zn ?_
 have s:=s.pk1
 exact ⟨false,H,q.sub (zc (zc (zc (zc (zc (zc (zc (zc (zc (zc zz)))))))))),s⟩
 rintro a w ⟨x_244,H,q,s⟩
 unfold group_origin.j1 at H
 refine wp_mid (fun a w=>∃ (x_283 : List api_Col) (v_284 : Value) (cs_285 : List Value),group_origin.j2 (group_origin.l0 a0 a1 a2 k_l0) a2 x_127 x_128 y_230 x_283 = some r ∧ Reps ty_api_Col R_9 cs_285 x_283 ∧ Kn 85 a [(0,v0_0),(1,v1_0),(2,v2_0),(6,v_284),(9,v_125),(11,.pointer (some ⟨b_239,0,none⟩)),(27,v2_0),(28,I6 (a2.length : Int)),(29,I6 x_128)] ∧ St [] w0 w R_9 [.row 47 2 v_284 x_283.length cs_285,.cells b_239 [I6 y_230.Kind,.string y_230.Col] 49]) ?_ ?_
 refine wp_cond_split (q.ev rfl) (fun (hb_288 : x_244 = true)=>?_) fun hb_288=>?_
 rw [ifb_t hb_288] at H
 refine parT_region (C:=fun w=>St [] w0 w R_9 [.row 47 2 v_122 x_121.length cs_123,.cells b_239 [I6 y_230.Kind,.string y_230.Col] 49]) 9 [(0,true),(1,true),(2,true),(3,true),(4,true),(5,true),(6,true),(7,true),(8,false)] mixed (by kernel_rfl) s (fun w s=>s) fun w s=>?_
 refine zp rfl q (fun w s=>r_move q rfl) fun a q=>zp rfl q (fun w s=>r_fieldAddr underlying49 rfl sizeOf9 q rfl) fun a q=>zp rfl q (fun w s=>r_load isAgg9 q rfl (s.cell z1 rfl)) fun a q=>zp rfl q (fun w s=>r_move q rfl) fun a q=>?_
 obtain ⟨y_305,h_306,H⟩:=bs H
 obtain ⟨b_307,o_308,c_309,cs_310,hv_311,hr_312,hc_313,h_3060,h_3061⟩:=hs_126.ix h_306
 subst hr_312
 refine zp rfl q (fun w s=>r_indexAddr_R underlying22 sizeOf47 hv_311 h_3060 h_3061 q rfl rfl) fun a q=>zp rfl q (fun w s=>r_fieldAddr underlying47 rfl sizeOf3 q rfl) fun a q=>zp rfl q (fun w s=>r_load isAgg3 q rfl ((s.ra hRA nil_not).cell (hc_313 1 _ rfl))) fun a q=>zp rfl q (fun w s=>r_buildC (ps:=[(0,.string y_230.Col),(1,I6 y_305.Kind)]) (c:=[.string y_230.Col,I6 y_305.Kind]) underlying47 zeroValue47 places47 q rfl (pc_cons rfl (pc_cons rfl pc_nil)) rfl rfl) fun a q=>?_
 refine spw (k:=8) rfl rfl s ?_
 refine sl_buildSliceF (zc:=[.string (⟨#[]⟩ : ByteArray),I6 0]) (ps:=[(0,.agg #[.string y_230.Col,I6 y_305.Kind])]) (c:=[.string y_230.Col,I6 y_305.Kind]) [[.string y_230.Col,I6 y_305.Kind]] underlying22 sizeOf47 zeroValue47 rfl (pc_cons rfl pc_nil) rfl rfl (Nat.le_of_ble_eq_true rfl) rfl (zc zz) rfl s q (by decide) rfl fun a w b_314 s q=>?_
 refine parK_nil (s.pk2.pk2.trunc 2) ?_
 refine thenL_nil ?_
 obtain ⟨y_315,h_316,H⟩:=bs H
 have s:=s.pk1
 refine sl_append_L (ty:=ty_api_Col) (ys:=[(⟨y_230.Col,y_305.Kind⟩ : api_Col)]) elT22 (by decide) rfl hq_124 rfl (Reps.cons (show Ty.rep ty_api_Col _ [.string y_230.Col,I6 y_305.Kind] (⟨y_230.Col,y_305.Kind⟩ : api_Col) from rfl) (Reps.nil _ _)) rfl h_316 s q (by decide) rfl rfl rfl fun a w v_317 cs_318 hq_319 s q=>?_
 refine za q rfl fun a q=>?_
 refine wpList_nil (NoP_nil ?_)
 have s:=s.pk1
 have s:=s.pk1
 exact ⟨y_315,_,_,H,hq_319,q.sub (zc (zc (zc (zc (zc (zc (zc (zc (zc zz))))))))),s⟩
 rw [ifb_f hb_288] at H
 refine wp_skip ?_
 have s:=s.pk1
 have s:=s.pk1
 exact ⟨x_121,_,_,H,hq_124,q.sub (zc (zc (zc (zc (zc (zc (zc (zc (zc zz))))))))),s⟩
 rintro a w ⟨x_283,v_284,cs_285,H,hq_286,q,s⟩
 unfold group_origin.j2 at H
 refine zr<|zm q rfl fun a q=>zm q rfl fun a q=>zl q (r_len_R underlying22 hs_126 q rfl) fun a q=>zl q (r_loadA (cs:=[I6 y_230.Kind,.string y_230.Col]) isAgg49 sizeOf49 rfl q rfl (s.cells_of (m:=2) z1 rfl)) fun a q=>?_
 obtain ⟨y_321,h_322,H⟩:=bs H
 refine sl_callV call44 s q (by decide) rfl rfl rfl (group_width.calls y_230 h_322 _) fun a w s q=>?_
 refine zl q (r_min2 q rfl rfl) fun a q=>?_
 obtain ⟨y_323,h_324,H⟩:=bs H
 obtain ⟨v_325,hs_326,hr_327⟩:=r_slice_R (x:=.tmp 56) (lo:=some (.tmp 61)) (hi:=none) underlying22 sizeOf47 hs_126 h_324 q rfl ⟨_,rfl⟩ rfl
 refine zl q (hr_327 _ _ _ _ _ _ _ q) fun a q=>za q rfl fun a q=>zn<|zr<|zl q (r_ibin q rfl rfl rfl) fun a q=>zm q rfl fun a q=>zn ?_
 exact ⟨_,Nat.lt_succ_self _,x_283,y_323,(IntKind.i64.wrap (x_128 + 1)),v_325,_,_,H,hs_326,hq_286,q.sub (zc (zc (zc (zc (zc (zc (zc (zc zz)))))))),s.trunc 1⟩
 rw [ifb_f hb_229] at H
 refine wp_exit ?_
 refine zq<|zq<|zr<|zm q rfl fun a q=>zl q (r_len_O underlying22 s z0 q rfl) fun a q=>zl q (r_ibin q rfl rfl rfl) fun a q=>zn ?_
 refine wp_mid (fun a w=>∃ (x_331 : List api_Col) (v_332 : Value) (cs_333 : List Value),group_origin.j3 a0 a1 a2 x_331 = some r ∧ Reps ty_api_Col R_9 cs_333 x_331 ∧ Kn 85 a [(0,v0_0),(1,v1_0),(2,v2_0),(6,v_332)] ∧ St [] w0 w R_9 [.row 47 2 v_332 x_331.length cs_333]) ?_ ?_
 refine wp_cond_split (q.ev rfl) (fun (hb_336 : ((x_121.length : Int) == 0) = true)=>?_) fun hb_336=>?_
 rw [ifb_t hb_336] at H
 refine zr<|zl q (r_buildC (ps:=[(0,.string (⟨#[97,110,121]⟩ : ByteArray)),(1,I6 1)]) (c:=[.string (⟨#[97,110,121]⟩ : ByteArray),I6 1]) underlying47 zeroValue47 places47 q rfl (pc_cons rfl (pc_cons rfl pc_nil)) rfl rfl) fun a q=>?_
 refine sl_buildSliceF (zc:=[.string (⟨#[]⟩ : ByteArray),I6 0]) (ps:=[(0,.agg #[.string (⟨#[97,110,121]⟩ : ByteArray),I6 1])]) (c:=[.string (⟨#[97,110,121]⟩ : ByteArray),I6 1]) [[.string (⟨#[97,110,121]⟩ : ByteArray),I6 1]] underlying22 sizeOf47 zeroValue47 rfl (pc_cons rfl pc_nil) rfl rfl (Nat.le_of_ble_eq_true rfl) rfl (zc zz) rfl s q (by decide) rfl fun a w b_337 s q=>?_
 refine za q rfl fun a q=>zn ?_
 have s:=s.row_lit (size:=2) (m:=1) rfl (by decide)
 have hq_339 : Reps ty_api_Col R_9 [.string (⟨#[97,110,121]⟩ : ByteArray),I6 1] [(⟨(⟨#[97,110,121]⟩ : ByteArray),1⟩ : api_Col)]:=(Reps.cons (show Ty.rep ty_api_Col _ [.string (⟨#[97,110,121]⟩ : ByteArray),I6 1] (⟨(⟨#[97,110,121]⟩ : ByteArray),1⟩ : api_Col) from rfl) (Reps.nil _ _))
 exact ⟨[(⟨(⟨#[97,110,121]⟩ : ByteArray),1⟩ : api_Col)],_,_,H,hq_339,q.sub (zc (zc (zc (zc zz)))),s.trunc 1⟩
 rw [ifb_f hb_336] at H
 refine wp_skip ?_
 exact ⟨x_121,_,_,H,hq_124,q.sub (zc (zc (zc (zc zz)))),s⟩
 rintro a w ⟨x_331,v_332,cs_333,H,hq_334,q,s⟩
 unfold group_origin.j3 at H
 refine zq<|zr<|zm q rfl fun a q=>zm q rfl fun a q=>zm q rfl fun a q=>?_
 obtain ⟨R_340,s,hl_342,hs_341⟩:=s.fz_row hq_334 rfl rfl
 have hRL:=hRL.trans hl_342
 obtain ⟨y_343,h_344,H⟩:=bs H
 refine sl_call call11 q (by decide) rfl rfl rfl (group_Cols.calls x_331 a1 a2 (lentOf_sub [] _) s.sub hs_341 (h1_0.mono (hl_10.le.trans hl_342.le)) (h2_0.mono (hl_10.le.trans hl_342.le)) (GF.mono (s.raLe0 hRA nil_not) hG) h_344) fun a v_ w hv_ q=>?_
 obtain ⟨R_345,v_348,cs_349,v_351,hv_,hr_,hl_346,hq_350,hs_352⟩:=hv_
 have hv_:=hv_.symm
 subst hv_
 obtain ⟨s,hl_346⟩:=s.sp0.back hr_ hl_346
 have s:=s.un1
 have hRL:=hRL.trans hl_346
 refine zm q rfl fun a q=>zl q (r_extract q rfl rfl) fun a q=>zl q (r_extract q rfl rfl) fun a q=>zl q (r_extract q rfl rfl) fun a q=>za q rfl fun a q=>za q rfl fun a q=>za q rfl fun a q=>zn<|zq<|zr<|zm q rfl fun a q=>zm q rfl fun a q=>zm q rfl fun a q=>zm q rfl fun a q=>?_
 rcases or_b y_343.2.2 with hb_353 | hb_353
 rw [ifb_t hb_353] at H
 refine zw q (wtt hb_353) (r_move q rfl) fun a q=>zw q (wtt hb_353) (r_move q rfl) fun a q=>?_
 obtain ⟨y_354,h_355,H⟩:=bs H
 refine sl_callV call63 s q (by decide) (wtt hb_353) rfl rfl (slices_Equal_api_Col_api_Col.calls y_343.1 a0 (lentOf_sub [] _) (s.lend_row0 z0 hq_350 rfl rfl) (h0_0.mono (s.raLe0 hRA nil_not)) h_355) fun a w s q=>?_
 refine zl q (r_pick_t hb_353 q rfl rfl) fun a q=>za q rfl fun a q=>za q rfl fun a q=>za q rfl fun a q=>zn ?_
 obtain rfl:=Option.some.inj H
 refine wp_ret ?_
 repeat first | refine zt ?_ | refine zb ?_ | refine zo ?_
 exact ret_3 results42 q (rv_tmp q rfl) (rv_tmp q rfl) (rv_tmp q rfl) ⟨_,rfl,_,_,_,rfl,(s.trunc 0),hRL,(hs_341.mono hl_346.le),hs_352⟩
 rw [ifb_f hb_353] at H
 refine zsw q (wtf hb_353) fun a q=>zsw q (wtf hb_353) fun a q=>zsw q (wtf hb_353) fun a q=>zl q (r_pick_f hb_353 q rfl rfl) fun a q=>za q rfl fun a q=>za q rfl fun a q=>za q rfl fun a q=>zn ?_
 obtain rfl:=Option.some.inj H
 refine wp_ret ?_
 repeat first | refine zt ?_ | refine zb ?_ | refine zo ?_
 exact ret_3 results42 q (rv_tmp q rfl) (rv_tmp q rfl) (rv_tmp q rfl) ⟨_,rfl,_,_,_,rfl,(s.trunc 0),hRL,(hs_341.mono hl_346.le),hs_352⟩
theorem group_Merge.calls (a0 : api_Table) (a1 : List ByteArray) (a2 : List api_Agg) {w0 : World} {R : Hp} {RA : Hp} {v0_0 : Value} {v0_1 : Value} {v1_0 : Value} {v2_0 : Value} (hRA : RA.sub w0) (hR : R.sub w0) (h0_0 : SlR ty_api_Col R v0_0 a0.Cols) (h0_1 : SlR (tySl ty_api_Value) R v0_1 a0.Rows) (h1_0 : SlR tyStr R v1_0 a1) (h2_0 : SlR ty_api_Agg R v2_0 a2) (hG : GF RA) {r : api_Table × Int} (H : group_Merge a0 a1 a2 = some r) : Calls prog 21 #[.agg #[v0_0,v0_1],v1_0,v2_0] w0 (Rets fun v w'=>∃ (R' : Hp) (u0 : Value) (cu0 : List Value) (u1 : Value) (cu1 : List Value),v = .tuple #[.agg #[u0,u1],I6 r.2] ∧ St [] w0 w' R' [.row 47 2 u0 r.1.Cols.length cu0,.row 53 1 u1 r.1.Rows.length cu1] ∧ RLe [] w0 R R' ∧ Reps ty_api_Col R' cu0 r.1.Cols ∧ Reps (tySl ty_api_Value) R' cu1 r.1.Rows):=by
 unfold group_Merge at H
 refine enter (args:=[.agg #[v0_0,v0_1],v1_0,v2_0]) func21 rfl ntmps21 rfl fun a q=>?_
 have s:=St.init hR
 have hRL:=RLe.refl (M:=[]) w0 R
 refine zq<|zr ?_
 refine sl_box s q (by decide) rfl rfl (c:=[v0_0,v0_1]) rfl fun a w b_1 s q=>?_
 refine sl_alloc zeroValue35 s q (by decide) rfl rfl fun a w b_2 s q=>?_
 refine za q rfl fun a q=>zn<|zq<|zq<|zr<|zl q (r_loadA (cs:=[v0_0,v0_1]) isAgg35 sizeOf35 rfl q rfl (s.cells_of (m:=2) z1 rfl)) fun a q=>?_
 obtain ⟨y_3,h_4,H⟩:=bs H
 refine sl_callV call28 s q (by decide) rfl rfl rfl (table_Check.calls a0 (lentOf_sub [] _) (h0_0.mono s.rLe0) (h0_1.mono s.rLe0) h_4) fun a w s q=>?_
 refine za q rfl fun a q=>zn<|zq<|zr<|zm q rfl fun a q=>zl q (r_ibin q rfl rfl rfl) fun a q=>zn ?_
 refine wp_cond_split (q.ev rfl) (fun (hb_5 : (y_3 != 0) = true)=>?_) fun hb_5=>?_
 rw [ifb_t hb_5] at H
 refine zq<|zr<|zl q (r_buildC (ps:=[]) (c:=[.slice none 0 0,.slice none 0 0]) underlying35 zeroValue35 places35 q rfl pc_nil rfl rfl) fun a q=>zm q rfl fun a q=>?_
 refine sl_storeA (vs:=[.slice none 0 0,.slice none 0 0]) (c':=[.slice none 0 0,.slice none 0 0]) sizeOf35 s q rfl rfl rfl rfl (zc (zc zz)) (Nat.le_of_ble_eq_true rfl) rfl fun a w s q=>?_
 refine za q rfl fun a q=>zn ?_
 have s:=s.row_nil 47 2
 have hq_7 : Reps ty_api_Col R [] ([] : List api_Col):=Reps.nil _ _
 have s:=s.row_nil 53 1
 have hq_9 : Reps (tySl ty_api_Value) R [] ([] : List (List api_Value)):=Reps.nil _ _
 obtain rfl:=Option.some.inj H
 refine wp_ret ?_
 repeat first | refine zt ?_ | refine zb ?_ | refine zo ?_
 exact ret_2 results21 q (rv_cell (c:=[(.slice none 0 0),(.slice none 0 0)]) isAgg35 sizeOf35 s z2 rfl q rfl) (rv_tmp q rfl) ⟨_,rfl,_,_,_,_,_,rfl,(s.pk1.trunc 2),hRL,hq_7,hq_9⟩
 rw [ifb_f hb_5] at H
 refine wp_skip<|zq<|zq<|zr<|zl q (r_fieldAddr underlying35 rfl sizeOf22 q rfl) fun a q=>zl q (r_load isAgg22 q rfl (s.cell z1 rfl)) fun a q=>zm q rfl fun a q=>zm q rfl fun a q=>?_
 obtain ⟨y_10,h_11,H⟩:=bs H
 refine sl_call call42 q (by decide) rfl rfl rfl (group_origin.calls a0.Cols a1 a2 (lentOf_sub [] _) s.sub (h0_0.mono s.rLe0) h1_0 h2_0 (GF.mono (s.raLe0 hRA nil_not) hG) h_11) fun a v_ w hv_ q=>?_
 obtain ⟨R_12,v_14,v_16,hv_,hr_,hl_13,hs_15,hs_17⟩:=hv_
 have hv_:=hv_.symm
 subst hv_
 obtain ⟨s,hl_13⟩:=s.sp0.back hr_ hl_13
 have s:=s.un0
 have hRL:=hRL.trans hl_13
 refine zm q rfl fun a q=>zl q (r_extract q rfl rfl) fun a q=>zl q (r_extract q rfl rfl) fun a q=>zl q (r_extract q rfl rfl) fun a q=>za q rfl fun a q=>za q rfl fun a q=>za q rfl fun a q=>zn<|zq<|zr<|zm q rfl fun a q=>zl q (r_un q rfl (u_not _)) fun a q=>zn ?_
 refine wp_cond_split (q.ev rfl) (fun (hb_18 : (!y_10.2.2) = true)=>?_) fun hb_18=>?_
 rw [ifb_t hb_18] at H
 refine zq<|zr<|zl q (r_buildC (ps:=[]) (c:=[.slice none 0 0,.slice none 0 0]) underlying35 zeroValue35 places35 q rfl pc_nil rfl rfl) fun a q=>?_
 refine sl_storeA (vs:=[.slice none 0 0,.slice none 0 0]) (c':=[.slice none 0 0,.slice none 0 0]) sizeOf35 s q rfl rfl rfl rfl (zc (zc zz)) (Nat.le_of_ble_eq_true rfl) rfl fun a w s q=>?_
 refine za q rfl fun a q=>zn ?_
 have s:=s.row_nil 47 2
 have hq_20 : Reps ty_api_Col R_12 [] ([] : List api_Col):=Reps.nil _ _
 have s:=s.row_nil 53 1
 have hq_22 : Reps (tySl ty_api_Value) R_12 [] ([] : List (List api_Value)):=Reps.nil _ _
 obtain rfl:=Option.some.inj H
 refine wp_ret ?_
 repeat first | refine zt ?_ | refine zb ?_ | refine zo ?_
 exact ret_2 results21 q (rv_cell (c:=[(.slice none 0 0),(.slice none 0 0)]) isAgg35 sizeOf35 s z2 rfl q rfl) (rv_tmp q rfl) ⟨_,rfl,_,_,_,_,_,rfl,(s.pk1.trunc 2),hRL,hq_20,hq_22⟩
 rw [ifb_f hb_18] at H
 refine wp_skip<|zq<|zr<|zl q (r_loadA (cs:=[v0_0,v0_1]) isAgg35 sizeOf35 rfl q rfl (s.cells_of (m:=2) z1 rfl)) fun a q=>zm q rfl fun a q=>zl q (r_len_R underlying23 h1_0 q rfl) fun a q=>zm q rfl fun a q=>?_
 obtain ⟨y_23,h_24,H⟩:=bs H
 refine sl_call call35 q (by decide) rfl rfl rfl (group_together.calls a0 (a1.length : Int) a2 (lentOf_sub [] _) s.sub (h0_0.mono hl_13.le) (h0_1.mono hl_13.le) (h2_0.mono (hl_13.le.trans s.rLe0)) h_24) fun a v_ w hv_ q=>?_
 obtain ⟨R_25,v_28,cs_29,v_32,cs_33,hv_,hr_,hl_26,hq_30,hq_34⟩:=hv_
 have hv_:=hv_.symm
 subst hv_
 obtain ⟨s,hl_26⟩:=s.sp0.back hr_ hl_26
 have s:=s.un2
 have hRL:=hRL.trans hl_26
 have s:=s.pk2
 refine sl_storeA (vs:=[v_28,v_32]) (c':=[v_28,v_32]) sizeOf35 s q rfl rfl rfl rfl (all_cons (s.row_one z1) (all_cons (s.row_one z2) zz)) (Nat.le_of_ble_eq_true rfl) rfl fun a w s q=>?_
 refine za q rfl fun a q=>zn ?_
 obtain rfl:=Option.some.inj H
 refine wp_ret ?_
 repeat first | refine zt ?_ | refine zb ?_ | refine zo ?_
 exact ret_2 results21 q (rv_cell (c:=[v_28,v_32]) isAgg35 sizeOf35 s z0 rfl q rfl) (rv_tmp q rfl) ⟨_,rfl,_,_,_,_,_,rfl,(s.pk2.pk2.trunc 2),hRL,hq_30,hq_34⟩
theorem group_Finish.calls (a0 : api_Table) (a1 : List ByteArray) (a2 : List api_Agg) {w0 : World} {R : Hp} {RA : Hp} {v0_0 : Value} {v0_1 : Value} {v1_0 : Value} {v2_0 : Value} (hRA : RA.sub w0) (hR : R.sub w0) (h0_0 : SlR ty_api_Col RA v0_0 a0.Cols) (h0_1 : SlR (tySl ty_api_Value) RA v0_1 a0.Rows) (h1_0 : SlR tyStr R v1_0 a1) (h2_0 : SlR ty_api_Agg R v2_0 a2) (hG : GF RA) {r : api_Table × Int} (H : group_Finish a0 a1 a2 = some r) : Calls prog 22 #[.agg #[v0_0,v0_1],v1_0,v2_0] w0 (Rets fun v w'=>∃ (R' : Hp) (u0 : Value) (cu0 : List Value) (u1 : Value) (cu1 : List Value),v = .tuple #[.agg #[u0,u1],I6 r.2] ∧ St [] w0 w' R' [.row 47 2 u0 r.1.Cols.length cu0,.row 53 1 u1 r.1.Rows.length cu1] ∧ RLe [] w0 R R' ∧ Reps ty_api_Col R' cu0 r.1.Cols ∧ Reps (tySl ty_api_Value) R' cu1 r.1.Rows):=by
 unfold group_Finish at H
 refine enter (args:=[.agg #[v0_0,v0_1],v1_0,v2_0]) func22 rfl ntmps22 rfl fun a q=>?_
 have s:=St.init hR
 have hRL:=RLe.refl (M:=[]) w0 R
 refine zq<|zr ?_
 refine sl_box s q (by decide) rfl rfl (c:=[v0_0,v0_1]) rfl fun a w b_1 s q=>?_
 refine sl_alloc zeroValue35 s q (by decide) rfl rfl fun a w b_2 s q=>?_
 refine za q rfl fun a q=>zn<|zq<|zq<|zr<|zl q (r_loadA (cs:=[v0_0,v0_1]) isAgg35 sizeOf35 rfl q rfl (s.cells_of (m:=2) z1 rfl)) fun a q=>?_
 obtain ⟨y_3,h_4,H⟩:=bs H
 refine sl_callV call28 s q (by decide) rfl rfl rfl (table_Check.calls a0 (lentOf_sub [] _) (h0_0.mono (s.raLe0 hRA nil_not)) (h0_1.mono (s.raLe0 hRA nil_not)) h_4) fun a w s q=>?_
 refine za q rfl fun a q=>zn<|zq<|zr<|zm q rfl fun a q=>zl q (r_ibin q rfl rfl rfl) fun a q=>zn ?_
 refine wp_cond_split (q.ev rfl) (fun (hb_5 : (y_3 != 0) = true)=>?_) fun hb_5=>?_
 rw [ifb_t hb_5] at H
 refine zq<|zr<|zl q (r_buildC (ps:=[]) (c:=[.slice none 0 0,.slice none 0 0]) underlying35 zeroValue35 places35 q rfl pc_nil rfl rfl) fun a q=>zm q rfl fun a q=>?_
 refine sl_storeA (vs:=[.slice none 0 0,.slice none 0 0]) (c':=[.slice none 0 0,.slice none 0 0]) sizeOf35 s q rfl rfl rfl rfl (zc (zc zz)) (Nat.le_of_ble_eq_true rfl) rfl fun a w s q=>?_
 refine za q rfl fun a q=>zn ?_
 have s:=s.row_nil 47 2
 have hq_7 : Reps ty_api_Col R [] ([] : List api_Col):=Reps.nil _ _
 have s:=s.row_nil 53 1
 have hq_9 : Reps (tySl ty_api_Value) R [] ([] : List (List api_Value)):=Reps.nil _ _
 obtain rfl:=Option.some.inj H
 refine wp_ret ?_
 repeat first | refine zt ?_ | refine zb ?_ | refine zo ?_
 exact ret_2 results22 q (rv_cell (c:=[(.slice none 0 0),(.slice none 0 0)]) isAgg35 sizeOf35 s z2 rfl q rfl) (rv_tmp q rfl) ⟨_,rfl,_,_,_,_,_,rfl,(s.pk1.trunc 2),hRL,hq_7,hq_9⟩
 rw [ifb_f hb_5] at H
 refine wp_skip<|zq<|zr<|zl q (r_fieldAddr underlying35 rfl sizeOf22 q rfl) fun a q=>zl q (r_load isAgg22 q rfl (s.cell z1 rfl)) fun a q=>zm q rfl fun a q=>zm q rfl fun a q=>?_
 obtain ⟨y_10,h_11,H⟩:=bs H
 refine sl_call call42 q (by decide) rfl rfl rfl (group_origin.calls a0.Cols a1 a2 (lentOf_sub [] _) s.sub (h0_0.mono (s.raLe0 hRA nil_not)) h1_0 h2_0 (GF.mono (s.raLe0 hRA nil_not) hG) h_11) fun a v_ w hv_ q=>?_
 obtain ⟨R_12,v_14,v_16,hv_,hr_,hl_13,hs_15,hs_17⟩:=hv_
 have hv_:=hv_.symm
 subst hv_
 obtain ⟨s,hl_13⟩:=s.sp0.back hr_ hl_13
 have s:=s.un0
 have hRL:=hRL.trans hl_13
 refine zm q rfl fun a q=>zl q (r_extract q rfl rfl) fun a q=>zl q (r_extract q rfl rfl) fun a q=>zl q (r_extract q rfl rfl) fun a q=>za q rfl fun a q=>za q rfl fun a q=>za q rfl fun a q=>zn<|zq<|zq<|zr<|zm q rfl fun a q=>zl q (r_un q rfl (u_not _)) fun a q=>zn ?_
 refine wp_cond_split (q.ev rfl) (fun (hb_18 : (!y_10.2.2) = true)=>?_) fun hb_18=>?_
 rw [ifb_t hb_18] at H
 refine zq<|zr<|zl q (r_buildC (ps:=[]) (c:=[.slice none 0 0,.slice none 0 0]) underlying35 zeroValue35 places35 q rfl pc_nil rfl rfl) fun a q=>?_
 refine sl_storeA (vs:=[.slice none 0 0,.slice none 0 0]) (c':=[.slice none 0 0,.slice none 0 0]) sizeOf35 s q rfl rfl rfl rfl (zc (zc zz)) (Nat.le_of_ble_eq_true rfl) rfl fun a w s q=>?_
 refine za q rfl fun a q=>zn ?_
 have s:=s.row_nil 47 2
 have hq_20 : Reps ty_api_Col R_12 [] ([] : List api_Col):=Reps.nil _ _
 have s:=s.row_nil 53 1
 have hq_22 : Reps (tySl ty_api_Value) R_12 [] ([] : List (List api_Value)):=Reps.nil _ _
 obtain rfl:=Option.some.inj H
 refine wp_ret ?_
 repeat first | refine zt ?_ | refine zb ?_ | refine zo ?_
 exact ret_2 results22 q (rv_cell (c:=[(.slice none 0 0),(.slice none 0 0)]) isAgg35 sizeOf35 s z2 rfl q rfl) (rv_tmp q rfl) ⟨_,rfl,_,_,_,_,_,rfl,(s.pk1.trunc 2),hRL,hq_20,hq_22⟩
 rw [ifb_f hb_18] at H
 refine wp_skip<|zq<|zr<|zm q rfl fun a q=>zl q (r_buildC (ps:=[(0,v_16)]) (c:=[v_16,.slice none 0 0]) underlying35 zeroValue35 places35 q rfl (pc_cons (cells1 hs_17.one) pc_nil) rfl rfl) fun a q=>?_
 refine sl_alloc zeroValue35 s q (by decide) rfl rfl fun a w b_23 s q=>?_
 refine sl_storeA (vs:=[v_16,.slice none 0 0]) (c':=[v_16,.slice none 0 0]) sizeOf35 s q rfl rfl rfl rfl (all_cons hs_17.one (zc zz)) (Nat.le_of_ble_eq_true rfl) rfl fun a w s q=>?_
 refine zn<|zq<|zq<|zr<|zl q (r_fieldAddr underlying35 rfl sizeOf33 q rfl) fun a q=>zl q (r_load isAgg33 q rfl (s.cell z2 rfl)) fun a q=>zl q (r_len_R underlying33 h0_1 q rfl) fun a q=>zm q rfl fun a q=>zn ?_
 refine wp_block ?_
 refine wp_loop_k (fun k_l0 a w=>∃ (x_349 : List (List api_Value)) (x_353 : Int) (R_354 : Hp) (v_350 : Value) (cs_351 : List Value),group_Finish.l0 a0 a1 a2 y_10 k_l0 x_349 x_353 = some r ∧ RLe [] w0 R_12 R_354 ∧ Reps (tySl ty_api_Value) R_354 cs_351 x_349 ∧ Kn 99 a [(1,v1_0),(2,v2_0),(6,.pointer (some ⟨b_2,0,none⟩)),(12,.pointer (some ⟨b_23,0,none⟩)),(42,v0_1),(43,I6 (a0.Rows.length : Int)),(44,I6 x_353)] ∧ St [] w0 w R_354 [.cells b_2 [.slice none 0 0,.slice none 0 0] 35,.row 53 1 v_350 x_349.length cs_351,.cells b_23 [v_16,v_350] 35]) (((a0.Rows.length : Int) - 0).toNat + 1) ?_ ?_
 have s:=s.row_nil 53 1
 have hq_676 : Reps (tySl ty_api_Value) R_12 [] ([] : List (List api_Value)):=Reps.nil _ _
 have s:=s.pk1
 have s:=s.pk1
 have s:=s.pk2
 exact ⟨[],0,_,_,_,H,(RLe.refl _ _),hq_676,q.sub (zc (zc (zc (zc (zc (zc (zc zz))))))),s.trunc 3⟩
 rintro k_l0 a w ⟨x_349,x_353,R_354,v_350,cs_351,H,hl_355,hq_352,q,s⟩
 rcases k_l0 with _ | k_l0
 cases H
 rw [group_Finish.l0.eq_2] at H
 have hRL:=hRL.trans hl_355
 refine zq<|zr<|zl q (r_ibin q rfl rfl rfl) fun a q=>zn<|zq ?_
 refine wp_cond_split (q.ev rfl) (fun (hb_677 : (decide (x_353 < (a0.Rows.length : Int))) = true)=>?_) fun hb_677=>?_
 rw [ifb_t hb_677] at H
 refine wp_skip<|zq ?_
 refine wp_block ?_
 refine zq<|zr ?_
 obtain ⟨y_678,h_679,H⟩:=bs H
 obtain ⟨b_680,o_681,c_682,cs_683,hv_684,hr_685,hc_686,h_6790,h_6791⟩:=h0_1.ix h_679
 obtain ⟨v_687,rfl,hs_688⟩:=hr_685
 refine zl q (r_indexAddr_R underlying33 sizeOf53 hv_684 h_6790 h_6791 q rfl rfl) fun a q=>zl q (r_load isAgg53 q rfl ((s.ra hRA nil_not).cell (hc_686 0 _ rfl))) fun a q=>za q rfl fun a q=>zn<|zq ?_
 refine parT_region (C:=fun w=>St [] w0 w R_354 [.cells b_2 [.slice none 0 0,.slice none 0 0] 35,.row 53 1 v_350 x_349.length cs_351,.cells b_23 [v_16,v_350] 35]) 10 [(0,true),(1,true),(2,true),(3,true),(5,true),(6,true),(7,true),(8,true),(4,false),(9,true)] mixed (by kernel_rfl) s (fun w s=>s) fun w s=>?_
 refine zp rfl q (fun w s=>r_move q rfl) fun a q=>zp rfl q (fun w s=>r_move q rfl) fun a q=>zp rfl q (fun w s=>r_len_R underlying23 h1_0 q rfl) fun a q=>?_
 obtain ⟨y_707,h_708,H⟩:=bs H
 obtain ⟨v_709,hs_710,hr_711⟩:=r_slice_R (x:=.tmp 48) (lo:=none) (hi:=some (.tmp 50)) underlying53 sizeOf52 hs_688 h_708 q rfl rfl ⟨_,rfl⟩
 refine zp rfl q (fun w s=>hr_711 _ _ _ _ _ _ _ q) fun a q=>zp rfl q (fun w s=>r_move q rfl) fun a q=>zp rfl q (fun w s=>r_move q rfl) fun a q=>zp rfl q (fun w s=>r_len_R underlying23 h1_0 q rfl) fun a q=>?_
 obtain ⟨y_712,h_713,H⟩:=bs H
 obtain ⟨v_714,hs_715,hr_716⟩:=r_slice_R (x:=.tmp 53) (lo:=some (.tmp 55)) (hi:=none) underlying53 sizeOf52 hs_688 h_713 q rfl ⟨_,rfl⟩ rfl
 refine zp rfl q (fun w s=>hr_716 _ _ _ _ _ _ _ q) fun a q=>?_
 refine spw (k:=4) rfl rfl s ?_
 obtain ⟨y_717,h_718,H⟩:=bs H
 refine sl_call call43 q (by decide) rfl rfl rfl (slices_Clone_api_Value_api_Value.calls y_707 (lentOf_sub [] _) s.sub (hs_710.mono (s.raLe0 hRA nil_not)) h_718) fun a v_ w hv_ q=>?_
 obtain ⟨R_719,v_722,cs_723,hv_,hr_,hl_720,hq_724⟩:=hv_
 have hv_:=hv_.symm
 subst hv_
 obtain ⟨s,hl_720⟩:=s.sp0.back hr_ hl_720
 have s:=s.un1
 have hRL:=hRL.trans hl_720
 refine parK_nil ((s.pk3.pk3.pk3.trunc 3).lower hl_720.le) ?_
 refine zp rfl q (fun w s=>r_assign q rfl) fun a q=>?_
 refine thenL_nil ?_
 refine za q rfl fun a q=>?_
 refine wpList_nil (NoP_nil ?_)
 refine zq<|zq<|zr<|zm q rfl fun a q=>zl q (r_len_R underlying24 h2_0 q rfl) fun a q=>zm q rfl fun a q=>zn ?_
 refine wp_block ?_
 refine wp_loop_k (fun k_l1 a w=>∃ (x_810 : List api_Value) (x_816 : List api_Value) (x_817 : Int) (v_814 : Value) (v_811 : Value) (cs_812 : List Value),group_Finish.l1 (group_Finish.l0 a0 a1 a2 y_10 k_l0) a0 a2 x_349 x_353 k_l1 x_810 x_816 x_817 = some r ∧ SlR ty_api_Value RA v_814 x_816 ∧ Reps ty_api_Value R_719 cs_812 x_810 ∧ Kn 99 a [(1,v1_0),(2,v2_0),(6,.pointer (some ⟨b_2,0,none⟩)),(12,.pointer (some ⟨b_23,0,none⟩)),(15,v_811),(16,v_814),(42,v0_1),(43,I6 (a0.Rows.length : Int)),(44,I6 x_353),(57,v2_0),(58,I6 (a2.length : Int)),(59,I6 x_817)] ∧ St [] w0 w R_719 [.cells b_2 [.slice none 0 0,.slice none 0 0] 35,.row 53 1 v_350 x_349.length cs_351,.cells b_23 [v_16,v_350] 35,.row 52 11 v_811 x_810.length cs_812]) (((a2.length : Int) - 0).toNat + 1) ?_ ?_
 have s:=s.pk3
 have s:=s.pk3
 have s:=s.pk3
 exact ⟨y_717,y_712,0,v_714,_,_,H,hs_715,hq_724,q.sub (zc (zc (zc (zc (zc (zc (zc (zc (zc (zc (zc (zc zz)))))))))))),s⟩
 rintro k_l1 a w ⟨x_810,x_816,x_817,v_814,v_811,cs_812,H,hs_815,hq_813,q,s⟩
 rcases k_l1 with _ | k_l1
 cases H
 rw [group_Finish.l1.eq_2] at H
 refine zq<|zr<|zl q (r_ibin q rfl rfl rfl) fun a q=>zn<|zq ?_
 refine wp_cond_split (q.ev rfl) (fun (hb_902 : (decide (x_817 < (a2.length : Int))) = true)=>?_) fun hb_902=>?_
 rw [ifb_t hb_902] at H
 refine wp_skip<|zq ?_
 refine wp_block ?_
 refine zq<|zr ?_
 obtain ⟨y_903,h_904,H⟩:=bs H
 obtain ⟨b_905,o_906,c_907,cs_908,hv_909,hr_910,hc_911,h_9040,h_9041⟩:=h2_0.ix h_904
 subst hr_910
 refine zl q (r_indexAddr_R underlying24 sizeOf49 hv_909 h_9040 h_9041 q rfl rfl) fun a q=>zl q (r_loadA (cs:=[I6 y_903.Kind,.string y_903.Col]) isAgg49 sizeOf49 rfl q rfl (fun j v hv=>(s.sub.le (hl_13.le.trans (hl_355.le.trans hl_720.le))).cell (hc_911 j v hv))) fun a q=>?_
 refine sl_alloc zeroValue49 s q (by decide) rfl rfl fun a w b_912 s q=>?_
 refine sl_storeA (vs:=[I6 y_903.Kind,.string y_903.Col]) (c':=[I6 y_903.Kind,.string y_903.Col]) sizeOf49 s q rfl rfl rfl rfl (zc (zc zz)) (Nat.le_of_ble_eq_true rfl) rfl fun a w s q=>?_
 refine zn<|zq<|zr<|zm q rfl fun a q=>?_
 obtain ⟨y_913,h_914,H⟩:=bs H
 obtain ⟨b_915,o_916,c_917,cs_918,hv_919,hr_920,hc_921,h_9140,h_9141⟩:=hs_815.ix h_914
 subst hr_920
 refine zl q (r_indexAddr_R underlying53 sizeOf52 hv_919 h_9140 h_9141 q rfl rfl) fun a q=>zl q (r_loadA (cs:=(cV y_913)) isAgg52 sizeOf52 rfl q rfl (fun j v hv=>(s.ra hRA nil_not).cell (hc_921 j v hv))) fun a q=>?_
 refine sl_alloc zeroValue52 s q (by decide) rfl rfl fun a w b_922 s q=>?_
 refine sl_storeA (vs:=(cV y_913)) (c':=(cV y_913)) sizeOf52 s q rfl rfl rfl rfl (zc (zc (zc (zc (zc (zc (zc (zc (zc (zc (zc zz))))))))))) (Nat.le_of_ble_eq_true rfl) rfl fun a w s q=>?_
 refine zn<|zq<|zq<|zr<|zl q (r_fieldAddr underlying49 rfl sizeOf3 q rfl) fun a q=>zl q (r_load isAgg3 q rfl (s.cell z1 rfl)) fun a q=>zl q (r_ibin q rfl rfl rfl) fun a q=>zn ?_
 refine wp_mid (fun a w=>∃ (x_939 : Int),group_Finish.j2 (group_Finish.l1 (group_Finish.l0 a0 a1 a2 y_10 k_l0) a0 a2 x_349 x_353 k_l1) a2 x_810 x_816 x_817 y_903 y_913 x_939 = some r ∧ Kn 99 a [(1,v1_0),(2,v2_0),(6,.pointer (some ⟨b_2,0,none⟩)),(12,.pointer (some ⟨b_23,0,none⟩)),(15,v_811),(16,v_814),(18,.pointer (some ⟨b_912,0,none⟩)),(19,.pointer (some ⟨b_922,0,none⟩)),(42,v0_1),(43,I6 (a0.Rows.length : Int)),(44,I6 x_353),(57,v2_0),(58,I6 (a2.length : Int)),(59,I6 x_817)] ∧ St [] w0 w R_719 [.cells b_2 [.slice none 0 0,.slice none 0 0] 35,.row 53 1 v_350 x_349.length cs_351,.cells b_23 [v_16,v_350] 35,.row 52 11 v_811 x_810.length cs_812,.cells b_912 [I6 y_903.Kind,.string y_903.Col] 49,.cells b_922 [I6 y_913.Kind,I6 x_939,.string y_913.S,I6 y_913.H.a0,I6 y_913.H.a1,I6 y_913.H.a2,I6 y_913.H.a3,I6 y_913.H.a4,I6 y_913.H.a5,I6 y_913.H.a6,I6 y_913.H.a7] 52]) ?_ ?_
 refine wp_cond_split (q.ev rfl) (fun (hb_941 : (y_903.Kind == 5) = true)=>?_) fun hb_941=>?_
 rw [ifb_t hb_941] at H
 refine zq<|zr<|zm q rfl fun a q=>?_
 obtain ⟨y_942,h_943,H⟩:=bs H
 obtain ⟨b_944,o_945,c_946,cs_947,hv_948,hr_949,hc_950,h_9430,h_9431⟩:=hs_815.ix h_943
 subst hr_949
 refine zl q (r_indexAddr_R underlying53 sizeOf52 hv_948 h_9430 h_9431 q rfl rfl) fun a q=>zl q (r_fieldAddr underlying52 rfl sizeOf3 q rfl) fun a q=>zl q (r_load isAgg3 q rfl ((s.ra hRA nil_not).cell (hc_950 1 _ rfl))) fun a q=>za q rfl fun a q=>zn<|zq<|zr<|zm q rfl fun a q=>zl q (r_ibin q rfl rfl rfl) fun a q=>zn ?_
 refine wp_mid (fun a w=>∃ (x_953 : Int),group_Finish.j3 (group_Finish.l1 (group_Finish.l0 a0 a1 a2 y_10 k_l0) a0 a2 x_349 x_353 k_l1) a2 x_810 x_816 x_817 y_903 y_913 x_953 = some r ∧ Kn 99 a [(1,v1_0),(2,v2_0),(6,.pointer (some ⟨b_2,0,none⟩)),(12,.pointer (some ⟨b_23,0,none⟩)),(15,v_811),(16,v_814),(18,.pointer (some ⟨b_912,0,none⟩)),(19,.pointer (some ⟨b_922,0,none⟩)),(42,v0_1),(43,I6 (a0.Rows.length : Int)),(44,I6 x_353),(57,v2_0),(58,I6 (a2.length : Int)),(59,I6 x_817)] ∧ St [] w0 w R_719 [.cells b_2 [.slice none 0 0,.slice none 0 0] 35,.row 53 1 v_350 x_349.length cs_351,.cells b_23 [v_16,v_350] 35,.row 52 11 v_811 x_810.length cs_812,.cells b_912 [I6 y_903.Kind,.string y_903.Col] 49,.cells b_922 [I6 y_913.Kind,I6 x_953,.string y_913.S,I6 y_913.H.a0,I6 y_913.H.a1,I6 y_913.H.a2,I6 y_913.H.a3,I6 y_913.H.a4,I6 y_913.H.a5,I6 y_913.H.a6,I6 y_913.H.a7] 52]) ?_ ?_
 refine wp_cond_split (q.ev rfl) (fun (hb_955 : (y_942.N == 0) = true)=>?_) fun hb_955=>?_
 rw [ifb_t hb_955] at H
 refine zr<|zl q (r_fieldAddr underlying52 rfl sizeOf3 q rfl) fun a q=>?_
 refine sl_store1 (c':=[I6 y_913.Kind,I6 0,.string y_913.S,I6 y_913.H.a0,I6 y_913.H.a1,I6 y_913.H.a2,I6 y_913.H.a3,I6 y_913.H.a4,I6 y_913.H.a5,I6 y_913.H.a6,I6 y_913.H.a7]) sizeOf3 s q rfl rfl rfl rfl (Nat.le_of_ble_eq_true rfl) rfl fun a w s q=>?_
 refine zn ?_
 have s:=s.pk1
 have s:=s.pk5
 have s:=s.pk5
 have s:=s.pk5
 have s:=s.pk5
 exact ⟨0,H,q.sub (zc (zc (zc (zc (zc (zc (zc (zc (zc (zc (zc (zc (zc (zc zz)))))))))))))),s⟩
 rw [ifb_f hb_955] at H
 refine zr<|zl q (r_fieldAddr underlying52 rfl sizeOf3 q rfl) fun a q=>zl q (r_load isAgg3 q rfl (s.cell z0 rfl)) fun a q=>zm q rfl fun a q=>?_
 rcases or_b (y_942.N != 0) with hn_956 | hn_956
 rw [ifb_t hn_956] at H
 refine zl q (r_quo q rfl rfl (ne_of_bne hn_956)) fun a q=>zl q (r_fieldAddr underlying52 rfl sizeOf3 q rfl) fun a q=>?_
 refine sl_store1 (c':=[I6 y_913.Kind,I6 (IntKind.i64.wrap (y_913.N.tdiv y_942.N)),.string y_913.S,I6 y_913.H.a0,I6 y_913.H.a1,I6 y_913.H.a2,I6 y_913.H.a3,I6 y_913.H.a4,I6 y_913.H.a5,I6 y_913.H.a6,I6 y_913.H.a7]) sizeOf3 s q rfl rfl rfl rfl (Nat.le_of_ble_eq_true rfl) rfl fun a w s q=>?_
 refine zn ?_
 have s:=s.pk1
 have s:=s.pk5
 have s:=s.pk5
 have s:=s.pk5
 have s:=s.pk5
 exact ⟨(IntKind.i64.wrap (y_913.N.tdiv y_942.N)),H,q.sub (zc (zc (zc (zc (zc (zc (zc (zc (zc (zc (zc (zc (zc (zc zz)))))))))))))),s⟩
 rw [ifb_f hn_956] at H
 cases H
 rintro a w ⟨x_953,H,q,s⟩
 unfold group_Finish.j3 at H
 have s:=s.pk5
 have s:=s.pk5
 have s:=s.pk5
 have s:=s.pk5
 have s:=s.pk5
 have s:=s.pk5
 exact ⟨x_953,H,q.sub (zc (zc (zc (zc (zc (zc (zc (zc (zc (zc (zc (zc (zc (zc zz)))))))))))))),s⟩
 rw [ifb_f hb_941] at H
 refine wp_skip ?_
 have s:=s.pk1
 have s:=s.pk5
 have s:=s.pk5
 have s:=s.pk5
 have s:=s.pk5
 exact ⟨y_913.N,H,q.sub (zc (zc (zc (zc (zc (zc (zc (zc (zc (zc (zc (zc (zc (zc zz)))))))))))))),s⟩
 rintro a w ⟨x_939,H,q,s⟩
 unfold group_Finish.j2 at H
 refine parT_region (C:=fun w=>St [] w0 w R_719 [.cells b_2 [.slice none 0 0,.slice none 0 0] 35,.row 53 1 v_350 x_349.length cs_351,.cells b_23 [v_16,v_350] 35,.cells b_912 [I6 y_903.Kind,.string y_903.Col] 49,.cells b_922 [I6 y_913.Kind,I6 x_939,.string y_913.S,I6 y_913.H.a0,I6 y_913.H.a1,I6 y_913.H.a2,I6 y_913.H.a3,I6 y_913.H.a4,I6 y_913.H.a5,I6 y_913.H.a6,I6 y_913.H.a7] 52]) 9 [(0,true),(1,true),(4,true),(5,true),(2,false),(3,false),(6,false),(7,true),(8,true)] mixed (by kernel_rfl) s (fun w s=>(s.pk5.pk5.pk4.pk4.pk4.trunc 5)) fun w s=>?_
 refine zp rfl q (fun w s=>r_move q rfl) fun a q=>zp rfl q (fun w s=>r_loadA (cs:=[I6 y_913.Kind,I6 x_939,.string y_913.S,I6 y_913.H.a0,I6 y_913.H.a1,I6 y_913.H.a2,I6 y_913.H.a3,I6 y_913.H.a4,I6 y_913.H.a5,I6 y_913.H.a6,I6 y_913.H.a7]) isAgg52 sizeOf52 rfl q rfl (s.cells_of (m:=11) z4 rfl)) fun a q=>zp rfl q (fun w s=>r_move q rfl) fun a q=>zp rfl q (fun w s=>r_loadA (cs:=[I6 y_903.Kind,.string y_903.Col]) isAgg49 sizeOf49 rfl q rfl (s.cells_of (m:=2) z3 rfl)) fun a q=>?_
 refine spw (k:=2) rfl rfl (s.pk5.pk5.pk4.pk4.pk4.trunc 5) ?_
 refine sl_buildSliceF (zc:=[I6 0,I6 0,.string (⟨#[]⟩ : ByteArray),I6 0,I6 0,I6 0,I6 0,I6 0,I6 0,I6 0,I6 0]) (ps:=[(0,.agg #[I6 y_913.Kind,I6 x_939,.string y_913.S,I6 y_913.H.a0,I6 y_913.H.a1,I6 y_913.H.a2,I6 y_913.H.a3,I6 y_913.H.a4,I6 y_913.H.a5,I6 y_913.H.a6,I6 y_913.H.a7])]) (c:=[I6 y_913.Kind,I6 x_939,.string y_913.S,I6 y_913.H.a0,I6 y_913.H.a1,I6 y_913.H.a2,I6 y_913.H.a3,I6 y_913.H.a4,I6 y_913.H.a5,I6 y_913.H.a6,I6 y_913.H.a7]) [[I6 y_913.Kind,I6 x_939,.string y_913.S,I6 y_913.H.a0,I6 y_913.H.a1,I6 y_913.H.a2,I6 y_913.H.a3,I6 y_913.H.a4,I6 y_913.H.a5,I6 y_913.H.a6,I6 y_913.H.a7]] underlying53 sizeOf52 zeroValue52 rfl (pc_cons rfl pc_nil) rfl rfl (Nat.le_of_ble_eq_true rfl) rfl (zc zz) rfl s q (by decide) rfl fun a w b_971 s q=>?_
 refine parK_nil (s.pk6.pk6.pk5.pk5.pk5.trunc 5) ?_
 refine spw (k:=3) rfl rfl (s.pk6.pk6.pk5.pk5.pk5.trunc 5) ?_
 obtain ⟨y_972,h_973,H⟩:=bs H
 have s:=s.pk4
 refine sl_append_L (ty:=ty_api_Value) (ys:=[(⟨y_913.Kind,x_939,y_913.S,y_913.H⟩ : api_Value)]) elT53 (by decide) rfl hq_813 rfl (Reps.cons (show Ty.rep ty_api_Value _ [I6 y_913.Kind,I6 x_939,.string y_913.S,I6 y_913.H.a0,I6 y_913.H.a1,I6 y_913.H.a2,I6 y_913.H.a3,I6 y_913.H.a4,I6 y_913.H.a5,I6 y_913.H.a6,I6 y_913.H.a7] (⟨y_913.Kind,x_939,y_913.S,y_913.H⟩ : api_Value) from rfl) (Reps.nil _ _)) rfl h_973 s q (by decide) rfl rfl rfl fun a w v_974 cs_975 hq_976 s q=>?_
 refine parK_nil (s.pk5.pk5.pk5.pk5.pk5.trunc 5) ?_
 refine spw (k:=6) rfl rfl (s.pk5.pk5.pk5.pk5.pk5.trunc 5) ?_
 obtain ⟨y_978,h_979,H⟩:=bs H
 refine sl_callV call44 s q (by decide) rfl rfl rfl (group_width.calls y_903 h_979 _) fun a w s q=>?_
 refine parK_nil (s.pk5.pk5.pk5.pk5.pk5.trunc 5) ?_
 obtain ⟨y_980,h_981,H⟩:=bs H
 obtain ⟨v_982,hs_983,hr_984⟩:=r_slice_R (x:=.tmp 85) (lo:=some (.tmp 87)) (hi:=none) underlying53 sizeOf52 hs_815 h_981 q rfl ⟨_,rfl⟩ rfl
 refine zp rfl q (fun w s=>hr_984 _ _ _ _ _ _ _ q) fun a q=>zp rfl q (fun w s=>r_assign q rfl) fun a q=>?_
 refine thenL_nil ?_
 refine za q rfl fun a q=>?_
 refine wpList_nil (NoP_nil ?_)
 refine zr<|zl q (r_ibin q rfl rfl rfl) fun a q=>zm q rfl fun a q=>zn ?_
 have s:=s.pk3
 have s:=s.pk3
 have s:=s.pk3
 exact ⟨_,Nat.lt_succ_self _,y_972,y_980,(IntKind.i64.wrap (x_817 + 1)),v_982,_,_,H,hs_983,hq_976,q.sub (zc (zc (zc (zc (zc (zc (zc (zc (zc (zc (zc (zc zz)))))))))))),s.trunc 4⟩
 rw [ifb_f hb_902] at H
 refine wp_exit ?_
 refine zr<|zl q (r_fieldAddr underlying35 rfl sizeOf33 q rfl) fun a q=>zl q (r_load isAgg33 q rfl (s.cell z2 rfl)) fun a q=>zm q rfl fun a q=>?_
 have ho_985:=s.row_one z3
 refine sl_buildSliceF (zc:=[.slice none 0 0]) (ps:=[(0,v_811)]) (c:=[v_811]) [[v_811]] underlying33 sizeOf53 zeroValue53 rfl (pc_cons (cells1 ho_985) pc_nil) rfl rfl (Nat.le_of_ble_eq_true rfl) rfl (zc zz) rfl s q (by decide) rfl fun a w b_986 s q=>?_
 have s:=s.pk2
 have s:=s.pk4
 obtain ⟨R_987,s,hl_989,hs_988⟩:=s.fz_row hq_813 rfl rfl
 have hRL:=hRL.trans hl_989
 obtain ⟨y_990,h_991,H⟩:=bs H
 refine sl_append_L (ty:=(tySl ty_api_Value)) (ys:=[x_810]) elT33 (by decide) rfl (hq_352.mono (hl_720.le.trans hl_989.le)) rfl (Reps.cons (show Ty.rep (tySl ty_api_Value) _ [v_811] x_810 from ⟨_,rfl,hs_988⟩) (Reps.nil _ _)) rfl h_991 s q (by decide) rfl rfl rfl fun a w v_992 cs_993 hq_994 s q=>?_
 refine zl q (r_fieldAddr underlying35 rfl sizeOf33 q rfl) fun a q=>?_
 have s:=s.pk2
 refine sl_store1 (c':=[v_16,v_992]) sizeOf33 s q rfl rfl rfl (s.row_one z1) (Nat.le_of_ble_eq_true rfl) rfl fun a w s q=>?_
 refine zn<|zr<|zl q (r_ibin q rfl rfl rfl) fun a q=>zm q rfl fun a q=>zn ?_
 have s:=s.pk1
 have s:=s.pk2
 exact ⟨_,Nat.lt_succ_self _,y_990,(IntKind.i64.wrap (x_353 + 1)),_,_,_,H,(hl_355.trans (hl_720.trans hl_989)),hq_994,q.sub (zc (zc (zc (zc (zc (zc (zc zz))))))),s⟩
 rw [ifb_f hb_677] at H
 refine wp_exit ?_
 refine zq<|zr<|zl q (r_loadA (cs:=[v_16,v_350]) isAgg35 sizeOf35 rfl q rfl (s.cells_of (m:=2) z2 rfl)) fun a q=>?_
 obtain ⟨y_996,h_997,H⟩:=bs H
 refine sl_call call45 q (by decide) rfl rfl rfl (table_Canon.calls (⟨y_10.2.1,x_349⟩ : api_Table) (lentOf_sub [] _) s.sub (hs_17.mono (hl_355.le.trans s.rLe0)) (s.lend_row0 z1 hq_352 rfl rfl) h_997) fun a v_ w hv_ q=>?_
 obtain ⟨R_998,v_1001,cs_1002,v_1005,cs_1006,hv_,hr_,hl_999,hq_1003,hq_1007,hap_1008⟩:=hv_
 have hv_:=hv_.symm
 subst hv_
 obtain ⟨s,hl_999⟩:=s.sp0.back hr_ hl_999
 have s:=s.un2
 have hRL:=hRL.trans hl_999
 have s:=s.pk2
 refine sl_storeA (vs:=[v_1001,v_1005]) (c':=[v_1001,v_1005]) sizeOf35 s q rfl rfl rfl rfl (all_cons (s.row_one z1) (all_cons (s.row_one z2) zz)) (Nat.le_of_ble_eq_true rfl) rfl fun a w s q=>?_
 refine za q rfl fun a q=>zn ?_
 obtain rfl:=Option.some.inj H
 refine wp_ret ?_
 repeat first | refine zt ?_ | refine zb ?_ | refine zo ?_
 exact ret_2 results22 q (rv_cell (c:=[v_1001,v_1005]) isAgg35 sizeOf35 s z0 rfl q rfl) (rv_tmp q rfl) ⟨_,rfl,_,_,_,_,_,rfl,(s.pk2.pk2.trunc 2),hRL,hq_1003,hq_1007⟩
theorem group_Group.calls (a0 : api_Table) (a1 : List ByteArray) (a2 : List api_Agg) {w0 : World} {R : Hp} {RA : Hp} {v0_0 : Value} {v0_1 : Value} {v1_0 : Value} {v2_0 : Value} (hRA : RA.sub w0) (hR : R.sub w0) (h0_0 : SlR ty_api_Col R v0_0 a0.Cols) (h0_1 : SlR (tySl ty_api_Value) R v0_1 a0.Rows) (h1_0 : SlR tyStr R v1_0 a1) (h2_0 : SlR ty_api_Agg R v2_0 a2) (hG : GF RA) {r : api_Table × Int} (H : group_Group a0 a1 a2 = some r) : Calls prog 18 #[.agg #[v0_0,v0_1],v1_0,v2_0] w0 (Rets fun v w'=>∃ (R' : Hp) (u0 : Value) (u1 : Value),v = .tuple #[.agg #[u0,u1],I6 r.2] ∧ St [] w0 w' R' [] ∧ RLe [] w0 R R' ∧ SlR ty_api_Col R' u0 r.1.Cols ∧ SlR (tySl ty_api_Value) R' u1 r.1.Rows):=by
 unfold group_Group at H
 refine enter (args:=[.agg #[v0_0,v0_1],v1_0,v2_0]) func18 rfl ntmps18 rfl fun a q=>?_
 have s:=St.init hR
 have hRL:=RLe.refl (M:=[]) w0 R
 refine zq<|zr ?_
 refine sl_box s q (by decide) rfl rfl (c:=[v0_0,v0_1]) rfl fun a w b_1 s q=>?_
 refine sl_alloc zeroValue35 s q (by decide) rfl rfl fun a w b_2 s q=>?_
 refine za q rfl fun a q=>zn<|zq<|zq<|zr ?_
 refine sl_buildSliceF (zc:=[.nilFunc]) (ps:=[(0,.func (.func 15) #[] #[]),(1,.func (.func 21) #[] #[]),(2,.func (.func 22) #[] #[])]) (c:=[.func (.func 15) #[] #[],.func (.func 21) #[] #[],.func (.func 22) #[] #[]]) [[.func (.func 15) #[] #[]],[.func (.func 21) #[] #[]],[.func (.func 22) #[] #[]]] underlying72 sizeOf39 zeroValue39 rfl (pc_cons rfl (pc_cons rfl (pc_cons rfl pc_nil))) rfl rfl (Nat.le_of_ble_eq_true rfl) rfl (zc (zc (zc zz))) rfl s q (by decide) rfl fun a w b_3 s q=>?_
 refine zl q (r_len_sl underlying72 q rfl) fun a q=>zm q rfl fun a q=>zn ?_
 refine wp_block ?_
 refine wp_loop_k (fun k_l0 a w=>∃ (x_70 : List api_Col) (x_73 : List (List api_Value)) (x_74 : Int) (R_75 : Hp) (v_68 : Value) (v_71 : Value),group_Group.l0 a1 a2 k_l0 x_70 x_73 x_74 = some r ∧ RLe [] w0 R R_75 ∧ SlR ty_api_Col R_75 v_68 x_70 ∧ SlR (tySl ty_api_Value) R_75 v_71 x_73 ∧ Kn 33 a [(1,v1_0),(2,v2_0),(3,.pointer (some ⟨b_1,0,none⟩)),(6,.pointer (some ⟨b_2,0,none⟩)),(12,.slice (some ⟨b_3,0,none⟩) 3 3),(13,I6 3),(14,I6 x_74)] ∧ St [] w0 w R_75 [.cells b_1 [v_68,v_71] 35,.cells b_2 [.slice none 0 0,.slice none 0 0] 35,.cells b_3 [.func (.func 15) #[] #[],.func (.func 21) #[] #[],.func (.func 22) #[] #[]] 39]) (((3 : Int) - 0).toNat + 1) ?_ ?_
 have s:=s.pk1
 have s:=s.pk2
 exact ⟨a0.Cols,a0.Rows,0,_,v0_0,v0_1,H,(RLe.refl _ _),h0_0,h0_1,q.sub (zc (zc (zc (zc (zc (zc (zc zz))))))),s⟩
 rintro k_l0 a w ⟨x_70,x_73,x_74,R_75,v_68,v_71,H,hl_76,hs_69,hs_72,q,s⟩
 rcases k_l0 with _ | k_l0
 cases H
 rw [group_Group.l0.eq_2] at H
 have hRL:=hRL.trans hl_76
 refine zq<|zr<|zl q (r_ibin q rfl rfl rfl) fun a q=>zn<|zq ?_
 refine wp_cond_split (q.ev rfl) (fun (hb_123 : (decide (x_74 < 3)) = true)=>?_) fun hb_123=>?_
 rw [ifb_t hb_123] at H
 refine wp_skip<|zq ?_
 refine wp_block ?_
 refine zq<|zr ?_
 rcases or_b (decide (x_74 = 0)) with hb_124 | hb_124
 rw [ifb_t hb_124] at H
 refine zl q (r_indexAddr_at (j:=0) underlying72 sizeOf39 (of_decide_eq_true hb_124) (Nat.le_of_ble_eq_true rfl) q rfl rfl) fun a q=>zl q (r_load isAgg39 q rfl (s.cell z2 rfl)) fun a q=>za q rfl fun a q=>zn<|zq<|zr<|zm q rfl fun a q=>zl q (r_loadA (cs:=[v_68,v_71]) isAgg35 sizeOf35 rfl q rfl (s.cells_of (m:=2) z0 rfl)) fun a q=>zm q rfl fun a q=>zm q rfl fun a q=>?_
 obtain ⟨y_125,h_126,H⟩:=bs H
 refine sl_call call15 q (by decide) rfl rfl rfl (group_Partial.calls (⟨x_70,x_73⟩ : api_Table) a1 a2 (lentOf_sub [] _) s.sub hs_69 hs_72 (h1_0.mono hl_76.le) (h2_0.mono hl_76.le) (GF.mono (s.raLe0 hRA nil_not) hG) h_126) fun a v_ w hv_ q=>?_
 obtain ⟨R_127,v_130,cs_131,v_134,cs_135,hv_,hr_,hl_128,hq_132,hq_136⟩:=hv_
 have hv_:=hv_.symm
 subst hv_
 obtain ⟨s,hl_128⟩:=s.sp0.back hr_ hl_128
 have s:=s.un2
 have hRL:=hRL.trans hl_128
 refine zm q rfl fun a q=>zl q (r_extract q rfl rfl) fun a q=>zl q (r_extract q rfl rfl) fun a q=>?_
 refine sl_alloc zeroValue35 s q (by decide) rfl rfl fun a w b_137 s q=>?_
 refine sl_storeA (vs:=[v_130,v_134]) (c':=[v_130,v_134]) sizeOf35 s q rfl rfl rfl rfl (all_cons (s.row_one z1) (all_cons (s.row_one z2) zz)) (Nat.le_of_ble_eq_true rfl) rfl fun a w s q=>?_
 refine za q rfl fun a q=>zn<|zq<|zq<|zr<|zm q rfl fun a q=>zl q (r_ibin q rfl rfl rfl) fun a q=>zn ?_
 refine wp_cond_split (q.ev rfl) (fun (hb_138 : (y_125.2 != 0) = true)=>?_) fun hb_138=>?_
 rw [ifb_t hb_138] at H
 refine zq<|zr<|zl q (r_buildC (ps:=[]) (c:=[.slice none 0 0,.slice none 0 0]) underlying35 zeroValue35 places35 q rfl pc_nil rfl rfl) fun a q=>zm q rfl fun a q=>?_
 have s:=s.pk4
 refine sl_storeA (vs:=[.slice none 0 0,.slice none 0 0]) (c':=[.slice none 0 0,.slice none 0 0]) sizeOf35 s q rfl rfl rfl rfl (zc (zc zz)) (Nat.le_of_ble_eq_true rfl) rfl fun a w s q=>?_
 refine za q rfl fun a q=>zn ?_
 obtain rfl:=Option.some.inj H
 refine wp_ret ?_
 repeat first | refine zt ?_ | refine zb ?_ | refine zo ?_
 exact ret_2 results18 q (rv_cell (c:=[.slice none 0 0,.slice none 0 0]) isAgg35 sizeOf35 s z0 rfl q rfl) (rv_tmp q rfl) ⟨_,rfl,_,_,_,rfl,(s.trunc 0),hRL,SlR.nil _ _,SlR.nil _ _⟩
 rw [ifb_f hb_138] at H
 refine wp_skip<|zr<|zl q (r_loadA (cs:=[v_130,v_134]) isAgg35 sizeOf35 rfl q rfl (s.cells_of (m:=2) z0 rfl)) fun a q=>?_
 have s:=s.pk3
 refine sl_storeA (vs:=[v_130,v_134]) (c':=[v_130,v_134]) sizeOf35 s q rfl rfl rfl rfl (all_cons (s.row_one z2) (all_cons (s.row_one z3) zz)) (Nat.le_of_ble_eq_true rfl) rfl fun a w s q=>?_
 refine zn<|zr<|zl q (r_ibin q rfl rfl rfl) fun a q=>zm q rfl fun a q=>zn ?_
 have s:=s.pk2
 obtain ⟨R_139,s,hl_141,hs_140⟩:=s.fz_row hq_132 rfl rfl
 have hRL:=hRL.trans hl_141
 have s:=s.pk2
 obtain ⟨R_142,s,hl_144,hs_143⟩:=s.fz_row (hq_136.mono hl_141.le) rfl rfl
 have hRL:=hRL.trans hl_144
 have s:=s.pk3
 have s:=s.pk3
 have s:=s.pk2
 exact ⟨_,Nat.lt_succ_self _,y_125.1.Cols,y_125.1.Rows,(IntKind.i64.wrap (x_74 + 1)),_,v_130,v_134,H,(hl_76.trans (hl_128.trans (hl_141.trans hl_144))),(hs_140.mono hl_144.le),hs_143,q.sub (zc (zc (zc (zc (zc (zc (zc zz))))))),s.trunc 3⟩
 rw [ifb_f hb_124] at H
 rcases or_b (decide (x_74 = 1)) with hb_145 | hb_145
 rw [ifb_t hb_145] at H
 refine zl q (r_indexAddr_at (j:=1) underlying72 sizeOf39 (of_decide_eq_true hb_145) (Nat.le_of_ble_eq_true rfl) q rfl rfl) fun a q=>zl q (r_load isAgg39 q rfl (s.cell z2 rfl)) fun a q=>za q rfl fun a q=>zn<|zq<|zr<|zm q rfl fun a q=>zl q (r_loadA (cs:=[v_68,v_71]) isAgg35 sizeOf35 rfl q rfl (s.cells_of (m:=2) z0 rfl)) fun a q=>zm q rfl fun a q=>zm q rfl fun a q=>?_
 obtain ⟨y_146,h_147,H⟩:=bs H
 refine sl_call call21 q (by decide) rfl rfl rfl (group_Merge.calls (⟨x_70,x_73⟩ : api_Table) a1 a2 (lentOf_sub [] _) s.sub hs_69 hs_72 (h1_0.mono hl_76.le) (h2_0.mono hl_76.le) (GF.mono (s.raLe0 hRA nil_not) hG) h_147) fun a v_ w hv_ q=>?_
 obtain ⟨R_148,v_151,cs_152,v_155,cs_156,hv_,hr_,hl_149,hq_153,hq_157⟩:=hv_
 have hv_:=hv_.symm
 subst hv_
 obtain ⟨s,hl_149⟩:=s.sp0.back hr_ hl_149
 have s:=s.un2
 have hRL:=hRL.trans hl_149
 refine zm q rfl fun a q=>zl q (r_extract q rfl rfl) fun a q=>zl q (r_extract q rfl rfl) fun a q=>?_
 refine sl_alloc zeroValue35 s q (by decide) rfl rfl fun a w b_158 s q=>?_
 refine sl_storeA (vs:=[v_151,v_155]) (c':=[v_151,v_155]) sizeOf35 s q rfl rfl rfl rfl (all_cons (s.row_one z1) (all_cons (s.row_one z2) zz)) (Nat.le_of_ble_eq_true rfl) rfl fun a w s q=>?_
 refine za q rfl fun a q=>zn<|zq<|zq<|zr<|zm q rfl fun a q=>zl q (r_ibin q rfl rfl rfl) fun a q=>zn ?_
 refine wp_cond_split (q.ev rfl) (fun (hb_159 : (y_146.2 != 0) = true)=>?_) fun hb_159=>?_
 rw [ifb_t hb_159] at H
 refine zq<|zr<|zl q (r_buildC (ps:=[]) (c:=[.slice none 0 0,.slice none 0 0]) underlying35 zeroValue35 places35 q rfl pc_nil rfl rfl) fun a q=>zm q rfl fun a q=>?_
 have s:=s.pk4
 refine sl_storeA (vs:=[.slice none 0 0,.slice none 0 0]) (c':=[.slice none 0 0,.slice none 0 0]) sizeOf35 s q rfl rfl rfl rfl (zc (zc zz)) (Nat.le_of_ble_eq_true rfl) rfl fun a w s q=>?_
 refine za q rfl fun a q=>zn ?_
 obtain rfl:=Option.some.inj H
 refine wp_ret ?_
 repeat first | refine zt ?_ | refine zb ?_ | refine zo ?_
 exact ret_2 results18 q (rv_cell (c:=[.slice none 0 0,.slice none 0 0]) isAgg35 sizeOf35 s z0 rfl q rfl) (rv_tmp q rfl) ⟨_,rfl,_,_,_,rfl,(s.trunc 0),hRL,SlR.nil _ _,SlR.nil _ _⟩
 rw [ifb_f hb_159] at H
 refine wp_skip<|zr<|zl q (r_loadA (cs:=[v_151,v_155]) isAgg35 sizeOf35 rfl q rfl (s.cells_of (m:=2) z0 rfl)) fun a q=>?_
 have s:=s.pk3
 refine sl_storeA (vs:=[v_151,v_155]) (c':=[v_151,v_155]) sizeOf35 s q rfl rfl rfl rfl (all_cons (s.row_one z2) (all_cons (s.row_one z3) zz)) (Nat.le_of_ble_eq_true rfl) rfl fun a w s q=>?_
 refine zn<|zr<|zl q (r_ibin q rfl rfl rfl) fun a q=>zm q rfl fun a q=>zn ?_
 have s:=s.pk2
 obtain ⟨R_160,s,hl_162,hs_161⟩:=s.fz_row hq_153 rfl rfl
 have hRL:=hRL.trans hl_162
 have s:=s.pk2
 obtain ⟨R_163,s,hl_165,hs_164⟩:=s.fz_row (hq_157.mono hl_162.le) rfl rfl
 have hRL:=hRL.trans hl_165
 have s:=s.pk3
 have s:=s.pk3
 have s:=s.pk2
 exact ⟨_,Nat.lt_succ_self _,y_146.1.Cols,y_146.1.Rows,(IntKind.i64.wrap (x_74 + 1)),_,v_151,v_155,H,(hl_76.trans (hl_149.trans (hl_162.trans hl_165))),(hs_161.mono hl_165.le),hs_164,q.sub (zc (zc (zc (zc (zc (zc (zc zz))))))),s.trunc 3⟩
 rw [ifb_f hb_145] at H
 rcases or_b (decide (x_74 = 2)) with hb_166 | hb_166
 rw [ifb_t hb_166] at H
 refine zl q (r_indexAddr_at (j:=2) underlying72 sizeOf39 (of_decide_eq_true hb_166) (Nat.le_of_ble_eq_true rfl) q rfl rfl) fun a q=>zl q (r_load isAgg39 q rfl (s.cell z2 rfl)) fun a q=>za q rfl fun a q=>zn<|zq<|zr<|zm q rfl fun a q=>zl q (r_loadA (cs:=[v_68,v_71]) isAgg35 sizeOf35 rfl q rfl (s.cells_of (m:=2) z0 rfl)) fun a q=>zm q rfl fun a q=>zm q rfl fun a q=>?_
 obtain ⟨y_167,h_168,H⟩:=bs H
 refine sl_call call22 q (by decide) rfl rfl rfl (group_Finish.calls (⟨x_70,x_73⟩ : api_Table) a1 a2 (lentOf_sub [] _) s.sub (hs_69.mono s.rLe0) (hs_72.mono s.rLe0) (h1_0.mono hl_76.le) (h2_0.mono hl_76.le) (GF.mono (s.raLe0 hRA nil_not) hG) h_168) fun a v_ w hv_ q=>?_
 obtain ⟨R_169,v_172,cs_173,v_176,cs_177,hv_,hr_,hl_170,hq_174,hq_178⟩:=hv_
 have hv_:=hv_.symm
 subst hv_
 obtain ⟨s,hl_170⟩:=s.sp0.back hr_ hl_170
 have s:=s.un2
 have hRL:=hRL.trans hl_170
 refine zm q rfl fun a q=>zl q (r_extract q rfl rfl) fun a q=>zl q (r_extract q rfl rfl) fun a q=>?_
 refine sl_alloc zeroValue35 s q (by decide) rfl rfl fun a w b_179 s q=>?_
 refine sl_storeA (vs:=[v_172,v_176]) (c':=[v_172,v_176]) sizeOf35 s q rfl rfl rfl rfl (all_cons (s.row_one z1) (all_cons (s.row_one z2) zz)) (Nat.le_of_ble_eq_true rfl) rfl fun a w s q=>?_
 refine za q rfl fun a q=>zn<|zq<|zq<|zr<|zm q rfl fun a q=>zl q (r_ibin q rfl rfl rfl) fun a q=>zn ?_
 refine wp_cond_split (q.ev rfl) (fun (hb_180 : (y_167.2 != 0) = true)=>?_) fun hb_180=>?_
 rw [ifb_t hb_180] at H
 refine zq<|zr<|zl q (r_buildC (ps:=[]) (c:=[.slice none 0 0,.slice none 0 0]) underlying35 zeroValue35 places35 q rfl pc_nil rfl rfl) fun a q=>zm q rfl fun a q=>?_
 have s:=s.pk4
 refine sl_storeA (vs:=[.slice none 0 0,.slice none 0 0]) (c':=[.slice none 0 0,.slice none 0 0]) sizeOf35 s q rfl rfl rfl rfl (zc (zc zz)) (Nat.le_of_ble_eq_true rfl) rfl fun a w s q=>?_
 refine za q rfl fun a q=>zn ?_
 obtain rfl:=Option.some.inj H
 refine wp_ret ?_
 repeat first | refine zt ?_ | refine zb ?_ | refine zo ?_
 exact ret_2 results18 q (rv_cell (c:=[.slice none 0 0,.slice none 0 0]) isAgg35 sizeOf35 s z0 rfl q rfl) (rv_tmp q rfl) ⟨_,rfl,_,_,_,rfl,(s.trunc 0),hRL,SlR.nil _ _,SlR.nil _ _⟩
 rw [ifb_f hb_180] at H
 refine wp_skip<|zr<|zl q (r_loadA (cs:=[v_172,v_176]) isAgg35 sizeOf35 rfl q rfl (s.cells_of (m:=2) z0 rfl)) fun a q=>?_
 have s:=s.pk3
 refine sl_storeA (vs:=[v_172,v_176]) (c':=[v_172,v_176]) sizeOf35 s q rfl rfl rfl rfl (all_cons (s.row_one z2) (all_cons (s.row_one z3) zz)) (Nat.le_of_ble_eq_true rfl) rfl fun a w s q=>?_
 refine zn<|zr<|zl q (r_ibin q rfl rfl rfl) fun a q=>zm q rfl fun a q=>zn ?_
 have s:=s.pk2
 obtain ⟨R_181,s,hl_183,hs_182⟩:=s.fz_row hq_174 rfl rfl
 have hRL:=hRL.trans hl_183
 have s:=s.pk2
 obtain ⟨R_184,s,hl_186,hs_185⟩:=s.fz_row (hq_178.mono hl_183.le) rfl rfl
 have hRL:=hRL.trans hl_186
 have s:=s.pk3
 have s:=s.pk3
 have s:=s.pk2
 exact ⟨_,Nat.lt_succ_self _,y_167.1.Cols,y_167.1.Rows,(IntKind.i64.wrap (x_74 + 1)),_,v_172,v_176,H,(hl_76.trans (hl_170.trans (hl_183.trans hl_186))),(hs_182.mono hl_186.le),hs_185,q.sub (zc (zc (zc (zc (zc (zc (zc zz))))))),s.trunc 3⟩
 rw [ifb_f hb_166] at H
 cases H
 rw [ifb_f hb_123] at H
 refine wp_exit ?_
 refine zq<|zr<|zl q (r_loadA (cs:=[v_68,v_71]) isAgg35 sizeOf35 rfl q rfl (s.cells_of (m:=2) z0 rfl)) fun a q=>?_
 have s:=s.pk1
 refine sl_storeA (vs:=[v_68,v_71]) (c':=[v_68,v_71]) sizeOf35 s q rfl rfl rfl rfl (all_cons hs_69.one (all_cons hs_72.one zz)) (Nat.le_of_ble_eq_true rfl) rfl fun a w s q=>?_
 refine za q rfl fun a q=>zn ?_
 obtain rfl:=Option.some.inj H
 refine wp_ret ?_
 repeat first | refine zt ?_ | refine zb ?_ | refine zo ?_
 exact ret_2 results18 q (rv_cell (c:=[v_68,v_71]) isAgg35 sizeOf35 s z0 rfl q rfl) (rv_tmp q rfl) ⟨_,rfl,_,_,_,rfl,(s.trunc 0),hRL,hs_69,hs_72⟩
theorem law18_shown.calls {w0 : World} {RA : Hp} (hRA : RA.sub w0) (hG : GF RA) {r : Bool} (H : law18_shown  = some r) : CallsV prog 9 #[] w0 (.bool r):=by
 unfold law18_shown at H
 refine enter (args:=[]) func9 rfl ntmps9 rfl fun a q=>?_
 have s:=St.init (R:=fun _=>none) (w:=w0) (fun _ _ h=>by cases h)
 have hRL:=RLe.refl (M:=[]) w0 (fun _=>none)
 refine zq<|zr<|za q rfl fun a q=>zn<|zq<|zr ?_
 refine sl_buildSliceF (zc:=[I6 0]) (ps:=[(0,I6 1),(1,I6 4),(2,I6 7)]) (c:=[I6 1,I6 4,I6 7]) [[I6 1],[I6 4],[I6 7]] underlying43 sizeOf3 zeroValue3 rfl (pc_cons rfl (pc_cons rfl (pc_cons rfl pc_nil))) rfl rfl (Nat.le_of_ble_eq_true rfl) rfl (zc (zc (zc zz))) rfl s q (by decide) rfl fun a w b_1 s q=>?_
 obtain ⟨y_2,h_3,H⟩:=bs H
 refine sl_call call24 q (by decide) rfl rfl rfl (law18_pairs.calls (⟨#[97,97,98]⟩ : ByteArray) [1,4,7] (lentOf_sub [] _) s.sub (s.lend_lit0 (ty:=(tyInt .i64)) (xs:=[1,4,7]) z0 (Reps.cons (show Ty.rep (tyInt .i64) _ [I6 1] 1 from rfl) (Reps.cons (show Ty.rep (tyInt .i64) _ [I6 4] 4 from rfl) (Reps.cons (show Ty.rep (tyInt .i64) _ [I6 7] 7 from rfl) (Reps.nil _ _)))) rfl) h_3) fun a v_ w hv_ q=>?_
 obtain ⟨R_4,v_7,cs_8,v_11,cs_12,hv_,hr_,hl_5,hq_9,hq_13⟩:=hv_
 have hv_:=hv_.symm
 subst hv_
 obtain ⟨s,hl_5⟩:=s.sp0.back hr_ hl_5
 have s:=s.un2
 have hRL:=hRL.trans hl_5
 refine sl_alloc zeroValue35 s q (by decide) rfl rfl fun a w b_14 s q=>?_
 refine sl_storeA (vs:=[v_7,v_11]) (c':=[v_7,v_11]) sizeOf35 s q rfl rfl rfl rfl (all_cons (s.row_one z1) (all_cons (s.row_one z2) zz)) (Nat.le_of_ble_eq_true rfl) rfl fun a w s q=>?_
 refine zn<|zq<|zr ?_
 refine sl_buildSliceF (zc:=[.string (⟨#[]⟩ : ByteArray)]) (ps:=[(0,.string (⟨#[107]⟩ : ByteArray))]) (c:=[.string (⟨#[107]⟩ : ByteArray)]) [[.string (⟨#[107]⟩ : ByteArray)]] underlying23 sizeOf9 zeroValue9 rfl (pc_cons rfl pc_nil) rfl rfl (Nat.le_of_ble_eq_true rfl) rfl (zc zz) rfl s q (by decide) rfl fun a w b_15 s q=>?_
 refine za q rfl fun a q=>zn<|zq<|zr<|zl q (r_loadA (cs:=[v_7,v_11]) isAgg35 sizeOf35 rfl q rfl (s.cells_of (m:=2) z1 rfl)) fun a q=>zm q rfl fun a q=>zl q (r_buildC (ps:=[(0,I6 1)]) (c:=[I6 1,.string (⟨#[]⟩ : ByteArray)]) underlying49 zeroValue49 places49 q rfl (pc_cons rfl pc_nil) rfl rfl) fun a q=>zl q (r_buildC (ps:=[(0,I6 2),(1,.string (⟨#[110]⟩ : ByteArray))]) (c:=[I6 2,.string (⟨#[110]⟩ : ByteArray)]) underlying49 zeroValue49 places49 q rfl (pc_cons rfl (pc_cons rfl pc_nil)) rfl rfl) fun a q=>zl q (r_buildC (ps:=[(0,I6 5),(1,.string (⟨#[110]⟩ : ByteArray))]) (c:=[I6 5,.string (⟨#[110]⟩ : ByteArray)]) underlying49 zeroValue49 places49 q rfl (pc_cons rfl (pc_cons rfl pc_nil)) rfl rfl) fun a q=>?_
 refine sl_buildSliceF (zc:=[I6 0,.string (⟨#[]⟩ : ByteArray)]) (ps:=[(0,.agg #[I6 1,.string (⟨#[]⟩ : ByteArray)]),(1,.agg #[I6 2,.string (⟨#[110]⟩ : ByteArray)]),(2,.agg #[I6 5,.string (⟨#[110]⟩ : ByteArray)])]) (c:=[I6 1,.string (⟨#[]⟩ : ByteArray),I6 2,.string (⟨#[110]⟩ : ByteArray),I6 5,.string (⟨#[110]⟩ : ByteArray)]) [[I6 1,.string (⟨#[]⟩ : ByteArray)],[I6 2,.string (⟨#[110]⟩ : ByteArray)],[I6 5,.string (⟨#[110]⟩ : ByteArray)]] underlying24 sizeOf49 zeroValue49 rfl (pc_cons rfl (pc_cons rfl (pc_cons rfl pc_nil))) rfl rfl (Nat.le_of_ble_eq_true rfl) rfl (zc (zc (zc zz))) rfl s q (by decide) rfl fun a w b_16 s q=>?_
 have s:=s.pk3
 obtain ⟨R_17,s,hl_19,hs_18⟩:=s.fz_row hq_9 rfl rfl
 have hRL:=hRL.trans hl_19
 have s:=s.pk3
 obtain ⟨R_20,s,hl_22,hs_21⟩:=s.fz_row (hq_13.mono hl_19.le) rfl rfl
 have hRL:=hRL.trans hl_22
 have s:=s.pk1
 obtain ⟨R_23,s,hl_25,hs_24⟩:=s.fz_lit (ty:=tyStr) (xs:=[(⟨#[107]⟩ : ByteArray)]) (Reps.cons (show Ty.rep tyStr _ [.string (⟨#[107]⟩ : ByteArray)] (⟨#[107]⟩ : ByteArray) from rfl) (Reps.nil _ _)) rfl
 have hRL:=hRL.trans hl_25
 obtain ⟨R_26,s,hl_28,hs_27⟩:=s.fz_lit (ty:=ty_api_Agg) (xs:=[(⟨1,(⟨#[]⟩ : ByteArray)⟩ : api_Agg),(⟨2,(⟨#[110]⟩ : ByteArray)⟩ : api_Agg),(⟨5,(⟨#[110]⟩ : ByteArray)⟩ : api_Agg)]) (Reps.cons (show Ty.rep ty_api_Agg _ [I6 1,.string (⟨#[]⟩ : ByteArray)] (⟨1,(⟨#[]⟩ : ByteArray)⟩ : api_Agg) from rfl) (Reps.cons (show Ty.rep ty_api_Agg _ [I6 2,.string (⟨#[110]⟩ : ByteArray)] (⟨2,(⟨#[110]⟩ : ByteArray)⟩ : api_Agg) from rfl) (Reps.cons (show Ty.rep ty_api_Agg _ [I6 5,.string (⟨#[110]⟩ : ByteArray)] (⟨5,(⟨#[110]⟩ : ByteArray)⟩ : api_Agg) from rfl) (Reps.nil _ _)))) rfl
 have hRL:=hRL.trans hl_28
 obtain ⟨y_29,h_30,H⟩:=bs H
 refine sl_call call18 q (by decide) rfl rfl rfl (group_Group.calls y_2 [(⟨#[107]⟩ : ByteArray)] [(⟨1,(⟨#[]⟩ : ByteArray)⟩ : api_Agg),(⟨2,(⟨#[110]⟩ : ByteArray)⟩ : api_Agg),(⟨5,(⟨#[110]⟩ : ByteArray)⟩ : api_Agg)] (lentOf_sub [] _) s.sub (hs_18.mono (hl_22.le.trans (hl_25.le.trans hl_28.le))) (hs_21.mono (hl_25.le.trans hl_28.le)) (hs_24.mono hl_28.le) hs_27 (GF.mono (s.raLe0 hRA nil_not) hG) h_30) fun a v_ w hv_ q=>?_
 obtain ⟨R_31,v_33,v_35,hv_,hr_,hl_32,hs_34,hs_36⟩:=hv_
 have hv_:=hv_.symm
 subst hv_
 obtain ⟨s,hl_32⟩:=s.sp0.back hr_ hl_32
 have s:=s.un0
 have hRL:=hRL.trans hl_32
 refine zm q rfl fun a q=>zl q (r_extract q rfl rfl) fun a q=>zl q (r_extract q rfl rfl) fun a q=>?_
 refine sl_alloc zeroValue35 s q (by decide) rfl rfl fun a w b_37 s q=>?_
 refine sl_storeA (vs:=[v_33,v_35]) (c':=[v_33,v_35]) sizeOf35 s q rfl rfl rfl rfl (all_cons hs_34.one (all_cons hs_36.one zz)) (Nat.le_of_ble_eq_true rfl) rfl fun a w s q=>?_
 refine za q rfl fun a q=>zn<|zq<|zr<|zl q (r_loadA (cs:=[v_7,v_11]) isAgg35 sizeOf35 rfl q rfl (s.cells_of (m:=2) z1 rfl)) fun a q=>zm q rfl fun a q=>zl q (r_buildC (ps:=[(0,I6 5),(1,.string (⟨#[110]⟩ : ByteArray))]) (c:=[I6 5,.string (⟨#[110]⟩ : ByteArray)]) underlying49 zeroValue49 places49 q rfl (pc_cons rfl (pc_cons rfl pc_nil)) rfl rfl) fun a q=>?_
 refine sl_buildSliceF (zc:=[I6 0,.string (⟨#[]⟩ : ByteArray)]) (ps:=[(0,.agg #[I6 5,.string (⟨#[110]⟩ : ByteArray)])]) (c:=[I6 5,.string (⟨#[110]⟩ : ByteArray)]) [[I6 5,.string (⟨#[110]⟩ : ByteArray)]] underlying24 sizeOf49 zeroValue49 rfl (pc_cons rfl pc_nil) rfl rfl (Nat.le_of_ble_eq_true rfl) rfl (zc zz) rfl s q (by decide) rfl fun a w b_38 s q=>?_
 obtain ⟨R_39,s,hl_41,hs_40⟩:=s.fz_lit (ty:=ty_api_Agg) (xs:=[(⟨5,(⟨#[110]⟩ : ByteArray)⟩ : api_Agg)]) (Reps.cons (show Ty.rep ty_api_Agg _ [I6 5,.string (⟨#[110]⟩ : ByteArray)] (⟨5,(⟨#[110]⟩ : ByteArray)⟩ : api_Agg) from rfl) (Reps.nil _ _)) rfl
 have hRL:=hRL.trans hl_41
 obtain ⟨y_42,h_43,H⟩:=bs H
 refine sl_call call15 q (by decide) rfl rfl rfl (group_Partial.calls y_2 [(⟨#[107]⟩ : ByteArray)] [(⟨5,(⟨#[110]⟩ : ByteArray)⟩ : api_Agg)] (lentOf_sub [] _) s.sub (hs_18.mono (hl_22.le.trans (hl_25.le.trans (hl_28.le.trans (hl_32.le.trans hl_41.le))))) (hs_21.mono (hl_25.le.trans (hl_28.le.trans (hl_32.le.trans hl_41.le)))) (hs_24.mono (hl_28.le.trans (hl_32.le.trans hl_41.le))) hs_40 (GF.mono (s.raLe0 hRA nil_not) hG) h_43) fun a v_ w hv_ q=>?_
 obtain ⟨R_44,v_47,cs_48,v_51,cs_52,hv_,hr_,hl_45,hq_49,hq_53⟩:=hv_
 have hv_:=hv_.symm
 subst hv_
 obtain ⟨s,hl_45⟩:=s.sp0.back hr_ hl_45
 have s:=s.un2
 have hRL:=hRL.trans hl_45
 refine zm q rfl fun a q=>zl q (r_extract q rfl rfl) fun a q=>zl q (r_extract q rfl rfl) fun a q=>?_
 refine sl_alloc zeroValue35 s q (by decide) rfl rfl fun a w b_54 s q=>?_
 refine sl_storeA (vs:=[v_47,v_51]) (c':=[v_47,v_51]) sizeOf35 s q rfl rfl rfl rfl (all_cons (s.row_one z1) (all_cons (s.row_one z2) zz)) (Nat.le_of_ble_eq_true rfl) rfl fun a w s q=>?_
 refine za q rfl fun a q=>zn<|zq<|zr<|zl q (r_loadA (cs:=[v_7,v_11]) isAgg35 sizeOf35 rfl q rfl (s.cells_of (m:=2) z4 rfl)) fun a q=>zl q (r_buildC (ps:=[(0,I6 4),(1,.string (⟨#[110]⟩ : ByteArray))]) (c:=[I6 4,.string (⟨#[110]⟩ : ByteArray)]) underlying49 zeroValue49 places49 q rfl (pc_cons rfl (pc_cons rfl pc_nil)) rfl rfl) fun a q=>?_
 refine sl_buildSliceF (zc:=[I6 0,.string (⟨#[]⟩ : ByteArray)]) (ps:=[(0,.agg #[I6 4,.string (⟨#[110]⟩ : ByteArray)])]) (c:=[I6 4,.string (⟨#[110]⟩ : ByteArray)]) [[I6 4,.string (⟨#[110]⟩ : ByteArray)]] underlying24 sizeOf49 zeroValue49 rfl (pc_cons rfl pc_nil) rfl rfl (Nat.le_of_ble_eq_true rfl) rfl (zc zz) rfl s q (by decide) rfl fun a w b_55 s q=>?_
 obtain ⟨R_56,s,hl_58,hs_57⟩:=s.fz_lit (ty:=ty_api_Agg) (xs:=[(⟨4,(⟨#[110]⟩ : ByteArray)⟩ : api_Agg)]) (Reps.cons (show Ty.rep ty_api_Agg _ [I6 4,.string (⟨#[110]⟩ : ByteArray)] (⟨4,(⟨#[110]⟩ : ByteArray)⟩ : api_Agg) from rfl) (Reps.nil _ _)) rfl
 have hRL:=hRL.trans hl_58
 obtain ⟨y_59,h_60,H⟩:=bs H
 refine sl_call call18 q (by decide) rfl rfl rfl (group_Group.calls y_2 ([] : List ByteArray) [(⟨4,(⟨#[110]⟩ : ByteArray)⟩ : api_Agg)] (lentOf_sub [] _) s.sub (hs_18.mono (hl_22.le.trans (hl_25.le.trans (hl_28.le.trans (hl_32.le.trans (hl_41.le.trans (hl_45.le.trans hl_58.le))))))) (hs_21.mono (hl_25.le.trans (hl_28.le.trans (hl_32.le.trans (hl_41.le.trans (hl_45.le.trans hl_58.le)))))) (SlR.nil tyStr _) hs_57 (GF.mono (s.raLe0 hRA nil_not) hG) h_60) fun a v_ w hv_ q=>?_
 obtain ⟨R_61,v_63,v_65,hv_,hr_,hl_62,hs_64,hs_66⟩:=hv_
 have hv_:=hv_.symm
 subst hv_
 obtain ⟨s,hl_62⟩:=s.sp0.back hr_ hl_62
 have s:=s.un0
 have hRL:=hRL.trans hl_62
 refine zm q rfl fun a q=>zl q (r_extract q rfl rfl) fun a q=>zl q (r_extract q rfl rfl) fun a q=>?_
 refine sl_alloc zeroValue35 s q (by decide) rfl rfl fun a w b_67 s q=>?_
 refine sl_storeA (vs:=[v_63,v_65]) (c':=[v_63,v_65]) sizeOf35 s q rfl rfl rfl rfl (all_cons hs_64.one (all_cons hs_66.one zz)) (Nat.le_of_ble_eq_true rfl) rfl fun a w s q=>?_
 refine za q rfl fun a q=>zn<|zq<|zr ?_
 obtain ⟨y_68,h_69,H⟩:=bs H
 refine sl_call call24 q (by decide) rfl rfl rfl (law18_pairs.calls (⟨#[]⟩ : ByteArray) ([] : List Int) (lentOf_sub [] _) s.sub (SlR.nil (tyInt .i64) _) h_69) fun a v_ w hv_ q=>?_
 obtain ⟨R_70,v_73,cs_74,v_77,cs_78,hv_,hr_,hl_71,hq_75,hq_79⟩:=hv_
 have hv_:=hv_.symm
 subst hv_
 obtain ⟨s,hl_71⟩:=s.sp0.back hr_ hl_71
 have s:=s.un2
 have hRL:=hRL.trans hl_71
 refine zm q rfl fun a q=>zl q (r_buildC (ps:=[(0,I6 1)]) (c:=[I6 1,.string (⟨#[]⟩ : ByteArray)]) underlying49 zeroValue49 places49 q rfl (pc_cons rfl pc_nil) rfl rfl) fun a q=>?_
 refine sl_buildSliceF (zc:=[I6 0,.string (⟨#[]⟩ : ByteArray)]) (ps:=[(0,.agg #[I6 1,.string (⟨#[]⟩ : ByteArray)])]) (c:=[I6 1,.string (⟨#[]⟩ : ByteArray)]) [[I6 1,.string (⟨#[]⟩ : ByteArray)]] underlying24 sizeOf49 zeroValue49 rfl (pc_cons rfl pc_nil) rfl rfl (Nat.le_of_ble_eq_true rfl) rfl (zc zz) rfl s q (by decide) rfl fun a w b_80 s q=>?_
 have s:=s.pk1
 obtain ⟨R_81,s,hl_83,hs_82⟩:=s.fz_row hq_75 rfl rfl
 have hRL:=hRL.trans hl_83
 have s:=s.pk1
 obtain ⟨R_84,s,hl_86,hs_85⟩:=s.fz_row (hq_79.mono hl_83.le) rfl rfl
 have hRL:=hRL.trans hl_86
 obtain ⟨R_87,s,hl_89,hs_88⟩:=s.fz_lit (ty:=ty_api_Agg) (xs:=[(⟨1,(⟨#[]⟩ : ByteArray)⟩ : api_Agg)]) (Reps.cons (show Ty.rep ty_api_Agg _ [I6 1,.string (⟨#[]⟩ : ByteArray)] (⟨1,(⟨#[]⟩ : ByteArray)⟩ : api_Agg) from rfl) (Reps.nil _ _)) rfl
 have hRL:=hRL.trans hl_89
 obtain ⟨y_90,h_91,H⟩:=bs H
 refine sl_call call18 q (by decide) rfl rfl rfl (group_Group.calls y_68 [(⟨#[107]⟩ : ByteArray)] [(⟨1,(⟨#[]⟩ : ByteArray)⟩ : api_Agg)] (lentOf_sub [] _) s.sub (hs_82.mono (hl_86.le.trans hl_89.le)) (hs_85.mono hl_89.le) (hs_24.mono (hl_28.le.trans (hl_32.le.trans (hl_41.le.trans (hl_45.le.trans (hl_58.le.trans (hl_62.le.trans (hl_71.le.trans (hl_83.le.trans (hl_86.le.trans hl_89.le)))))))))) hs_88 (GF.mono (s.raLe0 hRA nil_not) hG) h_91) fun a v_ w hv_ q=>?_
 obtain ⟨R_92,v_94,v_96,hv_,hr_,hl_93,hs_95,hs_97⟩:=hv_
 have hv_:=hv_.symm
 subst hv_
 obtain ⟨s,hl_93⟩:=s.sp0.back hr_ hl_93
 have s:=s.un0
 have hRL:=hRL.trans hl_93
 refine zm q rfl fun a q=>zl q (r_extract q rfl rfl) fun a q=>zl q (r_extract q rfl rfl) fun a q=>?_
 refine sl_alloc zeroValue35 s q (by decide) rfl rfl fun a w b_98 s q=>?_
 refine sl_storeA (vs:=[v_94,v_96]) (c':=[v_94,v_96]) sizeOf35 s q rfl rfl rfl rfl (all_cons hs_95.one (all_cons hs_97.one zz)) (Nat.le_of_ble_eq_true rfl) rfl fun a w s q=>?_
 refine za q rfl fun a q=>zn<|zq<|zr<|zl q (r_loadA (cs:=[v_7,v_11]) isAgg35 sizeOf35 rfl q rfl (s.cells_of (m:=2) z6 rfl)) fun a q=>?_
 refine sl_buildSliceF (zc:=[.string (⟨#[]⟩ : ByteArray)]) (ps:=[(0,.string (⟨#[120]⟩ : ByteArray))]) (c:=[.string (⟨#[120]⟩ : ByteArray)]) [[.string (⟨#[120]⟩ : ByteArray)]] underlying23 sizeOf9 zeroValue9 rfl (pc_cons rfl pc_nil) rfl rfl (Nat.le_of_ble_eq_true rfl) rfl (zc zz) rfl s q (by decide) rfl fun a w b_99 s q=>?_
 refine zl q (r_buildC (ps:=[(0,I6 1)]) (c:=[I6 1,.string (⟨#[]⟩ : ByteArray)]) underlying49 zeroValue49 places49 q rfl (pc_cons rfl pc_nil) rfl rfl) fun a q=>?_
 refine sl_buildSliceF (zc:=[I6 0,.string (⟨#[]⟩ : ByteArray)]) (ps:=[(0,.agg #[I6 1,.string (⟨#[]⟩ : ByteArray)])]) (c:=[I6 1,.string (⟨#[]⟩ : ByteArray)]) [[I6 1,.string (⟨#[]⟩ : ByteArray)]] underlying24 sizeOf49 zeroValue49 rfl (pc_cons rfl pc_nil) rfl rfl (Nat.le_of_ble_eq_true rfl) rfl (zc zz) rfl s q (by decide) rfl fun a w b_100 s q=>?_
 have s:=s.pk1
 obtain ⟨R_101,s,hl_103,hs_102⟩:=s.fz_lit (ty:=tyStr) (xs:=[(⟨#[120]⟩ : ByteArray)]) (Reps.cons (show Ty.rep tyStr _ [.string (⟨#[120]⟩ : ByteArray)] (⟨#[120]⟩ : ByteArray) from rfl) (Reps.nil _ _)) rfl
 have hRL:=hRL.trans hl_103
 obtain ⟨R_104,s,hl_106,hs_105⟩:=s.fz_lit (ty:=ty_api_Agg) (xs:=[(⟨1,(⟨#[]⟩ : ByteArray)⟩ : api_Agg)]) (Reps.cons (show Ty.rep ty_api_Agg _ [I6 1,.string (⟨#[]⟩ : ByteArray)] (⟨1,(⟨#[]⟩ : ByteArray)⟩ : api_Agg) from rfl) (Reps.nil _ _)) rfl
 have hRL:=hRL.trans hl_106
 obtain ⟨y_107,h_108,H⟩:=bs H
 refine sl_call call18 q (by decide) rfl rfl rfl (group_Group.calls y_2 [(⟨#[120]⟩ : ByteArray)] [(⟨1,(⟨#[]⟩ : ByteArray)⟩ : api_Agg)] (lentOf_sub [] _) s.sub (hs_18.mono (hl_22.le.trans (hl_25.le.trans (hl_28.le.trans (hl_32.le.trans (hl_41.le.trans (hl_45.le.trans (hl_58.le.trans (hl_62.le.trans (hl_71.le.trans (hl_83.le.trans (hl_86.le.trans (hl_89.le.trans (hl_93.le.trans (hl_103.le.trans hl_106.le))))))))))))))) (hs_21.mono (hl_25.le.trans (hl_28.le.trans (hl_32.le.trans (hl_41.le.trans (hl_45.le.trans (hl_58.le.trans (hl_62.le.trans (hl_71.le.trans (hl_83.le.trans (hl_86.le.trans (hl_89.le.trans (hl_93.le.trans (hl_103.le.trans hl_106.le)))))))))))))) (hs_102.mono hl_106.le) hs_105 (GF.mono (s.raLe0 hRA nil_not) hG) h_108) fun a v_ w hv_ q=>?_
 obtain ⟨R_109,v_111,v_113,hv_,hr_,hl_110,hs_112,hs_114⟩:=hv_
 have hv_:=hv_.symm
 subst hv_
 obtain ⟨s,hl_110⟩:=s.sp0.back hr_ hl_110
 have s:=s.un0
 have hRL:=hRL.trans hl_110
 refine zm q rfl fun a q=>zl q (r_extract q rfl rfl) fun a q=>zl q (r_extract q rfl rfl) fun a q=>?_
 refine sl_alloc zeroValue35 s q (by decide) rfl rfl fun a w b_115 s q=>?_
 refine sl_storeA (vs:=[v_111,v_113]) (c':=[v_111,v_113]) sizeOf35 s q rfl rfl rfl rfl (all_cons hs_112.one (all_cons hs_114.one zz)) (Nat.le_of_ble_eq_true rfl) rfl fun a w s q=>?_
 refine za q rfl fun a q=>zn<|zq<|zr<|zm q rfl fun a q=>zl q (r_ibin q rfl rfl rfl) fun a q=>zm q rfl fun a q=>?_
 rcases or_b (y_29.2 == 0) with hb_116 | hb_116
 rw [ifb_t hb_116] at H
 refine zw q (wtt hb_116) (r_fieldAddr underlying35 rfl sizeOf33 q rfl) fun a q=>zw q (wtt hb_116) (r_load isAgg33 q rfl (s.cell z6 rfl)) fun a q=>zw q (wtt hb_116) (r_len_R underlying33 hs_36 q rfl) fun a q=>zw q (wtt hb_116) (r_ibin q rfl rfl rfl) fun a q=>zl q (r_pick_t hb_116 q rfl rfl) fun a q=>zm q rfl fun a q=>?_
 rcases or_b ((y_29.1.Rows.length : Int) == 2) with hb_117 | hb_117
 rw [ifb_t hb_117] at H
 refine zw q (wtt hb_117) (r_fieldAddr underlying35 rfl sizeOf33 q rfl) fun a q=>zw q (wtt hb_117) (r_load isAgg33 q rfl (s.cell z6 rfl)) fun a q=>?_
 obtain ⟨y_118,h_119,H⟩:=bs H
 obtain ⟨b_120,o_121,c_122,cs_123,hv_124,hr_125,hc_126,h_1190,h_1191⟩:=hs_36.ix h_119
 obtain ⟨v_127,rfl,hs_128⟩:=hr_125
 refine zw q (wtt hb_117) (r_indexAddr_R underlying33 sizeOf53 hv_124 h_1190 h_1191 q rfl rfl) fun a q=>zw q (wtt hb_117) (r_load isAgg53 q rfl ((s.sub.le (hl_41.le.trans (hl_45.le.trans (hl_58.le.trans (hl_62.le.trans (hl_71.le.trans (hl_83.le.trans (hl_86.le.trans (hl_89.le.trans (hl_93.le.trans (hl_103.le.trans (hl_106.le.trans hl_110.le)))))))))))).cell (hc_126 0 _ rfl))) fun a q=>zw q (wtt hb_117) (r_len_R underlying53 hs_128 q rfl) fun a q=>zw q (wtt hb_117) (r_ibin q rfl rfl rfl) fun a q=>zl q (r_pick_t hb_117 q rfl rfl) fun a q=>zm q rfl fun a q=>?_
 rcases or_b ((y_118.length : Int) == 4) with hb_129 | hb_129
 rw [ifb_t hb_129] at H
 refine zw q (wtt hb_129) (r_fieldAddr underlying35 rfl sizeOf33 q rfl) fun a q=>zw q (wtt hb_129) (r_load isAgg33 q rfl (s.cell z6 rfl)) fun a q=>?_
 obtain ⟨y_130,h_131,H⟩:=bs H
 obtain ⟨b_132,o_133,c_134,cs_135,hv_136,hr_137,hc_138,h_1310,h_1311⟩:=hs_36.ix h_131
 obtain ⟨v_139,rfl,hs_140⟩:=hr_137
 refine zw q (wtt hb_129) (r_indexAddr_R underlying33 sizeOf53 hv_136 h_1310 h_1311 q rfl rfl) fun a q=>zw q (wtt hb_129) (r_load isAgg53 q rfl ((s.sub.le (hl_41.le.trans (hl_45.le.trans (hl_58.le.trans (hl_62.le.trans (hl_71.le.trans (hl_83.le.trans (hl_86.le.trans (hl_89.le.trans (hl_93.le.trans (hl_103.le.trans (hl_106.le.trans hl_110.le)))))))))))).cell (hc_138 0 _ rfl))) fun a q=>?_
 obtain ⟨y_141,h_142,H⟩:=bs H
 obtain ⟨b_143,o_144,c_145,cs_146,hv_147,hr_148,hc_149,h_1420,h_1421⟩:=hs_140.ix h_142
 subst hr_148
 refine zw q (wtt hb_129) (r_indexAddr_R underlying53 sizeOf52 hv_147 h_1420 h_1421 q rfl rfl) fun a q=>zw q (wtt hb_129) (r_fieldAddr underlying52 rfl sizeOf3 q rfl) fun a q=>zw q (wtt hb_129) (r_load isAgg3 q rfl ((s.sub.le (hl_41.le.trans (hl_45.le.trans (hl_58.le.trans (hl_62.le.trans (hl_71.le.trans (hl_83.le.trans (hl_86.le.trans (hl_89.le.trans (hl_93.le.trans (hl_103.le.trans (hl_106.le.trans hl_110.le)))))))))))).cell (hc_149 1 _ rfl))) fun a q=>zw q (wtt hb_129) (r_ibin q rfl rfl rfl) fun a q=>zl q (r_pick_t hb_129 q rfl rfl) fun a q=>zm q rfl fun a q=>?_
 rcases or_b (y_141.N == 2) with hb_150 | hb_150
 rw [ifb_t hb_150] at H
 refine zw q (wtt hb_150) (r_fieldAddr underlying35 rfl sizeOf33 q rfl) fun a q=>zw q (wtt hb_150) (r_load isAgg33 q rfl (s.cell z6 rfl)) fun a q=>?_
 obtain ⟨y_151,h_152,H⟩:=bs H
 obtain ⟨b_153,o_154,c_155,cs_156,hv_157,hr_158,hc_159,h_1520,h_1521⟩:=hs_36.ix h_152
 obtain ⟨v_160,rfl,hs_161⟩:=hr_158
 refine zw q (wtt hb_150) (r_indexAddr_R underlying33 sizeOf53 hv_157 h_1520 h_1521 q rfl rfl) fun a q=>zw q (wtt hb_150) (r_load isAgg53 q rfl ((s.sub.le (hl_41.le.trans (hl_45.le.trans (hl_58.le.trans (hl_62.le.trans (hl_71.le.trans (hl_83.le.trans (hl_86.le.trans (hl_89.le.trans (hl_93.le.trans (hl_103.le.trans (hl_106.le.trans hl_110.le)))))))))))).cell (hc_159 0 _ rfl))) fun a q=>?_
 obtain ⟨y_162,h_163,H⟩:=bs H
 obtain ⟨b_164,o_165,c_166,cs_167,hv_168,hr_169,hc_170,h_1630,h_1631⟩:=hs_161.ix h_163
 subst hr_169
 refine zw q (wtt hb_150) (r_indexAddr_R underlying53 sizeOf52 hv_168 h_1630 h_1631 q rfl rfl) fun a q=>zw q (wtt hb_150) (r_fieldAddr underlying52 rfl sizeOf3 q rfl) fun a q=>zw q (wtt hb_150) (r_load isAgg3 q rfl ((s.sub.le (hl_41.le.trans (hl_45.le.trans (hl_58.le.trans (hl_62.le.trans (hl_71.le.trans (hl_83.le.trans (hl_86.le.trans (hl_89.le.trans (hl_93.le.trans (hl_103.le.trans (hl_106.le.trans hl_110.le)))))))))))).cell (hc_170 1 _ rfl))) fun a q=>zw q (wtt hb_150) (r_ibin q rfl rfl rfl) fun a q=>zl q (r_pick_t hb_150 q rfl rfl) fun a q=>zm q rfl fun a q=>?_
 rcases or_b (y_162.N == 5) with hb_171 | hb_171
 rw [ifb_t hb_171] at H
 refine zw q (wtt hb_171) (r_fieldAddr underlying35 rfl sizeOf33 q rfl) fun a q=>zw q (wtt hb_171) (r_load isAgg33 q rfl (s.cell z6 rfl)) fun a q=>?_
 obtain ⟨y_172,h_173,H⟩:=bs H
 obtain ⟨b_174,o_175,c_176,cs_177,hv_178,hr_179,hc_180,h_1730,h_1731⟩:=hs_36.ix h_173
 obtain ⟨v_181,rfl,hs_182⟩:=hr_179
 refine zw q (wtt hb_171) (r_indexAddr_R underlying33 sizeOf53 hv_178 h_1730 h_1731 q rfl rfl) fun a q=>zw q (wtt hb_171) (r_load isAgg53 q rfl ((s.sub.le (hl_41.le.trans (hl_45.le.trans (hl_58.le.trans (hl_62.le.trans (hl_71.le.trans (hl_83.le.trans (hl_86.le.trans (hl_89.le.trans (hl_93.le.trans (hl_103.le.trans (hl_106.le.trans hl_110.le)))))))))))).cell (hc_180 0 _ rfl))) fun a q=>?_
 obtain ⟨y_183,h_184,H⟩:=bs H
 obtain ⟨b_185,o_186,c_187,cs_188,hv_189,hr_190,hc_191,h_1840,h_1841⟩:=hs_182.ix h_184
 subst hr_190
 refine zw q (wtt hb_171) (r_indexAddr_R underlying53 sizeOf52 hv_189 h_1840 h_1841 q rfl rfl) fun a q=>zw q (wtt hb_171) (r_fieldAddr underlying52 rfl sizeOf3 q rfl) fun a q=>zw q (wtt hb_171) (r_load isAgg3 q rfl ((s.sub.le (hl_41.le.trans (hl_45.le.trans (hl_58.le.trans (hl_62.le.trans (hl_71.le.trans (hl_83.le.trans (hl_86.le.trans (hl_89.le.trans (hl_93.le.trans (hl_103.le.trans (hl_106.le.trans hl_110.le)))))))))))).cell (hc_191 1 _ rfl))) fun a q=>zw q (wtt hb_171) (r_ibin q rfl rfl rfl) fun a q=>zl q (r_pick_t hb_171 q rfl rfl) fun a q=>zm q rfl fun a q=>?_
 rcases or_b (y_183.N == 2) with hb_192 | hb_192
 rw [ifb_t hb_192] at H
 refine zw q (wtt hb_192) (r_move q rfl) fun a q=>zw q (wtt hb_192) (r_ibin q rfl rfl rfl) fun a q=>zl q (r_pick_t hb_192 q rfl rfl) fun a q=>zm q rfl fun a q=>?_
 rcases or_b (y_42.2 == 0) with hb_193 | hb_193
 rw [ifb_t hb_193] at H
 refine zw q (wtt hb_193) (r_fieldAddr underlying35 rfl sizeOf22 q rfl) fun a q=>zw q (wtt hb_193) (r_load isAgg22 q rfl (s.cell z3 rfl)) fun a q=>zw q (wtt hb_193) (r_len_O underlying22 s z4 q rfl) fun a q=>zw q (wtt hb_193) (r_ibin q rfl rfl rfl) fun a q=>zl q (r_pick_t hb_193 q rfl rfl) fun a q=>zm q rfl fun a q=>?_
 rcases or_b ((y_42.1.Cols.length : Int) == 3) with hb_194 | hb_194
 rw [ifb_t hb_194] at H
 refine zw q (wtt hb_194) (r_fieldAddr underlying35 rfl sizeOf22 q rfl) fun a q=>zw q (wtt hb_194) (r_load isAgg22 q rfl (s.cell z3 rfl)) fun a q=>?_
 obtain ⟨y_195,h_196,H⟩:=bs H
 obtain ⟨b_198,c_199,cs_200,hv_197,hr_201,hc_202,h_1960,h_1961⟩:=s.row_ix z4 (hq_49.mono (hl_58.le.trans (hl_62.le.trans (hl_71.le.trans (hl_83.le.trans (hl_86.le.trans (hl_89.le.trans (hl_93.le.trans (hl_103.le.trans (hl_106.le.trans hl_110.le)))))))))) rfl rfl h_196
 subst hr_201
 refine zw q (wtt hb_194) (r_indexAddr_R underlying22 sizeOf47 hv_197 h_1960 h_1961 q rfl rfl) fun a q=>zw q (wtt hb_194) (r_fieldAddr underlying47 rfl sizeOf9 q rfl) fun a q=>zw q (wtt hb_194) (r_load isAgg9 q rfl (by have h_:=s.row_cell z4 hv_197 (hc_202 0 _ rfl); simpa [Nat.add_assoc] using h_)) fun a q=>?_
 refine zw q (wtt hb_194) (r_sbin q rfl rfl rfl) fun a q=>zl q (r_pick_t hb_194 q rfl rfl) fun a q=>zm q rfl fun a q=>?_
 rcases or_b (y_195.Name.toList == (⟨#[112,35,48,35,110]⟩ : ByteArray).toList) with hb_203 | hb_203
 rw [ifb_t hb_203] at H
 refine zw q (wtt hb_203) (r_fieldAddr underlying35 rfl sizeOf33 q rfl) fun a q=>zw q (wtt hb_203) (r_load isAgg33 q rfl (s.cell z3 rfl)) fun a q=>?_
 obtain ⟨y_204,h_205,H⟩:=bs H
 obtain ⟨b_207,c_208,cs_209,hv_206,hr_210,hc_211,h_2050,h_2051⟩:=s.row_ix z5 (hq_53.mono (hl_58.le.trans (hl_62.le.trans (hl_71.le.trans (hl_83.le.trans (hl_86.le.trans (hl_89.le.trans (hl_93.le.trans (hl_103.le.trans (hl_106.le.trans hl_110.le)))))))))) rfl rfl h_205
 obtain ⟨v_212,rfl,hs_213⟩:=hr_210
 refine zw q (wtt hb_203) (r_indexAddr_R underlying33 sizeOf53 hv_206 h_2050 h_2051 q rfl rfl) fun a q=>zw q (wtt hb_203) (r_load isAgg53 q rfl (s.row_cell z5 hv_206 (hc_211 0 _ rfl))) fun a q=>?_
 obtain ⟨y_214,h_215,H⟩:=bs H
 obtain ⟨b_216,o_217,c_218,cs_219,hv_220,hr_221,hc_222,h_2150,h_2151⟩:=hs_213.ix h_215
 subst hr_221
 refine zw q (wtt hb_203) (r_indexAddr_R underlying53 sizeOf52 hv_220 h_2150 h_2151 q rfl rfl) fun a q=>zw q (wtt hb_203) (r_fieldAddr underlying52 rfl sizeOf3 q rfl) fun a q=>zw q (wtt hb_203) (r_load isAgg3 q rfl (s.sub.cell (hc_222 1 _ rfl))) fun a q=>zw q (wtt hb_203) (r_ibin q rfl rfl rfl) fun a q=>zl q (r_pick_t hb_203 q rfl rfl) fun a q=>zm q rfl fun a q=>?_
 rcases or_b (y_214.N == 5) with hb_223 | hb_223
 rw [ifb_t hb_223] at H
 refine zw q (wtt hb_223) (r_move q rfl) fun a q=>zw q (wtt hb_223) (r_ibin q rfl rfl rfl) fun a q=>zl q (r_pick_t hb_223 q rfl rfl) fun a q=>zm q rfl fun a q=>?_
 rcases or_b (y_59.2 == 0) with hb_224 | hb_224
 rw [ifb_t hb_224] at H
 refine zw q (wtt hb_224) (r_fieldAddr underlying35 rfl sizeOf33 q rfl) fun a q=>zw q (wtt hb_224) (r_load isAgg33 q rfl (s.cell z2 rfl)) fun a q=>zw q (wtt hb_224) (r_len_R underlying33 hs_66 q rfl) fun a q=>zw q (wtt hb_224) (r_ibin q rfl rfl rfl) fun a q=>zl q (r_pick_t hb_224 q rfl rfl) fun a q=>zm q rfl fun a q=>?_
 rcases or_b ((y_59.1.Rows.length : Int) == 1) with hb_225 | hb_225
 rw [ifb_t hb_225] at H
 refine zw q (wtt hb_225) (r_fieldAddr underlying35 rfl sizeOf33 q rfl) fun a q=>zw q (wtt hb_225) (r_load isAgg33 q rfl (s.cell z2 rfl)) fun a q=>?_
 obtain ⟨y_226,h_227,H⟩:=bs H
 obtain ⟨b_228,o_229,c_230,cs_231,hv_232,hr_233,hc_234,h_2270,h_2271⟩:=hs_66.ix h_227
 obtain ⟨v_235,rfl,hs_236⟩:=hr_233
 refine zw q (wtt hb_225) (r_indexAddr_R underlying33 sizeOf53 hv_232 h_2270 h_2271 q rfl rfl) fun a q=>zw q (wtt hb_225) (r_load isAgg53 q rfl ((s.sub.le (hl_71.le.trans (hl_83.le.trans (hl_86.le.trans (hl_89.le.trans (hl_93.le.trans (hl_103.le.trans (hl_106.le.trans hl_110.le)))))))).cell (hc_234 0 _ rfl))) fun a q=>?_
 obtain ⟨y_237,h_238,H⟩:=bs H
 obtain ⟨b_239,o_240,c_241,cs_242,hv_243,hr_244,hc_245,h_2380,h_2381⟩:=hs_236.ix h_238
 subst hr_244
 refine zw q (wtt hb_225) (r_indexAddr_R underlying53 sizeOf52 hv_243 h_2380 h_2381 q rfl rfl) fun a q=>zw q (wtt hb_225) (r_fieldAddr underlying52 rfl sizeOf3 q rfl) fun a q=>zw q (wtt hb_225) (r_load isAgg3 q rfl ((s.sub.le (hl_71.le.trans (hl_83.le.trans (hl_86.le.trans (hl_89.le.trans (hl_93.le.trans (hl_103.le.trans (hl_106.le.trans hl_110.le)))))))).cell (hc_245 1 _ rfl))) fun a q=>zw q (wtt hb_225) (r_ibin q rfl rfl rfl) fun a q=>zl q (r_pick_t hb_225 q rfl rfl) fun a q=>zm q rfl fun a q=>?_
 rcases or_b (y_237.N == 7) with hb_246 | hb_246
 rw [ifb_t hb_246] at H
 refine zw q (wtt hb_246) (r_move q rfl) fun a q=>zw q (wtt hb_246) (r_ibin q rfl rfl rfl) fun a q=>zl q (r_pick_t hb_246 q rfl rfl) fun a q=>zm q rfl fun a q=>?_
 rcases or_b (y_90.2 == 0) with hb_247 | hb_247
 rw [ifb_t hb_247] at H
 refine zw q (wtt hb_247) (r_fieldAddr underlying35 rfl sizeOf33 q rfl) fun a q=>zw q (wtt hb_247) (r_load isAgg33 q rfl (s.cell z1 rfl)) fun a q=>zw q (wtt hb_247) (r_len_R underlying33 hs_97 q rfl) fun a q=>zw q (wtt hb_247) (r_ibin q rfl rfl rfl) fun a q=>zl q (r_pick_t hb_247 q rfl rfl) fun a q=>zm q rfl fun a q=>?_
 rcases or_b ((y_90.1.Rows.length : Int) == 0) with hb_248 | hb_248
 rw [ifb_t hb_248] at H
 refine zw q (wtt hb_248) (r_move q rfl) fun a q=>zw q (wtt hb_248) (r_ibin q rfl rfl rfl) fun a q=>zl q (r_pick_t hb_248 q rfl rfl) fun a q=>za q rfl fun a q=>zn ?_
 obtain rfl:=Option.some.inj H
 refine wp_ret ?_
 repeat first | refine zt ?_ | refine zb ?_ | refine zo ?_
 exact ret_1 results9 q (rv_tmp q rfl) ⟨rfl,s.bel⟩
 rw [ifb_f hb_248] at H
 refine zsw q (wtf hb_248) fun a q=>zsw q (wtf hb_248) fun a q=>zl q (r_pick_f hb_248 q rfl rfl) fun a q=>za q rfl fun a q=>zn ?_
 obtain rfl:=Option.some.inj H
 refine wp_ret ?_
 repeat first | refine zt ?_ | refine zb ?_ | refine zo ?_
 exact ret_1 results9 q (rv_tmp q rfl) ⟨rfl,s.bel⟩
 rw [ifb_f hb_247] at H
 refine zsw q (wtf hb_247) fun a q=>zsw q (wtf hb_247) fun a q=>zsw q (wtf hb_247) fun a q=>zsw q (wtf hb_247) fun a q=>zl q (r_pick_f hb_247 q rfl rfl) fun a q=>zm q rfl fun a q=>zs q fun a q=>zs q fun a q=>zl q (r_pick q rfl rfl rfl) fun a q=>za q rfl fun a q=>zn ?_
 obtain rfl:=Option.some.inj H
 refine wp_ret ?_
 repeat first | refine zt ?_ | refine zb ?_ | refine zo ?_
 exact ret_1 results9 q (rv_tmp q rfl) ⟨rfl,s.bel⟩
 rw [ifb_f hb_246] at H
 refine zsw q (wtf hb_246) fun a q=>zsw q (wtf hb_246) fun a q=>zl q (r_pick_f hb_246 q rfl rfl) fun a q=>zm q rfl fun a q=>zs q fun a q=>zs q fun a q=>zs q fun a q=>zs q fun a q=>zl q (r_pick q rfl rfl rfl) fun a q=>zm q rfl fun a q=>zs q fun a q=>zs q fun a q=>zl q (r_pick q rfl rfl rfl) fun a q=>za q rfl fun a q=>zn ?_
 obtain rfl:=Option.some.inj H
 refine wp_ret ?_
 repeat first | refine zt ?_ | refine zb ?_ | refine zo ?_
 exact ret_1 results9 q (rv_tmp q rfl) ⟨rfl,s.bel⟩
 rw [ifb_f hb_225] at H
 refine zsw q (wtf hb_225) fun a q=>zsw q (wtf hb_225) fun a q=>zsw q (wtf hb_225) fun a q=>zsw q (wtf hb_225) fun a q=>zsw q (wtf hb_225) fun a q=>zsw q (wtf hb_225) fun a q=>zsw q (wtf hb_225) fun a q=>zsw q (wtf hb_225) fun a q=>zl q (r_pick_f hb_225 q rfl rfl) fun a q=>zm q rfl fun a q=>zs q fun a q=>zs q fun a q=>zl q (r_pick q rfl rfl rfl) fun a q=>zm q rfl fun a q=>zs q fun a q=>zs q fun a q=>zs q fun a q=>zs q fun a q=>zl q (r_pick q rfl rfl rfl) fun a q=>zm q rfl fun a q=>zs q fun a q=>zs q fun a q=>zl q (r_pick q rfl rfl rfl) fun a q=>za q rfl fun a q=>zn ?_
 obtain rfl:=Option.some.inj H
 refine wp_ret ?_
 repeat first | refine zt ?_ | refine zb ?_ | refine zo ?_
 exact ret_1 results9 q (rv_tmp q rfl) ⟨rfl,s.bel⟩
 rw [ifb_f hb_224] at H
 refine zsw q (wtf hb_224) fun a q=>zsw q (wtf hb_224) fun a q=>zsw q (wtf hb_224) fun a q=>zsw q (wtf hb_224) fun a q=>zl q (r_pick_f hb_224 q rfl rfl) fun a q=>zm q rfl fun a q=>zs q fun a q=>zs q fun a q=>zs q fun a q=>zs q fun a q=>zs q fun a q=>zs q fun a q=>zs q fun a q=>zs q fun a q=>zl q (r_pick q rfl rfl rfl) fun a q=>zm q rfl fun a q=>zs q fun a q=>zs q fun a q=>zl q (r_pick q rfl rfl rfl) fun a q=>zm q rfl fun a q=>zs q fun a q=>zs q fun a q=>zs q fun a q=>zs q fun a q=>zl q (r_pick q rfl rfl rfl) fun a q=>zm q rfl fun a q=>zs q fun a q=>zs q fun a q=>zl q (r_pick q rfl rfl rfl) fun a q=>za q rfl fun a q=>zn ?_
 obtain rfl:=Option.some.inj H
 refine wp_ret ?_
 repeat first | refine zt ?_ | refine zb ?_ | refine zo ?_
 exact ret_1 results9 q (rv_tmp q rfl) ⟨rfl,s.bel⟩
 rw [ifb_f hb_223] at H
 refine zsw q (wtf hb_223) fun a q=>zsw q (wtf hb_223) fun a q=>zl q (r_pick_f hb_223 q rfl rfl) fun a q=>zm q rfl fun a q=>zs q fun a q=>zs q fun a q=>zs q fun a q=>zs q fun a q=>zl q (r_pick q rfl rfl rfl) fun a q=>zm q rfl fun a q=>zs q fun a q=>zs q fun a q=>zs q fun a q=>zs q fun a q=>zs q fun a q=>zs q fun a q=>zs q fun a q=>zs q fun a q=>zl q (r_pick q rfl rfl rfl) fun a q=>zm q rfl fun a q=>zs q fun a q=>zs q fun a q=>zl q (r_pick q rfl rfl rfl) fun a q=>zm q rfl fun a q=>zs q fun a q=>zs q fun a q=>zs q fun a q=>zs q fun a q=>zl q (r_pick q rfl rfl rfl) fun a q=>zm q rfl fun a q=>zs q fun a q=>zs q fun a q=>zl q (r_pick q rfl rfl rfl) fun a q=>za q rfl fun a q=>zn ?_
 obtain rfl:=Option.some.inj H
 refine wp_ret ?_
 repeat first | refine zt ?_ | refine zb ?_ | refine zo ?_
 exact ret_1 results9 q (rv_tmp q rfl) ⟨rfl,s.bel⟩
 rw [ifb_f hb_203] at H
 refine zsw q (wtf hb_203) fun a q=>zsw q (wtf hb_203) fun a q=>zsw q (wtf hb_203) fun a q=>zsw q (wtf hb_203) fun a q=>zsw q (wtf hb_203) fun a q=>zsw q (wtf hb_203) fun a q=>zsw q (wtf hb_203) fun a q=>zsw q (wtf hb_203) fun a q=>zl q (r_pick_f hb_203 q rfl rfl) fun a q=>zm q rfl fun a q=>zs q fun a q=>zs q fun a q=>zl q (r_pick q rfl rfl rfl) fun a q=>zm q rfl fun a q=>zs q fun a q=>zs q fun a q=>zs q fun a q=>zs q fun a q=>zl q (r_pick q rfl rfl rfl) fun a q=>zm q rfl fun a q=>zs q fun a q=>zs q fun a q=>zs q fun a q=>zs q fun a q=>zs q fun a q=>zs q fun a q=>zs q fun a q=>zs q fun a q=>zl q (r_pick q rfl rfl rfl) fun a q=>zm q rfl fun a q=>zs q fun a q=>zs q fun a q=>zl q (r_pick q rfl rfl rfl) fun a q=>zm q rfl fun a q=>?_
 refine zs q fun a q=>zs q fun a q=>zs q fun a q=>zs q fun a q=>zl q (r_pick q rfl rfl rfl) fun a q=>zm q rfl fun a q=>zs q fun a q=>zs q fun a q=>zl q (r_pick q rfl rfl rfl) fun a q=>za q rfl fun a q=>zn ?_
 obtain rfl:=Option.some.inj H
 refine wp_ret ?_
 repeat first | refine zt ?_ | refine zb ?_ | refine zo ?_
 exact ret_1 results9 q (rv_tmp q rfl) ⟨rfl,s.bel⟩
 rw [ifb_f hb_194] at H
 refine zsw q (wtf hb_194) fun a q=>zsw q (wtf hb_194) fun a q=>zsw q (wtf hb_194) fun a q=>zsw q (wtf hb_194) fun a q=>zsw q (wtf hb_194) fun a q=>zsw q (wtf hb_194) fun a q=>zl q (r_pick_f hb_194 q rfl rfl) fun a q=>zm q rfl fun a q=>zs q fun a q=>zs q fun a q=>zs q fun a q=>zs q fun a q=>zs q fun a q=>zs q fun a q=>zs q fun a q=>zs q fun a q=>zl q (r_pick q rfl rfl rfl) fun a q=>zm q rfl fun a q=>zs q fun a q=>zs q fun a q=>zl q (r_pick q rfl rfl rfl) fun a q=>zm q rfl fun a q=>zs q fun a q=>zs q fun a q=>zs q fun a q=>zs q fun a q=>zl q (r_pick q rfl rfl rfl) fun a q=>zm q rfl fun a q=>zs q fun a q=>zs q fun a q=>zs q fun a q=>zs q fun a q=>zs q fun a q=>zs q fun a q=>zs q fun a q=>zs q fun a q=>?_
 refine zl q (r_pick q rfl rfl rfl) fun a q=>zm q rfl fun a q=>zs q fun a q=>zs q fun a q=>zl q (r_pick q rfl rfl rfl) fun a q=>zm q rfl fun a q=>zs q fun a q=>zs q fun a q=>zs q fun a q=>zs q fun a q=>zl q (r_pick q rfl rfl rfl) fun a q=>zm q rfl fun a q=>zs q fun a q=>zs q fun a q=>zl q (r_pick q rfl rfl rfl) fun a q=>za q rfl fun a q=>zn ?_
 obtain rfl:=Option.some.inj H
 refine wp_ret ?_
 repeat first | refine zt ?_ | refine zb ?_ | refine zo ?_
 exact ret_1 results9 q (rv_tmp q rfl) ⟨rfl,s.bel⟩
 rw [ifb_f hb_193] at H
 refine zsw q (wtf hb_193) fun a q=>zsw q (wtf hb_193) fun a q=>zsw q (wtf hb_193) fun a q=>zsw q (wtf hb_193) fun a q=>zl q (r_pick_f hb_193 q rfl rfl) fun a q=>zm q rfl fun a q=>zs q fun a q=>zs q fun a q=>zs q fun a q=>zs q fun a q=>zs q fun a q=>zs q fun a q=>zl q (r_pick q rfl rfl rfl) fun a q=>zm q rfl fun a q=>zs q fun a q=>zs q fun a q=>zs q fun a q=>zs q fun a q=>zs q fun a q=>zs q fun a q=>zs q fun a q=>zs q fun a q=>zl q (r_pick q rfl rfl rfl) fun a q=>zm q rfl fun a q=>zs q fun a q=>zs q fun a q=>zl q (r_pick q rfl rfl rfl) fun a q=>zm q rfl fun a q=>zs q fun a q=>zs q fun a q=>zs q fun a q=>zs q fun a q=>zl q (r_pick q rfl rfl rfl) fun a q=>zm q rfl fun a q=>zs q fun a q=>zs q fun a q=>zs q fun a q=>?_
 refine zs q fun a q=>zs q fun a q=>zs q fun a q=>zs q fun a q=>zs q fun a q=>zl q (r_pick q rfl rfl rfl) fun a q=>zm q rfl fun a q=>zs q fun a q=>zs q fun a q=>zl q (r_pick q rfl rfl rfl) fun a q=>zm q rfl fun a q=>zs q fun a q=>zs q fun a q=>zs q fun a q=>zs q fun a q=>zl q (r_pick q rfl rfl rfl) fun a q=>zm q rfl fun a q=>zs q fun a q=>zs q fun a q=>zl q (r_pick q rfl rfl rfl) fun a q=>za q rfl fun a q=>zn ?_
 obtain rfl:=Option.some.inj H
 refine wp_ret ?_
 repeat first | refine zt ?_ | refine zb ?_ | refine zo ?_
 exact ret_1 results9 q (rv_tmp q rfl) ⟨rfl,s.bel⟩
 rw [ifb_f hb_192] at H
 refine zsw q (wtf hb_192) fun a q=>zsw q (wtf hb_192) fun a q=>zl q (r_pick_f hb_192 q rfl rfl) fun a q=>zm q rfl fun a q=>zs q fun a q=>zs q fun a q=>zs q fun a q=>zs q fun a q=>zl q (r_pick q rfl rfl rfl) fun a q=>zm q rfl fun a q=>zs q fun a q=>zs q fun a q=>zs q fun a q=>zs q fun a q=>zs q fun a q=>zs q fun a q=>zl q (r_pick q rfl rfl rfl) fun a q=>zm q rfl fun a q=>zs q fun a q=>zs q fun a q=>zs q fun a q=>zs q fun a q=>zs q fun a q=>zs q fun a q=>zs q fun a q=>zs q fun a q=>zl q (r_pick q rfl rfl rfl) fun a q=>zm q rfl fun a q=>zs q fun a q=>zs q fun a q=>zl q (r_pick q rfl rfl rfl) fun a q=>zm q rfl fun a q=>zs q fun a q=>zs q fun a q=>zs q fun a q=>zs q fun a q=>zl q (r_pick q rfl rfl rfl) fun a q=>?_
 refine zm q rfl fun a q=>zs q fun a q=>zs q fun a q=>zs q fun a q=>zs q fun a q=>zs q fun a q=>zs q fun a q=>zs q fun a q=>zs q fun a q=>zl q (r_pick q rfl rfl rfl) fun a q=>zm q rfl fun a q=>zs q fun a q=>zs q fun a q=>zl q (r_pick q rfl rfl rfl) fun a q=>zm q rfl fun a q=>zs q fun a q=>zs q fun a q=>zs q fun a q=>zs q fun a q=>zl q (r_pick q rfl rfl rfl) fun a q=>zm q rfl fun a q=>zs q fun a q=>zs q fun a q=>zl q (r_pick q rfl rfl rfl) fun a q=>za q rfl fun a q=>zn ?_
 obtain rfl:=Option.some.inj H
 refine wp_ret ?_
 repeat first | refine zt ?_ | refine zb ?_ | refine zo ?_
 exact ret_1 results9 q (rv_tmp q rfl) ⟨rfl,s.bel⟩
 rw [ifb_f hb_171] at H
 refine zsw q (wtf hb_171) fun a q=>zsw q (wtf hb_171) fun a q=>zsw q (wtf hb_171) fun a q=>zsw q (wtf hb_171) fun a q=>zsw q (wtf hb_171) fun a q=>zsw q (wtf hb_171) fun a q=>zsw q (wtf hb_171) fun a q=>zsw q (wtf hb_171) fun a q=>zl q (r_pick_f hb_171 q rfl rfl) fun a q=>zm q rfl fun a q=>zs q fun a q=>zs q fun a q=>zl q (r_pick q rfl rfl rfl) fun a q=>zm q rfl fun a q=>zs q fun a q=>zs q fun a q=>zs q fun a q=>zs q fun a q=>zl q (r_pick q rfl rfl rfl) fun a q=>zm q rfl fun a q=>zs q fun a q=>zs q fun a q=>zs q fun a q=>zs q fun a q=>zs q fun a q=>zs q fun a q=>zl q (r_pick q rfl rfl rfl) fun a q=>zm q rfl fun a q=>zs q fun a q=>zs q fun a q=>zs q fun a q=>zs q fun a q=>zs q fun a q=>zs q fun a q=>zs q fun a q=>zs q fun a q=>?_
 refine zl q (r_pick q rfl rfl rfl) fun a q=>zm q rfl fun a q=>zs q fun a q=>zs q fun a q=>zl q (r_pick q rfl rfl rfl) fun a q=>zm q rfl fun a q=>zs q fun a q=>zs q fun a q=>zs q fun a q=>zs q fun a q=>zl q (r_pick q rfl rfl rfl) fun a q=>zm q rfl fun a q=>zs q fun a q=>zs q fun a q=>zs q fun a q=>zs q fun a q=>zs q fun a q=>zs q fun a q=>zs q fun a q=>zs q fun a q=>zl q (r_pick q rfl rfl rfl) fun a q=>zm q rfl fun a q=>zs q fun a q=>zs q fun a q=>zl q (r_pick q rfl rfl rfl) fun a q=>zm q rfl fun a q=>zs q fun a q=>zs q fun a q=>zs q fun a q=>zs q fun a q=>zl q (r_pick q rfl rfl rfl) fun a q=>zm q rfl fun a q=>zs q fun a q=>zs q fun a q=>zl q (r_pick q rfl rfl rfl) fun a q=>za q rfl fun a q=>zn ?_
 obtain rfl:=Option.some.inj H
 refine wp_ret ?_
 repeat first | refine zt ?_ | refine zb ?_ | refine zo ?_
 exact ret_1 results9 q (rv_tmp q rfl) ⟨rfl,s.bel⟩
 rw [ifb_f hb_150] at H
 refine zsw q (wtf hb_150) fun a q=>zsw q (wtf hb_150) fun a q=>zsw q (wtf hb_150) fun a q=>zsw q (wtf hb_150) fun a q=>zsw q (wtf hb_150) fun a q=>zsw q (wtf hb_150) fun a q=>zsw q (wtf hb_150) fun a q=>zsw q (wtf hb_150) fun a q=>zl q (r_pick_f hb_150 q rfl rfl) fun a q=>zm q rfl fun a q=>zs q fun a q=>zs q fun a q=>zs q fun a q=>zs q fun a q=>zs q fun a q=>zs q fun a q=>zs q fun a q=>zs q fun a q=>zl q (r_pick q rfl rfl rfl) fun a q=>zm q rfl fun a q=>zs q fun a q=>zs q fun a q=>zl q (r_pick q rfl rfl rfl) fun a q=>zm q rfl fun a q=>zs q fun a q=>zs q fun a q=>zs q fun a q=>zs q fun a q=>zl q (r_pick q rfl rfl rfl) fun a q=>zm q rfl fun a q=>zs q fun a q=>zs q fun a q=>zs q fun a q=>zs q fun a q=>zs q fun a q=>zs q fun a q=>?_
 refine zl q (r_pick q rfl rfl rfl) fun a q=>zm q rfl fun a q=>zs q fun a q=>zs q fun a q=>zs q fun a q=>zs q fun a q=>zs q fun a q=>zs q fun a q=>zs q fun a q=>zs q fun a q=>zl q (r_pick q rfl rfl rfl) fun a q=>zm q rfl fun a q=>zs q fun a q=>zs q fun a q=>zl q (r_pick q rfl rfl rfl) fun a q=>zm q rfl fun a q=>zs q fun a q=>zs q fun a q=>zs q fun a q=>zs q fun a q=>zl q (r_pick q rfl rfl rfl) fun a q=>zm q rfl fun a q=>zs q fun a q=>zs q fun a q=>zs q fun a q=>zs q fun a q=>zs q fun a q=>zs q fun a q=>zs q fun a q=>zs q fun a q=>zl q (r_pick q rfl rfl rfl) fun a q=>zm q rfl fun a q=>zs q fun a q=>zs q fun a q=>zl q (r_pick q rfl rfl rfl) fun a q=>zm q rfl fun a q=>zs q fun a q=>zs q fun a q=>zs q fun a q=>?_
 refine zs q fun a q=>zl q (r_pick q rfl rfl rfl) fun a q=>zm q rfl fun a q=>zs q fun a q=>zs q fun a q=>zl q (r_pick q rfl rfl rfl) fun a q=>za q rfl fun a q=>zn ?_
 obtain rfl:=Option.some.inj H
 refine wp_ret ?_
 repeat first | refine zt ?_ | refine zb ?_ | refine zo ?_
 exact ret_1 results9 q (rv_tmp q rfl) ⟨rfl,s.bel⟩
 rw [ifb_f hb_129] at H
 refine zsw q (wtf hb_129) fun a q=>zsw q (wtf hb_129) fun a q=>zsw q (wtf hb_129) fun a q=>zsw q (wtf hb_129) fun a q=>zsw q (wtf hb_129) fun a q=>zsw q (wtf hb_129) fun a q=>zsw q (wtf hb_129) fun a q=>zsw q (wtf hb_129) fun a q=>zl q (r_pick_f hb_129 q rfl rfl) fun a q=>zm q rfl fun a q=>zs q fun a q=>zs q fun a q=>zs q fun a q=>zs q fun a q=>zs q fun a q=>zs q fun a q=>zs q fun a q=>zs q fun a q=>zl q (r_pick q rfl rfl rfl) fun a q=>zm q rfl fun a q=>zs q fun a q=>zs q fun a q=>zs q fun a q=>zs q fun a q=>zs q fun a q=>zs q fun a q=>zs q fun a q=>zs q fun a q=>zl q (r_pick q rfl rfl rfl) fun a q=>zm q rfl fun a q=>zs q fun a q=>zs q fun a q=>zl q (r_pick q rfl rfl rfl) fun a q=>zm q rfl fun a q=>zs q fun a q=>zs q fun a q=>?_
 refine zs q fun a q=>zs q fun a q=>zl q (r_pick q rfl rfl rfl) fun a q=>zm q rfl fun a q=>zs q fun a q=>zs q fun a q=>zs q fun a q=>zs q fun a q=>zs q fun a q=>zs q fun a q=>zl q (r_pick q rfl rfl rfl) fun a q=>zm q rfl fun a q=>zs q fun a q=>zs q fun a q=>zs q fun a q=>zs q fun a q=>zs q fun a q=>zs q fun a q=>zs q fun a q=>zs q fun a q=>zl q (r_pick q rfl rfl rfl) fun a q=>zm q rfl fun a q=>zs q fun a q=>zs q fun a q=>zl q (r_pick q rfl rfl rfl) fun a q=>zm q rfl fun a q=>zs q fun a q=>zs q fun a q=>zs q fun a q=>zs q fun a q=>zl q (r_pick q rfl rfl rfl) fun a q=>zm q rfl fun a q=>zs q fun a q=>zs q fun a q=>zs q fun a q=>zs q fun a q=>zs q fun a q=>zs q fun a q=>zs q fun a q=>zs q fun a q=>?_
 refine zl q (r_pick q rfl rfl rfl) fun a q=>zm q rfl fun a q=>zs q fun a q=>zs q fun a q=>zl q (r_pick q rfl rfl rfl) fun a q=>zm q rfl fun a q=>zs q fun a q=>zs q fun a q=>zs q fun a q=>zs q fun a q=>zl q (r_pick q rfl rfl rfl) fun a q=>zm q rfl fun a q=>zs q fun a q=>zs q fun a q=>zl q (r_pick q rfl rfl rfl) fun a q=>za q rfl fun a q=>zn ?_
 obtain rfl:=Option.some.inj H
 refine wp_ret ?_
 repeat first | refine zt ?_ | refine zb ?_ | refine zo ?_
 exact ret_1 results9 q (rv_tmp q rfl) ⟨rfl,s.bel⟩
 rw [ifb_f hb_117] at H
 refine zsw q (wtf hb_117) fun a q=>zsw q (wtf hb_117) fun a q=>zsw q (wtf hb_117) fun a q=>zsw q (wtf hb_117) fun a q=>zsw q (wtf hb_117) fun a q=>zsw q (wtf hb_117) fun a q=>zl q (r_pick_f hb_117 q rfl rfl) fun a q=>zm q rfl fun a q=>zs q fun a q=>zs q fun a q=>zs q fun a q=>zs q fun a q=>zs q fun a q=>zs q fun a q=>zs q fun a q=>zs q fun a q=>zl q (r_pick q rfl rfl rfl) fun a q=>zm q rfl fun a q=>zs q fun a q=>zs q fun a q=>zs q fun a q=>zs q fun a q=>zs q fun a q=>zs q fun a q=>zs q fun a q=>zs q fun a q=>zl q (r_pick q rfl rfl rfl) fun a q=>zm q rfl fun a q=>zs q fun a q=>zs q fun a q=>zs q fun a q=>zs q fun a q=>zs q fun a q=>zs q fun a q=>zs q fun a q=>zs q fun a q=>zl q (r_pick q rfl rfl rfl) fun a q=>?_
 refine zm q rfl fun a q=>zs q fun a q=>zs q fun a q=>zl q (r_pick q rfl rfl rfl) fun a q=>zm q rfl fun a q=>zs q fun a q=>zs q fun a q=>zs q fun a q=>zs q fun a q=>zl q (r_pick q rfl rfl rfl) fun a q=>zm q rfl fun a q=>zs q fun a q=>zs q fun a q=>zs q fun a q=>zs q fun a q=>zs q fun a q=>zs q fun a q=>zl q (r_pick q rfl rfl rfl) fun a q=>zm q rfl fun a q=>zs q fun a q=>zs q fun a q=>zs q fun a q=>zs q fun a q=>zs q fun a q=>zs q fun a q=>zs q fun a q=>zs q fun a q=>zl q (r_pick q rfl rfl rfl) fun a q=>zm q rfl fun a q=>zs q fun a q=>zs q fun a q=>zl q (r_pick q rfl rfl rfl) fun a q=>zm q rfl fun a q=>zs q fun a q=>zs q fun a q=>zs q fun a q=>zs q fun a q=>zl q (r_pick q rfl rfl rfl) fun a q=>zm q rfl fun a q=>?_
 refine zs q fun a q=>zs q fun a q=>zs q fun a q=>zs q fun a q=>zs q fun a q=>zs q fun a q=>zs q fun a q=>zs q fun a q=>zl q (r_pick q rfl rfl rfl) fun a q=>zm q rfl fun a q=>zs q fun a q=>zs q fun a q=>zl q (r_pick q rfl rfl rfl) fun a q=>zm q rfl fun a q=>zs q fun a q=>zs q fun a q=>zs q fun a q=>zs q fun a q=>zl q (r_pick q rfl rfl rfl) fun a q=>zm q rfl fun a q=>zs q fun a q=>zs q fun a q=>zl q (r_pick q rfl rfl rfl) fun a q=>za q rfl fun a q=>zn ?_
 obtain rfl:=Option.some.inj H
 refine wp_ret ?_
 repeat first | refine zt ?_ | refine zb ?_ | refine zo ?_
 exact ret_1 results9 q (rv_tmp q rfl) ⟨rfl,s.bel⟩
 rw [ifb_f hb_116] at H
 refine zsw q (wtf hb_116) fun a q=>zsw q (wtf hb_116) fun a q=>zsw q (wtf hb_116) fun a q=>zsw q (wtf hb_116) fun a q=>zl q (r_pick_f hb_116 q rfl rfl) fun a q=>zm q rfl fun a q=>zs q fun a q=>zs q fun a q=>zs q fun a q=>zs q fun a q=>zs q fun a q=>zs q fun a q=>zl q (r_pick q rfl rfl rfl) fun a q=>zm q rfl fun a q=>zs q fun a q=>zs q fun a q=>zs q fun a q=>zs q fun a q=>zs q fun a q=>zs q fun a q=>zs q fun a q=>zs q fun a q=>zl q (r_pick q rfl rfl rfl) fun a q=>zm q rfl fun a q=>zs q fun a q=>zs q fun a q=>zs q fun a q=>zs q fun a q=>zs q fun a q=>zs q fun a q=>zs q fun a q=>zs q fun a q=>zl q (r_pick q rfl rfl rfl) fun a q=>zm q rfl fun a q=>zs q fun a q=>zs q fun a q=>zs q fun a q=>zs q fun a q=>zs q fun a q=>?_
 refine zs q fun a q=>zs q fun a q=>zs q fun a q=>zl q (r_pick q rfl rfl rfl) fun a q=>zm q rfl fun a q=>zs q fun a q=>zs q fun a q=>zl q (r_pick q rfl rfl rfl) fun a q=>zm q rfl fun a q=>zs q fun a q=>zs q fun a q=>zs q fun a q=>zs q fun a q=>zl q (r_pick q rfl rfl rfl) fun a q=>zm q rfl fun a q=>zs q fun a q=>zs q fun a q=>zs q fun a q=>zs q fun a q=>zs q fun a q=>zs q fun a q=>zl q (r_pick q rfl rfl rfl) fun a q=>zm q rfl fun a q=>zs q fun a q=>zs q fun a q=>zs q fun a q=>zs q fun a q=>zs q fun a q=>zs q fun a q=>zs q fun a q=>zs q fun a q=>zl q (r_pick q rfl rfl rfl) fun a q=>zm q rfl fun a q=>zs q fun a q=>zs q fun a q=>zl q (r_pick q rfl rfl rfl) fun a q=>zm q rfl fun a q=>zs q fun a q=>zs q fun a q=>?_
 refine zs q fun a q=>zs q fun a q=>zl q (r_pick q rfl rfl rfl) fun a q=>zm q rfl fun a q=>zs q fun a q=>zs q fun a q=>zs q fun a q=>zs q fun a q=>zs q fun a q=>zs q fun a q=>zs q fun a q=>zs q fun a q=>zl q (r_pick q rfl rfl rfl) fun a q=>zm q rfl fun a q=>zs q fun a q=>zs q fun a q=>zl q (r_pick q rfl rfl rfl) fun a q=>zm q rfl fun a q=>zs q fun a q=>zs q fun a q=>zs q fun a q=>zs q fun a q=>zl q (r_pick q rfl rfl rfl) fun a q=>zm q rfl fun a q=>zs q fun a q=>zs q fun a q=>zl q (r_pick q rfl rfl rfl) fun a q=>za q rfl fun a q=>zn ?_
 obtain rfl:=Option.some.inj H
 refine wp_ret ?_
 repeat first | refine zt ?_ | refine zb ?_ | refine zo ?_
 exact ret_1 results9 q (rv_tmp q rfl) ⟨rfl,s.bel⟩
theorem law18_cut.calls (a0 : api_Table) {w0 : World} {R : Hp} {v0_0 : Value} {v0_1 : Value} (hR : R.sub w0) (h0_0 : SlR ty_api_Col R v0_0 a0.Cols) (h0_1 : SlR (tySl ty_api_Value) R v0_1 a0.Rows) {r : api_Table} (H : law18_cut a0 = some r) : Calls prog 14 #[.agg #[v0_0,v0_1]] w0 (Rets fun v w'=>∃ (R' : Hp) (u0 : Value) (u1 : Value),v = .agg #[u0,u1] ∧ St [] w0 w' R' [] ∧ RLe [] w0 R R' ∧ SlR ty_api_Col R' u0 r.Cols ∧ SlR (tySl ty_api_Value) R' u1 r.Rows):=by
 unfold law18_cut at H
 refine enter (args:=[.agg #[v0_0,v0_1]]) func14 rfl ntmps14 rfl fun a q=>?_
 have s:=St.init hR
 have hRL:=RLe.refl (M:=[]) w0 R
 refine zq<|zr ?_
 refine sl_box s q (by decide) rfl rfl (c:=[v0_0,v0_1]) rfl fun a w b_1 s q=>?_
 refine sl_alloc zeroValue35 s q (by decide) rfl rfl fun a w b_2 s q=>?_
 refine zn<|zq<|zq<|zr<|zl q (r_fieldAddr underlying35 rfl sizeOf33 q rfl) fun a q=>zl q (r_load isAgg33 q rfl (s.cell z1 rfl)) fun a q=>zl q (r_len_R underlying33 h0_1 q rfl) fun a q=>zl q (r_ibin q rfl rfl rfl) fun a q=>zn ?_
 refine wp_cond_split (q.ev rfl) (fun (hb_3 : (decide ((a0.Rows.length : Int) > 60)) = true)=>?_) fun hb_3=>?_
 rw [ifb_t hb_3] at H
 refine zr<|zl q (r_fieldAddr underlying35 rfl sizeOf33 q rfl) fun a q=>zl q (r_load isAgg33 q rfl (s.cell z1 rfl)) fun a q=>?_
 obtain ⟨y_4,h_5,H⟩:=bs H
 obtain ⟨v_6,hs_7,hr_8⟩:=r_slice_R (x:=.tmp 8) (lo:=none) (hi:=some (.const (I6 60))) underlying33 sizeOf53 h0_1 h_5 q rfl rfl ⟨_,rfl⟩
 refine zl q (hr_8 _ _ _ _ _ _ _ q) fun a q=>zl q (r_fieldAddr underlying35 rfl sizeOf33 q rfl) fun a q=>?_
 have s:=s.pk1
 refine sl_store1 (c':=[v0_0,v_6]) sizeOf33 s q rfl rfl rfl hs_7.one (Nat.le_of_ble_eq_true rfl) rfl fun a w s q=>?_
 refine zn<|zq<|zr<|zl q (r_loadA (cs:=[v0_0,v_6]) isAgg35 sizeOf35 rfl q rfl (s.cells_of (m:=2) z0 rfl)) fun a q=>?_
 have s:=s.pk1
 refine sl_storeA (vs:=[v0_0,v_6]) (c':=[v0_0,v_6]) sizeOf35 s q rfl rfl rfl rfl (all_cons h0_0.one (all_cons hs_7.one zz)) (Nat.le_of_ble_eq_true rfl) rfl fun a w s q=>?_
 refine zn ?_
 obtain rfl:=Option.some.inj H
 refine wp_ret ?_
 repeat first | refine zt ?_ | refine zb ?_ | refine zo ?_
 exact ret_1 results14 q (rv_cell (c:=[v0_0,v_6]) isAgg35 sizeOf35 s z0 rfl q rfl) ⟨_,rfl,_,_,_,rfl,(s.trunc 0),hRL,h0_0,hs_7⟩
 rw [ifb_f hb_3] at H
 refine wp_skip<|zq<|zr<|zl q (r_loadA (cs:=[v0_0,v0_1]) isAgg35 sizeOf35 rfl q rfl (s.cells_of (m:=2) z1 rfl)) fun a q=>?_
 refine sl_storeA (vs:=[v0_0,v0_1]) (c':=[v0_0,v0_1]) sizeOf35 s q rfl rfl rfl rfl (all_cons h0_0.one (all_cons h0_1.one zz)) (Nat.le_of_ble_eq_true rfl) rfl fun a w s q=>?_
 refine zn ?_
 obtain rfl:=Option.some.inj H
 refine wp_ret ?_
 repeat first | refine zt ?_ | refine zb ?_ | refine zo ?_
 exact ret_1 results14 q (rv_cell (c:=[v0_0,v0_1]) isAgg35 sizeOf35 s z0 rfl q rfl) ⟨_,rfl,_,_,_,rfl,(s.trunc 0),hRL,h0_0,h0_1⟩
theorem law18_few.calls (a0 : catchmentlaw18_By) {w0 : World} {R : Hp} {v0_0 : Value} {v0_1 : Value} (hR : R.sub w0) (h0_0 : SlR tyStr R v0_0 a0.Names) (h0_1 : SlR ty_api_Agg R v0_1 a0.Aggs) {r : catchmentlaw18_By} (H : law18_few a0 = some r) : Calls prog 10 #[.agg #[v0_0,v0_1]] w0 (Rets fun v w'=>∃ (R' : Hp) (u0 : Value) (u1 : Value),v = .agg #[u0,u1] ∧ St [] w0 w' R' [] ∧ RLe [] w0 R R' ∧ SlR tyStr R' u0 r.Names ∧ SlR ty_api_Agg R' u1 r.Aggs):=by
 unfold law18_few at H
 refine enter (args:=[.agg #[v0_0,v0_1]]) func10 rfl ntmps10 rfl fun a q=>?_
 have s:=St.init hR
 have hRL:=RLe.refl (M:=[]) w0 R
 refine zq<|zr ?_
 refine sl_box s q (by decide) rfl rfl (c:=[v0_0,v0_1]) rfl fun a w b_1 s q=>?_
 refine sl_alloc zeroValue26 s q (by decide) rfl rfl fun a w b_2 s q=>?_
 refine zn<|zq<|zq<|zr<|zl q (r_fieldAddr underlying26 rfl sizeOf23 q rfl) fun a q=>zl q (r_load isAgg23 q rfl (s.cell z1 rfl)) fun a q=>zl q (r_len_R underlying23 h0_0 q rfl) fun a q=>zl q (r_ibin q rfl rfl rfl) fun a q=>zn ?_
 refine wp_mid (fun a w=>∃ (x_11 : List ByteArray) (v_9 : Value),law18_few.j0 a0 x_11 = some r ∧ SlR tyStr R v_9 x_11 ∧ Kn 20 a [(1,.pointer (some ⟨b_1,0,none⟩)),(2,.pointer (some ⟨b_2,0,none⟩))] ∧ St [] w0 w R [.cells b_1 [v_9,v0_1] 26,.cells b_2 [.slice none 0 0,.slice none 0 0] 26]) ?_ ?_
 refine wp_cond_split (q.ev rfl) (fun (hb_13 : (decide ((a0.Names.length : Int) > 20)) = true)=>?_) fun hb_13=>?_
 rw [ifb_t hb_13] at H
 refine zr<|zl q (r_fieldAddr underlying26 rfl sizeOf23 q rfl) fun a q=>zl q (r_load isAgg23 q rfl (s.cell z1 rfl)) fun a q=>?_
 obtain ⟨y_14,h_15,H⟩:=bs H
 obtain ⟨v_16,hs_17,hr_18⟩:=r_slice_R (x:=.tmp 8) (lo:=none) (hi:=some (.const (I6 20))) underlying23 sizeOf9 h0_0 h_15 q rfl rfl ⟨_,rfl⟩
 refine zl q (hr_18 _ _ _ _ _ _ _ q) fun a q=>zl q (r_fieldAddr underlying26 rfl sizeOf23 q rfl) fun a q=>?_
 have s:=s.pk1
 refine sl_store1 (c':=[v_16,v0_1]) sizeOf23 s q rfl rfl rfl hs_17.one (Nat.le_of_ble_eq_true rfl) rfl fun a w s q=>?_
 refine zn ?_
 have s:=s.pk1
 have s:=s.pk1
 exact ⟨y_14,v_16,H,hs_17,q.sub (zc (zc zz)),s⟩
 rw [ifb_f hb_13] at H
 refine wp_skip ?_
 have s:=s.pk1
 exact ⟨a0.Names,v0_0,H,h0_0,q.sub (zc (zc zz)),s⟩
 rintro a w ⟨x_11,v_9,H,hs_10,q,s⟩
 unfold law18_few.j0 at H
 refine zq<|zq<|zr<|zl q (r_fieldAddr underlying26 rfl sizeOf24 q rfl) fun a q=>zl q (r_load isAgg24 q rfl (s.cell z0 rfl)) fun a q=>zl q (r_len_R underlying24 h0_1 q rfl) fun a q=>zl q (r_ibin q rfl rfl rfl) fun a q=>zn ?_
 refine wp_cond_split (q.ev rfl) (fun (hb_19 : (decide ((a0.Aggs.length : Int) > 20)) = true)=>?_) fun hb_19=>?_
 rw [ifb_t hb_19] at H
 refine zr<|zl q (r_fieldAddr underlying26 rfl sizeOf24 q rfl) fun a q=>zl q (r_load isAgg24 q rfl (s.cell z0 rfl)) fun a q=>?_
 obtain ⟨y_20,h_21,H⟩:=bs H
 obtain ⟨v_22,hs_23,hr_24⟩:=r_slice_R (x:=.tmp 16) (lo:=none) (hi:=some (.const (I6 20))) underlying24 sizeOf49 h0_1 h_21 q rfl rfl ⟨_,rfl⟩
 refine zl q (hr_24 _ _ _ _ _ _ _ q) fun a q=>zl q (r_fieldAddr underlying26 rfl sizeOf24 q rfl) fun a q=>?_
 refine sl_store1 (c':=[v_9,v_22]) sizeOf24 s q rfl rfl rfl hs_23.one (Nat.le_of_ble_eq_true rfl) rfl fun a w s q=>?_
 refine zn<|zq<|zr<|zl q (r_loadA (cs:=[v_9,v_22]) isAgg26 sizeOf26 rfl q rfl (s.cells_of (m:=2) z0 rfl)) fun a q=>?_
 have s:=s.pk1
 refine sl_storeA (vs:=[v_9,v_22]) (c':=[v_9,v_22]) sizeOf26 s q rfl rfl rfl rfl (all_cons hs_10.one (all_cons hs_23.one zz)) (Nat.le_of_ble_eq_true rfl) rfl fun a w s q=>?_
 refine zn ?_
 obtain rfl:=Option.some.inj H
 refine wp_ret ?_
 repeat first | refine zt ?_ | refine zb ?_ | refine zo ?_
 exact ret_1 results10 q (rv_cell (c:=[v_9,v_22]) isAgg26 sizeOf26 s z0 rfl q rfl) ⟨_,rfl,_,_,_,rfl,(s.trunc 0),hRL,hs_10,hs_23⟩
 rw [ifb_f hb_19] at H
 refine wp_skip<|zq<|zr<|zl q (r_loadA (cs:=[v_9,v0_1]) isAgg26 sizeOf26 rfl q rfl (s.cells_of (m:=2) z0 rfl)) fun a q=>?_
 have s:=s.pk1
 refine sl_storeA (vs:=[v_9,v0_1]) (c':=[v_9,v0_1]) sizeOf26 s q rfl rfl rfl rfl (all_cons hs_10.one (all_cons h0_1.one zz)) (Nat.le_of_ble_eq_true rfl) rfl fun a w s q=>?_
 refine zn ?_
 obtain rfl:=Option.some.inj H
 refine wp_ret ?_
 repeat first | refine zt ?_ | refine zb ?_ | refine zo ?_
 exact ret_1 results10 q (rv_cell (c:=[v_9,v0_1]) isAgg26 sizeOf26 s z0 rfl q rfl) ⟨_,rfl,_,_,_,rfl,(s.trunc 0),hRL,hs_10,h0_1⟩
theorem ref02_SameCols.calls (a0 : List api_Col) (a1 : List api_Col) {w0 : World} {RA : Hp} {v0_0 : Value} {v1_0 : Value} (hRA : RA.sub w0) (h0_0 : SlR ty_api_Col RA v0_0 a0) (h1_0 : SlR ty_api_Col RA v1_0 a1) {r : Bool} (H : ref02_SameCols a0 a1 = some r) : CallsV prog 13 #[v0_0,v1_0] w0 (.bool r):=by
 unfold ref02_SameCols at H
 refine enter (args:=[v0_0,v1_0]) func13 rfl ntmps13 rfl fun a q=>?_
 have s:=St.init (R:=fun _=>none) (w:=w0) (fun _ _ h=>by cases h)
 have hRL:=RLe.refl (M:=[]) w0 (fun _=>none)
 refine zq<|zr<|za q rfl fun a q=>zn<|zq<|zq<|zr<|zm q rfl fun a q=>zl q (r_len_R underlying22 h0_0 q rfl) fun a q=>zm q rfl fun a q=>zl q (r_len_R underlying22 h1_0 q rfl) fun a q=>zl q (r_ibin q rfl rfl rfl) fun a q=>zn ?_
 refine wp_cond_split (q.ev rfl) (fun (hb_1 : ((a0.length : Int) != (a1.length : Int)) = true)=>?_) fun hb_1=>?_
 rw [ifb_t hb_1] at H
 refine zq<|zr<|za q rfl fun a q=>zn ?_
 obtain rfl:=Option.some.inj H
 refine wp_ret ?_
 repeat first | refine zt ?_ | refine zb ?_ | refine zo ?_
 exact ret_1 results13 q (rv_tmp q rfl) ⟨rfl,s.bel⟩
 rw [ifb_f hb_1] at H
 refine wp_skip<|zq<|zq<|zr<|za q rfl fun a q=>zn ?_
 refine wp_block ?_
 refine wp_loop_k (fun k_l0 a w=>∃ (x_41 : Int),ref02_SameCols.l0 a0 a1 k_l0 x_41 = some r ∧ Kn 26 a [(0,v0_0),(1,v1_0),(5,I6 x_41)] ∧ St [] w0 w (fun _=>none) []) (((a0.length : Int) - 0).toNat + 1) ?_ ?_
 exact ⟨0,H,q.sub (zc (zc (zc zz))),s⟩
 rintro k_l0 a w ⟨x_41,H,q,s⟩
 rcases k_l0 with _ | k_l0
 cases H
 rw [ref02_SameCols.l0.eq_2] at H
 refine zq<|zq<|zr<|zm q rfl fun a q=>zm q rfl fun a q=>zl q (r_len_R underlying22 h0_0 q rfl) fun a q=>zl q (r_ibin q rfl rfl rfl) fun a q=>zn ?_
 refine wp_cond_split (q.ev rfl) (fun (hb_81 : (decide (x_41 < (a0.length : Int))) = true)=>?_) fun hb_81=>?_
 rw [ifb_t hb_81] at H
 refine wp_skip<|zq ?_
 refine wp_block ?_
 refine zq ?_
 refine par_region (C:=fun w=>St [] w0 w (fun _=>none) []) [(0,true),(1,true),(2,true),(3,true),(4,true),(5,true),(6,true),(7,true),(8,true)] mixed (by kernel_rfl) s (fun w s=>s) fun w s=>?_
 refine zp rfl q (fun w s=>r_move q rfl) fun a q=>zp rfl q (fun w s=>r_move q rfl) fun a q=>?_
 obtain ⟨y_100,h_101,H⟩:=bs H
 obtain ⟨b_102,o_103,c_104,cs_105,hv_106,hr_107,hc_108,h_1010,h_1011⟩:=h0_0.ix h_101
 subst hr_107
 refine zp rfl q (fun w s=>r_indexAddr_R underlying22 sizeOf47 hv_106 h_1010 h_1011 q rfl rfl) fun a q=>zp rfl q (fun w s=>r_loadA (cs:=[.string y_100.Name,I6 y_100.Kind]) isAgg47 sizeOf47 rfl q rfl (fun j v hv=>(s.ra hRA nil_not).cell (hc_108 j v hv))) fun a q=>zp rfl q (fun w s=>r_move q rfl) fun a q=>zp rfl q (fun w s=>r_move q rfl) fun a q=>?_
 obtain ⟨y_109,h_110,H⟩:=bs H
 obtain ⟨b_111,o_112,c_113,cs_114,hv_115,hr_116,hc_117,h_1100,h_1101⟩:=h1_0.ix h_110
 subst hr_116
 refine zp rfl q (fun w s=>r_indexAddr_R underlying22 sizeOf47 hv_115 h_1100 h_1101 q rfl rfl) fun a q=>zp rfl q (fun w s=>r_loadA (cs:=[.string y_109.Name,I6 y_109.Kind]) isAgg47 sizeOf47 rfl q rfl (fun j v hv=>(s.ra hRA nil_not).cell (hc_117 j v hv))) fun a q=>zp rfl q (fun w s=>r_sne (by kernel_rfl) (eqs47 y_100 y_109) q rfl rfl) fun a q=>?_
 refine wpPar_nil (NoP_nil ?_)
 refine wp_cond_split (q.ev rfl) (fun (hb_118 : (!decide (y_100 = y_109)) = true)=>?_) fun hb_118=>?_
 rw [ifb_t hb_118] at H
 refine zq<|zr<|za q rfl fun a q=>zn ?_
 obtain rfl:=Option.some.inj H
 refine wp_ret ?_
 repeat first | refine zt ?_ | refine zb ?_ | refine zo ?_
 exact ret_1 results13 q (rv_tmp q rfl) ⟨rfl,s.bel⟩
 rw [ifb_f hb_118] at H
 refine wp_skip<|zr<|zm q rfl fun a q=>zl q (r_ibin q rfl rfl rfl) fun a q=>za q rfl fun a q=>zn ?_
 exact ⟨_,Nat.lt_succ_self _,(IntKind.i64.wrap (x_41 + 1)),H,q.sub (zc (zc (zc zz))),s⟩
 rw [ifb_f hb_81] at H
 refine wp_exit ?_
 refine zq<|zr<|za q rfl fun a q=>zn ?_
 obtain rfl:=Option.some.inj H
 refine wp_ret ?_
 repeat first | refine zt ?_ | refine zb ?_ | refine zo ?_
 exact ret_1 results13 q (rv_tmp q rfl) ⟨rfl,s.bel⟩
theorem ref01_order.calls (a0 : Int) (a1 : Int) {r : Int} (H : ref01_order a0 a1 = some r) (w0 : World) : CallsV prog 66 #[I6 a0,I6 a1] w0 (I6 r):=by
 unfold ref01_order at H
 refine enter (args:=[I6 a0,I6 a1]) func66 rfl ntmps66 rfl fun a q=>?_
 have s:=St.init (R:=fun _=>none) (w:=w0) (fun _ _ h=>by cases h)
 have hRL:=RLe.refl (M:=[]) w0 (fun _=>none)
 refine zq<|zr<|za q rfl fun a q=>zn<|zq<|zq<|zr<|zm q rfl fun a q=>zm q rfl fun a q=>zl q (r_ibin q rfl rfl rfl) fun a q=>zn ?_
 refine wp_cond_split (q.ev rfl) (fun (hb_1 : (decide (a0 < a1)) = true)=>?_) fun hb_1=>?_
 rw [ifb_t hb_1] at H
 refine zq<|zr<|za q rfl fun a q=>zn ?_
 obtain rfl:=Option.some.inj H
 refine wp_ret ?_
 repeat first | refine zt ?_ | refine zb ?_ | refine zo ?_
 exact ret_1 results66 q (rv_tmp q rfl) ⟨rfl,s.bel⟩
 rw [ifb_f hb_1] at H
 refine wp_skip<|zq<|zq<|zr<|zm q rfl fun a q=>zm q rfl fun a q=>zl q (r_ibin q rfl rfl rfl) fun a q=>zn ?_
 refine wp_cond_split (q.ev rfl) (fun (hb_2 : (decide (a0 > a1)) = true)=>?_) fun hb_2=>?_
 rw [ifb_t hb_2] at H
 refine zq<|zr<|za q rfl fun a q=>zn ?_
 obtain rfl:=Option.some.inj H
 refine wp_ret ?_
 repeat first | refine zt ?_ | refine zb ?_ | refine zo ?_
 exact ret_1 results66 q (rv_tmp q rfl) ⟨rfl,s.bel⟩
 rw [ifb_f hb_2] at H
 refine wp_skip<|zq<|zr<|za q rfl fun a q=>zn ?_
 obtain rfl:=Option.some.inj H
 refine wp_ret ?_
 repeat first | refine zt ?_ | refine zb ?_ | refine zo ?_
 exact ret_1 results66 q (rv_tmp q rfl) ⟨rfl,s.bel⟩
theorem ref01_Compare.calls (a0 : api_Value) (a1 : api_Value) {r : Int} (H : ref01_Compare a0 a1 = some r) (w0 : World) : CallsV prog 46 #[.agg ⟨cV a0⟩,.agg ⟨cV a1⟩] w0 (I6 r):=by
 unfold ref01_Compare at H
 refine enter (args:=[.agg ⟨cV a0⟩,.agg ⟨cV a1⟩]) func46 rfl ntmps46 rfl fun a q=>?_
 have s:=St.init (R:=fun _=>none) (w:=w0) (fun _ _ h=>by cases h)
 have hRL:=RLe.refl (M:=[]) w0 (fun _=>none)
 refine zq<|zr ?_
 refine sl_box s q (by decide) rfl rfl (c:=(cV a0)) rfl fun a w b_1 s q=>?_
 refine sl_box s q (by decide) rfl rfl (c:=(cV a1)) rfl fun a w b_2 s q=>?_
 refine za q rfl fun a q=>zn<|zq<|zq<|zr<|zl q (r_fieldAddr underlying52 rfl sizeOf3 q rfl) fun a q=>zl q (r_load isAgg3 q rfl (s.cell z1 rfl)) fun a q=>zl q (r_fieldAddr underlying52 rfl sizeOf3 q rfl) fun a q=>zl q (r_load isAgg3 q rfl (s.cell z0 rfl)) fun a q=>zl q (r_ibin q rfl rfl rfl) fun a q=>zn ?_
 refine wp_cond_split (q.ev rfl) (fun (hb_3 : (a0.Kind != a1.Kind) = true)=>?_) fun hb_3=>?_
 rw [ifb_t hb_3] at H
 refine zq<|zr<|zl q (r_fieldAddr underlying52 rfl sizeOf3 q rfl) fun a q=>zl q (r_load isAgg3 q rfl (s.cell z1 rfl)) fun a q=>zl q (r_fieldAddr underlying52 rfl sizeOf3 q rfl) fun a q=>zl q (r_load isAgg3 q rfl (s.cell z0 rfl)) fun a q=>?_
 obtain ⟨y_4,h_5,H⟩:=bs H
 refine sl_callV call66 s q (by decide) rfl rfl rfl (ref01_order.calls a0.Kind a1.Kind h_5 _) fun a w s q=>?_
 refine za q rfl fun a q=>zn ?_
 obtain rfl:=Option.some.inj H
 refine wp_ret ?_
 repeat first | refine zt ?_ | refine zb ?_ | refine zo ?_
 exact ret_1 results46 q (rv_tmp q rfl) ⟨rfl,s.bel⟩
 rw [ifb_f hb_3] at H
 refine wp_skip<|zq<|zq<|zr<|zl q (r_fieldAddr underlying52 rfl sizeOf3 q rfl) fun a q=>zl q (r_load isAgg3 q rfl (s.cell z1 rfl)) fun a q=>zl q (r_fieldAddr underlying52 rfl sizeOf3 q rfl) fun a q=>zl q (r_load isAgg3 q rfl (s.cell z0 rfl)) fun a q=>zl q (r_ibin q rfl rfl rfl) fun a q=>zn ?_
 refine wp_cond_split (q.ev rfl) (fun (hb_6 : (a0.N != a1.N) = true)=>?_) fun hb_6=>?_
 rw [ifb_t hb_6] at H
 refine zq<|zr<|zl q (r_fieldAddr underlying52 rfl sizeOf3 q rfl) fun a q=>zl q (r_load isAgg3 q rfl (s.cell z1 rfl)) fun a q=>zl q (r_fieldAddr underlying52 rfl sizeOf3 q rfl) fun a q=>zl q (r_load isAgg3 q rfl (s.cell z0 rfl)) fun a q=>?_
 obtain ⟨y_7,h_8,H⟩:=bs H
 refine sl_callV call66 s q (by decide) rfl rfl rfl (ref01_order.calls a0.N a1.N h_8 _) fun a w s q=>?_
 refine za q rfl fun a q=>zn ?_
 obtain rfl:=Option.some.inj H
 refine wp_ret ?_
 repeat first | refine zt ?_ | refine zb ?_ | refine zo ?_
 exact ret_1 results46 q (rv_tmp q rfl) ⟨rfl,s.bel⟩
 rw [ifb_f hb_6] at H
 refine wp_skip<|zq<|zq<|zr<|za q rfl fun a q=>zn ?_
 refine wp_block ?_
 refine wp_loop_k (fun k_l0 a w=>∃ (x_36 : Int),ref01_Compare.l0 a0 a1 k_l0 x_36 = some r ∧ Kn 97 a [(2,.pointer (some ⟨b_1,0,none⟩)),(3,.pointer (some ⟨b_2,0,none⟩)),(5,I6 x_36)] ∧ St [] w0 w (fun _=>none) [.cells b_1 (cV a0) 52,.cells b_2 (cV a1) 52]) (((a0.S.size : Int) - 0).toNat + 1) ?_ ?_
 have s:=s.pk1
 exact ⟨0,H,q.sub (zc (zc (zc zz))),s⟩
 rintro k_l0 a w ⟨x_36,H,q,s⟩
 rcases k_l0 with _ | k_l0
 cases H
 rw [ref01_Compare.l0.eq_2] at H
 refine zq<|zq ?_
 refine wp_mid (fun a w=>∃ (x_66 : Bool),ref01_Compare.j1 (ref01_Compare.l0 a0 a1 k_l0) a0 a1 x_36 x_66 = some r ∧ Kn 97 a [(2,.pointer (some ⟨b_1,0,none⟩)),(3,.pointer (some ⟨b_2,0,none⟩)),(5,I6 x_36),(38,.bool x_66)] ∧ St [] w0 w (fun _=>none) [.cells b_1 (cV a0) 52,.cells b_2 (cV a1) 52]) ?_ ?_
 refine zr<|zm q rfl fun a q=>zl q (r_fieldAddr underlying52 rfl sizeOf9 q rfl) fun a q=>zl q (r_load isAgg9 q rfl (s.cell z0 rfl)) fun a q=>zl q (r_len_str underlying9 q rfl) fun a q=>zl q (r_ibin q rfl rfl rfl) fun a q=>zm q rfl fun a q=>?_
 rcases or_b (decide (x_36 < (a0.S.size : Int))) with hb_68 | hb_68
 rw [ifb_t hb_68] at H
 refine zw q (wtt hb_68) (r_move q rfl) fun a q=>zw q (wtt hb_68) (r_fieldAddr underlying52 rfl sizeOf9 q rfl) fun a q=>zw q (wtt hb_68) (r_load isAgg9 q rfl (s.cell z1 rfl)) fun a q=>zw q (wtt hb_68) (r_len_str underlying9 q rfl) fun a q=>zw q (wtt hb_68) (r_ibin q rfl rfl rfl) fun a q=>zl q (r_pick_t hb_68 q rfl rfl) fun a q=>zn ?_
 have s:=s.pk1
 have s:=s.pk1
 exact ⟨(decide (x_36 < (a1.S.size : Int))),H,q.sub (zc (zc (zc (zc zz)))),s⟩
 rw [ifb_f hb_68] at H
 refine zsw q (wtf hb_68) fun a q=>zsw q (wtf hb_68) fun a q=>zsw q (wtf hb_68) fun a q=>zsw q (wtf hb_68) fun a q=>zsw q (wtf hb_68) fun a q=>zl q (r_pick_f hb_68 q rfl rfl) fun a q=>zn ?_
 have s:=s.pk1
 have s:=s.pk1
 exact ⟨false,H,q.sub (zc (zc (zc (zc zz)))),s⟩
 rintro a w ⟨x_66,H,q,s⟩
 unfold ref01_Compare.j1 at H
 refine wp_cond_split (q.ev rfl) (fun (hb_69 : x_66 = true)=>?_) fun hb_69=>?_
 rw [ifb_t hb_69] at H
 refine wp_skip<|zq ?_
 refine wp_block ?_
 refine zq ?_
 refine par_region (C:=fun w=>St [] w0 w (fun _=>none) [.cells b_1 (cV a0) 52,.cells b_2 (cV a1) 52]) [(0,true),(1,true),(2,true),(3,true),(4,true),(5,true),(6,true),(7,true),(8,true)] mixed (by kernel_rfl) s (fun w s=>s) fun w s=>?_
 refine zp rfl q (fun w s=>r_fieldAddr underlying52 rfl sizeOf9 q rfl) fun a q=>zp rfl q (fun w s=>r_load isAgg9 q rfl (s.cell z0 rfl)) fun a q=>zp rfl q (fun w s=>r_move q rfl) fun a q=>?_
 obtain ⟨y_74,h_75,H⟩:=bs H
 refine zp rfl q (fun w s=>r_index_str' underlying9 h_75 q rfl rfl) fun a q=>zp rfl q (fun w s=>r_fieldAddr underlying52 rfl sizeOf9 q rfl) fun a q=>zp rfl q (fun w s=>r_load isAgg9 q rfl (s.cell z1 rfl)) fun a q=>zp rfl q (fun w s=>r_move q rfl) fun a q=>?_
 obtain ⟨y_76,h_77,H⟩:=bs H
 refine zp rfl q (fun w s=>r_index_str' underlying9 h_77 q rfl rfl) fun a q=>zp rfl q (fun w s=>r_ibin q rfl rfl rfl) fun a q=>?_
 refine wpPar_nil (NoP_nil ?_)
 refine wp_cond_split (q.ev rfl) (fun (hb_78 : (y_74 != y_76) = true)=>?_) fun hb_78=>?_
 rw [ifb_t hb_78] at H
 refine zq ?_
 refine parT_region (C:=fun w=>St [] w0 w (fun _=>none) [.cells b_1 (cV a0) 52,.cells b_2 (cV a1) 52]) 10 [(0,true),(1,true),(2,true),(3,true),(4,true),(5,true),(6,true),(7,true),(8,true),(9,true)] mixed (by kernel_rfl) s (fun w s=>s) fun w s=>?_
 refine zp rfl q (fun w s=>r_fieldAddr underlying52 rfl sizeOf9 q rfl) fun a q=>zp rfl q (fun w s=>r_load isAgg9 q rfl (s.cell z0 rfl)) fun a q=>zp rfl q (fun w s=>r_move q rfl) fun a q=>?_
 obtain ⟨y_85,h_86,H⟩:=bs H
 refine zp rfl q (fun w s=>r_index_str' underlying9 h_86 q rfl rfl) fun a q=>zp rfl q (fun w s=>r_conv underlying5 underlying3 q rfl) fun a q=>zp rfl q (fun w s=>r_fieldAddr underlying52 rfl sizeOf9 q rfl) fun a q=>zp rfl q (fun w s=>r_load isAgg9 q rfl (s.cell z1 rfl)) fun a q=>zp rfl q (fun w s=>r_move q rfl) fun a q=>?_
 obtain ⟨y_87,h_88,H⟩:=bs H
 refine zp rfl q (fun w s=>r_index_str' underlying9 h_88 q rfl rfl) fun a q=>zp rfl q (fun w s=>r_conv underlying5 underlying3 q rfl) fun a q=>?_
 refine thenL_nil ?_
 obtain ⟨y_89,h_90,H⟩:=bs H
 refine sl_callV call66 s q (by decide) rfl rfl rfl (ref01_order.calls (IntKind.i64.wrap y_85) (IntKind.i64.wrap y_87) h_90 _) fun a w s q=>?_
 refine za q rfl fun a q=>?_
 refine wpList_nil (NoP_nil ?_)
 obtain rfl:=Option.some.inj H
 refine wp_ret ?_
 repeat first | refine zt ?_ | refine zb ?_ | refine zo ?_
 exact ret_1 results46 q (rv_tmp q rfl) ⟨rfl,s.bel⟩
 rw [ifb_f hb_78] at H
 refine wp_skip<|zr<|zm q rfl fun a q=>zl q (r_ibin q rfl rfl rfl) fun a q=>za q rfl fun a q=>zn ?_
 have s:=s.pk1
 have s:=s.pk1
 exact ⟨_,Nat.lt_succ_self _,(IntKind.i64.wrap (x_36 + 1)),H,q.sub (zc (zc (zc zz))),s⟩
 rw [ifb_f hb_69] at H
 refine wp_exit ?_
 refine zq<|zq<|zr<|zl q (r_fieldAddr underlying52 rfl sizeOf9 q rfl) fun a q=>zl q (r_load isAgg9 q rfl (s.cell z0 rfl)) fun a q=>zl q (r_len_str underlying9 q rfl) fun a q=>zl q (r_fieldAddr underlying52 rfl sizeOf9 q rfl) fun a q=>zl q (r_load isAgg9 q rfl (s.cell z1 rfl)) fun a q=>zl q (r_len_str underlying9 q rfl) fun a q=>zl q (r_ibin q rfl rfl rfl) fun a q=>zn ?_
 refine wp_cond_split (q.ev rfl) (fun (hb_91 : ((a0.S.size : Int) != (a1.S.size : Int)) = true)=>?_) fun hb_91=>?_
 rw [ifb_t hb_91] at H
 refine zq<|zr<|zl q (r_fieldAddr underlying52 rfl sizeOf9 q rfl) fun a q=>zl q (r_load isAgg9 q rfl (s.cell z0 rfl)) fun a q=>zl q (r_len_str underlying9 q rfl) fun a q=>zl q (r_fieldAddr underlying52 rfl sizeOf9 q rfl) fun a q=>zl q (r_load isAgg9 q rfl (s.cell z1 rfl)) fun a q=>zl q (r_len_str underlying9 q rfl) fun a q=>?_
 obtain ⟨y_92,h_93,H⟩:=bs H
 refine sl_callV call66 s q (by decide) rfl rfl rfl (ref01_order.calls (a0.S.size : Int) (a1.S.size : Int) h_93 _) fun a w s q=>?_
 refine za q rfl fun a q=>zn ?_
 obtain rfl:=Option.some.inj H
 refine wp_ret ?_
 repeat first | refine zt ?_ | refine zb ?_ | refine zo ?_
 exact ret_1 results46 q (rv_tmp q rfl) ⟨rfl,s.bel⟩
 rw [ifb_f hb_91] at H
 refine wp_skip<|zq<|zq<|zr<|za q rfl fun a q=>zn ?_
 refine wp_block ?_
 refine wp_loop_k (fun k_l2 a w=>∃ (x_100 : Int),ref01_Compare.l2 a0 a1 k_l2 x_100 = some r ∧ Kn 97 a [(2,.pointer (some ⟨b_1,0,none⟩)),(3,.pointer (some ⟨b_2,0,none⟩)),(6,I6 x_100)] ∧ St [] w0 w (fun _=>none) [.cells b_1 (cV a0) 52,.cells b_2 (cV a1) 52]) (((8 : Int) - 0).toNat + 1) ?_ ?_
 have s:=s.pk1
 have s:=s.pk1
 exact ⟨0,H,q.sub (zc (zc (zc zz))),s⟩
 rintro k_l2 a w ⟨x_100,H,q,s⟩
 rcases k_l2 with _ | k_l2
 cases H
 rw [ref01_Compare.l2.eq_2] at H
 refine zq<|zq<|zr<|zm q rfl fun a q=>zl q (r_ibin q rfl rfl rfl) fun a q=>zn ?_
 refine wp_cond_split (q.ev rfl) (fun (hb_124 : (decide (x_100 < 8)) = true)=>?_) fun hb_124=>?_
 rw [ifb_t hb_124] at H
 refine wp_skip<|zq ?_
 refine wp_block ?_
 refine zq ?_
 refine par_region (C:=fun w=>St [] w0 w (fun _=>none) [.cells b_1 (cV a0) 52,.cells b_2 (cV a1) 52]) [(0,true),(1,true),(2,true),(3,true),(4,true),(5,true),(6,true),(7,true),(8,true)] mixed (by kernel_rfl) s (fun w s=>s) fun w s=>?_
 refine zp rfl q (fun w s=>r_move q rfl) fun a q=>zp rfl q (fun w s=>r_fieldAddr underlying52 rfl sizeOf50 q rfl) fun a q=>?_
 obtain ⟨y_129,h_130,H⟩:=bs H
 refine zp rfl q (fun w s=>r_indexAddr_arr underlying50 sizeOf3 q rfl rfl (Arr8.ix_lt h_130).1 (Arr8.ix_lt h_130).2) fun a q=>zp rfl q (fun w s=>r_load isAgg3 q rfl (s.cell z0 (Arr8.ix_cells h_130 [I6 a0.Kind,I6 a0.N,.string a0.S] [] rfl))) fun a q=>zp rfl q (fun w s=>r_move q rfl) fun a q=>zp rfl q (fun w s=>r_fieldAddr underlying52 rfl sizeOf50 q rfl) fun a q=>?_
 obtain ⟨y_131,h_132,H⟩:=bs H
 refine zp rfl q (fun w s=>r_indexAddr_arr underlying50 sizeOf3 q rfl rfl (Arr8.ix_lt h_132).1 (Arr8.ix_lt h_132).2) fun a q=>zp rfl q (fun w s=>r_load isAgg3 q rfl (s.cell z1 (Arr8.ix_cells h_132 [I6 a1.Kind,I6 a1.N,.string a1.S] [] rfl))) fun a q=>zp rfl q (fun w s=>r_ibin q rfl rfl rfl) fun a q=>?_
 refine wpPar_nil (NoP_nil ?_)
 refine wp_cond_split (q.ev rfl) (fun (hb_133 : (y_129 != y_131) = true)=>?_) fun hb_133=>?_
 rw [ifb_t hb_133] at H
 refine zq ?_
 refine parT_region (C:=fun w=>St [] w0 w (fun _=>none) [.cells b_1 (cV a0) 52,.cells b_2 (cV a1) 52]) 8 [(0,true),(1,true),(2,true),(3,true),(4,true),(5,true),(6,true),(7,true)] mixed (by kernel_rfl) s (fun w s=>s) fun w s=>?_
 refine zp rfl q (fun w s=>r_move q rfl) fun a q=>zp rfl q (fun w s=>r_fieldAddr underlying52 rfl sizeOf50 q rfl) fun a q=>?_
 obtain ⟨y_140,h_141,H⟩:=bs H
 refine zp rfl q (fun w s=>r_indexAddr_arr underlying50 sizeOf3 q rfl rfl (Arr8.ix_lt h_141).1 (Arr8.ix_lt h_141).2) fun a q=>zp rfl q (fun w s=>r_load isAgg3 q rfl (s.cell z0 (Arr8.ix_cells h_141 [I6 a0.Kind,I6 a0.N,.string a0.S] [] rfl))) fun a q=>zp rfl q (fun w s=>r_move q rfl) fun a q=>zp rfl q (fun w s=>r_fieldAddr underlying52 rfl sizeOf50 q rfl) fun a q=>?_
 obtain ⟨y_142,h_143,H⟩:=bs H
 refine zp rfl q (fun w s=>r_indexAddr_arr underlying50 sizeOf3 q rfl rfl (Arr8.ix_lt h_143).1 (Arr8.ix_lt h_143).2) fun a q=>zp rfl q (fun w s=>r_load isAgg3 q rfl (s.cell z1 (Arr8.ix_cells h_143 [I6 a1.Kind,I6 a1.N,.string a1.S] [] rfl))) fun a q=>?_
 refine thenL_nil ?_
 obtain ⟨y_144,h_145,H⟩:=bs H
 refine sl_callV call66 s q (by decide) rfl rfl rfl (ref01_order.calls y_140 y_142 h_145 _) fun a w s q=>?_
 refine za q rfl fun a q=>?_
 refine wpList_nil (NoP_nil ?_)
 obtain rfl:=Option.some.inj H
 refine wp_ret ?_
 repeat first | refine zt ?_ | refine zb ?_ | refine zo ?_
 exact ret_1 results46 q (rv_tmp q rfl) ⟨rfl,s.bel⟩
 rw [ifb_f hb_133] at H
 refine wp_skip<|zr<|zm q rfl fun a q=>zl q (r_ibin q rfl rfl rfl) fun a q=>za q rfl fun a q=>zn ?_
 have s:=s.pk1
 have s:=s.pk1
 exact ⟨_,Nat.lt_succ_self _,(IntKind.i64.wrap (x_100 + 1)),H,q.sub (zc (zc (zc zz))),s⟩
 rw [ifb_f hb_124] at H
 refine wp_exit ?_
 refine zq<|zr<|za q rfl fun a q=>zn ?_
 obtain rfl:=Option.some.inj H
 refine wp_ret ?_
 repeat first | refine zt ?_ | refine zb ?_ | refine zo ?_
 exact ret_1 results46 q (rv_tmp q rfl) ⟨rfl,s.bel⟩
theorem ref02_Row.calls (a0 : List api_Value) (a1 : List api_Value) {w0 : World} {RA : Hp} {v0_0 : Value} {v1_0 : Value} (hRA : RA.sub w0) (h0_0 : SlR ty_api_Value RA v0_0 a0) (h1_0 : SlR ty_api_Value RA v1_0 a1) {r : Int} (H : ref02_Row a0 a1 = some r) : CallsV prog 23 #[v0_0,v1_0] w0 (I6 r):=by
 unfold ref02_Row at H
 refine enter (args:=[v0_0,v1_0]) func23 rfl ntmps23 rfl fun a q=>?_
 have s:=St.init (R:=fun _=>none) (w:=w0) (fun _ _ h=>by cases h)
 have hRL:=RLe.refl (M:=[]) w0 (fun _=>none)
 refine zq<|zr<|za q rfl fun a q=>zn<|zq<|zq<|zr<|za q rfl fun a q=>zn ?_
 refine wp_block ?_
 refine wp_loop_k (fun k_l0 a w=>∃ (x_48 : Int),ref02_Row.l0 a0 a1 k_l0 x_48 = some r ∧ Kn 41 a [(0,v0_0),(1,v1_0),(5,I6 x_48)] ∧ St [] w0 w (fun _=>none) []) (((a0.length : Int) - 0).toNat + 1) ?_ ?_
 exact ⟨0,H,q.sub (zc (zc (zc zz))),s⟩
 rintro k_l0 a w ⟨x_48,H,q,s⟩
 rcases k_l0 with _ | k_l0
 cases H
 rw [ref02_Row.l0.eq_2] at H
 refine zq<|zq ?_
 refine wp_mid (fun a w=>∃ (x_98 : Bool),ref02_Row.j1 (ref02_Row.l0 a0 a1 k_l0) a0 a1 x_48 x_98 = some r ∧ Kn 41 a [(0,v0_0),(1,v1_0),(5,I6 x_48),(16,.bool x_98)] ∧ St [] w0 w (fun _=>none) []) ?_ ?_
 refine zr<|zm q rfl fun a q=>zm q rfl fun a q=>zl q (r_len_R underlying53 h0_0 q rfl) fun a q=>zl q (r_ibin q rfl rfl rfl) fun a q=>zm q rfl fun a q=>?_
 rcases or_b (decide (x_48 < (a0.length : Int))) with hb_100 | hb_100
 rw [ifb_t hb_100] at H
 refine zw q (wtt hb_100) (r_move q rfl) fun a q=>zw q (wtt hb_100) (r_move q rfl) fun a q=>zw q (wtt hb_100) (r_len_R underlying53 h1_0 q rfl) fun a q=>zw q (wtt hb_100) (r_ibin q rfl rfl rfl) fun a q=>zl q (r_pick_t hb_100 q rfl rfl) fun a q=>zn ?_
 exact ⟨(decide (x_48 < (a1.length : Int))),H,q.sub (zc (zc (zc (zc zz)))),s⟩
 rw [ifb_f hb_100] at H
 refine zsw q (wtf hb_100) fun a q=>zsw q (wtf hb_100) fun a q=>zsw q (wtf hb_100) fun a q=>zsw q (wtf hb_100) fun a q=>zl q (r_pick_f hb_100 q rfl rfl) fun a q=>zn ?_
 exact ⟨false,H,q.sub (zc (zc (zc (zc zz)))),s⟩
 rintro a w ⟨x_98,H,q,s⟩
 unfold ref02_Row.j1 at H
 refine wp_cond_split (q.ev rfl) (fun (hb_101 : x_98 = true)=>?_) fun hb_101=>?_
 rw [ifb_t hb_101] at H
 refine wp_skip<|zq ?_
 refine wp_block ?_
 refine zq ?_
 refine parT_region (C:=fun w=>St [] w0 w (fun _=>none) []) 8 [(0,true),(1,true),(2,true),(3,true),(4,true),(5,true),(6,true),(7,true)] mixed (by kernel_rfl) s (fun w s=>s) fun w s=>?_
 refine zp rfl q (fun w s=>r_move q rfl) fun a q=>zp rfl q (fun w s=>r_move q rfl) fun a q=>?_
 obtain ⟨y_122,h_123,H⟩:=bs H
 obtain ⟨b_124,o_125,c_126,cs_127,hv_128,hr_129,hc_130,h_1230,h_1231⟩:=h0_0.ix h_123
 subst hr_129
 refine zp rfl q (fun w s=>r_indexAddr_R underlying53 sizeOf52 hv_128 h_1230 h_1231 q rfl rfl) fun a q=>zp rfl q (fun w s=>r_loadA (cs:=(cV y_122)) isAgg52 sizeOf52 rfl q rfl (fun j v hv=>(s.ra hRA nil_not).cell (hc_130 j v hv))) fun a q=>zp rfl q (fun w s=>r_move q rfl) fun a q=>zp rfl q (fun w s=>r_move q rfl) fun a q=>?_
 obtain ⟨y_131,h_132,H⟩:=bs H
 obtain ⟨b_133,o_134,c_135,cs_136,hv_137,hr_138,hc_139,h_1320,h_1321⟩:=h1_0.ix h_132
 subst hr_138
 refine zp rfl q (fun w s=>r_indexAddr_R underlying53 sizeOf52 hv_137 h_1320 h_1321 q rfl rfl) fun a q=>zp rfl q (fun w s=>r_loadA (cs:=(cV y_131)) isAgg52 sizeOf52 rfl q rfl (fun j v hv=>(s.ra hRA nil_not).cell (hc_139 j v hv))) fun a q=>?_
 refine thenL_nil ?_
 obtain ⟨y_140,h_141,H⟩:=bs H
 refine sl_callV call46 s q (by decide) rfl rfl rfl (ref01_Compare.calls y_122 y_131 h_141 _) fun a w s q=>?_
 refine za q rfl fun a q=>?_
 refine wpList_nil (NoP_nil ?_)
 refine zq<|zr<|zm q rfl fun a q=>zl q (r_ibin q rfl rfl rfl) fun a q=>zn ?_
 refine wp_cond_split (q.ev rfl) (fun (hb_142 : (y_140 != 0) = true)=>?_) fun hb_142=>?_
 rw [ifb_t hb_142] at H
 refine zq<|zr<|zm q rfl fun a q=>za q rfl fun a q=>zn ?_
 obtain rfl:=Option.some.inj H
 refine wp_ret ?_
 repeat first | refine zt ?_ | refine zb ?_ | refine zo ?_
 exact ret_1 results23 q (rv_tmp q rfl) ⟨rfl,s.bel⟩
 rw [ifb_f hb_142] at H
 refine wp_skip<|zr<|zm q rfl fun a q=>zl q (r_ibin q rfl rfl rfl) fun a q=>za q rfl fun a q=>zn ?_
 exact ⟨_,Nat.lt_succ_self _,(IntKind.i64.wrap (x_48 + 1)),H,q.sub (zc (zc (zc zz))),s⟩
 rw [ifb_f hb_101] at H
 refine wp_exit ?_
 refine zq<|zq<|zr<|zm q rfl fun a q=>zl q (r_len_R underlying53 h0_0 q rfl) fun a q=>zm q rfl fun a q=>zl q (r_len_R underlying53 h1_0 q rfl) fun a q=>zl q (r_ibin q rfl rfl rfl) fun a q=>zn ?_
 refine wp_cond_split (q.ev rfl) (fun (hb_143 : (decide ((a0.length : Int) < (a1.length : Int))) = true)=>?_) fun hb_143=>?_
 rw [ifb_t hb_143] at H
 refine zq<|zr<|za q rfl fun a q=>zn ?_
 obtain rfl:=Option.some.inj H
 refine wp_ret ?_
 repeat first | refine zt ?_ | refine zb ?_ | refine zo ?_
 exact ret_1 results23 q (rv_tmp q rfl) ⟨rfl,s.bel⟩
 rw [ifb_f hb_143] at H
 refine wp_skip<|zq<|zq<|zr<|zm q rfl fun a q=>zl q (r_len_R underlying53 h0_0 q rfl) fun a q=>zm q rfl fun a q=>zl q (r_len_R underlying53 h1_0 q rfl) fun a q=>zl q (r_ibin q rfl rfl rfl) fun a q=>zn ?_
 refine wp_cond_split (q.ev rfl) (fun (hb_144 : (decide ((a0.length : Int) > (a1.length : Int))) = true)=>?_) fun hb_144=>?_
 rw [ifb_t hb_144] at H
 refine zq<|zr<|za q rfl fun a q=>zn ?_
 obtain rfl:=Option.some.inj H
 refine wp_ret ?_
 repeat first | refine zt ?_ | refine zb ?_ | refine zo ?_
 exact ret_1 results23 q (rv_tmp q rfl) ⟨rfl,s.bel⟩
 rw [ifb_f hb_144] at H
 refine wp_skip<|zq<|zr<|za q rfl fun a q=>zn ?_
 obtain rfl:=Option.some.inj H
 refine wp_ret ?_
 repeat first | refine zt ?_ | refine zb ?_ | refine zo ?_
 exact ret_1 results23 q (rv_tmp q rfl) ⟨rfl,s.bel⟩
theorem ref02_Same.calls (a0 : api_Table) (a1 : api_Table) {w0 : World} {RA : Hp} {v0_0 : Value} {v0_1 : Value} {v1_0 : Value} {v1_1 : Value} (hRA : RA.sub w0) (h0_0 : SlR ty_api_Col RA v0_0 a0.Cols) (h0_1 : SlR (tySl ty_api_Value) RA v0_1 a0.Rows) (h1_0 : SlR ty_api_Col RA v1_0 a1.Cols) (h1_1 : SlR (tySl ty_api_Value) RA v1_1 a1.Rows) {r : Bool} (H : ref02_Same a0 a1 = some r) : CallsV prog 17 #[.agg #[v0_0,v0_1],.agg #[v1_0,v1_1]] w0 (.bool r):=by
 unfold ref02_Same at H
 refine enter (args:=[.agg #[v0_0,v0_1],.agg #[v1_0,v1_1]]) func17 rfl ntmps17 rfl fun a q=>?_
 have s:=St.init (R:=fun _=>none) (w:=w0) (fun _ _ h=>by cases h)
 have hRL:=RLe.refl (M:=[]) w0 (fun _=>none)
 refine zq<|zr ?_
 refine sl_box s q (by decide) rfl rfl (c:=[v0_0,v0_1]) rfl fun a w b_1 s q=>?_
 refine sl_box s q (by decide) rfl rfl (c:=[v1_0,v1_1]) rfl fun a w b_2 s q=>?_
 refine za q rfl fun a q=>zn<|zq<|zq ?_
 refine wp_mid (fun a w=>∃ (x_6 : Bool),ref02_Same.j0 a0 a1 x_6 = some r ∧ Kn 40 a [(2,.pointer (some ⟨b_1,0,none⟩)),(3,.pointer (some ⟨b_2,0,none⟩)),(20,.bool x_6)] ∧ St [] w0 w (fun _=>none) [.cells b_1 [v0_0,v0_1] 35,.cells b_2 [v1_0,v1_1] 35]) ?_ ?_
 refine zr<|zl q (r_fieldAddr underlying35 rfl sizeOf22 q rfl) fun a q=>zl q (r_load isAgg22 q rfl (s.cell z1 rfl)) fun a q=>zl q (r_fieldAddr underlying35 rfl sizeOf22 q rfl) fun a q=>zl q (r_load isAgg22 q rfl (s.cell z0 rfl)) fun a q=>?_
 obtain ⟨y_8,h_9,H⟩:=bs H
 refine sl_callV call13 s q (by decide) rfl rfl rfl (ref02_SameCols.calls a0.Cols a1.Cols (lentOf_sub [] _) (h0_0.mono (s.raLe0 hRA nil_not)) (h1_0.mono (s.raLe0 hRA nil_not)) h_9) fun a w s q=>?_
 refine zl q (r_un q rfl (u_not _)) fun a q=>zm q rfl fun a q=>?_
 rcases or_b (!y_8) with hb_10 | hb_10
 rw [ifb_t hb_10] at H
 refine zsw q (wft hb_10) fun a q=>zsw q (wft hb_10) fun a q=>zsw q (wft hb_10) fun a q=>zsw q (wft hb_10) fun a q=>zsw q (wft hb_10) fun a q=>zsw q (wft hb_10) fun a q=>zsw q (wft hb_10) fun a q=>zl q (r_pick_t hb_10 q rfl rfl) fun a q=>zn ?_
 have s:=s.pk1
 exact ⟨true,H,q.sub (zc (zc (zc zz))),s⟩
 rw [ifb_f hb_10] at H
 refine zw q (wff hb_10) (r_fieldAddr underlying35 rfl sizeOf33 q rfl) fun a q=>zw q (wff hb_10) (r_load isAgg33 q rfl (s.cell z1 rfl)) fun a q=>zw q (wff hb_10) (r_len_R underlying33 h0_1 q rfl) fun a q=>zw q (wff hb_10) (r_fieldAddr underlying35 rfl sizeOf33 q rfl) fun a q=>zw q (wff hb_10) (r_load isAgg33 q rfl (s.cell z0 rfl)) fun a q=>zw q (wff hb_10) (r_len_R underlying33 h1_1 q rfl) fun a q=>zw q (wff hb_10) (r_ibin q rfl rfl rfl) fun a q=>zl q (r_pick_f hb_10 q rfl rfl) fun a q=>zn ?_
 have s:=s.pk1
 exact ⟨((a0.Rows.length : Int) != (a1.Rows.length : Int)),H,q.sub (zc (zc (zc zz))),s⟩
 rintro a w ⟨x_6,H,q,s⟩
 unfold ref02_Same.j0 at H
 refine wp_cond_split (q.ev rfl) (fun (hb_11 : x_6 = true)=>?_) fun hb_11=>?_
 rw [ifb_t hb_11] at H
 refine zq<|zr<|za q rfl fun a q=>zn ?_
 obtain rfl:=Option.some.inj H
 refine wp_ret ?_
 repeat first | refine zt ?_ | refine zb ?_ | refine zo ?_
 exact ret_1 results17 q (rv_tmp q rfl) ⟨rfl,s.bel⟩
 rw [ifb_f hb_11] at H
 refine wp_skip<|zq<|zq<|zr<|za q rfl fun a q=>zn ?_
 refine wp_block ?_
 refine wp_loop_k (fun k_l1 a w=>∃ (x_63 : Int),ref02_Same.l1 a0 a1 k_l1 x_63 = some r ∧ Kn 40 a [(2,.pointer (some ⟨b_1,0,none⟩)),(3,.pointer (some ⟨b_2,0,none⟩)),(5,I6 x_63)] ∧ St [] w0 w (fun _=>none) [.cells b_1 [v0_0,v0_1] 35,.cells b_2 [v1_0,v1_1] 35]) (((a0.Rows.length : Int) - 0).toNat + 1) ?_ ?_
 have s:=s.pk1
 have s:=s.pk1
 exact ⟨0,H,q.sub (zc (zc (zc zz))),s⟩
 rintro k_l1 a w ⟨x_63,H,q,s⟩
 rcases k_l1 with _ | k_l1
 cases H
 rw [ref02_Same.l1.eq_2] at H
 refine zq<|zq<|zr<|zm q rfl fun a q=>zl q (r_fieldAddr underlying35 rfl sizeOf33 q rfl) fun a q=>zl q (r_load isAgg33 q rfl (s.cell z0 rfl)) fun a q=>zl q (r_len_R underlying33 h0_1 q rfl) fun a q=>zl q (r_ibin q rfl rfl rfl) fun a q=>zn ?_
 refine wp_cond_split (q.ev rfl) (fun (hb_115 : (decide (x_63 < (a0.Rows.length : Int))) = true)=>?_) fun hb_115=>?_
 rw [ifb_t hb_115] at H
 refine wp_skip<|zq ?_
 refine wp_block ?_
 refine zq ?_
 refine parT_region (C:=fun w=>St [] w0 w (fun _=>none) [.cells b_1 [v0_0,v0_1] 35,.cells b_2 [v1_0,v1_1] 35]) 10 [(0,true),(1,true),(2,true),(3,true),(4,true),(5,true),(6,true),(7,true),(8,true),(9,true)] mixed (by kernel_rfl) s (fun w s=>s) fun w s=>?_
 refine zp rfl q (fun w s=>r_fieldAddr underlying35 rfl sizeOf33 q rfl) fun a q=>zp rfl q (fun w s=>r_load isAgg33 q rfl (s.cell z0 rfl)) fun a q=>zp rfl q (fun w s=>r_move q rfl) fun a q=>?_
 obtain ⟨y_140,h_141,H⟩:=bs H
 obtain ⟨b_142,o_143,c_144,cs_145,hv_146,hr_147,hc_148,h_1410,h_1411⟩:=h0_1.ix h_141
 obtain ⟨v_149,rfl,hs_150⟩:=hr_147
 refine zp rfl q (fun w s=>r_indexAddr_R underlying33 sizeOf53 hv_146 h_1410 h_1411 q rfl rfl) fun a q=>zp rfl q (fun w s=>r_load isAgg53 q rfl ((s.ra hRA nil_not).cell (hc_148 0 _ rfl))) fun a q=>zp rfl q (fun w s=>r_fieldAddr underlying35 rfl sizeOf33 q rfl) fun a q=>zp rfl q (fun w s=>r_load isAgg33 q rfl (s.cell z1 rfl)) fun a q=>zp rfl q (fun w s=>r_move q rfl) fun a q=>?_
 obtain ⟨y_151,h_152,H⟩:=bs H
 obtain ⟨b_153,o_154,c_155,cs_156,hv_157,hr_158,hc_159,h_1520,h_1521⟩:=h1_1.ix h_152
 obtain ⟨v_160,rfl,hs_161⟩:=hr_158
 refine zp rfl q (fun w s=>r_indexAddr_R underlying33 sizeOf53 hv_157 h_1520 h_1521 q rfl rfl) fun a q=>zp rfl q (fun w s=>r_load isAgg53 q rfl ((s.ra hRA nil_not).cell (hc_159 0 _ rfl))) fun a q=>?_
 refine thenL_nil ?_
 obtain ⟨y_162,h_163,H⟩:=bs H
 refine sl_callV call23 s q (by decide) rfl rfl rfl (ref02_Row.calls y_140 y_151 (lentOf_sub [] _) (hs_150.mono (s.raLe0 hRA nil_not)) (hs_161.mono (s.raLe0 hRA nil_not)) h_163) fun a w s q=>?_
 refine zl q (r_ibin q rfl rfl rfl) fun a q=>?_
 refine wpList_nil (NoP_nil ?_)
 refine wp_cond_split (q.ev rfl) (fun (hb_164 : (y_162 != 0) = true)=>?_) fun hb_164=>?_
 rw [ifb_t hb_164] at H
 refine zq<|zr<|za q rfl fun a q=>zn ?_
 obtain rfl:=Option.some.inj H
 refine wp_ret ?_
 repeat first | refine zt ?_ | refine zb ?_ | refine zo ?_
 exact ret_1 results17 q (rv_tmp q rfl) ⟨rfl,s.bel⟩
 rw [ifb_f hb_164] at H
 refine wp_skip<|zr<|zm q rfl fun a q=>zl q (r_ibin q rfl rfl rfl) fun a q=>za q rfl fun a q=>zn ?_
 have s:=s.pk1
 have s:=s.pk1
 exact ⟨_,Nat.lt_succ_self _,(IntKind.i64.wrap (x_63 + 1)),H,q.sub (zc (zc (zc zz))),s⟩
 rw [ifb_f hb_115] at H
 refine wp_exit ?_
 refine zq<|zr<|za q rfl fun a q=>zn ?_
 obtain rfl:=Option.some.inj H
 refine wp_ret ?_
 repeat first | refine zt ?_ | refine zb ?_ | refine zo ?_
 exact ret_1 results17 q (rv_tmp q rfl) ⟨rfl,s.bel⟩
end Go.Proofs.YtonfglmfdhljnaaGreatDoor.M
end
section
namespace Go.Proofs.YtonfglmfdhljnaaGreatDoor.M
open Go Go.Eng Go.Proofs Go.RowKit
set_option linter.unusedVariables false
set_option linter.unusedSimpArgs false
open Go.Proofs.Tryz
set_option maxHeartbeats 4000000
set_option maxRecDepth 100000
theorem ref02_Name.calls (a0 : ByteArray) {r : Bool} (H : ref02_Name a0 = some r) (w0 : World) : CallsV prog 52 #[.string a0] w0 (.bool r):=by
 unfold ref02_Name at H
 refine enter (args:=[.string a0]) func52 rfl ntmps52 rfl fun a q=>?_
 have s:=St.init (R:=fun _=>none) (w:=w0) (fun _ _ h=>by cases h)
 have hRL:=RLe.refl (M:=[]) w0 (fun _=>none)
 refine zq<|zr<|za q rfl fun a q=>zn<|zq<|zq ?_
 refine wp_mid (fun a w=>∃ (x_8 : Bool),ref02_Name.j0 a0 x_8 = some r ∧ Kn 55 a [(0,.string a0),(22,.bool x_8)] ∧ St [] w0 w (fun _=>none) []) ?_ ?_
 refine zr<|zm q rfl fun a q=>zl q (r_len_str underlying9 q rfl) fun a q=>zl q (r_ibin q rfl rfl rfl) fun a q=>zm q rfl fun a q=>?_
 rcases or_b (decide ((a0.size : Int) < 1)) with hb_10 | hb_10
 rw [ifb_t hb_10] at H
 refine zsw q (wft hb_10) fun a q=>zsw q (wft hb_10) fun a q=>zsw q (wft hb_10) fun a q=>zl q (r_pick_t hb_10 q rfl rfl) fun a q=>zm q rfl fun a q=>zs q fun a q=>zs q fun a q=>zs q fun a q=>zl q (r_pick q rfl rfl rfl) fun a q=>zm q rfl fun a q=>zs q fun a q=>zs q fun a q=>zs q fun a q=>zl q (r_pick q rfl rfl rfl) fun a q=>zn ?_
 exact ⟨true,H,q.sub (zc (zc zz)),s⟩
 rw [ifb_f hb_10] at H
 refine zw q (wff hb_10) (r_move q rfl) fun a q=>zw q (wff hb_10) (r_len_str underlying9 q rfl) fun a q=>zw q (wff hb_10) (r_ibin q rfl rfl rfl) fun a q=>zl q (r_pick_f hb_10 q rfl rfl) fun a q=>zm q rfl fun a q=>?_
 rcases or_b (decide ((a0.size : Int) > 24)) with hb_11 | hb_11
 rw [ifb_t hb_11] at H
 refine zsw q (wft hb_11) fun a q=>zsw q (wft hb_11) fun a q=>zsw q (wft hb_11) fun a q=>zl q (r_pick_t hb_11 q rfl rfl) fun a q=>zm q rfl fun a q=>zs q fun a q=>zs q fun a q=>zs q fun a q=>zl q (r_pick q rfl rfl rfl) fun a q=>zn ?_
 exact ⟨true,H,q.sub (zc (zc zz)),s⟩
 rw [ifb_f hb_11] at H
 refine zw q (wff hb_11) (r_move q rfl) fun a q=>?_
 obtain ⟨y_12,h_13,H⟩:=bs H
 refine zw q (wff hb_11) (r_index_str' underlying9 h_13 q rfl rfl) fun a q=>zw q (wff hb_11) (r_ibin q rfl rfl rfl) fun a q=>zl q (r_pick_f hb_11 q rfl rfl) fun a q=>zm q rfl fun a q=>?_
 rcases or_b (decide (y_12 < 97)) with hb_14 | hb_14
 rw [ifb_t hb_14] at H
 refine zsw q (wft hb_14) fun a q=>zsw q (wft hb_14) fun a q=>zsw q (wft hb_14) fun a q=>zl q (r_pick_t hb_14 q rfl rfl) fun a q=>zn ?_
 exact ⟨true,H,q.sub (zc (zc zz)),s⟩
 rw [ifb_f hb_14] at H
 refine zw q (wff hb_14) (r_move q rfl) fun a q=>?_
 obtain ⟨y_15,h_16,H⟩:=bs H
 refine zw q (wff hb_14) (r_index_str' underlying9 h_16 q rfl rfl) fun a q=>zw q (wff hb_14) (r_ibin q rfl rfl rfl) fun a q=>zl q (r_pick_f hb_14 q rfl rfl) fun a q=>zn ?_
 exact ⟨(decide (y_15 > 122)),H,q.sub (zc (zc zz)),s⟩
 rintro a w ⟨x_8,H,q,s⟩
 unfold ref02_Name.j0 at H
 refine wp_cond_split (q.ev rfl) (fun (hb_17 : x_8 = true)=>?_) fun hb_17=>?_
 rw [ifb_t hb_17] at H
 refine zq<|zr<|za q rfl fun a q=>zn ?_
 obtain rfl:=Option.some.inj H
 refine wp_ret ?_
 repeat first | refine zt ?_ | refine zb ?_ | refine zo ?_
 exact ret_1 results52 q (rv_tmp q rfl) ⟨rfl,s.bel⟩
 rw [ifb_f hb_17] at H
 refine wp_skip<|zq<|zq<|zr<|za q rfl fun a q=>zn ?_
 refine wp_block ?_
 refine wp_loop_k (fun k_l1 a w=>∃ (x_45 : Int),ref02_Name.l1 a0 k_l1 x_45 = some r ∧ Kn 55 a [(0,.string a0),(3,I6 x_45)] ∧ St [] w0 w (fun _=>none) []) (((a0.size : Int) - 0).toNat + 1) ?_ ?_
 exact ⟨0,H,q.sub (zc (zc zz)),s⟩
 rintro k_l1 a w ⟨x_45,H,q,s⟩
 rcases k_l1 with _ | k_l1
 cases H
 rw [ref02_Name.l1.eq_2] at H
 refine zq<|zq<|zr<|zm q rfl fun a q=>zm q rfl fun a q=>zl q (r_len_str underlying9 q rfl) fun a q=>zl q (r_ibin q rfl rfl rfl) fun a q=>zn ?_
 refine wp_cond_split (q.ev rfl) (fun (hb_73 : (decide (x_45 < (a0.size : Int))) = true)=>?_) fun hb_73=>?_
 rw [ifb_t hb_73] at H
 refine wp_skip<|zq ?_
 refine wp_block ?_
 refine zq<|zr<|zm q rfl fun a q=>zm q rfl fun a q=>?_
 obtain ⟨y_74,h_75,H⟩:=bs H
 refine zl q (r_index_str' underlying9 h_75 q rfl rfl) fun a q=>za q rfl fun a q=>zn<|zq ?_
 refine wp_mid (fun a w=>∃ (x_86 : Bool),ref02_Name.j2 (ref02_Name.l1 a0 k_l1) a0 x_45 x_86 = some r ∧ Kn 55 a [(0,.string a0),(3,I6 x_45),(54,.bool x_86)] ∧ St [] w0 w (fun _=>none) []) ?_ ?_
 refine zr<|zm q rfl fun a q=>zl q (r_ibin q rfl rfl rfl) fun a q=>zm q rfl fun a q=>?_
 rcases or_b (decide (y_74 ≥ 97)) with hb_88 | hb_88
 rw [ifb_t hb_88] at H
 refine zw q (wtt hb_88) (r_move q rfl) fun a q=>zw q (wtt hb_88) (r_ibin q rfl rfl rfl) fun a q=>zl q (r_pick_t hb_88 q rfl rfl) fun a q=>zm q rfl fun a q=>?_
 rcases or_b (decide (y_74 ≤ 122)) with hb_89 | hb_89
 rw [ifb_t hb_89] at H
 refine zsw q (wft hb_89) fun a q=>zsw q (wft hb_89) fun a q=>zsw q (wft hb_89) fun a q=>zs q fun a q=>zs q fun a q=>zsw q (wft hb_89) fun a q=>zl q (r_pick_t hb_89 q rfl rfl) fun a q=>zm q rfl fun a q=>zs q fun a q=>zs q fun a q=>zl q (r_pick q rfl rfl rfl) fun a q=>zm q rfl fun a q=>zs q fun a q=>zs q fun a q=>zl q (r_pick q rfl rfl rfl) fun a q=>zl q (r_un q rfl (u_not _)) fun a q=>zn ?_
 exact ⟨false,H,q.sub (zc (zc (zc zz))),s⟩
 rw [ifb_f hb_89] at H
 refine zw q (wff hb_89) (r_move q rfl) fun a q=>zw q (wff hb_89) (r_ibin q rfl rfl rfl) fun a q=>zw q (wff hb_89) (r_move q rfl) fun a q=>?_
 rcases or_b (decide (y_74 ≥ 48)) with hb_90 | hb_90
 rw [ifb_t hb_90] at H
 refine zw q (wtt hb_90) (r_move q rfl) fun a q=>zw q (wtt hb_90) (r_ibin q rfl rfl rfl) fun a q=>zw q (wff hb_89) (r_pick_t hb_90 q rfl rfl) fun a q=>zl q (r_pick_f hb_89 q rfl rfl) fun a q=>zm q rfl fun a q=>?_
 rcases or_b (decide (y_74 ≤ 57)) with hb_91 | hb_91
 rw [ifb_t hb_91] at H
 refine zsw q (wft hb_91) fun a q=>zsw q (wft hb_91) fun a q=>zl q (r_pick_t hb_91 q rfl rfl) fun a q=>zm q rfl fun a q=>zs q fun a q=>zs q fun a q=>zl q (r_pick q rfl rfl rfl) fun a q=>zl q (r_un q rfl (u_not _)) fun a q=>zn ?_
 exact ⟨false,H,q.sub (zc (zc (zc zz))),s⟩
 rw [ifb_f hb_91] at H
 refine zw q (wff hb_91) (r_move q rfl) fun a q=>zw q (wff hb_91) (r_ibin q rfl rfl rfl) fun a q=>zl q (r_pick_f hb_91 q rfl rfl) fun a q=>zm q rfl fun a q=>?_
 rcases or_b (y_74 == 95) with hb_92 | hb_92
 rw [ifb_t hb_92] at H
 refine zsw q (wft hb_92) fun a q=>zsw q (wft hb_92) fun a q=>zl q (r_pick_t hb_92 q rfl rfl) fun a q=>zl q (r_un q rfl (u_not _)) fun a q=>zn ?_
 exact ⟨false,H,q.sub (zc (zc (zc zz))),s⟩
 rw [ifb_f hb_92] at H
 refine zw q (wff hb_92) (r_move q rfl) fun a q=>zw q (wff hb_92) (r_ibin q rfl rfl rfl) fun a q=>zl q (r_pick_f hb_92 q rfl rfl) fun a q=>zl q (r_un q rfl (u_not _)) fun a q=>zn ?_
 exact ⟨(!(y_74 == 35)),H,q.sub (zc (zc (zc zz))),s⟩
 rw [ifb_f hb_90] at H
 refine zsw q (wtf hb_90) fun a q=>zsw q (wtf hb_90) fun a q=>zw q (wff hb_89) (r_pick_f hb_90 q rfl rfl) fun a q=>zl q (r_pick_f hb_89 q rfl rfl) fun a q=>zm q rfl fun a q=>zm q rfl fun a q=>zl q (r_ibin q rfl rfl rfl) fun a q=>zl q (r_pick q rfl rfl rfl) fun a q=>zm q rfl fun a q=>?_
 rcases or_b (y_74 == 95) with hb_93 | hb_93
 rw [ifb_t hb_93] at H
 refine zsw q (wft hb_93) fun a q=>zsw q (wft hb_93) fun a q=>zl q (r_pick_t hb_93 q rfl rfl) fun a q=>zl q (r_un q rfl (u_not _)) fun a q=>zn ?_
 exact ⟨false,H,q.sub (zc (zc (zc zz))),s⟩
 rw [ifb_f hb_93] at H
 refine zw q (wff hb_93) (r_move q rfl) fun a q=>zw q (wff hb_93) (r_ibin q rfl rfl rfl) fun a q=>zl q (r_pick_f hb_93 q rfl rfl) fun a q=>zl q (r_un q rfl (u_not _)) fun a q=>zn ?_
 exact ⟨(!(y_74 == 35)),H,q.sub (zc (zc (zc zz))),s⟩
 rw [ifb_f hb_88] at H
 refine zsw q (wtf hb_88) fun a q=>zsw q (wtf hb_88) fun a q=>zl q (r_pick_f hb_88 q rfl rfl) fun a q=>zm q rfl fun a q=>zm q rfl fun a q=>zl q (r_ibin q rfl rfl rfl) fun a q=>zm q rfl fun a q=>?_
 rcases or_b (decide (y_74 ≥ 48)) with hb_94 | hb_94
 rw [ifb_t hb_94] at H
 refine zw q (wtt hb_94) (r_move q rfl) fun a q=>zw q (wtt hb_94) (r_ibin q rfl rfl rfl) fun a q=>zl q (r_pick_t hb_94 q rfl rfl) fun a q=>zl q (r_pick q rfl rfl rfl) fun a q=>zm q rfl fun a q=>?_
 rcases or_b (decide (y_74 ≤ 57)) with hb_95 | hb_95
 rw [ifb_t hb_95] at H
 refine zsw q (wft hb_95) fun a q=>zsw q (wft hb_95) fun a q=>zl q (r_pick_t hb_95 q rfl rfl) fun a q=>zm q rfl fun a q=>zs q fun a q=>zs q fun a q=>zl q (r_pick q rfl rfl rfl) fun a q=>zl q (r_un q rfl (u_not _)) fun a q=>zn ?_
 exact ⟨false,H,q.sub (zc (zc (zc zz))),s⟩
 rw [ifb_f hb_95] at H
 refine zw q (wff hb_95) (r_move q rfl) fun a q=>zw q (wff hb_95) (r_ibin q rfl rfl rfl) fun a q=>zl q (r_pick_f hb_95 q rfl rfl) fun a q=>zm q rfl fun a q=>?_
 rcases or_b (y_74 == 95) with hb_96 | hb_96
 rw [ifb_t hb_96] at H
 refine zsw q (wft hb_96) fun a q=>zsw q (wft hb_96) fun a q=>zl q (r_pick_t hb_96 q rfl rfl) fun a q=>zl q (r_un q rfl (u_not _)) fun a q=>zn ?_
 exact ⟨false,H,q.sub (zc (zc (zc zz))),s⟩
 rw [ifb_f hb_96] at H
 refine zw q (wff hb_96) (r_move q rfl) fun a q=>zw q (wff hb_96) (r_ibin q rfl rfl rfl) fun a q=>zl q (r_pick_f hb_96 q rfl rfl) fun a q=>zl q (r_un q rfl (u_not _)) fun a q=>zn ?_
 exact ⟨(!(y_74 == 35)),H,q.sub (zc (zc (zc zz))),s⟩
 rw [ifb_f hb_94] at H
 refine zsw q (wtf hb_94) fun a q=>zsw q (wtf hb_94) fun a q=>zl q (r_pick_f hb_94 q rfl rfl) fun a q=>zl q (r_pick q rfl rfl rfl) fun a q=>zm q rfl fun a q=>zm q rfl fun a q=>zl q (r_ibin q rfl rfl rfl) fun a q=>zl q (r_pick q rfl rfl rfl) fun a q=>zm q rfl fun a q=>?_
 rcases or_b (y_74 == 95) with hb_97 | hb_97
 rw [ifb_t hb_97] at H
 refine zsw q (wft hb_97) fun a q=>zsw q (wft hb_97) fun a q=>zl q (r_pick_t hb_97 q rfl rfl) fun a q=>zl q (r_un q rfl (u_not _)) fun a q=>zn ?_
 exact ⟨false,H,q.sub (zc (zc (zc zz))),s⟩
 rw [ifb_f hb_97] at H
 refine zw q (wff hb_97) (r_move q rfl) fun a q=>zw q (wff hb_97) (r_ibin q rfl rfl rfl) fun a q=>zl q (r_pick_f hb_97 q rfl rfl) fun a q=>zl q (r_un q rfl (u_not _)) fun a q=>zn ?_
 exact ⟨(!(y_74 == 35)),H,q.sub (zc (zc (zc zz))),s⟩
 rintro a w ⟨x_86,H,q,s⟩
 unfold ref02_Name.j2 at H
 refine wp_cond_split (q.ev rfl) (fun (hb_98 : x_86 = true)=>?_) fun hb_98=>?_
 rw [ifb_t hb_98] at H
 refine zq<|zr<|za q rfl fun a q=>zn ?_
 obtain rfl:=Option.some.inj H
 refine wp_ret ?_
 repeat first | refine zt ?_ | refine zb ?_ | refine zo ?_
 exact ret_1 results52 q (rv_tmp q rfl) ⟨rfl,s.bel⟩
 rw [ifb_f hb_98] at H
 refine wp_skip<|zr<|zm q rfl fun a q=>zl q (r_ibin q rfl rfl rfl) fun a q=>za q rfl fun a q=>zn ?_
 exact ⟨_,Nat.lt_succ_self _,(IntKind.i64.wrap (x_45 + 1)),H,q.sub (zc (zc zz)),s⟩
 rw [ifb_f hb_73] at H
 refine wp_exit ?_
 refine zq<|zr<|za q rfl fun a q=>zn ?_
 obtain rfl:=Option.some.inj H
 refine wp_ret ?_
 repeat first | refine zt ?_ | refine zb ?_ | refine zo ?_
 exact ret_1 results52 q (rv_tmp q rfl) ⟨rfl,s.bel⟩
theorem ref02_Find.calls (a0 : List api_Col) (a1 : ByteArray) {w0 : World} {RA : Hp} {v0_0 : Value} (hRA : RA.sub w0) (h0_0 : SlR ty_api_Col RA v0_0 a0) {r : Int} (H : ref02_Find a0 a1 = some r) : CallsV prog 36 #[v0_0,.string a1] w0 (I6 r):=by
 unfold ref02_Find at H
 refine enter (args:=[v0_0,.string a1]) func36 rfl ntmps36 rfl fun a q=>?_
 have s:=St.init (R:=fun _=>none) (w:=w0) (fun _ _ h=>by cases h)
 have hRL:=RLe.refl (M:=[]) w0 (fun _=>none)
 refine zq<|zr<|za q rfl fun a q=>zn<|zq<|zq<|zr<|za q rfl fun a q=>zn ?_
 refine wp_block ?_
 refine wp_loop_k (fun k_l0 a w=>∃ (x_13 : Int),ref02_Find.l0 a0 a1 k_l0 x_13 = some r ∧ Kn 20 a [(0,v0_0),(1,.string a1),(5,I6 x_13)] ∧ St [] w0 w (fun _=>none) []) (((a0.length : Int) - 0).toNat + 1) ?_ ?_
 exact ⟨0,H,q.sub (zc (zc (zc zz))),s⟩
 rintro k_l0 a w ⟨x_13,H,q,s⟩
 rcases k_l0 with _ | k_l0
 cases H
 rw [ref02_Find.l0.eq_2] at H
 refine zq<|zq<|zr<|zm q rfl fun a q=>zm q rfl fun a q=>zl q (r_len_R underlying22 h0_0 q rfl) fun a q=>zl q (r_ibin q rfl rfl rfl) fun a q=>zn ?_
 refine wp_cond_split (q.ev rfl) (fun (hb_26 : (decide (x_13 < (a0.length : Int))) = true)=>?_) fun hb_26=>?_
 rw [ifb_t hb_26] at H
 refine wp_skip<|zq ?_
 refine wp_block ?_
 refine zq<|zr<|zm q rfl fun a q=>zm q rfl fun a q=>?_
 obtain ⟨y_27,h_28,H⟩:=bs H
 obtain ⟨b_29,o_30,c_31,cs_32,hv_33,hr_34,hc_35,h_280,h_281⟩:=h0_0.ix h_28
 subst hr_34
 refine zl q (r_indexAddr_R underlying22 sizeOf47 hv_33 h_280 h_281 q rfl rfl) fun a q=>zl q (r_fieldAddr underlying47 rfl sizeOf9 q rfl) fun a q=>zl q (r_load isAgg9 q rfl ((s.ra hRA nil_not).cell (hc_35 0 _ rfl))) fun a q=>zm q rfl fun a q=>zl q (r_sbin q rfl rfl rfl) fun a q=>zn ?_
 refine wp_cond_split (q.ev rfl) (fun (hb_36 : (y_27.Name.toList == a1.toList) = true)=>?_) fun hb_36=>?_
 rw [ifb_t hb_36] at H
 refine zq<|zr<|zm q rfl fun a q=>za q rfl fun a q=>zn ?_
 obtain rfl:=Option.some.inj H
 refine wp_ret ?_
 repeat first | refine zt ?_ | refine zb ?_ | refine zo ?_
 exact ret_1 results36 q (rv_tmp q rfl) ⟨rfl,s.bel⟩
 rw [ifb_f hb_36] at H
 refine wp_skip<|zr<|zm q rfl fun a q=>zl q (r_ibin q rfl rfl rfl) fun a q=>za q rfl fun a q=>zn ?_
 exact ⟨_,Nat.lt_succ_self _,(IntKind.i64.wrap (x_13 + 1)),H,q.sub (zc (zc (zc zz))),s⟩
 rw [ifb_f hb_26] at H
 refine wp_exit ?_
 refine zq<|zr<|za q rfl fun a q=>zn ?_
 obtain rfl:=Option.some.inj H
 refine wp_ret ?_
 repeat first | refine zt ?_ | refine zb ?_ | refine zo ?_
 exact ret_1 results36 q (rv_tmp q rfl) ⟨rfl,s.bel⟩
theorem ref02_Cols.calls (a0 : List api_Col) {w0 : World} {RA : Hp} {v0_0 : Value} (hRA : RA.sub w0) (h0_0 : SlR ty_api_Col RA v0_0 a0) {r : Bool} (H : ref02_Cols a0 = some r) : CallsV prog 31 #[v0_0] w0 (.bool r):=by
 unfold ref02_Cols at H
 refine enter (args:=[v0_0]) func31 rfl ntmps31 rfl fun a q=>?_
 have s:=St.init (R:=fun _=>none) (w:=w0) (fun _ _ h=>by cases h)
 have hRL:=RLe.refl (M:=[]) w0 (fun _=>none)
 refine zq<|zr<|za q rfl fun a q=>zn<|zq<|zq ?_
 refine wp_mid (fun a w=>∃ (x_2 : Bool),ref02_Cols.j0 a0 x_2 = some r ∧ Kn 52 a [(0,v0_0),(11,.bool x_2)] ∧ St [] w0 w (fun _=>none) []) ?_ ?_
 refine zr<|zm q rfl fun a q=>zl q (r_len_R underlying22 h0_0 q rfl) fun a q=>zl q (r_ibin q rfl rfl rfl) fun a q=>zm q rfl fun a q=>?_
 rcases or_b (decide ((a0.length : Int) < 1)) with hb_4 | hb_4
 rw [ifb_t hb_4] at H
 refine zsw q (wft hb_4) fun a q=>zsw q (wft hb_4) fun a q=>zsw q (wft hb_4) fun a q=>zl q (r_pick_t hb_4 q rfl rfl) fun a q=>zn ?_
 exact ⟨true,H,q.sub (zc (zc zz)),s⟩
 rw [ifb_f hb_4] at H
 refine zw q (wff hb_4) (r_move q rfl) fun a q=>zw q (wff hb_4) (r_len_R underlying22 h0_0 q rfl) fun a q=>zw q (wff hb_4) (r_ibin q rfl rfl rfl) fun a q=>zl q (r_pick_f hb_4 q rfl rfl) fun a q=>zn ?_
 exact ⟨(decide ((a0.length : Int) > 16)),H,q.sub (zc (zc zz)),s⟩
 rintro a w ⟨x_2,H,q,s⟩
 unfold ref02_Cols.j0 at H
 refine wp_cond_split (q.ev rfl) (fun (hb_5 : x_2 = true)=>?_) fun hb_5=>?_
 rw [ifb_t hb_5] at H
 refine zq<|zr<|za q rfl fun a q=>zn ?_
 obtain rfl:=Option.some.inj H
 refine wp_ret ?_
 repeat first | refine zt ?_ | refine zb ?_ | refine zo ?_
 exact ret_1 results31 q (rv_tmp q rfl) ⟨rfl,s.bel⟩
 rw [ifb_f hb_5] at H
 refine wp_skip<|zq<|zq<|zr<|za q rfl fun a q=>zn ?_
 refine wp_block ?_
 refine wp_loop_k (fun k_l1 a w=>∃ (x_97 : Int),ref02_Cols.l1 a0 k_l1 x_97 = some r ∧ Kn 52 a [(0,v0_0),(3,I6 x_97)] ∧ St [] w0 w (fun _=>none) []) (((a0.length : Int) - 0).toNat + 1) ?_ ?_
 exact ⟨0,H,q.sub (zc (zc zz)),s⟩
 rintro k_l1 a w ⟨x_97,H,q,s⟩
 rcases k_l1 with _ | k_l1
 cases H
 rw [ref02_Cols.l1.eq_2] at H
 refine zq<|zq<|zr<|zm q rfl fun a q=>zm q rfl fun a q=>zl q (r_len_R underlying22 h0_0 q rfl) fun a q=>zl q (r_ibin q rfl rfl rfl) fun a q=>zn ?_
 refine wp_cond_split (q.ev rfl) (fun (hb_189 : (decide (x_97 < (a0.length : Int))) = true)=>?_) fun hb_189=>?_
 rw [ifb_t hb_189] at H
 refine wp_skip<|zq ?_
 refine wp_block ?_
 refine zq ?_
 refine wp_mid (fun a w=>∃ (x_233 : Bool),ref02_Cols.j2 (ref02_Cols.l1 a0 k_l1) a0 x_97 x_233 = some r ∧ Kn 52 a [(0,v0_0),(3,I6 x_97),(51,.bool x_233)] ∧ St [] w0 w (fun _=>none) []) ?_ ?_
 refine zr<|zm q rfl fun a q=>zm q rfl fun a q=>?_
 obtain ⟨y_235,h_236,H⟩:=bs H
 obtain ⟨b_237,o_238,c_239,cs_240,hv_241,hr_242,hc_243,h_2360,h_2361⟩:=h0_0.ix h_236
 subst hr_242
 refine zl q (r_indexAddr_R underlying22 sizeOf47 hv_241 h_2360 h_2361 q rfl rfl) fun a q=>zl q (r_fieldAddr underlying47 rfl sizeOf9 q rfl) fun a q=>zl q (r_load isAgg9 q rfl ((s.ra hRA nil_not).cell (hc_243 0 _ rfl))) fun a q=>?_
 obtain ⟨y_244,h_245,H⟩:=bs H
 refine sl_callV call52 s q (by decide) rfl rfl rfl (ref02_Name.calls y_235.Name h_245 _) fun a w s q=>?_
 refine zl q (r_un q rfl (u_not _)) fun a q=>zm q rfl fun a q=>?_
 rcases or_b (!y_244) with hb_246 | hb_246
 rw [ifb_t hb_246] at H
 refine zsw q (wft hb_246) fun a q=>zsw q (wft hb_246) fun a q=>zsw q (wft hb_246) fun a q=>zsw q (wft hb_246) fun a q=>zsw q (wft hb_246) fun a q=>zsw q (wft hb_246) fun a q=>zsw q (wft hb_246) fun a q=>zsw q (wft hb_246) fun a q=>zsw q (wft hb_246) fun a q=>zl q (r_pick_t hb_246 q rfl rfl) fun a q=>zm q rfl fun a q=>zs q fun a q=>zs q fun a q=>zs q fun a q=>zs q fun a q=>zs q fun a q=>zs q fun a q=>zl q (r_pick q rfl rfl rfl) fun a q=>zm q rfl fun a q=>zs q fun a q=>zs q fun a q=>zs q fun a q=>zs q fun a q=>zs q fun a q=>zs q fun a q=>zl q (r_pick q rfl rfl rfl) fun a q=>zn ?_
 exact ⟨true,H,q.sub (zc (zc (zc zz))),s⟩
 rw [ifb_f hb_246] at H
 refine zw q (wff hb_246) (r_move q rfl) fun a q=>zw q (wff hb_246) (r_move q rfl) fun a q=>zw q (wff hb_246) (r_move q rfl) fun a q=>?_
 obtain ⟨y_247,h_248,H⟩:=bs H
 obtain ⟨b_249,o_250,c_251,cs_252,hv_253,hr_254,hc_255,h_2480,h_2481⟩:=h0_0.ix h_248
 subst hr_254
 refine zw q (wff hb_246) (r_indexAddr_R underlying22 sizeOf47 hv_253 h_2480 h_2481 q rfl rfl) fun a q=>zw q (wff hb_246) (r_fieldAddr underlying47 rfl sizeOf9 q rfl) fun a q=>zw q (wff hb_246) (r_load isAgg9 q rfl ((s.ra hRA nil_not).cell (hc_255 0 _ rfl))) fun a q=>?_
 obtain ⟨y_256,h_257,H⟩:=bs H
 refine sl_callV call36 s q (by decide) (wff hb_246) rfl rfl (ref02_Find.calls a0 y_247.Name (lentOf_sub [] _) (h0_0.mono (s.raLe0 hRA nil_not)) h_257) fun a w s q=>?_
 refine zw q (wff hb_246) (r_move q rfl) fun a q=>zw q (wff hb_246) (r_ibin q rfl rfl rfl) fun a q=>zl q (r_pick_f hb_246 q rfl rfl) fun a q=>zm q rfl fun a q=>?_
 rcases or_b (y_256 != x_97) with hb_258 | hb_258
 rw [ifb_t hb_258] at H
 refine zsw q (wft hb_258) fun a q=>zsw q (wft hb_258) fun a q=>zsw q (wft hb_258) fun a q=>zsw q (wft hb_258) fun a q=>zsw q (wft hb_258) fun a q=>zsw q (wft hb_258) fun a q=>zl q (r_pick_t hb_258 q rfl rfl) fun a q=>zm q rfl fun a q=>zs q fun a q=>zs q fun a q=>zs q fun a q=>zs q fun a q=>zs q fun a q=>zs q fun a q=>zl q (r_pick q rfl rfl rfl) fun a q=>zn ?_
 exact ⟨true,H,q.sub (zc (zc (zc zz))),s⟩
 rw [ifb_f hb_258] at H
 refine zw q (wff hb_258) (r_move q rfl) fun a q=>zw q (wff hb_258) (r_move q rfl) fun a q=>?_
 obtain ⟨y_259,h_260,H⟩:=bs H
 obtain ⟨b_261,o_262,c_263,cs_264,hv_265,hr_266,hc_267,h_2600,h_2601⟩:=h0_0.ix h_260
 subst hr_266
 refine zw q (wff hb_258) (r_indexAddr_R underlying22 sizeOf47 hv_265 h_2600 h_2601 q rfl rfl) fun a q=>zw q (wff hb_258) (r_fieldAddr underlying47 rfl sizeOf3 q rfl) fun a q=>zw q (wff hb_258) (r_load isAgg3 q rfl ((s.ra hRA nil_not).cell (hc_267 1 _ rfl))) fun a q=>zw q (wff hb_258) (r_ibin q rfl rfl rfl) fun a q=>zl q (r_pick_f hb_258 q rfl rfl) fun a q=>zm q rfl fun a q=>?_
 rcases or_b (decide (y_259.Kind < 1)) with hb_268 | hb_268
 rw [ifb_t hb_268] at H
 refine zsw q (wft hb_268) fun a q=>zsw q (wft hb_268) fun a q=>zsw q (wft hb_268) fun a q=>zsw q (wft hb_268) fun a q=>zsw q (wft hb_268) fun a q=>zsw q (wft hb_268) fun a q=>zl q (r_pick_t hb_268 q rfl rfl) fun a q=>zn ?_
 exact ⟨true,H,q.sub (zc (zc (zc zz))),s⟩
 rw [ifb_f hb_268] at H
 refine zw q (wff hb_268) (r_move q rfl) fun a q=>zw q (wff hb_268) (r_move q rfl) fun a q=>?_
 obtain ⟨y_269,h_270,H⟩:=bs H
 obtain ⟨b_271,o_272,c_273,cs_274,hv_275,hr_276,hc_277,h_2700,h_2701⟩:=h0_0.ix h_270
 subst hr_276
 refine zw q (wff hb_268) (r_indexAddr_R underlying22 sizeOf47 hv_275 h_2700 h_2701 q rfl rfl) fun a q=>zw q (wff hb_268) (r_fieldAddr underlying47 rfl sizeOf3 q rfl) fun a q=>zw q (wff hb_268) (r_load isAgg3 q rfl ((s.ra hRA nil_not).cell (hc_277 1 _ rfl))) fun a q=>zw q (wff hb_268) (r_ibin q rfl rfl rfl) fun a q=>zl q (r_pick_f hb_268 q rfl rfl) fun a q=>zn ?_
 exact ⟨(decide (y_269.Kind > 4)),H,q.sub (zc (zc (zc zz))),s⟩
 rintro a w ⟨x_233,H,q,s⟩
 unfold ref02_Cols.j2 at H
 refine wp_cond_split (q.ev rfl) (fun (hb_278 : x_233 = true)=>?_) fun hb_278=>?_
 rw [ifb_t hb_278] at H
 refine zq<|zr<|za q rfl fun a q=>zn ?_
 obtain rfl:=Option.some.inj H
 refine wp_ret ?_
 repeat first | refine zt ?_ | refine zb ?_ | refine zo ?_
 exact ret_1 results31 q (rv_tmp q rfl) ⟨rfl,s.bel⟩
 rw [ifb_f hb_278] at H
 refine wp_skip<|zr<|zm q rfl fun a q=>zl q (r_ibin q rfl rfl rfl) fun a q=>za q rfl fun a q=>zn ?_
 exact ⟨_,Nat.lt_succ_self _,(IntKind.i64.wrap (x_97 + 1)),H,q.sub (zc (zc zz)),s⟩
 rw [ifb_f hb_189] at H
 refine wp_exit ?_
 refine zq<|zr<|za q rfl fun a q=>zn ?_
 obtain rfl:=Option.some.inj H
 refine wp_ret ?_
 repeat first | refine zt ?_ | refine zb ?_ | refine zo ?_
 exact ret_1 results31 q (rv_tmp q rfl) ⟨rfl,s.bel⟩
theorem ref01_Valid.calls (a0 : api_Value) {r : Bool} (H : ref01_Valid a0 = some r) (w0 : World) : CallsV prog 41 #[.agg ⟨cV a0⟩] w0 (.bool r):=by
 unfold ref01_Valid at H
 refine enter (args:=[.agg ⟨cV a0⟩]) func41 rfl ntmps41 rfl fun a q=>?_
 have s:=St.init (R:=fun _=>none) (w:=w0) (fun _ _ h=>by cases h)
 have hRL:=RLe.refl (M:=[]) w0 (fun _=>none)
 refine zq<|zr ?_
 refine sl_box s q (by decide) rfl rfl (c:=(cV a0)) rfl fun a w b_1 s q=>?_
 refine za q rfl fun a q=>zn<|zq<|zr<|zl q (r_fieldAddr underlying52 rfl sizeOf50 q rfl) fun a q=>zl q (r_loadA (cs:=[I6 a0.H.a0,I6 a0.H.a1,I6 a0.H.a2,I6 a0.H.a3,I6 a0.H.a4,I6 a0.H.a5,I6 a0.H.a6,I6 a0.H.a7]) isAgg50 sizeOf50 rfl q rfl (s.cells_of (m:=8) z0 rfl)) fun a q=>zl q (r_buildAC (ps:=[]) (c:=[I6 0,I6 0,I6 0,I6 0,I6 0,I6 0,I6 0,I6 0]) underlying50 zeroValue50 sizeOf3 q rfl pc_nil rfl rfl) fun a q=>zl q (r_seq (by kernel_rfl) (eqs50 a0.H (⟨0,0,0,0,0,0,0,0⟩ : Arr8)) q rfl rfl) fun a q=>?_
 refine za q rfl fun a q=>zn<|zq<|zq<|zr<|zl q (r_fieldAddr underlying52 rfl sizeOf3 q rfl) fun a q=>zl q (r_load isAgg3 q rfl (s.cell z0 rfl)) fun a q=>zn ?_
 refine wp_block ?_
 refine zq<|zr<|zl q (r_ibin q rfl rfl rfl) fun a q=>za q rfl fun a q=>zn ?_
 refine wp_cond_split (q.ev rfl) (fun (hb_2 : (a0.Kind == 1) = true)=>?_) fun hb_2=>?_
 rw [ifb_t hb_2] at H
 refine zq<|zr<|zl q (r_fieldAddr underlying52 rfl sizeOf9 q rfl) fun a q=>zl q (r_load isAgg9 q rfl (s.cell z0 rfl)) fun a q=>zl q (r_sbin q rfl rfl rfl) fun a q=>zm q rfl fun a q=>?_
 rcases or_b (a0.S.toList == (⟨#[]⟩ : ByteArray).toList) with hb_3 | hb_3
 rw [ifb_t hb_3] at H
 refine zw q (wtt hb_3) (r_move q rfl) fun a q=>zl q (r_pick_t hb_3 q rfl rfl) fun a q=>za q rfl fun a q=>zn ?_
 obtain rfl:=Option.some.inj H
 refine wp_ret ?_
 repeat first | refine zt ?_ | refine zb ?_ | refine zo ?_
 exact ret_1 results41 q (rv_tmp q rfl) ⟨rfl,s.bel⟩
 rw [ifb_f hb_3] at H
 refine zsw q (wtf hb_3) fun a q=>zl q (r_pick_f hb_3 q rfl rfl) fun a q=>za q rfl fun a q=>zn ?_
 obtain rfl:=Option.some.inj H
 refine wp_ret ?_
 repeat first | refine zt ?_ | refine zb ?_ | refine zo ?_
 exact ret_1 results41 q (rv_tmp q rfl) ⟨rfl,s.bel⟩
 rw [ifb_f hb_2] at H
 refine zq<|zr<|zl q (r_ibin q rfl rfl rfl) fun a q=>za q rfl fun a q=>zn ?_
 refine wp_cond_split (q.ev rfl) (fun (hb_4 : (a0.Kind == 2) = true)=>?_) fun hb_4=>?_
 rw [ifb_t hb_4] at H
 refine zq<|zr<|zl q (r_fieldAddr underlying52 rfl sizeOf3 q rfl) fun a q=>zl q (r_load isAgg3 q rfl (s.cell z0 rfl)) fun a q=>zl q (r_ibin q rfl rfl rfl) fun a q=>zm q rfl fun a q=>?_
 rcases or_b (a0.N == 0) with hb_5 | hb_5
 rw [ifb_t hb_5] at H
 refine zw q (wtt hb_5) (r_move q rfl) fun a q=>zl q (r_pick_t hb_5 q rfl rfl) fun a q=>zm q rfl fun a q=>?_
 rcases or_b (decide (a0.H = (⟨0,0,0,0,0,0,0,0⟩ : Arr8))) with hb_6 | hb_6
 rw [ifb_t hb_6] at H
 refine zw q (wtt hb_6) (r_fieldAddr underlying52 rfl sizeOf9 q rfl) fun a q=>zw q (wtt hb_6) (r_load isAgg9 q rfl (s.cell z0 rfl)) fun a q=>zw q (wtt hb_6) (r_len_str underlying9 q rfl) fun a q=>zw q (wtt hb_6) (r_ibin q rfl rfl rfl) fun a q=>zl q (r_pick_t hb_6 q rfl rfl) fun a q=>za q rfl fun a q=>zn ?_
 obtain rfl:=Option.some.inj H
 refine wp_ret ?_
 repeat first | refine zt ?_ | refine zb ?_ | refine zo ?_
 exact ret_1 results41 q (rv_tmp q rfl) ⟨rfl,s.bel⟩
 rw [ifb_f hb_6] at H
 refine zsw q (wtf hb_6) fun a q=>zsw q (wtf hb_6) fun a q=>zsw q (wtf hb_6) fun a q=>zsw q (wtf hb_6) fun a q=>zl q (r_pick_f hb_6 q rfl rfl) fun a q=>za q rfl fun a q=>zn ?_
 obtain rfl:=Option.some.inj H
 refine wp_ret ?_
 repeat first | refine zt ?_ | refine zb ?_ | refine zo ?_
 exact ret_1 results41 q (rv_tmp q rfl) ⟨rfl,s.bel⟩
 rw [ifb_f hb_5] at H
 refine zsw q (wtf hb_5) fun a q=>zl q (r_pick_f hb_5 q rfl rfl) fun a q=>zm q rfl fun a q=>zs q fun a q=>zs q fun a q=>zs q fun a q=>zs q fun a q=>zl q (r_pick q rfl rfl rfl) fun a q=>za q rfl fun a q=>zn ?_
 obtain rfl:=Option.some.inj H
 refine wp_ret ?_
 repeat first | refine zt ?_ | refine zb ?_ | refine zo ?_
 exact ret_1 results41 q (rv_tmp q rfl) ⟨rfl,s.bel⟩
 rw [ifb_f hb_4] at H
 refine zq<|zr<|zl q (r_ibin q rfl rfl rfl) fun a q=>za q rfl fun a q=>zn ?_
 refine wp_cond_split (q.ev rfl) (fun (hb_7 : (a0.Kind == 3) = true)=>?_) fun hb_7=>?_
 rw [ifb_t hb_7] at H
 refine zq<|zr<|zl q (r_fieldAddr underlying52 rfl sizeOf3 q rfl) fun a q=>zl q (r_load isAgg3 q rfl (s.cell z0 rfl)) fun a q=>zl q (r_ibin q rfl rfl rfl) fun a q=>zm q rfl fun a q=>?_
 rcases or_b (a0.N == 0) with hb_8 | hb_8
 rw [ifb_t hb_8] at H
 refine zsw q (wft hb_8) fun a q=>zsw q (wft hb_8) fun a q=>zsw q (wft hb_8) fun a q=>zl q (r_pick_t hb_8 q rfl rfl) fun a q=>zm q rfl fun a q=>zl q (r_fieldAddr underlying52 rfl sizeOf9 q rfl) fun a q=>zl q (r_load isAgg9 q rfl (s.cell z0 rfl)) fun a q=>zl q (r_sbin q rfl rfl rfl) fun a q=>zl q (r_pick q rfl rfl rfl) fun a q=>zm q rfl fun a q=>?_
 rcases or_b (a0.S.toList == (⟨#[]⟩ : ByteArray).toList) with hb_9 | hb_9
 rw [ifb_t hb_9] at H
 refine zw q (wtt hb_9) (r_move q rfl) fun a q=>zl q (r_pick_t hb_9 q rfl rfl) fun a q=>za q rfl fun a q=>zn ?_
 obtain rfl:=Option.some.inj H
 refine wp_ret ?_
 repeat first | refine zt ?_ | refine zb ?_ | refine zo ?_
 exact ret_1 results41 q (rv_tmp q rfl) ⟨rfl,s.bel⟩
 rw [ifb_f hb_9] at H
 refine zsw q (wtf hb_9) fun a q=>zl q (r_pick_f hb_9 q rfl rfl) fun a q=>za q rfl fun a q=>zn ?_
 obtain rfl:=Option.some.inj H
 refine wp_ret ?_
 repeat first | refine zt ?_ | refine zb ?_ | refine zo ?_
 exact ret_1 results41 q (rv_tmp q rfl) ⟨rfl,s.bel⟩
 rw [ifb_f hb_8] at H
 refine zw q (wff hb_8) (r_fieldAddr underlying52 rfl sizeOf3 q rfl) fun a q=>zw q (wff hb_8) (r_load isAgg3 q rfl (s.cell z0 rfl)) fun a q=>zw q (wff hb_8) (r_ibin q rfl rfl rfl) fun a q=>zl q (r_pick_f hb_8 q rfl rfl) fun a q=>zm q rfl fun a q=>?_
 rcases or_b (a0.N == 1) with hb_10 | hb_10
 rw [ifb_t hb_10] at H
 refine zw q (wtt hb_10) (r_fieldAddr underlying52 rfl sizeOf9 q rfl) fun a q=>zw q (wtt hb_10) (r_load isAgg9 q rfl (s.cell z0 rfl)) fun a q=>zw q (wtt hb_10) (r_sbin q rfl rfl rfl) fun a q=>zl q (r_pick_t hb_10 q rfl rfl) fun a q=>zm q rfl fun a q=>?_
 rcases or_b (a0.S.toList == (⟨#[]⟩ : ByteArray).toList) with hb_11 | hb_11
 rw [ifb_t hb_11] at H
 refine zw q (wtt hb_11) (r_move q rfl) fun a q=>zl q (r_pick_t hb_11 q rfl rfl) fun a q=>za q rfl fun a q=>zn ?_
 obtain rfl:=Option.some.inj H
 refine wp_ret ?_
 repeat first | refine zt ?_ | refine zb ?_ | refine zo ?_
 exact ret_1 results41 q (rv_tmp q rfl) ⟨rfl,s.bel⟩
 rw [ifb_f hb_11] at H
 refine zsw q (wtf hb_11) fun a q=>zl q (r_pick_f hb_11 q rfl rfl) fun a q=>za q rfl fun a q=>zn ?_
 obtain rfl:=Option.some.inj H
 refine wp_ret ?_
 repeat first | refine zt ?_ | refine zb ?_ | refine zo ?_
 exact ret_1 results41 q (rv_tmp q rfl) ⟨rfl,s.bel⟩
 rw [ifb_f hb_10] at H
 refine zsw q (wtf hb_10) fun a q=>zsw q (wtf hb_10) fun a q=>zsw q (wtf hb_10) fun a q=>zl q (r_pick_f hb_10 q rfl rfl) fun a q=>zm q rfl fun a q=>zs q fun a q=>zl q (r_pick q rfl rfl rfl) fun a q=>za q rfl fun a q=>zn ?_
 obtain rfl:=Option.some.inj H
 refine wp_ret ?_
 repeat first | refine zt ?_ | refine zb ?_ | refine zo ?_
 exact ret_1 results41 q (rv_tmp q rfl) ⟨rfl,s.bel⟩
 rw [ifb_f hb_7] at H
 refine zq<|zr<|zl q (r_ibin q rfl rfl rfl) fun a q=>za q rfl fun a q=>zn ?_
 refine wp_cond_split (q.ev rfl) (fun (hb_12 : (a0.Kind == 4) = true)=>?_) fun hb_12=>?_
 rw [ifb_t hb_12] at H
 refine zq<|zr<|zl q (r_fieldAddr underlying52 rfl sizeOf3 q rfl) fun a q=>zl q (r_load isAgg3 q rfl (s.cell z0 rfl)) fun a q=>zl q (r_ibin q rfl rfl rfl) fun a q=>zm q rfl fun a q=>?_
 rcases or_b (a0.N == 0) with hb_13 | hb_13
 rw [ifb_t hb_13] at H
 refine zw q (wtt hb_13) (r_fieldAddr underlying52 rfl sizeOf9 q rfl) fun a q=>zw q (wtt hb_13) (r_load isAgg9 q rfl (s.cell z0 rfl)) fun a q=>zw q (wtt hb_13) (r_sbin q rfl rfl rfl) fun a q=>zl q (r_pick_t hb_13 q rfl rfl) fun a q=>za q rfl fun a q=>zn ?_
 obtain rfl:=Option.some.inj H
 refine wp_ret ?_
 repeat first | refine zt ?_ | refine zb ?_ | refine zo ?_
 exact ret_1 results41 q (rv_tmp q rfl) ⟨rfl,s.bel⟩
 rw [ifb_f hb_13] at H
 refine zsw q (wtf hb_13) fun a q=>zsw q (wtf hb_13) fun a q=>zsw q (wtf hb_13) fun a q=>zl q (r_pick_f hb_13 q rfl rfl) fun a q=>za q rfl fun a q=>zn ?_
 obtain rfl:=Option.some.inj H
 refine wp_ret ?_
 repeat first | refine zt ?_ | refine zb ?_ | refine zo ?_
 exact ret_1 results41 q (rv_tmp q rfl) ⟨rfl,s.bel⟩
 rw [ifb_f hb_12] at H
 refine wp_skip<|zq<|zr<|za q rfl fun a q=>zn ?_
 obtain rfl:=Option.some.inj H
 refine wp_ret ?_
 repeat first | refine zt ?_ | refine zb ?_ | refine zo ?_
 exact ret_1 results41 q (rv_tmp q rfl) ⟨rfl,s.bel⟩
theorem ref02_Check.calls (a0 : api_Table) {w0 : World} {RA : Hp} {v0_0 : Value} {v0_1 : Value} (hRA : RA.sub w0) (h0_0 : SlR ty_api_Col RA v0_0 a0.Cols) (h0_1 : SlR (tySl ty_api_Value) RA v0_1 a0.Rows) {r : Int} (H : ref02_Check a0 = some r) : CallsV prog 20 #[.agg #[v0_0,v0_1]] w0 (I6 r):=by
 unfold ref02_Check at H
 refine enter (args:=[.agg #[v0_0,v0_1]]) func20 rfl ntmps20 rfl fun a q=>?_
 have s:=St.init (R:=fun _=>none) (w:=w0) (fun _ _ h=>by cases h)
 have hRL:=RLe.refl (M:=[]) w0 (fun _=>none)
 refine zq<|zr ?_
 refine sl_box s q (by decide) rfl rfl (c:=[v0_0,v0_1]) rfl fun a w b_1 s q=>?_
 refine za q rfl fun a q=>zn<|zq<|zq<|zr<|zl q (r_fieldAddr underlying35 rfl sizeOf22 q rfl) fun a q=>zl q (r_load isAgg22 q rfl (s.cell z0 rfl)) fun a q=>?_
 obtain ⟨y_2,h_3,H⟩:=bs H
 refine sl_callV call31 s q (by decide) rfl rfl rfl (ref02_Cols.calls a0.Cols (lentOf_sub [] _) (h0_0.mono (s.raLe0 hRA nil_not)) h_3) fun a w s q=>?_
 refine zl q (r_un q rfl (u_not _)) fun a q=>zn ?_
 refine wp_cond_split (q.ev rfl) (fun (hb_4 : (!y_2) = true)=>?_) fun hb_4=>?_
 rw [ifb_t hb_4] at H
 refine zq<|zr<|za q rfl fun a q=>zn ?_
 obtain rfl:=Option.some.inj H
 refine wp_ret ?_
 repeat first | refine zt ?_ | refine zb ?_ | refine zo ?_
 exact ret_1 results20 q (rv_tmp q rfl) ⟨rfl,s.bel⟩
 rw [ifb_f hb_4] at H
 refine wp_skip<|zq<|zq<|zr<|za q rfl fun a q=>zn ?_
 refine wp_block ?_
 refine wp_loop_k (fun k_l0 a w=>∃ (x_669 : Int),ref02_Check.l0 a0 k_l0 x_669 = some r ∧ Kn 61 a [(1,.pointer (some ⟨b_1,0,none⟩)),(3,I6 x_669)] ∧ St [] w0 w (fun _=>none) [.cells b_1 [v0_0,v0_1] 35]) (((a0.Rows.length : Int) - 0).toNat + 1) ?_ ?_
 exact ⟨0,H,q.sub (zc (zc zz)),s⟩
 rintro k_l0 a w ⟨x_669,H,q,s⟩
 rcases k_l0 with _ | k_l0
 cases H
 rw [ref02_Check.l0.eq_2] at H
 refine zq<|zq<|zr<|zm q rfl fun a q=>zl q (r_fieldAddr underlying35 rfl sizeOf33 q rfl) fun a q=>zl q (r_load isAgg33 q rfl (s.cell z0 rfl)) fun a q=>zl q (r_len_R underlying33 h0_1 q rfl) fun a q=>zl q (r_ibin q rfl rfl rfl) fun a q=>zn ?_
 refine wp_cond_split (q.ev rfl) (fun (hb_1334 : (decide (x_669 < (a0.Rows.length : Int))) = true)=>?_) fun hb_1334=>?_
 rw [ifb_t hb_1334] at H
 refine wp_skip<|zq ?_
 refine wp_block ?_
 refine zq<|zq ?_
 refine par_region (C:=fun w=>St [] w0 w (fun _=>none) [.cells b_1 [v0_0,v0_1] 35]) [(0,true),(1,true),(2,true),(3,true),(4,true),(5,true),(6,true),(7,true),(8,true),(9,true)] mixed (by kernel_rfl) s (fun w s=>s) fun w s=>?_
 refine zp rfl q (fun w s=>r_fieldAddr underlying35 rfl sizeOf33 q rfl) fun a q=>zp rfl q (fun w s=>r_load isAgg33 q rfl (s.cell z0 rfl)) fun a q=>zp rfl q (fun w s=>r_move q rfl) fun a q=>?_
 obtain ⟨y_1346,h_1347,H⟩:=bs H
 obtain ⟨b_1348,o_1349,c_1350,cs_1351,hv_1352,hr_1353,hc_1354,h_13470,h_13471⟩:=h0_1.ix h_1347
 obtain ⟨v_1355,rfl,hs_1356⟩:=hr_1353
 refine zp rfl q (fun w s=>r_indexAddr_R underlying33 sizeOf53 hv_1352 h_13470 h_13471 q rfl rfl) fun a q=>zp rfl q (fun w s=>r_load isAgg53 q rfl ((s.ra hRA nil_not).cell (hc_1354 0 _ rfl))) fun a q=>zp rfl q (fun w s=>r_len_R underlying53 hs_1356 q rfl) fun a q=>zp rfl q (fun w s=>r_fieldAddr underlying35 rfl sizeOf22 q rfl) fun a q=>zp rfl q (fun w s=>r_load isAgg22 q rfl (s.cell z0 rfl)) fun a q=>zp rfl q (fun w s=>r_len_R underlying22 h0_0 q rfl) fun a q=>zp rfl q (fun w s=>r_ibin q rfl rfl rfl) fun a q=>?_
 refine wpPar_nil (NoP_nil ?_)
 refine wp_cond_split (q.ev rfl) (fun (hb_1357 : ((y_1346.length : Int) != (a0.Cols.length : Int)) = true)=>?_) fun hb_1357=>?_
 rw [ifb_t hb_1357] at H
 refine zq<|zr<|za q rfl fun a q=>zn ?_
 obtain rfl:=Option.some.inj H
 refine wp_ret ?_
 repeat first | refine zt ?_ | refine zb ?_ | refine zo ?_
 exact ret_1 results20 q (rv_tmp q rfl) ⟨rfl,s.bel⟩
 rw [ifb_f hb_1357] at H
 refine wp_skip<|zq<|zr<|za q rfl fun a q=>zn ?_
 refine wp_block ?_
 refine wp_loop_k (fun k_l1 a w=>∃ (x_1571 : Int),ref02_Check.l1 (ref02_Check.l0 a0 k_l0) a0 x_669 k_l1 x_1571 = some r ∧ Kn 61 a [(1,.pointer (some ⟨b_1,0,none⟩)),(3,I6 x_669),(4,I6 x_1571)] ∧ St [] w0 w (fun _=>none) [.cells b_1 [v0_0,v0_1] 35]) (((a0.Cols.length : Int) - 0).toNat + 1) ?_ ?_
 exact ⟨0,H,q.sub (zc (zc (zc zz))),s⟩
 rintro k_l1 a w ⟨x_1571,H,q,s⟩
 rcases k_l1 with _ | k_l1
 cases H
 rw [ref02_Check.l1.eq_2] at H
 refine zq<|zq<|zr<|zm q rfl fun a q=>zl q (r_fieldAddr underlying35 rfl sizeOf22 q rfl) fun a q=>zl q (r_load isAgg22 q rfl (s.cell z0 rfl)) fun a q=>zl q (r_len_R underlying22 h0_0 q rfl) fun a q=>zl q (r_ibin q rfl rfl rfl) fun a q=>zn ?_
 refine wp_cond_split (q.ev rfl) (fun (hb_1785 : (decide (x_1571 < (a0.Cols.length : Int))) = true)=>?_) fun hb_1785=>?_
 rw [ifb_t hb_1785] at H
 refine wp_skip<|zq ?_
 refine wp_block ?_
 refine zq ?_
 refine wp_mid (fun a w=>∃ (x_1890 : Bool),ref02_Check.j2 (ref02_Check.l1 (ref02_Check.l0 a0 k_l0) a0 x_669 k_l1) a0 x_1571 x_1890 = some r ∧ Kn 61 a [(1,.pointer (some ⟨b_1,0,none⟩)),(3,I6 x_669),(4,I6 x_1571),(60,.bool x_1890)] ∧ St [] w0 w (fun _=>none) [.cells b_1 [v0_0,v0_1] 35]) ?_ ?_
 refine parT_region (C:=fun w=>St [] w0 w (fun _=>none) [.cells b_1 [v0_0,v0_1] 35]) 23 [(0,true),(1,true),(2,true),(3,true),(4,true),(5,true),(6,true),(7,true),(8,true),(9,true),(10,true),(11,true),(12,true),(13,true),(14,true),(15,true),(16,true),(17,true),(18,true),(19,true),(20,true),(21,true),(22,true)] mixed (by kernel_rfl) s (fun w s=>s) fun w s=>?_
 refine zp rfl q (fun w s=>r_fieldAddr underlying35 rfl sizeOf33 q rfl) fun a q=>zp rfl q (fun w s=>r_load isAgg33 q rfl (s.cell z0 rfl)) fun a q=>zp rfl q (fun w s=>r_move q rfl) fun a q=>?_
 obtain ⟨y_1944,h_1945,H⟩:=bs H
 obtain ⟨b_1946,o_1947,c_1948,cs_1949,hv_1950,hr_1951,hc_1952,h_19450,h_19451⟩:=h0_1.ix h_1945
 obtain ⟨v_1953,rfl,hs_1954⟩:=hr_1951
 refine zp rfl q (fun w s=>r_indexAddr_R underlying33 sizeOf53 hv_1950 h_19450 h_19451 q rfl rfl) fun a q=>zp rfl q (fun w s=>r_load isAgg53 q rfl ((s.ra hRA nil_not).cell (hc_1952 0 _ rfl))) fun a q=>zp rfl q (fun w s=>r_move q rfl) fun a q=>?_
 obtain ⟨y_1955,h_1956,H⟩:=bs H
 obtain ⟨b_1957,o_1958,c_1959,cs_1960,hv_1961,hr_1962,hc_1963,h_19560,h_19561⟩:=hs_1954.ix h_1956
 subst hr_1962
 refine zp rfl q (fun w s=>r_indexAddr_R underlying53 sizeOf52 hv_1961 h_19560 h_19561 q rfl rfl) fun a q=>zp rfl q (fun w s=>r_fieldAddr underlying52 rfl sizeOf3 q rfl) fun a q=>zp rfl q (fun w s=>r_load isAgg3 q rfl ((s.ra hRA nil_not).cell (hc_1963 0 _ rfl))) fun a q=>zp rfl q (fun w s=>r_fieldAddr underlying35 rfl sizeOf22 q rfl) fun a q=>zp rfl q (fun w s=>r_load isAgg22 q rfl (s.cell z0 rfl)) fun a q=>zp rfl q (fun w s=>r_move q rfl) fun a q=>?_
 obtain ⟨y_1964,h_1965,H⟩:=bs H
 obtain ⟨b_1966,o_1967,c_1968,cs_1969,hv_1970,hr_1971,hc_1972,h_19650,h_19651⟩:=h0_0.ix h_1965
 subst hr_1971
 refine zp rfl q (fun w s=>r_indexAddr_R underlying22 sizeOf47 hv_1970 h_19650 h_19651 q rfl rfl) fun a q=>zp rfl q (fun w s=>r_fieldAddr underlying47 rfl sizeOf3 q rfl) fun a q=>zp rfl q (fun w s=>r_load isAgg3 q rfl ((s.ra hRA nil_not).cell (hc_1972 1 _ rfl))) fun a q=>zp rfl q (fun w s=>r_ibin q rfl rfl rfl) fun a q=>zp rfl q (fun w s=>r_move q rfl) fun a q=>?_
 rcases or_b (y_1955.Kind != y_1964.Kind) with hb_1973 | hb_1973
 rw [ifb_t hb_1973] at H
 refine zps rfl q (wft hb_1973) fun a q=>zps rfl q (wft hb_1973) fun a q=>zps rfl q (wft hb_1973) fun a q=>zps rfl q (wft hb_1973) fun a q=>zps rfl q (wft hb_1973) fun a q=>zps rfl q (wft hb_1973) fun a q=>?_
 refine thenL_nil ?_
 refine zsw q (wft hb_1973) fun a q=>zsw q (wft hb_1973) fun a q=>zsw q (wft hb_1973) fun a q=>zsw q (wft hb_1973) fun a q=>zl q (r_pick_t hb_1973 q rfl rfl) fun a q=>?_
 refine wpList_nil (NoP_nil ?_)
 exact ⟨true,H,q.sub (zc (zc (zc (zc zz)))),s⟩
 rw [ifb_f hb_1973] at H
 refine zpw rfl q (wff hb_1973) (fun w s=>r_fieldAddr underlying35 rfl sizeOf33 q rfl) fun a q=>zpw rfl q (wff hb_1973) (fun w s=>r_load isAgg33 q rfl (s.cell z0 rfl)) fun a q=>zpw rfl q (wff hb_1973) (fun w s=>r_move q rfl) fun a q=>?_
 obtain ⟨y_1974,h_1975,H⟩:=bs H
 obtain ⟨b_1976,o_1977,c_1978,cs_1979,hv_1980,hr_1981,hc_1982,h_19750,h_19751⟩:=h0_1.ix h_1975
 obtain ⟨v_1983,rfl,hs_1984⟩:=hr_1981
 refine zpw rfl q (wff hb_1973) (fun w s=>r_indexAddr_R underlying33 sizeOf53 hv_1980 h_19750 h_19751 q rfl rfl) fun a q=>zpw rfl q (wff hb_1973) (fun w s=>r_load isAgg53 q rfl ((s.ra hRA nil_not).cell (hc_1982 0 _ rfl))) fun a q=>zpw rfl q (wff hb_1973) (fun w s=>r_move q rfl) fun a q=>?_
 refine thenL_nil ?_
 obtain ⟨y_1985,h_1986,H⟩:=bs H
 obtain ⟨b_1987,o_1988,c_1989,cs_1990,hv_1991,hr_1992,hc_1993,h_19860,h_19861⟩:=hs_1984.ix h_1986
 subst hr_1992
 refine zw q (wff hb_1973) (r_indexAddr_R underlying53 sizeOf52 hv_1991 h_19860 h_19861 q rfl rfl) fun a q=>zw q (wff hb_1973) (r_loadA (cs:=(cV y_1985)) isAgg52 sizeOf52 rfl q rfl (fun j v hv=>(s.ra hRA nil_not).cell (hc_1993 j v hv))) fun a q=>?_
 obtain ⟨y_1994,h_1995,H⟩:=bs H
 refine sl_callV call41 s q (by decide) (wff hb_1973) rfl rfl (ref01_Valid.calls y_1985 h_1995 _) fun a w s q=>?_
 refine zw q (wff hb_1973) (r_un q rfl (u_not _)) fun a q=>zl q (r_pick_f hb_1973 q rfl rfl) fun a q=>?_
 refine wpList_nil (NoP_nil ?_)
 exact ⟨(!y_1994),H,q.sub (zc (zc (zc (zc zz)))),s⟩
 rintro a w ⟨x_1890,H,q,s⟩
 unfold ref02_Check.j2 at H
 refine wp_cond_split (q.ev rfl) (fun (hb_1996 : x_1890 = true)=>?_) fun hb_1996=>?_
 rw [ifb_t hb_1996] at H
 refine zq<|zr<|za q rfl fun a q=>zn ?_
 obtain rfl:=Option.some.inj H
 refine wp_ret ?_
 repeat first | refine zt ?_ | refine zb ?_ | refine zo ?_
 exact ret_1 results20 q (rv_tmp q rfl) ⟨rfl,s.bel⟩
 rw [ifb_f hb_1996] at H
 refine wp_skip<|zr<|zm q rfl fun a q=>zl q (r_ibin q rfl rfl rfl) fun a q=>za q rfl fun a q=>zn ?_
 exact ⟨_,Nat.lt_succ_self _,(IntKind.i64.wrap (x_1571 + 1)),H,q.sub (zc (zc (zc zz))),s⟩
 rw [ifb_f hb_1785] at H
 refine wp_exit ?_
 refine zr<|zm q rfl fun a q=>zl q (r_ibin q rfl rfl rfl) fun a q=>za q rfl fun a q=>zn ?_
 exact ⟨_,Nat.lt_succ_self _,(IntKind.i64.wrap (x_669 + 1)),H,q.sub (zc (zc zz)),s⟩
 rw [ifb_f hb_1334] at H
 refine wp_exit ?_
 refine zq<|zr<|za q rfl fun a q=>zn ?_
 obtain rfl:=Option.some.inj H
 refine wp_ret ?_
 repeat first | refine zt ?_ | refine zb ?_ | refine zo ?_
 exact ret_1 results20 q (rv_tmp q rfl) ⟨rfl,s.bel⟩
end Go.Proofs.YtonfglmfdhljnaaGreatDoor.M
end
