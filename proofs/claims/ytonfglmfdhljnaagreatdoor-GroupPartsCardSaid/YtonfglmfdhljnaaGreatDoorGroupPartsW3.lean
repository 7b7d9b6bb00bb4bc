/- For the law GroupParts: each Go function answers as its plain Lean function tells, wherever that tells something; without further condition. -/
import Derived.Test.YtonfglmfdhljnaaGreatDoorGroupPartsW2
section
namespace Go.Proofs.YtonfglmfdhljnaaGreatDoor.M
open Go Go.Eng Go.Proofs Go.RowKit
set_option linter.unusedVariables false
set_option linter.unusedSimpArgs false
open Go.Proofs.Tryz
set_option maxHeartbeats 4000000
set_option maxRecDepth 100000
theorem ref18_Cols.calls (a0 : List api_Col) (a1 : List ByteArray) (a2 : List api_Agg) {w0 : World} {R : Hp} {v0_0 : Value} {v1_0 : Value} {v2_0 : Value} (hR : R.sub w0) (h0_0 : SlR ty_api_Col R v0_0 a0) (h1_0 : SlR tyStr R v1_0 a1) (h2_0 : SlR ty_api_Agg R v2_0 a2) {r : (List api_Col) × (List api_Col) × Bool} (H : ref18_Cols a0 a1 a2 = some r) : Calls prog 12 #[v0_0,v1_0,v2_0] w0 (Rets fun v w'=>∃ (R' : Hp) (u0 : Value) (cu0 : List Value) (u1 : Value),v = .tuple #[u0,u1,.bool r.2.2] ∧ St [] w0 w' R' [.row 47 2 u0 r.1.length cu0] ∧ RLe [] w0 R R' ∧ Reps ty_api_Col R' cu0 r.1 ∧ SlR ty_api_Col R' u1 r.2.1):=by
 unfold ref18_Cols at H
 refine enter (args:=[v0_0,v1_0,v2_0]) func12 rfl ntmps12 rfl fun a q=>?_
 have s:=St.init hR
 have hRL:=RLe.refl (M:=[]) w0 R
 refine zq<|zr<|za q rfl fun a q=>za q rfl fun a q=>za q rfl fun a q=>zn<|zq<|zr<|zl q (r_buildC (ps:=[(0,I6 9)]) (c:=[I6 9,.string (⟨#[]⟩ : ByteArray),I6 0,I6 0,I6 0,I6 0,I6 0,.string (⟨#[]⟩ : ByteArray),I6 0,I6 0,I6 0,I6 0,I6 0,I6 0,I6 0,I6 0,.slice none 0 0,.slice none 0 0,.slice none 0 0]) underlying58 zeroValue58 places58 q rfl (pc_cons rfl pc_nil) rfl rfl) fun a q=>?_
 refine sl_buildSliceF (zc:=[I6 0]) (ps:=[(0,I6 0)]) (c:=[I6 0]) [[I6 0]] underlying43 sizeOf3 zeroValue3 rfl (pc_cons rfl pc_nil) rfl rfl (Nat.le_of_ble_eq_true rfl) rfl (zc zz) rfl s q (by decide) rfl fun a w b_1 s q=>?_
 refine zm q rfl fun a q=>zm q rfl fun a q=>zl q (r_buildC (ps:=[(0,I6 5),(6,.slice (some ⟨b_1,0,none⟩) 1 1),(7,v1_0),(8,v2_0)]) (c:=[I6 5,.string (⟨#[]⟩ : ByteArray),I6 0,I6 0,I6 0,I6 0,I6 0,.string (⟨#[]⟩ : ByteArray),I6 0,I6 0,I6 0,I6 0,I6 0,I6 0,I6 0,I6 0,.slice (some ⟨b_1,0,none⟩) 1 1,v1_0,v2_0]) underlying58 zeroValue58 places58 q rfl (pc_cons rfl (pc_cons rfl (pc_cons (cells1 h1_0.one) (pc_cons (cells1 h2_0.one) pc_nil)))) rfl rfl) fun a q=>?_
 refine sl_buildSliceF (zc:=[I6 0,.string (⟨#[]⟩ : ByteArray),I6 0,I6 0,I6 0,I6 0,I6 0,.string (⟨#[]⟩ : ByteArray),I6 0,I6 0,I6 0,I6 0,I6 0,I6 0,I6 0,I6 0,.slice none 0 0,.slice none 0 0,.slice none 0 0]) (ps:=[(0,.agg #[I6 9,.string (⟨#[]⟩ : ByteArray),I6 0,I6 0,I6 0,I6 0,I6 0,.string (⟨#[]⟩ : ByteArray),I6 0,I6 0,I6 0,I6 0,I6 0,I6 0,I6 0,I6 0,.slice none 0 0,.slice none 0 0,.slice none 0 0]),(1,.agg #[I6 5,.string (⟨#[]⟩ : ByteArray),I6 0,I6 0,I6 0,I6 0,I6 0,.string (⟨#[]⟩ : ByteArray),I6 0,I6 0,I6 0,I6 0,I6 0,I6 0,I6 0,I6 0,.slice (some ⟨b_1,0,none⟩) 1 1,v1_0,v2_0])]) (c:=[I6 9,.string (⟨#[]⟩ : ByteArray),I6 0,I6 0,I6 0,I6 0,I6 0,.string (⟨#[]⟩ : ByteArray),I6 0,I6 0,I6 0,I6 0,I6 0,I6 0,I6 0,I6 0,.slice none 0 0,.slice none 0 0,.slice none 0 0,I6 5,.string (⟨#[]⟩ : ByteArray),I6 0,I6 0,I6 0,I6 0,I6 0,.string (⟨#[]⟩ : ByteArray),I6 0,I6 0,I6 0,I6 0,I6 0,I6 0,I6 0,I6 0,.slice (some ⟨b_1,0,none⟩) 1 1,v1_0,v2_0]) [[I6 9,.string (⟨#[]⟩ : ByteArray),I6 0,I6 0,I6 0,I6 0,I6 0,.string (⟨#[]⟩ : ByteArray),I6 0,I6 0,I6 0,I6 0,I6 0,I6 0,I6 0,I6 0,.slice none 0 0,.slice none 0 0,.slice none 0 0],[I6 5,.string (⟨#[]⟩ : ByteArray),I6 0,I6 0,I6 0,I6 0,I6 0,.string (⟨#[]⟩ : ByteArray),I6 0,I6 0,I6 0,I6 0,I6 0,I6 0,I6 0,I6 0,.slice (some ⟨b_1,0,none⟩) 1 1,v1_0,v2_0]] underlying59 sizeOf58 zeroValue58 rfl (pc_cons rfl (pc_cons rfl pc_nil)) rfl rfl (Nat.le_of_ble_eq_true rfl) rfl (zc (zc zz)) rfl s q (by decide) rfl fun a w b_2 s q=>?_
 refine zl q (r_buildC (ps:=[(0,.slice (some ⟨b_2,0,none⟩) 2 2)]) (c:=[.slice (some ⟨b_2,0,none⟩) 2 2]) underlying61 zeroValue61 places61 q rfl (pc_cons rfl pc_nil) rfl rfl) fun a q=>?_
 refine sl_alloc zeroValue61 s q (by decide) rfl rfl fun a w b_3 s q=>?_
 refine sl_storeA (vs:=[.slice (some ⟨b_2,0,none⟩) 2 2]) (c':=[.slice (some ⟨b_2,0,none⟩) 2 2]) sizeOf61 s q rfl rfl rfl rfl (zc zz) (Nat.le_of_ble_eq_true rfl) rfl fun a w s q=>?_
 refine zn<|zq<|zr<|zl q (r_loadA (cs:=[.slice (some ⟨b_2,0,none⟩) 2 2]) isAgg61 sizeOf61 rfl q rfl (s.cells_of (m:=1) z0 rfl)) fun a q=>zm q rfl fun a q=>?_
 refine sl_buildSliceF (zc:=[.slice none 0 0]) (ps:=[(0,v0_0)]) (c:=[v0_0]) [[v0_0]] underlying62 sizeOf22 zeroValue22 rfl (pc_cons (cells1 h0_0.one) pc_nil) rfl rfl (Nat.le_of_ble_eq_true rfl) rfl (zc zz) rfl s q (by decide) rfl fun a w b_4 s q=>?_
 have s:=s.pk3
 obtain ⟨R_5,s,hl_7,hs_6⟩:=s.fz_lit (ty:=(tyInt .i64)) (xs:=[0]) (Reps.cons (show Ty.rep (tyInt .i64) _ [I6 0] 0 from rfl) (Reps.nil _ _)) rfl
 have hRL:=hRL.trans hl_7
 obtain ⟨y_8,h_9,H⟩:=bs H
 refine sl_call call29 q (by decide) rfl rfl rfl (ref14_Types.calls ([] : List api_Schema) (⟨[(⟨9,(⟨#[]⟩ : ByteArray),0,0,0,(⟨0,0,(⟨#[]⟩ : ByteArray),(⟨0,0,0,0,0,0,0,0⟩ : Arr8)⟩ : api_Value),[],[],[]⟩ : api_Node),(⟨5,(⟨#[]⟩ : ByteArray),0,0,0,(⟨0,0,(⟨#[]⟩ : ByteArray),(⟨0,0,0,0,0,0,0,0⟩ : Arr8)⟩ : api_Value),[0],a1,a2⟩ : api_Node)]⟩ : api_Query) [a0] (lentOf_sub [] _) s.sub (SlR.nil ty_api_Schema _) (s.lend_lit0 (ty:=ty_api_Node) (xs:=[(⟨9,(⟨#[]⟩ : ByteArray),0,0,0,(⟨0,0,(⟨#[]⟩ : ByteArray),(⟨0,0,0,0,0,0,0,0⟩ : Arr8)⟩ : api_Value),[],[],[]⟩ : api_Node),(⟨5,(⟨#[]⟩ : ByteArray),0,0,0,(⟨0,0,(⟨#[]⟩ : ByteArray),(⟨0,0,0,0,0,0,0,0⟩ : Arr8)⟩ : api_Value),[0],a1,a2⟩ : api_Node)]) z2 (Reps.cons (show Ty.rep ty_api_Node _ [I6 9,.string (⟨#[]⟩ : ByteArray),I6 0,I6 0,I6 0,I6 0,I6 0,.string (⟨#[]⟩ : ByteArray),I6 0,I6 0,I6 0,I6 0,I6 0,I6 0,I6 0,I6 0,.slice none 0 0,.slice none 0 0,.slice none 0 0] (⟨9,(⟨#[]⟩ : ByteArray),0,0,0,(⟨0,0,(⟨#[]⟩ : ByteArray),(⟨0,0,0,0,0,0,0,0⟩ : Arr8)⟩ : api_Value),[],[],[]⟩ : api_Node) from ⟨_,_,_,rfl,SlR.nil _ _,SlR.nil _ _,SlR.nil _ _⟩) (Reps.cons (show Ty.rep ty_api_Node _ [I6 5,.string (⟨#[]⟩ : ByteArray),I6 0,I6 0,I6 0,I6 0,I6 0,.string (⟨#[]⟩ : ByteArray),I6 0,I6 0,I6 0,I6 0,I6 0,I6 0,I6 0,I6 0,(.slice (some ⟨b_1,0,none⟩) 1 1),v1_0,v2_0] (⟨5,(⟨#[]⟩ : ByteArray),0,0,0,(⟨0,0,(⟨#[]⟩ : ByteArray),(⟨0,0,0,0,0,0,0,0⟩ : Arr8)⟩ : api_Value),[0],a1,a2⟩ : api_Node) from ⟨_,_,_,rfl,hs_6,(h1_0.mono hl_7.le),(h2_0.mono hl_7.le)⟩) (Reps.nil _ _))) rfl) (s.lend_lit0 (ty:=(tySl ty_api_Col)) (xs:=[a0]) z0 (Reps.cons (show Ty.rep (tySl ty_api_Col) _ [v0_0] a0 from ⟨_,rfl,(h0_0.mono hl_7.le)⟩) (Reps.nil _ _)) rfl) h_9) fun a v_ w hv_ q=>?_
 obtain ⟨R_10,v_13,cs_14,hv_,hr_,hl_11,hq_15⟩:=hv_
 have hv_:=hv_.symm
 subst hv_
 obtain ⟨s,hl_11⟩:=s.sp0.back hr_ hl_11
 have s:=s.un1
 have hRL:=hRL.trans hl_11
 refine zm q rfl fun a q=>zl q (r_extract q rfl rfl) fun a q=>zl q (r_extract q rfl rfl) fun a q=>zl q (r_extract q rfl rfl) fun a q=>za q rfl fun a q=>za q rfl fun a q=>za q rfl fun a q=>zn<|zq<|zq<|zr<|zm q rfl fun a q=>zl q (r_ibin q rfl rfl rfl) fun a q=>zn ?_
 refine wp_cond_split (q.ev rfl) (fun (hb_16 : (y_8.2.2 != 0) = true)=>?_) fun hb_16=>?_
 rw [ifb_t hb_16] at H
 refine zq<|zr<|za q rfl fun a q=>za q rfl fun a q=>za q rfl fun a q=>zn ?_
 have s:=s.row_nil 47 2
 have hq_18 : Reps ty_api_Col R_10 [] ([] : List api_Col):=Reps.nil _ _
 obtain rfl:=Option.some.inj H
 refine wp_ret ?_
 repeat first | refine zt ?_ | refine zb ?_ | refine zo ?_
 exact ret_3 results12 q (rv_tmp q rfl) (rv_tmp q rfl) (rv_tmp q rfl) ⟨_,rfl,_,_,_,_,rfl,(s.trunc 1),hRL,hq_18,SlR.nil _ _⟩
 rw [ifb_f hb_16] at H
 refine wp_skip<|zq<|zr<|zm q rfl fun a q=>?_
 obtain ⟨y_19,h_20,H⟩:=bs H
 obtain ⟨b_22,c_23,cs_24,hv_21,hr_25,hc_26,h_200,h_201⟩:=s.row_ix z0 hq_15 rfl rfl h_20
 obtain ⟨v_27,rfl,hs_28⟩:=hr_25
 refine zl q (r_indexAddr_R underlying62 sizeOf22 hv_21 h_200 h_201 q rfl rfl) fun a q=>zl q (r_load isAgg22 q rfl (s.row_cell z0 hv_21 (hc_26 0 _ rfl))) fun a q=>za q rfl fun a q=>zn<|zq<|zr ?_
 refine sl_buildSliceC (zc:=[.string (⟨#[]⟩ : ByteArray),I6 0]) (zs:=[]) (ps:=[]) (c:=[]) underlying22 sizeOf47 zeroValue47 rfl pc_nil rfl rfl (by decide) (by kernel_rfl) rfl s q (by decide) rfl fun a w b_29 s q=>?_
 refine zm q rfl fun a q=>zm q rfl fun a q=>zl q (r_len_R underlying23 h1_0 q rfl) fun a q=>?_
 obtain ⟨y_30,h_31,H⟩:=bs H
 obtain ⟨v_32,hs_33,hr_34⟩:=r_slice_R (x:=.tmp 38) (lo:=none) (hi:=some (.tmp 40)) underlying22 sizeOf47 hs_28 h_31 q rfl rfl ⟨_,rfl⟩
 refine zl q (hr_34 _ _ _ _ _ _ _ q) fun a q=>?_
 obtain ⟨y_37,h_38,H⟩:=bs H
 have s:=s.row_lit (size:=2) (m:=0) rfl (by decide)
 have hq_36 : Reps ty_api_Col R_10 [] ([] : List api_Col):=(Reps.nil _ _)
 refine sl_append_R elT22 (by decide) rfl hq_36 rfl hs_33 h_38 s q (by decide) rfl rfl rfl fun a w v_39 cs_40 hq_41 s q=>?_
 refine za q rfl fun a q=>zn<|zq<|zq<|zr<|za q rfl fun a q=>zn ?_
 refine wp_block ?_
 refine wp_loop_k (fun k_l0 a w=>∃ (x_98 : List api_Col) (x_102 : Int) (v_99 : Value) (cs_100 : List Value),ref18_Cols.l0 a1 a2 y_19 k_l0 x_98 x_102 = some r ∧ Reps ty_api_Col R_10 cs_100 x_98 ∧ Kn 82 a [(1,v1_0),(2,v2_0),(13,v_27),(14,v_99),(15,I6 x_102)] ∧ St [] w0 w R_10 [.row 47 2 v_99 x_98.length cs_100]) (((a2.length : Int) - 0).toNat + 1) ?_ ?_
 exact ⟨y_37,0,_,_,H,hq_41,q.sub (zc (zc (zc (zc (zc zz))))),s.trunc 1⟩
 rintro k_l0 a w ⟨x_98,x_102,v_99,cs_100,H,hq_101,q,s⟩
 rcases k_l0 with _ | k_l0
 cases H
 rw [ref18_Cols.l0.eq_2] at H
 refine zq<|zq<|zr<|zm q rfl fun a q=>zm q rfl fun a q=>zl q (r_len_R underlying24 h2_0 q rfl) fun a q=>zl q (r_ibin q rfl rfl rfl) fun a q=>zn ?_
 refine wp_cond_split (q.ev rfl) (fun (hb_157 : (decide (x_102 < (a2.length : Int))) = true)=>?_) fun hb_157=>?_
 rw [ifb_t hb_157] at H
 refine wp_skip<|zq ?_
 refine wp_block ?_
 refine zq<|zr<|zm q rfl fun a q=>?_
 obtain ⟨y_158,h_159,H⟩:=bs H
 refine sl_callV call30 s q (by decide) rfl rfl rfl (ref01_Digits.calls x_102 h_159 _) fun a w s q=>?_
 rcases or_b (decide ((⟨#[112,35]⟩ : ByteArray).size + y_158.size ≤ 9223372036854775807)) with hn_160 | hn_160
 rw [ifb_t hn_160] at H
 refine zl q (r_sadd q rfl rfl (of_decide_eq_true hn_160)) fun a q=>za q rfl fun a q=>zn<|zq<|zr<|zm q rfl fun a q=>zm q rfl fun a q=>zm q rfl fun a q=>zm q rfl fun a q=>zl q (r_len_R underlying23 h1_0 q rfl) fun a q=>zm q rfl fun a q=>zl q (r_ibin q rfl rfl rfl) fun a q=>?_
 obtain ⟨y_161,h_162,H⟩:=bs H
 obtain ⟨b_163,o_164,c_165,cs_166,hv_167,hr_168,hc_169,h_1620,h_1621⟩:=hs_28.ix h_162
 subst hr_168
 refine zl q (r_indexAddr_R underlying22 sizeOf47 hv_167 h_1620 h_1621 q rfl rfl) fun a q=>zl q (r_fieldAddr underlying47 rfl sizeOf3 q rfl) fun a q=>zl q (r_load isAgg3 q rfl (s.sub.cell (hc_169 1 _ rfl))) fun a q=>zl q (r_buildC (ps:=[(0,.string ((⟨#[112,35]⟩ : ByteArray) ++ y_158)),(1,I6 y_161.Kind)]) (c:=[.string ((⟨#[112,35]⟩ : ByteArray) ++ y_158),I6 y_161.Kind]) underlying47 zeroValue47 places47 q rfl (pc_cons rfl (pc_cons rfl pc_nil)) rfl rfl) fun a q=>?_
 refine sl_buildSliceF (zc:=[.string (⟨#[]⟩ : ByteArray),I6 0]) (ps:=[(0,.agg #[.string ((⟨#[112,35]⟩ : ByteArray) ++ y_158),I6 y_161.Kind])]) (c:=[.string ((⟨#[112,35]⟩ : ByteArray) ++ y_158),I6 y_161.Kind]) [[.string ((⟨#[112,35]⟩ : ByteArray) ++ y_158),I6 y_161.Kind]] underlying22 sizeOf47 zeroValue47 rfl (pc_cons rfl pc_nil) rfl rfl (Nat.le_of_ble_eq_true rfl) rfl (zc zz) rfl s q (by decide) rfl fun a w b_170 s q=>?_
 obtain ⟨y_171,h_172,H⟩:=bs H
 have s:=s.pk1
 refine sl_append_L (ty:=ty_api_Col) (ys:=[(⟨(⟨#[112,35]⟩ : ByteArray) ++ y_158,y_161.Kind⟩ : api_Col)]) elT22 (by decide) rfl hq_101 rfl (Reps.cons (show Ty.rep ty_api_Col _ [.string ((⟨#[112,35]⟩ : ByteArray) ++ y_158),I6 y_161.Kind] (⟨(⟨#[112,35]⟩ : ByteArray) ++ y_158,y_161.Kind⟩ : api_Col) from rfl) (Reps.nil _ _)) rfl h_172 s q (by decide) rfl rfl rfl fun a w v_173 cs_174 hq_175 s q=>?_
 refine za q rfl fun a q=>zn<|zq<|zr<|zm q rfl fun a q=>zm q rfl fun a q=>?_
 obtain ⟨y_177,h_178,H⟩:=bs H
 obtain ⟨b_179,o_180,c_181,cs_182,hv_183,hr_184,hc_185,h_1780,h_1781⟩:=h2_0.ix h_178
 subst hr_184
 refine zl q (r_indexAddr_R underlying24 sizeOf49 hv_183 h_1780 h_1781 q rfl rfl) fun a q=>zl q (r_fieldAddr underlying49 rfl sizeOf3 q rfl) fun a q=>zl q (r_load isAgg3 q rfl ((s.sub.le (hl_7.le.trans hl_11.le)).cell (hc_185 0 _ rfl))) fun a q=>zl q (r_ibin q rfl rfl rfl) fun a q=>zn ?_
 refine wp_mid (fun a w=>∃ (x_196 : List api_Col) (v_197 : Value) (cs_198 : List Value),ref18_Cols.j1 (ref18_Cols.l0 a1 a2 y_19 k_l0) a2 x_102 x_196 = some r ∧ Reps ty_api_Col R_10 cs_198 x_196 ∧ Kn 82 a [(1,v1_0),(2,v2_0),(13,v_27),(14,v_197),(15,I6 x_102)] ∧ St [] w0 w R_10 [.row 47 2 v_197 x_196.length cs_198]) ?_ ?_
 refine wp_cond_split (q.ev rfl) (fun (hb_201 : (y_177.Kind == 5) = true)=>?_) fun hb_201=>?_
 rw [ifb_t hb_201] at H
 refine zr<|zm q rfl fun a q=>zm q rfl fun a q=>?_
 rcases or_b (decide (((⟨#[112,35]⟩ : ByteArray) ++ y_158).size + (⟨#[35,110]⟩ : ByteArray).size ≤ 9223372036854775807)) with hn_202 | hn_202
 rw [ifb_t hn_202] at H
 refine zl q (r_sadd q rfl rfl (of_decide_eq_true hn_202)) fun a q=>zl q (r_buildC (ps:=[(0,.string (((⟨#[112,35]⟩ : ByteArray) ++ y_158) ++ (⟨#[35,110]⟩ : ByteArray))),(1,I6 1)]) (c:=[.string (((⟨#[112,35]⟩ : ByteArray) ++ y_158) ++ (⟨#[35,110]⟩ : ByteArray)),I6 1]) underlying47 zeroValue47 places47 q rfl (pc_cons rfl (pc_cons rfl pc_nil)) rfl rfl) fun a q=>?_
 refine sl_buildSliceF (zc:=[.string (⟨#[]⟩ : ByteArray),I6 0]) (ps:=[(0,.agg #[.string (((⟨#[112,35]⟩ : ByteArray) ++ y_158) ++ (⟨#[35,110]⟩ : ByteArray)),I6 1])]) (c:=[.string (((⟨#[112,35]⟩ : ByteArray) ++ y_158) ++ (⟨#[35,110]⟩ : ByteArray)),I6 1]) [[.string (((⟨#[112,35]⟩ : ByteArray) ++ y_158) ++ (⟨#[35,110]⟩ : ByteArray)),I6 1]] underlying22 sizeOf47 zeroValue47 rfl (pc_cons rfl pc_nil) rfl rfl (Nat.le_of_ble_eq_true rfl) rfl (zc zz) rfl s q (by decide) rfl fun a w b_203 s q=>?_
 obtain ⟨y_204,h_205,H⟩:=bs H
 have s:=s.pk1
 refine sl_append_L (ty:=ty_api_Col) (ys:=[(⟨((⟨#[112,35]⟩ : ByteArray) ++ y_158) ++ (⟨#[35,110]⟩ : ByteArray),1⟩ : api_Col)]) elT22 (by decide) rfl hq_175 rfl (Reps.cons (show Ty.rep ty_api_Col _ [.string (((⟨#[112,35]⟩ : ByteArray) ++ y_158) ++ (⟨#[35,110]⟩ : ByteArray)),I6 1] (⟨((⟨#[112,35]⟩ : ByteArray) ++ y_158) ++ (⟨#[35,110]⟩ : ByteArray),1⟩ : api_Col) from rfl) (Reps.nil _ _)) rfl h_205 s q (by decide) rfl rfl rfl fun a w v_206 cs_207 hq_208 s q=>?_
 refine za q rfl fun a q=>zn ?_
 exact ⟨y_204,_,_,H,hq_208,q.sub (zc (zc (zc (zc (zc zz))))),s⟩
 rw [ifb_f hn_202] at H
 cases H
 rw [ifb_f hb_201] at H
 refine wp_skip ?_
 exact ⟨y_171,_,_,H,hq_175,q.sub (zc (zc (zc (zc (zc zz))))),s⟩
 rintro a w ⟨x_196,v_197,cs_198,H,hq_199,q,s⟩
 unfold ref18_Cols.j1 at H
 refine zr<|zm q rfl fun a q=>zl q (r_ibin q rfl rfl rfl) fun a q=>za q rfl fun a q=>zn ?_
 exact ⟨_,Nat.lt_succ_self _,x_196,(IntKind.i64.wrap (x_102 + 1)),_,_,H,hq_199,q.sub (zc (zc (zc (zc (zc zz))))),s⟩
 rw [ifb_f hn_160] at H
 cases H
 rw [ifb_f hb_157] at H
 refine wp_exit ?_
 refine zq<|zq<|zr<|zm q rfl fun a q=>?_
 obtain ⟨y_210,h_211,H⟩:=bs H
 refine sl_callV call31 s q (by decide) rfl rfl rfl (ref02_Cols.calls x_98 (lentOf_sub [] _) (s.lend_row0 z0 hq_101 rfl rfl) h_211) fun a w s q=>?_
 refine zl q (r_un q rfl (u_not _)) fun a q=>zn ?_
 refine wp_cond_split (q.ev rfl) (fun (hb_212 : (!y_210) = true)=>?_) fun hb_212=>?_
 rw [ifb_t hb_212] at H
 refine zq<|zr<|za q rfl fun a q=>za q rfl fun a q=>za q rfl fun a q=>zn ?_
 have s:=s.row_nil 47 2
 have hq_214 : Reps ty_api_Col R_10 [] ([] : List api_Col):=Reps.nil _ _
 obtain rfl:=Option.some.inj H
 refine wp_ret ?_
 repeat first | refine zt ?_ | refine zb ?_ | refine zo ?_
 exact ret_3 results12 q (rv_tmp q rfl) (rv_tmp q rfl) (rv_tmp q rfl) ⟨_,rfl,_,_,_,_,rfl,(s.trunc 1),hRL,hq_214,SlR.nil _ _⟩
 rw [ifb_f hb_212] at H
 refine wp_skip<|zq<|zr<|zm q rfl fun a q=>zm q rfl fun a q=>za q rfl fun a q=>za q rfl fun a q=>za q rfl fun a q=>zn ?_
 obtain rfl:=Option.some.inj H
 refine wp_ret ?_
 repeat first | refine zt ?_ | refine zb ?_ | refine zo ?_
 exact ret_3 results12 q (rv_tmp q rfl) (rv_tmp q rfl) (rv_tmp q rfl) ⟨_,rfl,_,_,_,_,rfl,s,hRL,hq_101,hs_28⟩
theorem law18_cut.calls (a0 : api_Table) {w0 : World} {R : Hp} {v0_0 : Value} {v0_1 : Value} (hR : R.sub w0) (h0_0 : SlR ty_api_Col R v0_0 a0.Cols) (h0_1 : SlR (tySl ty_api_Value) R v0_1 a0.Rows) {r : api_Table} (H : law18_cut a0 = some r) : Calls prog 14 #[.agg #[v0_0,v0_1]] w0 (Rets fun v w'=>∃ (R' : Hp) (u0 : Value) (u1 : Value),v = .agg #[u0,u1] ∧ St [] w0 w' R' [] ∧ RLe [] w0 R R' ∧ SlR ty_api_Col R' u0 r.Cols ∧ SlR (tySl ty_api_Value) R' u1 r.Rows):=by
 unfold law18_cut at H
 refine enter (args:=[.agg #[v0_0,v0_1]]) func14 rfl ntmps14 rfl fun a q=>?_
 have s:=St.init hR
 have hRL:=RLe.refl (M:=[]) w0 R
 refine zq<|zr ?_
 refine sl_box s q (by decide) rfl rfl (c:=[v0_0,v0_1]) rfl fun a w b_1 s q=>?_
 refine sl_alloc zeroValue35 s q (by decide) rfl rfl fun a w b_2 s q=>?_
 refine zn<|zq<|zq<|zr<|zl q (r_fieldAddr underlying35 rfl sizeOf33 q rfl) fun a q=>zl q (r_load isAgg33 q rfl (s.cell z1 rfl)) fun a q=>zl q (r_len_R underlying33 h0_1 q rfl) fun a q=>zl q (r_ibin q rfl rfl rfl) fun a q=>zn ?_
 refine wp_cond_split (q.ev rfl) (fun (hb_3 : (decide ((a0.Rows.length : Int) > 60)) = true)=>?_) fun hb_3=>?_
 rw [ifb_t hb_3] at H
 refine zr<|zl q (r_fieldAddr underlying35 rfl sizeOf33 q rfl) fun a q=>zl q (r_load isAgg33 q rfl (s.cell z1 rfl)) fun a q=>?_
 obtain ⟨y_4,h_5,H⟩:=bs H
 obtain ⟨v_6,hs_7,hr_8⟩:=r_slice_R (x:=.tmp 8) (lo:=none) (hi:=some (.const (I6 60))) underlying33 sizeOf53 h0_1 h_5 q rfl rfl ⟨_,rfl⟩
 refine zl q (hr_8 _ _ _ _ _ _ _ q) fun a q=>zl q (r_fieldAddr underlying35 rfl sizeOf33 q rfl) fun a q=>?_
 have s:=s.pk1
 refine sl_store1 (c':=[v0_0,v_6]) sizeOf33 s q rfl rfl rfl hs_7.one (Nat.le_of_ble_eq_true rfl) rfl fun a w s q=>?_
 refine zn<|zq<|zr<|zl q (r_loadA (cs:=[v0_0,v_6]) isAgg35 sizeOf35 rfl q rfl (s.cells_of (m:=2) z0 rfl)) fun a q=>?_
 have s:=s.pk1
 refine sl_storeA (vs:=[v0_0,v_6]) (c':=[v0_0,v_6]) sizeOf35 s q rfl rfl rfl rfl (all_cons h0_0.one (all_cons hs_7.one zz)) (Nat.le_of_ble_eq_true rfl) rfl fun a w s q=>?_
 refine zn ?_
 obtain rfl:=Option.some.inj H
 refine wp_ret ?_
 repeat first | refine zt ?_ | refine zb ?_ | refine zo ?_
 exact ret_1 results14 q (rv_cell (c:=[v0_0,v_6]) isAgg35 sizeOf35 s z0 rfl q rfl) ⟨_,rfl,_,_,_,rfl,(s.trunc 0),hRL,h0_0,hs_7⟩
 rw [ifb_f hb_3] at H
 refine wp_skip<|zq<|zr<|zl q (r_loadA (cs:=[v0_0,v0_1]) isAgg35 sizeOf35 rfl q rfl (s.cells_of (m:=2) z1 rfl)) fun a q=>?_
 refine sl_storeA (vs:=[v0_0,v0_1]) (c':=[v0_0,v0_1]) sizeOf35 s q rfl rfl rfl rfl (all_cons h0_0.one (all_cons h0_1.one zz)) (Nat.le_of_ble_eq_true rfl) rfl fun a w s q=>?_
 refine zn ?_
 obtain rfl:=Option.some.inj H
 refine wp_ret ?_
 repeat first | refine zt ?_ | refine zb ?_ | refine zo ?_
 exact ret_1 results14 q (rv_cell (c:=[v0_0,v0_1]) isAgg35 sizeOf35 s z0 rfl q rfl) ⟨_,rfl,_,_,_,rfl,(s.trunc 0),hRL,h0_0,h0_1⟩
theorem ref01_Valid.calls (a0 : api_Value) {r : Bool} (H : ref01_Valid a0 = some r) (w0 : World) : CallsV prog 41 #[.agg ⟨cV a0⟩] w0 (.bool r):=by
 unfold ref01_Valid at H
 refine enter (args:=[.agg ⟨cV a0⟩]) func41 rfl ntmps41 rfl fun a q=>?_
 have s:=St.init (R:=fun _=>none) (w:=w0) (fun _ _ h=>by cases h)
 have hRL:=RLe.refl (M:=[]) w0 (fun _=>none)
 refine zq<|zr ?_
 refine sl_box s q (by decide) rfl rfl (c:=(cV a0)) rfl fun a w b_1 s q=>?_
 refine za q rfl fun a q=>zn<|zq<|zr<|zl q (r_fieldAddr underlying52 rfl sizeOf50 q rfl) fun a q=>zl q (r_loadA (cs:=[I6 a0.H.a0,I6 a0.H.a1,I6 a0.H.a2,I6 a0.H.a3,I6 a0.H.a4,I6 a0.H.a5,I6 a0.H.a6,I6 a0.H.a7]) isAgg50 sizeOf50 rfl q rfl (s.cells_of (m:=8) z0 rfl)) fun a q=>zl q (r_buildAC (ps:=[]) (c:=[I6 0,I6 0,I6 0,I6 0,I6 0,I6 0,I6 0,I6 0]) underlying50 zeroValue50 sizeOf3 q rfl pc_nil rfl rfl) fun a q=>zl q (r_seq (by kernel_rfl) (eqs50 a0.H (⟨0,0,0,0,0,0,0,0⟩ : Arr8)) q rfl rfl) fun a q=>?_
 refine za q rfl fun a q=>zn<|zq<|zq<|zr<|zl q (r_fieldAddr underlying52 rfl sizeOf3 q rfl) fun a q=>zl q (r_load isAgg3 q rfl (s.cell z0 rfl)) fun a q=>zn ?_
 refine wp_block ?_
 refine zq<|zr<|zl q (r_ibin q rfl rfl rfl) fun a q=>za q rfl fun a q=>zn ?_
 refine wp_cond_split (q.ev rfl) (fun (hb_2 : (a0.Kind == 1) = true)=>?_) fun hb_2=>?_
 rw [ifb_t hb_2] at H
 refine zq<|zr<|zl q (r_fieldAddr underlying52 rfl sizeOf9 q rfl) fun a q=>zl q (r_load isAgg9 q rfl (s.cell z0 rfl)) fun a q=>zl q (r_sbin q rfl rfl rfl) fun a q=>zm q rfl fun a q=>?_
 rcases or_b (a0.S.toList == (⟨#[]⟩ : ByteArray).toList) with hb_3 | hb_3
 rw [ifb_t hb_3] at H
 refine zw q (wtt hb_3) (r_move q rfl) fun a q=>zl q (r_pick_t hb_3 q rfl rfl) fun a q=>za q rfl fun a q=>zn ?_
 obtain rfl:=Option.some.inj H
 refine wp_ret ?_
 repeat first | refine zt ?_ | refine zb ?_ | refine zo ?_
 exact ret_1 results41 q (rv_tmp q rfl) ⟨rfl,s.bel⟩
 rw [ifb_f hb_3] at H
 refine zsw q (wtf hb_3) fun a q=>zl q (r_pick_f hb_3 q rfl rfl) fun a q=>za q rfl fun a q=>zn ?_
 obtain rfl:=Option.some.inj H
 refine wp_ret ?_
 repeat first | refine zt ?_ | refine zb ?_ | refine zo ?_
 exact ret_1 results41 q (rv_tmp q rfl) ⟨rfl,s.bel⟩
 rw [ifb_f hb_2] at H
 refine zq<|zr<|zl q (r_ibin q rfl rfl rfl) fun a q=>za q rfl fun a q=>zn ?_
 refine wp_cond_split (q.ev rfl) (fun (hb_4 : (a0.Kind == 2) = true)=>?_) fun hb_4=>?_
 rw [ifb_t hb_4] at H
 refine zq<|zr<|zl q (r_fieldAddr underlying52 rfl sizeOf3 q rfl) fun a q=>zl q (r_load isAgg3 q rfl (s.cell z0 rfl)) fun a q=>zl q (r_ibin q rfl rfl rfl) fun a q=>zm q rfl fun a q=>?_
 rcases or_b (a0.N == 0) with hb_5 | hb_5
 rw [ifb_t hb_5] at H
 refine zw q (wtt hb_5) (r_move q rfl) fun a q=>zl q (r_pick_t hb_5 q rfl rfl) fun a q=>zm q rfl fun a q=>?_
 rcases or_b (decide (a0.H = (⟨0,0,0,0,0,0,0,0⟩ : Arr8))) with hb_6 | hb_6
 rw [ifb_t hb_6] at H
 refine zw q (wtt hb_6) (r_fieldAddr underlying52 rfl sizeOf9 q rfl) fun a q=>zw q (wtt hb_6) (r_load isAgg9 q rfl (s.cell z0 rfl)) fun a q=>zw q (wtt hb_6) (r_len_str underlying9 q rfl) fun a q=>zw q (wtt hb_6) (r_ibin q rfl rfl rfl) fun a q=>zl q (r_pick_t hb_6 q rfl rfl) fun a q=>za q rfl fun a q=>zn ?_
 obtain rfl:=Option.some.inj H
 refine wp_ret ?_
 repeat first | refine zt ?_ | refine zb ?_ | refine zo ?_
 exact ret_1 results41 q (rv_tmp q rfl) ⟨rfl,s.bel⟩
 rw [ifb_f hb_6] at H
 refine zsw q (wtf hb_6) fun a q=>zsw q (wtf hb_6) fun a q=>zsw q (wtf hb_6) fun a q=>zsw q (wtf hb_6) fun a q=>zl q (r_pick_f hb_6 q rfl rfl) fun a q=>za q rfl fun a q=>zn ?_
 obtain rfl:=Option.some.inj H
 refine wp_ret ?_
 repeat first | refine zt ?_ | refine zb ?_ | refine zo ?_
 exact ret_1 results41 q (rv_tmp q rfl) ⟨rfl,s.bel⟩
 rw [ifb_f hb_5] at H
 refine zsw q (wtf hb_5) fun a q=>zl q (r_pick_f hb_5 q rfl rfl) fun a q=>zm q rfl fun a q=>zs q fun a q=>zs q fun a q=>zs q fun a q=>zs q fun a q=>zl q (r_pick q rfl rfl rfl) fun a q=>za q rfl fun a q=>zn ?_
 obtain rfl:=Option.some.inj H
 refine wp_ret ?_
 repeat first | refine zt ?_ | refine zb ?_ | refine zo ?_
 exact ret_1 results41 q (rv_tmp q rfl) ⟨rfl,s.bel⟩
 rw [ifb_f hb_4] at H
 refine zq<|zr<|zl q (r_ibin q rfl rfl rfl) fun a q=>za q rfl fun a q=>zn ?_
 refine wp_cond_split (q.ev rfl) (fun (hb_7 : (a0.Kind == 3) = true)=>?_) fun hb_7=>?_
 rw [ifb_t hb_7] at H
 refine zq<|zr<|zl q (r_fieldAddr underlying52 rfl sizeOf3 q rfl) fun a q=>zl q (r_load isAgg3 q rfl (s.cell z0 rfl)) fun a q=>zl q (r_ibin q rfl rfl rfl) fun a q=>zm q rfl fun a q=>?_
 rcases or_b (a0.N == 0) with hb_8 | hb_8
 rw [ifb_t hb_8] at H
 refine zsw q (wft hb_8) fun a q=>zsw q (wft hb_8) fun a q=>zsw q (wft hb_8) fun a q=>zl q (r_pick_t hb_8 q rfl rfl) fun a q=>zm q rfl fun a q=>zl q (r_fieldAddr underlying52 rfl sizeOf9 q rfl) fun a q=>zl q (r_load isAgg9 q rfl (s.cell z0 rfl)) fun a q=>zl q (r_sbin q rfl rfl rfl) fun a q=>zl q (r_pick q rfl rfl rfl) fun a q=>zm q rfl fun a q=>?_
 rcases or_b (a0.S.toList == (⟨#[]⟩ : ByteArray).toList) with hb_9 | hb_9
 rw [ifb_t hb_9] at H
 refine zw q (wtt hb_9) (r_move q rfl) fun a q=>zl q (r_pick_t hb_9 q rfl rfl) fun a q=>za q rfl fun a q=>zn ?_
 obtain rfl:=Option.some.inj H
 refine wp_ret ?_
 repeat first | refine zt ?_ | refine zb ?_ | refine zo ?_
 exact ret_1 results41 q (rv_tmp q rfl) ⟨rfl,s.bel⟩
 rw [ifb_f hb_9] at H
 refine zsw q (wtf hb_9) fun a q=>zl q (r_pick_f hb_9 q rfl rfl) fun a q=>za q rfl fun a q=>zn ?_
 obtain rfl:=Option.some.inj H
 refine wp_ret ?_
 repeat first | refine zt ?_ | refine zb ?_ | refine zo ?_
 exact ret_1 results41 q (rv_tmp q rfl) ⟨rfl,s.bel⟩
 rw [ifb_f hb_8] at H
 refine zw q (wff hb_8) (r_fieldAddr underlying52 rfl sizeOf3 q rfl) fun a q=>zw q (wff hb_8) (r_load isAgg3 q rfl (s.cell z0 rfl)) fun a q=>zw q (wff hb_8) (r_ibin q rfl rfl rfl) fun a q=>zl q (r_pick_f hb_8 q rfl rfl) fun a q=>zm q rfl fun a q=>?_
 rcases or_b (a0.N == 1) with hb_10 | hb_10
 rw [ifb_t hb_10] at H
 refine zw q (wtt hb_10) (r_fieldAddr underlying52 rfl sizeOf9 q rfl) fun a q=>zw q (wtt hb_10) (r_load isAgg9 q rfl (s.cell z0 rfl)) fun a q=>zw q (wtt hb_10) (r_sbin q rfl rfl rfl) fun a q=>zl q (r_pick_t hb_10 q rfl rfl) fun a q=>zm q rfl fun a q=>?_
 rcases or_b (a0.S.toList == (⟨#[]⟩ : ByteArray).toList) with hb_11 | hb_11
 rw [ifb_t hb_11] at H
 refine zw q (wtt hb_11) (r_move q rfl) fun a q=>zl q (r_pick_t hb_11 q rfl rfl) fun a q=>za q rfl fun a q=>zn ?_
 obtain rfl:=Option.some.inj H
 refine wp_ret ?_
 repeat first | refine zt ?_ | refine zb ?_ | refine zo ?_
 exact ret_1 results41 q (rv_tmp q rfl) ⟨rfl,s.bel⟩
 rw [ifb_f hb_11] at H
 refine zsw q (wtf hb_11) fun a q=>zl q (r_pick_f hb_11 q rfl rfl) fun a q=>za q rfl fun a q=>zn ?_
 obtain rfl:=Option.some.inj H
 refine wp_ret ?_
 repeat first | refine zt ?_ | refine zb ?_ | refine zo ?_
 exact ret_1 results41 q (rv_tmp q rfl) ⟨rfl,s.bel⟩
 rw [ifb_f hb_10] at H
 refine zsw q (wtf hb_10) fun a q=>zsw q (wtf hb_10) fun a q=>zsw q (wtf hb_10) fun a q=>zl q (r_pick_f hb_10 q rfl rfl) fun a q=>zm q rfl fun a q=>zs q fun a q=>zl q (r_pick q rfl rfl rfl) fun a q=>za q rfl fun a q=>zn ?_
 obtain rfl:=Option.some.inj H
 refine wp_ret ?_
 repeat first | refine zt ?_ | refine zb ?_ | refine zo ?_
 exact ret_1 results41 q (rv_tmp q rfl) ⟨rfl,s.bel⟩
 rw [ifb_f hb_7] at H
 refine zq<|zr<|zl q (r_ibin q rfl rfl rfl) fun a q=>za q rfl fun a q=>zn ?_
 refine wp_cond_split (q.ev rfl) (fun (hb_12 : (a0.Kind == 4) = true)=>?_) fun hb_12=>?_
 rw [ifb_t hb_12] at H
 refine zq<|zr<|zl q (r_fieldAddr underlying52 rfl sizeOf3 q rfl) fun a q=>zl q (r_load isAgg3 q rfl (s.cell z0 rfl)) fun a q=>zl q (r_ibin q rfl rfl rfl) fun a q=>zm q rfl fun a q=>?_
 rcases or_b (a0.N == 0) with hb_13 | hb_13
 rw [ifb_t hb_13] at H
 refine zw q (wtt hb_13) (r_fieldAddr underlying52 rfl sizeOf9 q rfl) fun a q=>zw q (wtt hb_13) (r_load isAgg9 q rfl (s.cell z0 rfl)) fun a q=>zw q (wtt hb_13) (r_sbin q rfl rfl rfl) fun a q=>zl q (r_pick_t hb_13 q rfl rfl) fun a q=>za q rfl fun a q=>zn ?_
 obtain rfl:=Option.some.inj H
 refine wp_ret ?_
 repeat first | refine zt ?_ | refine zb ?_ | refine zo ?_
 exact ret_1 results41 q (rv_tmp q rfl) ⟨rfl,s.bel⟩
 rw [ifb_f hb_13] at H
 refine zsw q (wtf hb_13) fun a q=>zsw q (wtf hb_13) fun a q=>zsw q (wtf hb_13) fun a q=>zl q (r_pick_f hb_13 q rfl rfl) fun a q=>za q rfl fun a q=>zn ?_
 obtain rfl:=Option.some.inj H
 refine wp_ret ?_
 repeat first | refine zt ?_ | refine zb ?_ | refine zo ?_
 exact ret_1 results41 q (rv_tmp q rfl) ⟨rfl,s.bel⟩
 rw [ifb_f hb_12] at H
 refine wp_skip<|zq<|zr<|za q rfl fun a q=>zn ?_
 obtain rfl:=Option.some.inj H
 refine wp_ret ?_
 repeat first | refine zt ?_ | refine zb ?_ | refine zo ?_
 exact ret_1 results41 q (rv_tmp q rfl) ⟨rfl,s.bel⟩
theorem ref02_Check.calls (a0 : api_Table) {w0 : World} {RA : Hp} {v0_0 : Value} {v0_1 : Value} (hRA : RA.sub w0) (h0_0 : SlR ty_api_Col RA v0_0 a0.Cols) (h0_1 : SlR (tySl ty_api_Value) RA v0_1 a0.Rows) {r : Int} (H : ref02_Check a0 = some r) : CallsV prog 20 #[.agg #[v0_0,v0_1]] w0 (I6 r):=by
 unfold ref02_Check at H
 refine enter (args:=[.agg #[v0_0,v0_1]]) func20 rfl ntmps20 rfl fun a q=>?_
 have s:=St.init (R:=fun _=>none) (w:=w0) (fun _ _ h=>by cases h)
 have hRL:=RLe.refl (M:=[]) w0 (fun _=>none)
 refine zq<|zr ?_
 refine sl_box s q (by decide) rfl rfl (c:=[v0_0,v0_1]) rfl fun a w b_1 s q=>?_
 refine za q rfl fun a q=>zn<|zq<|zq<|zr<|zl q (r_fieldAddr underlying35 rfl sizeOf22 q rfl) fun a q=>zl q (r_load isAgg22 q rfl (s.cell z0 rfl)) fun a q=>?_
 obtain ⟨y_2,h_3,H⟩:=bs H
 refine sl_callV call31 s q (by decide) rfl rfl rfl (ref02_Cols.calls a0.Cols (lentOf_sub [] _) (h0_0.mono (s.raLe0 hRA nil_not)) h_3) fun a w s q=>?_
 refine zl q (r_un q rfl (u_not _)) fun a q=>zn ?_
 refine wp_cond_split (q.ev rfl) (fun (hb_4 : (!y_2) = true)=>?_) fun hb_4=>?_
 rw [ifb_t hb_4] at H
 refine zq<|zr<|za q rfl fun a q=>zn ?_
 obtain rfl:=Option.some.inj H
 refine wp_ret ?_
 repeat first | refine zt ?_ | refine zb ?_ | refine zo ?_
 exact ret_1 results20 q (rv_tmp q rfl) ⟨rfl,s.bel⟩
 rw [ifb_f hb_4] at H
 refine wp_skip<|zq<|zq<|zr<|za q rfl fun a q=>zn ?_
 refine wp_block ?_
 refine wp_loop_k (fun k_l0 a w=>∃ (x_669 : Int),ref02_Check.l0 a0 k_l0 x_669 = some r ∧ Kn 61 a [(1,.pointer (some ⟨b_1,0,none⟩)),(3,I6 x_669)] ∧ St [] w0 w (fun _=>none) [.cells b_1 [v0_0,v0_1] 35]) (((a0.Rows.length : Int) - 0).toNat + 1) ?_ ?_
 exact ⟨0,H,q.sub (zc (zc zz)),s⟩
 rintro k_l0 a w ⟨x_669,H,q,s⟩
 rcases k_l0 with _ | k_l0
 cases H
 rw [ref02_Check.l0.eq_2] at H
 refine zq<|zq<|zr<|zm q rfl fun a q=>zl q (r_fieldAddr underlying35 rfl sizeOf33 q rfl) fun a q=>zl q (r_load isAgg33 q rfl (s.cell z0 rfl)) fun a q=>zl q (r_len_R underlying33 h0_1 q rfl) fun a q=>zl q (r_ibin q rfl rfl rfl) fun a q=>zn ?_
 refine wp_cond_split (q.ev rfl) (fun (hb_1334 : (decide (x_669 < (a0.Rows.length : Int))) = true)=>?_) fun hb_1334=>?_
 rw [ifb_t hb_1334] at H
 refine wp_skip<|zq ?_
 refine wp_block ?_
 refine zq<|zq ?_
 refine par_region (C:=fun w=>St [] w0 w (fun _=>none) [.cells b_1 [v0_0,v0_1] 35]) [(0,true),(1,true),(2,true),(3,true),(4,true),(5,true),(6,true),(7,true),(8,true),(9,true)] mixed (by kernel_rfl) s (fun w s=>s) fun w s=>?_
 refine zp rfl q (fun w s=>r_fieldAddr underlying35 rfl sizeOf33 q rfl) fun a q=>zp rfl q (fun w s=>r_load isAgg33 q rfl (s.cell z0 rfl)) fun a q=>zp rfl q (fun w s=>r_move q rfl) fun a q=>?_
 obtain ⟨y_1346,h_1347,H⟩:=bs H
 obtain ⟨b_1348,o_1349,c_1350,cs_1351,hv_1352,hr_1353,hc_1354,h_13470,h_13471⟩:=h0_1.ix h_1347
 obtain ⟨v_1355,rfl,hs_1356⟩:=hr_1353
 refine zp rfl q (fun w s=>r_indexAddr_R underlying33 sizeOf53 hv_1352 h_13470 h_13471 q rfl rfl) fun a q=>zp rfl q (fun w s=>r_load isAgg53 q rfl ((s.ra hRA nil_not).cell (hc_1354 0 _ rfl))) fun a q=>zp rfl q (fun w s=>r_len_R underlying53 hs_1356 q rfl) fun a q=>zp rfl q (fun w s=>r_fieldAddr underlying35 rfl sizeOf22 q rfl) fun a q=>zp rfl q (fun w s=>r_load isAgg22 q rfl (s.cell z0 rfl)) fun a q=>zp rfl q (fun w s=>r_len_R underlying22 h0_0 q rfl) fun a q=>zp rfl q (fun w s=>r_ibin q rfl rfl rfl) fun a q=>?_
 refine wpPar_nil (NoP_nil ?_)
 refine wp_cond_split (q.ev rfl) (fun (hb_1357 : ((y_1346.length : Int) != (a0.Cols.length : Int)) = true)=>?_) fun hb_1357=>?_
 rw [ifb_t hb_1357] at H
 refine zq<|zr<|za q rfl fun a q=>zn ?_
 obtain rfl:=Option.some.inj H
 refine wp_ret ?_
 repeat first | refine zt ?_ | refine zb ?_ | refine zo ?_
 exact ret_1 results20 q (rv_tmp q rfl) ⟨rfl,s.bel⟩
 rw [ifb_f hb_1357] at H
 refine wp_skip<|zq<|zr<|za q rfl fun a q=>zn ?_
 refine wp_block ?_
 refine wp_loop_k (fun k_l1 a w=>∃ (x_1571 : Int),ref02_Check.l1 (ref02_Check.l0 a0 k_l0) a0 x_669 k_l1 x_1571 = some r ∧ Kn 61 a [(1,.pointer (some ⟨b_1,0,none⟩)),(3,I6 x_669),(4,I6 x_1571)] ∧ St [] w0 w (fun _=>none) [.cells b_1 [v0_0,v0_1] 35]) (((a0.Cols.length : Int) - 0).toNat + 1) ?_ ?_
 exact ⟨0,H,q.sub (zc (zc (zc zz))),s⟩
 rintro k_l1 a w ⟨x_1571,H,q,s⟩
 rcases k_l1 with _ | k_l1
 cases H
 rw [ref02_Check.l1.eq_2] at H
 refine zq<|zq<|zr<|zm q rfl fun a q=>zl q (r_fieldAddr underlying35 rfl sizeOf22 q rfl) fun a q=>zl q (r_load isAgg22 q rfl (s.cell z0 rfl)) fun a q=>zl q (r_len_R underlying22 h0_0 q rfl) fun a q=>zl q (r_ibin q rfl rfl rfl) fun a q=>zn ?_
 refine wp_cond_split (q.ev rfl) (fun (hb_1785 : (decide (x_1571 < (a0.Cols.length : Int))) = true)=>?_) fun hb_1785=>?_
 rw [ifb_t hb_1785] at H
 refine wp_skip<|zq ?_
 refine wp_block ?_
 refine zq ?_
 refine wp_mid (fun a w=>∃ (x_1890 : Bool),ref02_Check.j2 (ref02_Check.l1 (ref02_Check.l0 a0 k_l0) a0 x_669 k_l1) a0 x_1571 x_1890 = some r ∧ Kn 61 a [(1,.pointer (some ⟨b_1,0,none⟩)),(3,I6 x_669),(4,I6 x_1571),(60,.bool x_1890)] ∧ St [] w0 w (fun _=>none) [.cells b_1 [v0_0,v0_1] 35]) ?_ ?_
 refine parT_region (C:=fun w=>St [] w0 w (fun _=>none) [.cells b_1 [v0_0,v0_1] 35]) 23 [(0,true),(1,true),(2,true),(3,true),(4,true),(5,true),(6,true),(7,true),(8,true),(9,true),(10,true),(11,true),(12,true),(13,true),(14,true),(15,true),(16,true),(17,true),(18,true),(19,true),(20,true),(21,true),(22,true)] mixed (by kernel_rfl) s (fun w s=>s) fun w s=>?_
 refine zp rfl q (fun w s=>r_fieldAddr underlying35 rfl sizeOf33 q rfl) fun a q=>zp rfl q (fun w s=>r_load isAgg33 q rfl (s.cell z0 rfl)) fun a q=>zp rfl q (fun w s=>r_move q rfl) fun a q=>?_
 obtain ⟨y_1944,h_1945,H⟩:=bs H
 obtain ⟨b_1946,o_1947,c_1948,cs_1949,hv_1950,hr_1951,hc_1952,h_19450,h_19451⟩:=h0_1.ix h_1945
 obtain ⟨v_1953,rfl,hs_1954⟩:=hr_1951
 refine zp rfl q (fun w s=>r_indexAddr_R underlying33 sizeOf53 hv_1950 h_19450 h_19451 q rfl rfl) fun a q=>zp rfl q (fun w s=>r_load isAgg53 q rfl ((s.ra hRA nil_not).cell (hc_1952 0 _ rfl))) fun a q=>zp rfl q (fun w s=>r_move q rfl) fun a q=>?_
 obtain ⟨y_1955,h_1956,H⟩:=bs H
 obtain ⟨b_1957,o_1958,c_1959,cs_1960,hv_1961,hr_1962,hc_1963,h_19560,h_19561⟩:=hs_1954.ix h_1956
 subst hr_1962
 refine zp rfl q (fun w s=>r_indexAddr_R underlying53 sizeOf52 hv_1961 h_19560 h_19561 q rfl rfl) fun a q=>zp rfl q (fun w s=>r_fieldAddr underlying52 rfl sizeOf3 q rfl) fun a q=>zp rfl q (fun w s=>r_load isAgg3 q rfl ((s.ra hRA nil_not).cell (hc_1963 0 _ rfl))) fun a q=>zp rfl q (fun w s=>r_fieldAddr underlying35 rfl sizeOf22 q rfl) fun a q=>zp rfl q (fun w s=>r_load isAgg22 q rfl (s.cell z0 rfl)) fun a q=>zp rfl q (fun w s=>r_move q rfl) fun a q=>?_
 obtain ⟨y_1964,h_1965,H⟩:=bs H
 obtain ⟨b_1966,o_1967,c_1968,cs_1969,hv_1970,hr_1971,hc_1972,h_19650,h_19651⟩:=h0_0.ix h_1965
 subst hr_1971
 refine zp rfl q (fun w s=>r_indexAddr_R underlying22 sizeOf47 hv_1970 h_19650 h_19651 q rfl rfl) fun a q=>zp rfl q (fun w s=>r_fieldAddr underlying47 rfl sizeOf3 q rfl) fun a q=>zp rfl q (fun w s=>r_load isAgg3 q rfl ((s.ra hRA nil_not).cell (hc_1972 1 _ rfl))) fun a q=>zp rfl q (fun w s=>r_ibin q rfl rfl rfl) fun a q=>zp rfl q (fun w s=>r_move q rfl) fun a q=>?_
 rcases or_b (y_1955.Kind != y_1964.Kind) with hb_1973 | hb_1973
 rw [ifb_t hb_1973] at H
 refine zps rfl q (wft hb_1973) fun a q=>zps rfl q (wft hb_1973) fun a q=>zps rfl q (wft hb_1973) fun a q=>zps rfl q (wft hb_1973) fun a q=>zps rfl q (wft hb_1973) fun a q=>zps rfl q (wft hb_1973) fun a q=>?_
 refine thenL_nil ?_
 refine zsw q (wft hb_1973) fun a q=>zsw q (wft hb_1973) fun a q=>zsw q (wft hb_1973) fun a q=>zsw q (wft hb_1973) fun a q=>zl q (r_pick_t hb_1973 q rfl rfl) fun a q=>?_
 refine wpList_nil (NoP_nil ?_)
 exact ⟨true,H,q.sub (zc (zc (zc (zc zz)))),s⟩
 rw [ifb_f hb_1973] at H
 refine zpw rfl q (wff hb_1973) (fun w s=>r_fieldAddr underlying35 rfl sizeOf33 q rfl) fun a q=>zpw rfl q (wff hb_1973) (fun w s=>r_load isAgg33 q rfl (s.cell z0 rfl)) fun a q=>zpw rfl q (wff hb_1973) (fun w s=>r_move q rfl) fun a q=>?_
 obtain ⟨y_1974,h_1975,H⟩:=bs H
 obtain ⟨b_1976,o_1977,c_1978,cs_1979,hv_1980,hr_1981,hc_1982,h_19750,h_19751⟩:=h0_1.ix h_1975
 obtain ⟨v_1983,rfl,hs_1984⟩:=hr_1981
 refine zpw rfl q (wff hb_1973) (fun w s=>r_indexAddr_R underlying33 sizeOf53 hv_1980 h_19750 h_19751 q rfl rfl) fun a q=>zpw rfl q (wff hb_1973) (fun w s=>r_load isAgg53 q rfl ((s.ra hRA nil_not).cell (hc_1982 0 _ rfl))) fun a q=>zpw rfl q (wff hb_1973) (fun w s=>r_move q rfl) fun a q=>?_
 refine thenL_nil ?_
 obtain ⟨y_1985,h_1986,H⟩:=bs H
 obtain ⟨b_1987,o_1988,c_1989,cs_1990,hv_1991,hr_1992,hc_1993,h_19860,h_19861⟩:=hs_1984.ix h_1986
 subst hr_1992
 refine zw q (wff hb_1973) (r_indexAddr_R underlying53 sizeOf52 hv_1991 h_19860 h_19861 q rfl rfl) fun a q=>zw q (wff hb_1973) (r_loadA (cs:=(cV y_1985)) isAgg52 sizeOf52 rfl q rfl (fun j v hv=>(s.ra hRA nil_not).cell (hc_1993 j v hv))) fun a q=>?_
 obtain ⟨y_1994,h_1995,H⟩:=bs H
 refine sl_callV call41 s q (by decide) (wff hb_1973) rfl rfl (ref01_Valid.calls y_1985 h_1995 _) fun a w s q=>?_
 refine zw q (wff hb_1973) (r_un q rfl (u_not _)) fun a q=>zl q (r_pick_f hb_1973 q rfl rfl) fun a q=>?_
 refine wpList_nil (NoP_nil ?_)
 exact ⟨(!y_1994),H,q.sub (zc (zc (zc (zc zz)))),s⟩
 rintro a w ⟨x_1890,H,q,s⟩
 unfold ref02_Check.j2 at H
 refine wp_cond_split (q.ev rfl) (fun (hb_1996 : x_1890 = true)=>?_) fun hb_1996=>?_
 rw [ifb_t hb_1996] at H
 refine zq<|zr<|za q rfl fun a q=>zn ?_
 obtain rfl:=Option.some.inj H
 refine wp_ret ?_
 repeat first | refine zt ?_ | refine zb ?_ | refine zo ?_
 exact ret_1 results20 q (rv_tmp q rfl) ⟨rfl,s.bel⟩
 rw [ifb_f hb_1996] at H
 refine wp_skip<|zr<|zm q rfl fun a q=>zl q (r_ibin q rfl rfl rfl) fun a q=>za q rfl fun a q=>zn ?_
 exact ⟨_,Nat.lt_succ_self _,(IntKind.i64.wrap (x_1571 + 1)),H,q.sub (zc (zc (zc zz))),s⟩
 rw [ifb_f hb_1785] at H
 refine wp_exit ?_
 refine zr<|zm q rfl fun a q=>zl q (r_ibin q rfl rfl rfl) fun a q=>za q rfl fun a q=>zn ?_
 exact ⟨_,Nat.lt_succ_self _,(IntKind.i64.wrap (x_669 + 1)),H,q.sub (zc (zc zz)),s⟩
 rw [ifb_f hb_1334] at H
 refine wp_exit ?_
 refine zq<|zr<|za q rfl fun a q=>zn ?_
 obtain rfl:=Option.some.inj H
 refine wp_ret ?_
 repeat first | refine zt ?_ | refine zb ?_ | refine zo ?_
 exact ret_1 results20 q (rv_tmp q rfl) ⟨rfl,s.bel⟩
theorem ref01_OfInt.calls (a0 : Int) {r : api_Value} (H : ref01_OfInt a0 = some r) (w0 : World) : CallsV prog 37 #[I6 a0] w0 (.agg ⟨cV r⟩):=by
 unfold ref01_OfInt at H
 refine enter (args:=[I6 a0]) func37 rfl ntmps37 rfl fun a q=>?_
 have s:=St.init (R:=fun _=>none) (w:=w0) (fun _ _ h=>by cases h)
 have hRL:=RLe.refl (M:=[]) w0 (fun _=>none)
 refine zq<|zr ?_
 refine sl_alloc zeroValue52 s q (by decide) rfl rfl fun a w b_1 s q=>?_
 refine zn<|zq<|zr<|zm q rfl fun a q=>zl q (r_buildC (ps:=[(0,I6 1),(1,I6 a0)]) (c:=[I6 1,I6 a0,.string (⟨#[]⟩ : ByteArray),I6 0,I6 0,I6 0,I6 0,I6 0,I6 0,I6 0,I6 0]) underlying52 zeroValue52 places52 q rfl (pc_cons rfl (pc_cons rfl pc_nil)) rfl rfl) fun a q=>?_
 refine sl_storeA (vs:=[I6 1,I6 a0,.string (⟨#[]⟩ : ByteArray),I6 0,I6 0,I6 0,I6 0,I6 0,I6 0,I6 0,I6 0]) (c':=[I6 1,I6 a0,.string (⟨#[]⟩ : ByteArray),I6 0,I6 0,I6 0,I6 0,I6 0,I6 0,I6 0,I6 0]) sizeOf52 s q rfl rfl rfl rfl (zc (zc (zc (zc (zc (zc (zc (zc (zc (zc (zc zz))))))))))) (Nat.le_of_ble_eq_true rfl) rfl fun a w s q=>?_
 refine zn ?_
 obtain rfl:=Option.some.inj H
 refine wp_ret ?_
 repeat first | refine zt ?_ | refine zb ?_ | refine zo ?_
 exact ret_1 results37 q (rv_cell (c:=[I6 1,I6 a0,.string (⟨#[]⟩ : ByteArray),I6 0,I6 0,I6 0,I6 0,I6 0,I6 0,I6 0,I6 0]) isAgg52 sizeOf52 s z0 rfl q rfl) ⟨rfl,s.bel⟩
theorem ref18_same.calls (a0 : List api_Value) (a1 : List api_Value) (a2 : Int) {w0 : World} {RA : Hp} {v0_0 : Value} {v1_0 : Value} (hRA : RA.sub w0) (h0_0 : SlR ty_api_Value RA v0_0 a0) (h1_0 : SlR ty_api_Value RA v1_0 a1) {r : Bool} (H : ref18_same a0 a1 a2 = some r) : CallsV prog 59 #[v0_0,v1_0,I6 a2] w0 (.bool r):=by
 unfold ref18_same at H
 refine enter (args:=[v0_0,v1_0,I6 a2]) func59 rfl ntmps59 rfl fun a q=>?_
 have s:=St.init (R:=fun _=>none) (w:=w0) (fun _ _ h=>by cases h)
 have hRL:=RLe.refl (M:=[]) w0 (fun _=>none)
 refine zq<|zr<|za q rfl fun a q=>zn<|zq<|zq<|zr<|za q rfl fun a q=>zn ?_
 refine wp_block ?_
 refine wp_loop_k (fun k_l0 a w=>∃ (x_40 : Int),ref18_same.l0 a0 a1 a2 k_l0 x_40 = some r ∧ Kn 22 a [(0,v0_0),(1,v1_0),(2,I6 a2),(7,I6 x_40)] ∧ St [] w0 w (fun _=>none) []) ((a2 - 0).toNat + 1) ?_ ?_
 exact ⟨0,H,q.sub (zc (zc (zc (zc zz)))),s⟩
 rintro k_l0 a w ⟨x_40,H,q,s⟩
 rcases k_l0 with _ | k_l0
 cases H
 rw [ref18_same.l0.eq_2] at H
 refine zq<|zq<|zr<|zm q rfl fun a q=>zm q rfl fun a q=>zl q (r_ibin q rfl rfl rfl) fun a q=>zn ?_
 refine wp_cond_split (q.ev rfl) (fun (hb_80 : (decide (x_40 < a2)) = true)=>?_) fun hb_80=>?_
 rw [ifb_t hb_80] at H
 refine wp_skip<|zq ?_
 refine wp_block ?_
 refine zq ?_
 refine par_region (C:=fun w=>St [] w0 w (fun _=>none) []) [(0,true),(1,true),(2,true),(3,true),(4,true),(5,true),(6,true),(7,true),(8,true)] mixed (by kernel_rfl) s (fun w s=>s) fun w s=>?_
 refine zp rfl q (fun w s=>r_move q rfl) fun a q=>zp rfl q (fun w s=>r_move q rfl) fun a q=>?_
 obtain ⟨y_99,h_100,H⟩:=bs H
 obtain ⟨b_101,o_102,c_103,cs_104,hv_105,hr_106,hc_107,h_1000,h_1001⟩:=h0_0.ix h_100
 subst hr_106
 refine zp rfl q (fun w s=>r_indexAddr_R underlying53 sizeOf52 hv_105 h_1000 h_1001 q rfl rfl) fun a q=>zp rfl q (fun w s=>r_loadA (cs:=(cV y_99)) isAgg52 sizeOf52 rfl q rfl (fun j v hv=>(s.ra hRA nil_not).cell (hc_107 j v hv))) fun a q=>zp rfl q (fun w s=>r_move q rfl) fun a q=>zp rfl q (fun w s=>r_move q rfl) fun a q=>?_
 obtain ⟨y_108,h_109,H⟩:=bs H
 obtain ⟨b_110,o_111,c_112,cs_113,hv_114,hr_115,hc_116,h_1090,h_1091⟩:=h1_0.ix h_109
 subst hr_115
 refine zp rfl q (fun w s=>r_indexAddr_R underlying53 sizeOf52 hv_114 h_1090 h_1091 q rfl rfl) fun a q=>zp rfl q (fun w s=>r_loadA (cs:=(cV y_108)) isAgg52 sizeOf52 rfl q rfl (fun j v hv=>(s.ra hRA nil_not).cell (hc_116 j v hv))) fun a q=>zp rfl q (fun w s=>r_sne (by kernel_rfl) (eqs52 y_99 y_108) q rfl rfl) fun a q=>?_
 refine wpPar_nil (NoP_nil ?_)
 refine wp_cond_split (q.ev rfl) (fun (hb_117 : (!decide (y_99 = y_108)) = true)=>?_) fun hb_117=>?_
 rw [ifb_t hb_117] at H
 refine zq<|zr<|za q rfl fun a q=>zn ?_
 obtain rfl:=Option.some.inj H
 refine wp_ret ?_
 repeat first | refine zt ?_ | refine zb ?_ | refine zo ?_
 exact ret_1 results59 q (rv_tmp q rfl) ⟨rfl,s.bel⟩
 rw [ifb_f hb_117] at H
 refine wp_skip<|zr<|zm q rfl fun a q=>zl q (r_ibin q rfl rfl rfl) fun a q=>za q rfl fun a q=>zn ?_
 exact ⟨_,Nat.lt_succ_self _,(IntKind.i64.wrap (x_40 + 1)),H,q.sub (zc (zc (zc (zc zz)))),s⟩
 rw [ifb_f hb_80] at H
 refine wp_exit ?_
 refine zq<|zr<|za q rfl fun a q=>zn ?_
 obtain rfl:=Option.some.inj H
 refine wp_ret ?_
 repeat first | refine zt ?_ | refine zb ?_ | refine zo ?_
 exact ret_1 results59 q (rv_tmp q rfl) ⟨rfl,s.bel⟩
theorem ref01_order.calls (a0 : Int) (a1 : Int) {r : Int} (H : ref01_order a0 a1 = some r) (w0 : World) : CallsV prog 66 #[I6 a0,I6 a1] w0 (I6 r):=by
 unfold ref01_order at H
 refine enter (args:=[I6 a0,I6 a1]) func66 rfl ntmps66 rfl fun a q=>?_
 have s:=St.init (R:=fun _=>none) (w:=w0) (fun _ _ h=>by cases h)
 have hRL:=RLe.refl (M:=[]) w0 (fun _=>none)
 refine zq<|zr<|za q rfl fun a q=>zn<|zq<|zq<|zr<|zm q rfl fun a q=>zm q rfl fun a q=>zl q (r_ibin q rfl rfl rfl) fun a q=>zn ?_
 refine wp_cond_split (q.ev rfl) (fun (hb_1 : (decide (a0 < a1)) = true)=>?_) fun hb_1=>?_
 rw [ifb_t hb_1] at H
 refine zq<|zr<|za q rfl fun a q=>zn ?_
 obtain rfl:=Option.some.inj H
 refine wp_ret ?_
 repeat first | refine zt ?_ | refine zb ?_ | refine zo ?_
 exact ret_1 results66 q (rv_tmp q rfl) ⟨rfl,s.bel⟩
 rw [ifb_f hb_1] at H
 refine wp_skip<|zq<|zq<|zr<|zm q rfl fun a q=>zm q rfl fun a q=>zl q (r_ibin q rfl rfl rfl) fun a q=>zn ?_
 refine wp_cond_split (q.ev rfl) (fun (hb_2 : (decide (a0 > a1)) = true)=>?_) fun hb_2=>?_
 rw [ifb_t hb_2] at H
 refine zq<|zr<|za q rfl fun a q=>zn ?_
 obtain rfl:=Option.some.inj H
 refine wp_ret ?_
 repeat first | refine zt ?_ | refine zb ?_ | refine zo ?_
 exact ret_1 results66 q (rv_tmp q rfl) ⟨rfl,s.bel⟩
 rw [ifb_f hb_2] at H
 refine wp_skip<|zq<|zr<|za q rfl fun a q=>zn ?_
 obtain rfl:=Option.some.inj H
 refine wp_ret ?_
 repeat first | refine zt ?_ | refine zb ?_ | refine zo ?_
 exact ret_1 results66 q (rv_tmp q rfl) ⟨rfl,s.bel⟩
theorem ref01_Compare.calls (a0 : api_Value) (a1 : api_Value) {r : Int} (H : ref01_Compare a0 a1 = some r) (w0 : World) : CallsV prog 46 #[.agg ⟨cV a0⟩,.agg ⟨cV a1⟩] w0 (I6 r):=by
 unfold ref01_Compare at H
 refine enter (args:=[.agg ⟨cV a0⟩,.agg ⟨cV a1⟩]) func46 rfl ntmps46 rfl fun a q=>?_
 have s:=St.init (R:=fun _=>none) (w:=w0) (fun _ _ h=>by cases h)
 have hRL:=RLe.refl (M:=[]) w0 (fun _=>none)
 refine zq<|zr ?_
 refine sl_box s q (by decide) rfl rfl (c:=(cV a0)) rfl fun a w b_1 s q=>?_
 refine sl_box s q (by decide) rfl rfl (c:=(cV a1)) rfl fun a w b_2 s q=>?_
 refine za q rfl fun a q=>zn<|zq<|zq<|zr<|zl q (r_fieldAddr underlying52 rfl sizeOf3 q rfl) fun a q=>zl q (r_load isAgg3 q rfl (s.cell z1 rfl)) fun a q=>zl q (r_fieldAddr underlying52 rfl sizeOf3 q rfl) fun a q=>zl q (r_load isAgg3 q rfl (s.cell z0 rfl)) fun a q=>zl q (r_ibin q rfl rfl rfl) fun a q=>zn ?_
 refine wp_cond_split (q.ev rfl) (fun (hb_3 : (a0.Kind != a1.Kind) = true)=>?_) fun hb_3=>?_
 rw [ifb_t hb_3] at H
 refine zq<|zr<|zl q (r_fieldAddr underlying52 rfl sizeOf3 q rfl) fun a q=>zl q (r_load isAgg3 q rfl (s.cell z1 rfl)) fun a q=>zl q (r_fieldAddr underlying52 rfl sizeOf3 q rfl) fun a q=>zl q (r_load isAgg3 q rfl (s.cell z0 rfl)) fun a q=>?_
 obtain ⟨y_4,h_5,H⟩:=bs H
 refine sl_callV call66 s q (by decide) rfl rfl rfl (ref01_order.calls a0.Kind a1.Kind h_5 _) fun a w s q=>?_
 refine za q rfl fun a q=>zn ?_
 obtain rfl:=Option.some.inj H
 refine wp_ret ?_
 repeat first | refine zt ?_ | refine zb ?_ | refine zo ?_
 exact ret_1 results46 q (rv_tmp q rfl) ⟨rfl,s.bel⟩
 rw [ifb_f hb_3] at H
 refine wp_skip<|zq<|zq<|zr<|zl q (r_fieldAddr underlying52 rfl sizeOf3 q rfl) fun a q=>zl q (r_load isAgg3 q rfl (s.cell z1 rfl)) fun a q=>zl q (r_fieldAddr underlying52 rfl sizeOf3 q rfl) fun a q=>zl q (r_load isAgg3 q rfl (s.cell z0 rfl)) fun a q=>zl q (r_ibin q rfl rfl rfl) fun a q=>zn ?_
 refine wp_cond_split (q.ev rfl) (fun (hb_6 : (a0.N != a1.N) = true)=>?_) fun hb_6=>?_
 rw [ifb_t hb_6] at H
 refine zq<|zr<|zl q (r_fieldAddr underlying52 rfl sizeOf3 q rfl) fun a q=>zl q (r_load isAgg3 q rfl (s.cell z1 rfl)) fun a q=>zl q (r_fieldAddr underlying52 rfl sizeOf3 q rfl) fun a q=>zl q (r_load isAgg3 q rfl (s.cell z0 rfl)) fun a q=>?_
 obtain ⟨y_7,h_8,H⟩:=bs H
 refine sl_callV call66 s q (by decide) rfl rfl rfl (ref01_order.calls a0.N a1.N h_8 _) fun a w s q=>?_
 refine za q rfl fun a q=>zn ?_
 obtain rfl:=Option.some.inj H
 refine wp_ret ?_
 repeat first | refine zt ?_ | refine zb ?_ | refine zo ?_
 exact ret_1 results46 q (rv_tmp q rfl) ⟨rfl,s.bel⟩
 rw [ifb_f hb_6] at H
 refine wp_skip<|zq<|zq<|zr<|za q rfl fun a q=>zn ?_
 refine wp_block ?_
 refine wp_loop_k (fun k_l0 a w=>∃ (x_36 : Int),ref01_Compare.l0 a0 a1 k_l0 x_36 = some r ∧ Kn 97 a [(2,.pointer (some ⟨b_1,0,none⟩)),(3,.pointer (some ⟨b_2,0,none⟩)),(5,I6 x_36)] ∧ St [] w0 w (fun _=>none) [.cells b_1 (cV a0) 52,.cells b_2 (cV a1) 52]) (((a0.S.size : Int) - 0).toNat + 1) ?_ ?_
 have s:=s.pk1
 exact ⟨0,H,q.sub (zc (zc (zc zz))),s⟩
 rintro k_l0 a w ⟨x_36,H,q,s⟩
 rcases k_l0 with _ | k_l0
 cases H
 rw [ref01_Compare.l0.eq_2] at H
 refine zq<|zq ?_
 refine wp_mid (fun a w=>∃ (x_66 : Bool),ref01_Compare.j1 (ref01_Compare.l0 a0 a1 k_l0) a0 a1 x_36 x_66 = some r ∧ Kn 97 a [(2,.pointer (some ⟨b_1,0,none⟩)),(3,.pointer (some ⟨b_2,0,none⟩)),(5,I6 x_36),(38,.bool x_66)] ∧ St [] w0 w (fun _=>none) [.cells b_1 (cV a0) 52,.cells b_2 (cV a1) 52]) ?_ ?_
 refine zr<|zm q rfl fun a q=>zl q (r_fieldAddr underlying52 rfl sizeOf9 q rfl) fun a q=>zl q (r_load isAgg9 q rfl (s.cell z0 rfl)) fun a q=>zl q (r_len_str underlying9 q rfl) fun a q=>zl q (r_ibin q rfl rfl rfl) fun a q=>zm q rfl fun a q=>?_
 rcases or_b (decide (x_36 < (a0.S.size : Int))) with hb_68 | hb_68
 rw [ifb_t hb_68] at H
 refine zw q (wtt hb_68) (r_move q rfl) fun a q=>zw q (wtt hb_68) (r_fieldAddr underlying52 rfl sizeOf9 q rfl) fun a q=>zw q (wtt hb_68) (r_load isAgg9 q rfl (s.cell z1 rfl)) fun a q=>zw q (wtt hb_68) (r_len_str underlying9 q rfl) fun a q=>zw q (wtt hb_68) (r_ibin q rfl rfl rfl) fun a q=>zl q (r_pick_t hb_68 q rfl rfl) fun a q=>zn ?_
 have s:=s.pk1
 have s:=s.pk1
 exact ⟨(decide (x_36 < (a1.S.size : Int))),H,q.sub (zc (zc (zc (zc zz)))),s⟩
 rw [ifb_f hb_68] at H
 refine zsw q (wtf hb_68) fun a q=>zsw q (wtf hb_68) fun a q=>zsw q (wtf hb_68) fun a q=>zsw q (wtf hb_68) fun a q=>zsw q (wtf hb_68) fun a q=>zl q (r_pick_f hb_68 q rfl rfl) fun a q=>zn ?_
 have s:=s.pk1
 have s:=s.pk1
 exact ⟨false,H,q.sub (zc (zc (zc (zc zz)))),s⟩
 rintro a w ⟨x_66,H,q,s⟩
 unfold ref01_Compare.j1 at H
 refine wp_cond_split (q.ev rfl) (fun (hb_69 : x_66 = true)=>?_) fun hb_69=>?_
 rw [ifb_t hb_69] at H
 refine wp_skip<|zq ?_
 refine wp_block ?_
 refine zq ?_
 refine par_region (C:=fun w=>St [] w0 w (fun _=>none) [.cells b_1 (cV a0) 52,.cells b_2 (cV a1) 52]) [(0,true),(1,true),(2,true),(3,true),(4,true),(5,true),(6,true),(7,true),(8,true)] mixed (by kernel_rfl) s (fun w s=>s) fun w s=>?_
 refine zp rfl q (fun w s=>r_fieldAddr underlying52 rfl sizeOf9 q rfl) fun a q=>zp rfl q (fun w s=>r_load isAgg9 q rfl (s.cell z0 rfl)) fun a q=>zp rfl q (fun w s=>r_move q rfl) fun a q=>?_
 obtain ⟨y_74,h_75,H⟩:=bs H
 refine zp rfl q (fun w s=>r_index_str' underlying9 h_75 q rfl rfl) fun a q=>zp rfl q (fun w s=>r_fieldAddr underlying52 rfl sizeOf9 q rfl) fun a q=>zp rfl q (fun w s=>r_load isAgg9 q rfl (s.cell z1 rfl)) fun a q=>zp rfl q (fun w s=>r_move q rfl) fun a q=>?_
 obtain ⟨y_76,h_77,H⟩:=bs H
 refine zp rfl q (fun w s=>r_index_str' underlying9 h_77 q rfl rfl) fun a q=>zp rfl q (fun w s=>r_ibin q rfl rfl rfl) fun a q=>?_
 refine wpPar_nil (NoP_nil ?_)
 refine wp_cond_split (q.ev rfl) (fun (hb_78 : (y_74 != y_76) = true)=>?_) fun hb_78=>?_
 rw [ifb_t hb_78] at H
 refine zq ?_
 refine parT_region (C:=fun w=>St [] w0 w (fun _=>none) [.cells b_1 (cV a0) 52,.cells b_2 (cV a1) 52]) 10 [(0,true),(1,true),(2,true),(3,true),(4,true),(5,true),(6,true),(7,true),(8,true),(9,true)] mixed (by kernel_rfl) s (fun w s=>s) fun w s=>?_
 refine zp rfl q (fun w s=>r_fieldAddr underlying52 rfl sizeOf9 q rfl) fun a q=>zp rfl q (fun w s=>r_load isAgg9 q rfl (s.cell z0 rfl)) fun a q=>zp rfl q (fun w s=>r_move q rfl) fun a q=>?_
 obtain ⟨y_85,h_86,H⟩:=bs H
 refine zp rfl q (fun w s=>r_index_str' underlying9 h_86 q rfl rfl) fun a q=>zp rfl q (fun w s=>r_conv underlying5 underlying3 q rfl) fun a q=>zp rfl q (fun w s=>r_fieldAddr underlying52 rfl sizeOf9 q rfl) fun a q=>zp rfl q (fun w s=>r_load isAgg9 q rfl (s.cell z1 rfl)) fun a q=>zp rfl q (fun w s=>r_move q rfl) fun a q=>?_
 obtain ⟨y_87,h_88,H⟩:=bs H
 refine zp rfl q (fun w s=>r_index_str' underlying9 h_88 q rfl rfl) fun a q=>zp rfl q (fun w s=>r_conv underlying5 underlying3 q rfl) fun a q=>?_
 refine thenL_nil ?_
 obtain ⟨y_89,h_90,H⟩:=bs H
 refine sl_callV call66 s q (by decide) rfl rfl rfl (ref01_order.calls (IntKind.i64.wrap y_85) (IntKind.i64.wrap y_87) h_90 _) fun a w s q=>?_
 refine za q rfl fun a q=>?_
 refine wpList_nil (NoP_nil ?_)
 obtain rfl:=Option.some.inj H
 refine wp_ret ?_
 repeat first | refine zt ?_ | refine zb ?_ | refine zo ?_
 exact ret_1 results46 q (rv_tmp q rfl) ⟨rfl,s.bel⟩
 rw [ifb_f hb_78] at H
 refine wp_skip<|zr<|zm q rfl fun a q=>zl q (r_ibin q rfl rfl rfl) fun a q=>za q rfl fun a q=>zn ?_
 have s:=s.pk1
 have s:=s.pk1
 exact ⟨_,Nat.lt_succ_self _,(IntKind.i64.wrap (x_36 + 1)),H,q.sub (zc (zc (zc zz))),s⟩
 rw [ifb_f hb_69] at H
 refine wp_exit ?_
 refine zq<|zq<|zr<|zl q (r_fieldAddr underlying52 rfl sizeOf9 q rfl) fun a q=>zl q (r_load isAgg9 q rfl (s.cell z0 rfl)) fun a q=>zl q (r_len_str underlying9 q rfl) fun a q=>zl q (r_fieldAddr underlying52 rfl sizeOf9 q rfl) fun a q=>zl q (r_load isAgg9 q rfl (s.cell z1 rfl)) fun a q=>zl q (r_len_str underlying9 q rfl) fun a q=>zl q (r_ibin q rfl rfl rfl) fun a q=>zn ?_
 refine wp_cond_split (q.ev rfl) (fun (hb_91 : ((a0.S.size : Int) != (a1.S.size : Int)) = true)=>?_) fun hb_91=>?_
 rw [ifb_t hb_91] at H
 refine zq<|zr<|zl q (r_fieldAddr underlying52 rfl sizeOf9 q rfl) fun a q=>zl q (r_load isAgg9 q rfl (s.cell z0 rfl)) fun a q=>zl q (r_len_str underlying9 q rfl) fun a q=>zl q (r_fieldAddr underlying52 rfl sizeOf9 q rfl) fun a q=>zl q (r_load isAgg9 q rfl (s.cell z1 rfl)) fun a q=>zl q (r_len_str underlying9 q rfl) fun a q=>?_
 obtain ⟨y_92,h_93,H⟩:=bs H
 refine sl_callV call66 s q (by decide) rfl rfl rfl (ref01_order.calls (a0.S.size : Int) (a1.S.size : Int) h_93 _) fun a w s q=>?_
 refine za q rfl fun a q=>zn ?_
 obtain rfl:=Option.some.inj H
 refine wp_ret ?_
 repeat first | refine zt ?_ | refine zb ?_ | refine zo ?_
 exact ret_1 results46 q (rv_tmp q rfl) ⟨rfl,s.bel⟩
 rw [ifb_f hb_91] at H
 refine wp_skip<|zq<|zq<|zr<|za q rfl fun a q=>zn ?_
 refine wp_block ?_
 refine wp_loop_k (fun k_l2 a w=>∃ (x_100 : Int),ref01_Compare.l2 a0 a1 k_l2 x_100 = some r ∧ Kn 97 a [(2,.pointer (some ⟨b_1,0,none⟩)),(3,.pointer (some ⟨b_2,0,none⟩)),(6,I6 x_100)] ∧ St [] w0 w (fun _=>none) [.cells b_1 (cV a0) 52,.cells b_2 (cV a1) 52]) (((8 : Int) - 0).toNat + 1) ?_ ?_
 have s:=s.pk1
 have s:=s.pk1
 exact ⟨0,H,q.sub (zc (zc (zc zz))),s⟩
 rintro k_l2 a w ⟨x_100,H,q,s⟩
 rcases k_l2 with _ | k_l2
 cases H
 rw [ref01_Compare.l2.eq_2] at H
 refine zq<|zq<|zr<|zm q rfl fun a q=>zl q (r_ibin q rfl rfl rfl) fun a q=>zn ?_
 refine wp_cond_split (q.ev rfl) (fun (hb_124 : (decide (x_100 < 8)) = true)=>?_) fun hb_124=>?_
 rw [ifb_t hb_124] at H
 refine wp_skip<|zq ?_
 refine wp_block ?_
 refine zq ?_
 refine par_region (C:=fun w=>St [] w0 w (fun _=>none) [.cells b_1 (cV a0) 52,.cells b_2 (cV a1) 52]) [(0,true),(1,true),(2,true),(3,true),(4,true),(5,true),(6,true),(7,true),(8,true)] mixed (by kernel_rfl) s (fun w s=>s) fun w s=>?_
 refine zp rfl q (fun w s=>r_move q rfl) fun a q=>zp rfl q (fun w s=>r_fieldAddr underlying52 rfl sizeOf50 q rfl) fun a q=>?_
 obtain ⟨y_129,h_130,H⟩:=bs H
 refine zp rfl q (fun w s=>r_indexAddr_arr underlying50 sizeOf3 q rfl rfl (Arr8.ix_lt h_130).1 (Arr8.ix_lt h_130).2) fun a q=>zp rfl q (fun w s=>r_load isAgg3 q rfl (s.cell z0 (Arr8.ix_cells h_130 [I6 a0.Kind,I6 a0.N,.string a0.S] [] rfl))) fun a q=>zp rfl q (fun w s=>r_move q rfl) fun a q=>zp rfl q (fun w s=>r_fieldAddr underlying52 rfl sizeOf50 q rfl) fun a q=>?_
 obtain ⟨y_131,h_132,H⟩:=bs H
 refine zp rfl q (fun w s=>r_indexAddr_arr underlying50 sizeOf3 q rfl rfl (Arr8.ix_lt h_132).1 (Arr8.ix_lt h_132).2) fun a q=>zp rfl q (fun w s=>r_load isAgg3 q rfl (s.cell z1 (Arr8.ix_cells h_132 [I6 a1.Kind,I6 a1.N,.string a1.S] [] rfl))) fun a q=>zp rfl q (fun w s=>r_ibin q rfl rfl rfl) fun a q=>?_
 refine wpPar_nil (NoP_nil ?_)
 refine wp_cond_split (q.ev rfl) (fun (hb_133 : (y_129 != y_131) = true)=>?_) fun hb_133=>?_
 rw [ifb_t hb_133] at H
 refine zq ?_
 refine parT_region (C:=fun w=>St [] w0 w (fun _=>none) [.cells b_1 (cV a0) 52,.cells b_2 (cV a1) 52]) 8 [(0,true),(1,true),(2,true),(3,true),(4,true),(5,true),(6,true),(7,true)] mixed (by kernel_rfl) s (fun w s=>s) fun w s=>?_
 refine zp rfl q (fun w s=>r_move q rfl) fun a q=>zp rfl q (fun w s=>r_fieldAddr underlying52 rfl sizeOf50 q rfl) fun a q=>?_
 obtain ⟨y_140,h_141,H⟩:=bs H
 refine zp rfl q (fun w s=>r_indexAddr_arr underlying50 sizeOf3 q rfl rfl (Arr8.ix_lt h_141).1 (Arr8.ix_lt h_141).2) fun a q=>zp rfl q (fun w s=>r_load isAgg3 q rfl (s.cell z0 (Arr8.ix_cells h_141 [I6 a0.Kind,I6 a0.N,.string a0.S] [] rfl))) fun a q=>zp rfl q (fun w s=>r_move q rfl) fun a q=>zp rfl q (fun w s=>r_fieldAddr underlying52 rfl sizeOf50 q rfl) fun a q=>?_
 obtain ⟨y_142,h_143,H⟩:=bs H
 refine zp rfl q (fun w s=>r_indexAddr_arr underlying50 sizeOf3 q rfl rfl (Arr8.ix_lt h_143).1 (Arr8.ix_lt h_143).2) fun a q=>zp rfl q (fun w s=>r_load isAgg3 q rfl (s.cell z1 (Arr8.ix_cells h_143 [I6 a1.Kind,I6 a1.N,.string a1.S] [] rfl))) fun a q=>?_
 refine thenL_nil ?_
 obtain ⟨y_144,h_145,H⟩:=bs H
 refine sl_callV call66 s q (by decide) rfl rfl rfl (ref01_order.calls y_140 y_142 h_145 _) fun a w s q=>?_
 refine za q rfl fun a q=>?_
 refine wpList_nil (NoP_nil ?_)
 obtain rfl:=Option.some.inj H
 refine wp_ret ?_
 repeat first | refine zt ?_ | refine zb ?_ | refine zo ?_
 exact ret_1 results46 q (rv_tmp q rfl) ⟨rfl,s.bel⟩
 rw [ifb_f hb_133] at H
 refine wp_skip<|zr<|zm q rfl fun a q=>zl q (r_ibin q rfl rfl rfl) fun a q=>za q rfl fun a q=>zn ?_
 have s:=s.pk1
 have s:=s.pk1
 exact ⟨_,Nat.lt_succ_self _,(IntKind.i64.wrap (x_100 + 1)),H,q.sub (zc (zc (zc zz))),s⟩
 rw [ifb_f hb_124] at H
 refine wp_exit ?_
 refine zq<|zr<|za q rfl fun a q=>zn ?_
 obtain rfl:=Option.some.inj H
 refine wp_ret ?_
 repeat first | refine zt ?_ | refine zb ?_ | refine zo ?_
 exact ret_1 results46 q (rv_tmp q rfl) ⟨rfl,s.bel⟩
theorem ref01_Add.calls (a0 : api_Value) (a1 : api_Value) {r : api_Value × Int} (H : ref01_Add a0 a1 = some r) (w0 : World) : CallsV prog 83 #[.agg ⟨cV a0⟩,.agg ⟨cV a1⟩] w0 (.tuple #[.agg ⟨cV r.1⟩,I6 r.2]):=by
 unfold ref01_Add at H
 refine enter (args:=[.agg ⟨cV a0⟩,.agg ⟨cV a1⟩]) func83 rfl ntmps83 rfl fun a q=>?_
 have s:=St.init (R:=fun _=>none) (w:=w0) (fun _ _ h=>by cases h)
 have hRL:=RLe.refl (M:=[]) w0 (fun _=>none)
 refine zq<|zr ?_
 refine sl_box s q (by decide) rfl rfl (c:=(cV a0)) rfl fun a w b_1 s q=>?_
 refine sl_box s q (by decide) rfl rfl (c:=(cV a1)) rfl fun a w b_2 s q=>?_
 refine sl_alloc zeroValue52 s q (by decide) rfl rfl fun a w b_3 s q=>?_
 refine za q rfl fun a q=>zn<|zq<|zq ?_
 refine wp_mid (fun a w=>∃ (x_12 : Bool),ref01_Add.j0 a0 a1 x_12 = some r ∧ Kn 58 a [(2,.pointer (some ⟨b_1,0,none⟩)),(3,.pointer (some ⟨b_2,0,none⟩)),(4,.pointer (some ⟨b_3,0,none⟩)),(32,.bool x_12)] ∧ St [] w0 w (fun _=>none) [.cells b_1 (cV a0) 52,.cells b_2 (cV a1) 52,.cells b_3 [I6 0,I6 0,.string (⟨#[]⟩ : ByteArray),I6 0,I6 0,I6 0,I6 0,I6 0,I6 0,I6 0,I6 0] 52]) ?_ ?_
 refine zr<|zl q (r_loadA (cs:=(cV a0)) isAgg52 sizeOf52 rfl q rfl (s.cells_of (m:=11) z2 rfl)) fun a q=>?_
 obtain ⟨y_14,h_15,H⟩:=bs H
 refine sl_callV call41 s q (by decide) rfl rfl rfl (ref01_Valid.calls a0 h_15 _) fun a w s q=>?_
 refine zl q (r_un q rfl (u_not _)) fun a q=>zm q rfl fun a q=>?_
 rcases or_b (!y_14) with hb_16 | hb_16
 rw [ifb_t hb_16] at H
 refine zsw q (wft hb_16) fun a q=>zsw q (wft hb_16) fun a q=>zsw q (wft hb_16) fun a q=>zl q (r_pick_t hb_16 q rfl rfl) fun a q=>zm q rfl fun a q=>zs q fun a q=>zs q fun a q=>zs q fun a q=>zs q fun a q=>zs q fun a q=>zl q (r_pick q rfl rfl rfl) fun a q=>zm q rfl fun a q=>zs q fun a q=>zs q fun a q=>zs q fun a q=>zs q fun a q=>zs q fun a q=>zs q fun a q=>zs q fun a q=>zs q fun a q=>zl q (r_pick q rfl rfl rfl) fun a q=>zn ?_
 have s:=s.pk1
 have s:=s.pk2
 exact ⟨true,H,q.sub (zc (zc (zc (zc zz)))),s⟩
 rw [ifb_f hb_16] at H
 refine zw q (wff hb_16) (r_loadA (cs:=(cV a1)) isAgg52 sizeOf52 rfl q rfl (s.cells_of (m:=11) z1 rfl)) fun a q=>?_
 obtain ⟨y_17,h_18,H⟩:=bs H
 refine sl_callV call41 s q (by decide) (wff hb_16) rfl rfl (ref01_Valid.calls a1 h_18 _) fun a w s q=>?_
 refine zw q (wff hb_16) (r_un q rfl (u_not _)) fun a q=>zl q (r_pick_f hb_16 q rfl rfl) fun a q=>zm q rfl fun a q=>?_
 rcases or_b (!y_17) with hb_19 | hb_19
 rw [ifb_t hb_19] at H
 refine zsw q (wft hb_19) fun a q=>zsw q (wft hb_19) fun a q=>zsw q (wft hb_19) fun a q=>zsw q (wft hb_19) fun a q=>zsw q (wft hb_19) fun a q=>zl q (r_pick_t hb_19 q rfl rfl) fun a q=>zm q rfl fun a q=>zs q fun a q=>zs q fun a q=>zs q fun a q=>zs q fun a q=>zs q fun a q=>zs q fun a q=>zs q fun a q=>zs q fun a q=>zl q (r_pick q rfl rfl rfl) fun a q=>zn ?_
 have s:=s.pk1
 have s:=s.pk2
 exact ⟨true,H,q.sub (zc (zc (zc (zc zz)))),s⟩
 rw [ifb_f hb_19] at H
 refine zw q (wff hb_19) (r_fieldAddr underlying52 rfl sizeOf3 q rfl) fun a q=>zw q (wff hb_19) (r_load isAgg3 q rfl (s.cell z2 rfl)) fun a q=>zw q (wff hb_19) (r_fieldAddr underlying52 rfl sizeOf3 q rfl) fun a q=>zw q (wff hb_19) (r_load isAgg3 q rfl (s.cell z1 rfl)) fun a q=>zw q (wff hb_19) (r_ibin q rfl rfl rfl) fun a q=>zl q (r_pick_f hb_19 q rfl rfl) fun a q=>zm q rfl fun a q=>?_
 rcases or_b (a0.Kind != a1.Kind) with hb_20 | hb_20
 rw [ifb_t hb_20] at H
 refine zsw q (wft hb_20) fun a q=>zsw q (wft hb_20) fun a q=>zsw q (wft hb_20) fun a q=>zsw q (wft hb_20) fun a q=>zs q fun a q=>zs q fun a q=>zs q fun a q=>zsw q (wft hb_20) fun a q=>zl q (r_pick_t hb_20 q rfl rfl) fun a q=>zn ?_
 have s:=s.pk1
 have s:=s.pk2
 exact ⟨true,H,q.sub (zc (zc (zc (zc zz)))),s⟩
 rw [ifb_f hb_20] at H
 refine zw q (wff hb_20) (r_fieldAddr underlying52 rfl sizeOf3 q rfl) fun a q=>zw q (wff hb_20) (r_load isAgg3 q rfl (s.cell z2 rfl)) fun a q=>zw q (wff hb_20) (r_ibin q rfl rfl rfl) fun a q=>zw q (wff hb_20) (r_move q rfl) fun a q=>?_
 rcases or_b (a0.Kind != 1) with hb_21 | hb_21
 rw [ifb_t hb_21] at H
 refine zw q (wtt hb_21) (r_fieldAddr underlying52 rfl sizeOf3 q rfl) fun a q=>zw q (wtt hb_21) (r_load isAgg3 q rfl (s.cell z2 rfl)) fun a q=>zw q (wtt hb_21) (r_ibin q rfl rfl rfl) fun a q=>zw q (wff hb_20) (r_pick_t hb_21 q rfl rfl) fun a q=>zl q (r_pick_f hb_20 q rfl rfl) fun a q=>zn ?_
 have s:=s.pk1
 have s:=s.pk2
 exact ⟨(a0.Kind != 4),H,q.sub (zc (zc (zc (zc zz)))),s⟩
 rw [ifb_f hb_21] at H
 refine zsw q (wtf hb_21) fun a q=>zsw q (wtf hb_21) fun a q=>zsw q (wtf hb_21) fun a q=>zw q (wff hb_20) (r_pick_f hb_21 q rfl rfl) fun a q=>zl q (r_pick_f hb_20 q rfl rfl) fun a q=>zn ?_
 have s:=s.pk1
 have s:=s.pk2
 exact ⟨false,H,q.sub (zc (zc (zc (zc zz)))),s⟩
 rintro a w ⟨x_12,H,q,s⟩
 unfold ref01_Add.j0 at H
 refine wp_cond_split (q.ev rfl) (fun (hb_22 : x_12 = true)=>?_) fun hb_22=>?_
 rw [ifb_t hb_22] at H
 refine zq<|zr<|zl q (r_buildC (ps:=[]) (c:=[I6 0,I6 0,.string (⟨#[]⟩ : ByteArray),I6 0,I6 0,I6 0,I6 0,I6 0,I6 0,I6 0,I6 0]) underlying52 zeroValue52 places52 q rfl pc_nil rfl rfl) fun a q=>?_
 have s:=s.pk2
 refine sl_storeA (vs:=[I6 0,I6 0,.string (⟨#[]⟩ : ByteArray),I6 0,I6 0,I6 0,I6 0,I6 0,I6 0,I6 0,I6 0]) (c':=[I6 0,I6 0,.string (⟨#[]⟩ : ByteArray),I6 0,I6 0,I6 0,I6 0,I6 0,I6 0,I6 0,I6 0]) sizeOf52 s q rfl rfl rfl rfl (zc (zc (zc (zc (zc (zc (zc (zc (zc (zc (zc zz))))))))))) (Nat.le_of_ble_eq_true rfl) rfl fun a w s q=>?_
 refine za q rfl fun a q=>zn ?_
 obtain rfl:=Option.some.inj H
 refine wp_ret ?_
 repeat first | refine zt ?_ | refine zb ?_ | refine zo ?_
 exact ret_2 results83 q (rv_cell (c:=[I6 0,I6 0,.string (⟨#[]⟩ : ByteArray),I6 0,I6 0,I6 0,I6 0,I6 0,I6 0,I6 0,I6 0]) isAgg52 sizeOf52 s z0 rfl q rfl) (rv_tmp q rfl) ⟨rfl,s.bel⟩
 rw [ifb_f hb_22] at H
 refine wp_skip<|zq<|zr<|zl q (r_loadA (cs:=(cV a0)) isAgg52 sizeOf52 rfl q rfl (s.cells_of (m:=11) z0 rfl)) fun a q=>?_
 refine sl_alloc zeroValue52 s q (by decide) rfl rfl fun a w b_23 s q=>?_
 refine sl_storeA (vs:=(cV a0)) (c':=(cV a0)) sizeOf52 s q rfl rfl rfl rfl (zc (zc (zc (zc (zc (zc (zc (zc (zc (zc (zc zz))))))))))) (Nat.le_of_ble_eq_true rfl) rfl fun a w s q=>?_
 refine zn<|zq<|zr<|zl q (r_fieldAddr underlying52 rfl sizeOf3 q rfl) fun a q=>zl q (r_load isAgg3 q rfl (s.cell z1 rfl)) fun a q=>zl q (r_fieldAddr underlying52 rfl sizeOf3 q rfl) fun a q=>zl q (r_load isAgg3 q rfl (s.cell z2 rfl)) fun a q=>zl q (r_ibin q rfl rfl rfl) fun a q=>zl q (r_fieldAddr underlying52 rfl sizeOf3 q rfl) fun a q=>?_
 refine sl_store1 (c':=[I6 a0.Kind,I6 (IntKind.i64.wrap (a0.N + a1.N)),.string a0.S,I6 a0.H.a0,I6 a0.H.a1,I6 a0.H.a2,I6 a0.H.a3,I6 a0.H.a4,I6 a0.H.a5,I6 a0.H.a6,I6 a0.H.a7]) sizeOf3 s q rfl rfl rfl rfl (Nat.le_of_ble_eq_true rfl) rfl fun a w s q=>?_
 refine zn<|zq<|zq<|zr<|za q rfl fun a q=>zn ?_
 refine wp_block ?_
 refine wp_loop_k (fun k_l1 a w=>∃ (x_25 : Arr8) (x_26 : Int),ref01_Add.l1 a0 a1 k_l1 x_25 x_26 = some r ∧ Kn 58 a [(2,.pointer (some ⟨b_1,0,none⟩)),(3,.pointer (some ⟨b_2,0,none⟩)),(4,.pointer (some ⟨b_3,0,none⟩)),(6,.pointer (some ⟨b_23,0,none⟩)),(7,I6 x_26)] ∧ St [] w0 w (fun _=>none) [.cells b_1 (cV a0) 52,.cells b_2 (cV a1) 52,.cells b_3 [I6 0,I6 0,.string (⟨#[]⟩ : ByteArray),I6 0,I6 0,I6 0,I6 0,I6 0,I6 0,I6 0,I6 0] 52,.cells b_23 [I6 a0.Kind,I6 (IntKind.i64.wrap (a0.N + a1.N)),.string a0.S,I6 x_25.a0,I6 x_25.a1,I6 x_25.a2,I6 x_25.a3,I6 x_25.a4,I6 x_25.a5,I6 x_25.a6,I6 x_25.a7] 52]) (((8 : Int) - 0).toNat + 1) ?_ ?_
 have s:=s.pk3
 have s:=s.pk3
 have s:=s.pk3
 exact ⟨a0.H,0,H,q.sub (zc (zc (zc (zc (zc zz))))),s⟩
 rintro k_l1 a w ⟨x_25,x_26,H,q,s⟩
 rcases k_l1 with _ | k_l1
 cases H
 rw [ref01_Add.l1.eq_2] at H
 refine zq<|zq<|zr<|zm q rfl fun a q=>zl q (r_ibin q rfl rfl rfl) fun a q=>zn ?_
 refine wp_cond_split (q.ev rfl) (fun (hb_45 : (decide (x_26 < 8)) = true)=>?_) fun hb_45=>?_
 rw [ifb_t hb_45] at H
 refine wp_skip<|zq ?_
 refine wp_block ?_
 refine parT_region (C:=fun w=>St [] w0 w (fun _=>none) [.cells b_1 (cV a0) 52,.cells b_2 (cV a1) 52,.cells b_3 [I6 0,I6 0,.string (⟨#[]⟩ : ByteArray),I6 0,I6 0,I6 0,I6 0,I6 0,I6 0,I6 0,I6 0] 52,.cells b_23 [I6 a0.Kind,I6 (IntKind.i64.wrap (a0.N + a1.N)),.string a0.S,I6 x_25.a0,I6 x_25.a1,I6 x_25.a2,I6 x_25.a3,I6 x_25.a4,I6 x_25.a5,I6 x_25.a6,I6 x_25.a7] 52]) 11 [(0,true),(1,true),(2,true),(3,true),(4,true),(5,true),(6,true),(7,true),(8,true),(9,true),(10,true)] mixed (by kernel_rfl) s (fun w s=>s) fun w s=>?_
 refine zp rfl q (fun w s=>r_move q rfl) fun a q=>zp rfl q (fun w s=>r_move q rfl) fun a q=>zp rfl q (fun w s=>r_fieldAddr underlying52 rfl sizeOf50 q rfl) fun a q=>?_
 obtain ⟨y_54,h_55,H⟩:=bs H
 refine zp rfl q (fun w s=>r_indexAddr_arr underlying50 sizeOf3 q rfl rfl (Arr8.ix_lt h_55).1 (Arr8.ix_lt h_55).2) fun a q=>zp rfl q (fun w s=>r_load isAgg3 q rfl (s.cell z0 (Arr8.ix_cells h_55 [I6 a0.Kind,I6 a0.N,.string a0.S] [] rfl))) fun a q=>zp rfl q (fun w s=>r_move q rfl) fun a q=>zp rfl q (fun w s=>r_fieldAddr underlying52 rfl sizeOf50 q rfl) fun a q=>?_
 obtain ⟨y_56,h_57,H⟩:=bs H
 refine zp rfl q (fun w s=>r_indexAddr_arr underlying50 sizeOf3 q rfl rfl (Arr8.ix_lt h_57).1 (Arr8.ix_lt h_57).2) fun a q=>zp rfl q (fun w s=>r_load isAgg3 q rfl (s.cell z1 (Arr8.ix_cells h_57 [I6 a1.Kind,I6 a1.N,.string a1.S] [] rfl))) fun a q=>zp rfl q (fun w s=>r_ibin q rfl rfl rfl) fun a q=>zp rfl q (fun w s=>r_fieldAddr underlying52 rfl sizeOf50 q rfl) fun a q=>?_
 refine thenL_nil ?_
 obtain ⟨y_58,h_59,H⟩:=bs H
 refine zl q (r_indexAddr_arr underlying50 sizeOf3 q rfl rfl (Arr8.ix_lt h_59).1 (Arr8.ix_lt h_59).2) fun a q=>?_
 obtain ⟨y_60,h_61,H⟩:=bs H
 have s:=s.pk3
 refine sl_store1 (c':=[I6 a0.Kind,I6 (IntKind.i64.wrap (a0.N + a1.N)),.string a0.S,I6 y_60.a0,I6 y_60.a1,I6 y_60.a2,I6 y_60.a3,I6 y_60.a4,I6 y_60.a5,I6 y_60.a6,I6 y_60.a7]) sizeOf3 s q rfl rfl rfl rfl (Arr8.put_lt h_61 (Nat.le_of_ble_eq_true rfl)) (Arr8.put_cells h_61 [I6 a0.Kind,I6 (IntKind.i64.wrap (a0.N + a1.N)),.string a0.S] [] rfl) fun a w s q=>?_
 refine wpList_nil (NoP_nil ?_)
 refine zr<|zm q rfl fun a q=>zl q (r_ibin q rfl rfl rfl) fun a q=>za q rfl fun a q=>zn ?_
 have s:=s.pk3
 have s:=s.pk3
 have s:=s.pk3
 exact ⟨_,Nat.lt_succ_self _,y_60,(IntKind.i64.wrap (x_26 + 1)),H,q.sub (zc (zc (zc (zc (zc zz))))),s⟩
 rw [ifb_f hb_45] at H
 refine wp_exit ?_
 refine zq<|zr<|zl q (r_loadA (cs:=[I6 a0.Kind,I6 (IntKind.i64.wrap (a0.N + a1.N)),.string a0.S,I6 x_25.a0,I6 x_25.a1,I6 x_25.a2,I6 x_25.a3,I6 x_25.a4,I6 x_25.a5,I6 x_25.a6,I6 x_25.a7]) isAgg52 sizeOf52 rfl q rfl (s.cells_of (m:=11) z3 rfl)) fun a q=>?_
 have s:=s.pk2
 refine sl_storeA (vs:=[I6 a0.Kind,I6 (IntKind.i64.wrap (a0.N + a1.N)),.string a0.S,I6 x_25.a0,I6 x_25.a1,I6 x_25.a2,I6 x_25.a3,I6 x_25.a4,I6 x_25.a5,I6 x_25.a6,I6 x_25.a7]) (c':=[I6 a0.Kind,I6 (IntKind.i64.wrap (a0.N + a1.N)),.string a0.S,I6 x_25.a0,I6 x_25.a1,I6 x_25.a2,I6 x_25.a3,I6 x_25.a4,I6 x_25.a5,I6 x_25.a6,I6 x_25.a7]) sizeOf52 s q rfl rfl rfl rfl (zc (zc (zc (zc (zc (zc (zc (zc (zc (zc (zc zz))))))))))) (Nat.le_of_ble_eq_true rfl) rfl fun a w s q=>?_
 refine za q rfl fun a q=>zn ?_
 obtain rfl:=Option.some.inj H
 refine wp_ret ?_
 repeat first | refine zt ?_ | refine zb ?_ | refine zo ?_
 exact ret_2 results83 q (rv_cell (c:=[I6 a0.Kind,I6 (IntKind.i64.wrap (a0.N + a1.N)),.string a0.S,I6 x_25.a0,I6 x_25.a1,I6 x_25.a2,I6 x_25.a3,I6 x_25.a4,I6 x_25.a5,I6 x_25.a6,I6 x_25.a7]) isAgg52 sizeOf52 s z0 rfl q rfl) (rv_tmp q rfl) ⟨rfl,s.bel⟩
theorem ref18_laid.calls (a0 : List api_Value) (a1 : List api_Value) (a2 : Int) (a3 : List api_Agg) {w0 : World} {R : Hp} {RA : Hp} {v0_0 : Value} {v1_0 : Value} {v3_0 : Value} (hRA : RA.sub w0) (hR : R.sub w0) (h0_0 : SlR ty_api_Value RA v0_0 a0) (h1_0 : SlR ty_api_Value RA v1_0 a1) (h3_0 : SlR ty_api_Agg RA v3_0 a3) {r : List api_Value} (H : ref18_laid a0 a1 a2 a3 = some r) : Calls prog 60 #[v0_0,v1_0,I6 a2,v3_0] w0 (Rets fun v w'=>∃ (R' : Hp) (u0 : Value) (cu0 : List Value),v = u0 ∧ St [] w0 w' R' [.row 52 11 u0 r.length cu0] ∧ RLe [] w0 R R' ∧ Reps ty_api_Value R' cu0 r):=by
 unfold ref18_laid at H
 refine enter (args:=[v0_0,v1_0,I6 a2,v3_0]) func60 rfl ntmps60 rfl fun a q=>?_
 have s:=St.init hR
 have hRL:=RLe.refl (M:=[]) w0 R
 refine zq<|zr<|za q rfl fun a q=>zn<|zq<|zr ?_
 refine sl_buildSliceC (zc:=[I6 0,I6 0,.string (⟨#[]⟩ : ByteArray),I6 0,I6 0,I6 0,I6 0,I6 0,I6 0,I6 0,I6 0]) (zs:=[]) (ps:=[]) (c:=[]) underlying53 sizeOf52 zeroValue52 rfl pc_nil rfl rfl (by decide) (by kernel_rfl) rfl s q (by decide) rfl fun a w b_1 s q=>?_
 refine zm q rfl fun a q=>zm q rfl fun a q=>?_
 obtain ⟨y_2,h_3,H⟩:=bs H
 obtain ⟨v_4,hs_5,hr_6⟩:=r_slice_R (x:=.tmp 18) (lo:=none) (hi:=some (.tmp 19)) underlying53 sizeOf52 h0_0 h_3 q rfl rfl ⟨_,rfl⟩
 refine zl q (hr_6 _ _ _ _ _ _ _ q) fun a q=>?_
 obtain ⟨y_9,h_10,H⟩:=bs H
 have s:=s.row_lit (size:=11) (m:=0) rfl (by decide)
 have hq_8 : Reps ty_api_Value R [] ([] : List api_Value):=(Reps.nil _ _)
 refine sl_append_A elT53 (by decide) rfl (fun _ _ _ _ h=>h) (s.ra hRA nil_not) hq_8 rfl hs_5 h_10 s q (by decide) rfl rfl rfl fun a w v_11 cs_12 hq_13 s q=>?_
 refine za q rfl fun a q=>zn<|zq<|zr<|zm q rfl fun a q=>za q rfl fun a q=>zn<|zq<|zq<|zr<|za q rfl fun a q=>zn ?_
 refine wp_block ?_
 refine wp_loop_k (fun k_l0 a w=>∃ (x_805 : List api_Value) (x_809 : Int) (x_810 : Int) (v_806 : Value) (cs_807 : List Value),ref18_laid.l0 a0 a1 a3 k_l0 x_805 x_809 x_810 = some r ∧ Reps ty_api_Value R cs_807 x_805 ∧ Kn 125 a [(0,v0_0),(1,v1_0),(3,v3_0),(9,v_806),(10,I6 x_809),(11,I6 x_810)] ∧ St [] w0 w R [.row 52 11 v_806 x_805.length cs_807]) (((a3.length : Int) - 0).toNat + 1) ?_ ?_
 exact ⟨y_9,a2,0,_,_,H,hq_13,q.sub (zc (zc (zc (zc (zc (zc zz)))))),s⟩
 rintro k_l0 a w ⟨x_805,x_809,x_810,v_806,cs_807,H,hq_808,q,s⟩
 rcases k_l0 with _ | k_l0
 cases H
 rw [ref18_laid.l0.eq_2] at H
 refine zq<|zq<|zr<|zm q rfl fun a q=>zm q rfl fun a q=>zl q (r_len_R underlying24 h3_0 q rfl) fun a q=>zl q (r_ibin q rfl rfl rfl) fun a q=>zn ?_
 refine wp_cond_split (q.ev rfl) (fun (hb_1600 : (decide (x_810 < (a3.length : Int))) = true)=>?_) fun hb_1600=>?_
 rw [ifb_t hb_1600] at H
 refine wp_skip<|zq ?_
 refine wp_block ?_
 refine zq ?_
 refine parT_region (C:=fun w=>St [] w0 w R [.row 52 11 v_806 x_805.length cs_807]) 8 [(0,true),(1,true),(2,true),(3,true),(4,true),(5,true),(6,true),(7,true)] mixed (by kernel_rfl) s (fun w s=>s) fun w s=>?_
 refine zp rfl q (fun w s=>r_move q rfl) fun a q=>zp rfl q (fun w s=>r_move q rfl) fun a q=>?_
 obtain ⟨y_1621,h_1622,H⟩:=bs H
 obtain ⟨b_1623,o_1624,c_1625,cs_1626,hv_1627,hr_1628,hc_1629,h_16220,h_16221⟩:=h1_0.ix h_1622
 subst hr_1628
 refine zp rfl q (fun w s=>r_indexAddr_R underlying53 sizeOf52 hv_1627 h_16220 h_16221 q rfl rfl) fun a q=>zp rfl q (fun w s=>r_loadA (cs:=(cV y_1621)) isAgg52 sizeOf52 rfl q rfl (fun j v hv=>(s.ra hRA nil_not).cell (hc_1629 j v hv))) fun a q=>zp rfl q (fun w s=>r_move q rfl) fun a q=>zp rfl q (fun w s=>r_move q rfl) fun a q=>?_
 obtain ⟨y_1630,h_1631,H⟩:=bs H
 obtain ⟨b_1632,o_1633,c_1634,cs_1635,hv_1636,hr_1637,hc_1638,h_16310,h_16311⟩:=h0_0.ix h_1631
 subst hr_1637
 refine zp rfl q (fun w s=>r_indexAddr_R underlying53 sizeOf52 hv_1636 h_16310 h_16311 q rfl rfl) fun a q=>zp rfl q (fun w s=>r_loadA (cs:=(cV y_1630)) isAgg52 sizeOf52 rfl q rfl (fun j v hv=>(s.ra hRA nil_not).cell (hc_1638 j v hv))) fun a q=>?_
 refine thenL_nil ?_
 obtain ⟨y_1639,h_1640,H⟩:=bs H
 refine sl_callV call46 s q (by decide) rfl rfl rfl (ref01_Compare.calls y_1621 y_1630 h_1640 _) fun a w s q=>?_
 refine za q rfl fun a q=>?_
 refine wpList_nil (NoP_nil ?_)
 refine zq<|zq<|zr<|zm q rfl fun a q=>zm q rfl fun a q=>?_
 obtain ⟨y_1641,h_1642,H⟩:=bs H
 obtain ⟨b_1643,o_1644,c_1645,cs_1646,hv_1647,hr_1648,hc_1649,h_16420,h_16421⟩:=h3_0.ix h_1642
 subst hr_1648
 refine zl q (r_indexAddr_R underlying24 sizeOf49 hv_1647 h_16420 h_16421 q rfl rfl) fun a q=>zl q (r_fieldAddr underlying49 rfl sizeOf3 q rfl) fun a q=>zl q (r_load isAgg3 q rfl ((s.ra hRA nil_not).cell (hc_1649 0 _ rfl))) fun a q=>zn ?_
 refine wp_block ?_
 refine zq<|zq<|zr<|zl q (r_ibin q rfl rfl rfl) fun a q=>za q rfl fun a q=>zn ?_
 refine wp_mid (fun a w=>∃ (x_1651 : Bool),ref18_laid.j1 (ref18_laid.l0 a0 a1 a3 k_l0) a0 a1 a3 x_805 x_809 x_810 y_1639 x_1651 = some r ∧ Kn 125 a [(0,v0_0),(1,v1_0),(3,v3_0),(9,v_806),(10,I6 x_809),(11,I6 x_810),(12,I6 y_1639),(59,.bool x_1651)] ∧ St [] w0 w R [.row 52 11 v_806 x_805.length cs_807]) ?_ ?_
 refine wp_cond_split (q.ev rfl) (fun (hb_1653 : (y_1641.Kind == 3) = true)=>?_) fun hb_1653=>?_
 rw [ifb_t hb_1653] at H
 refine wp_skip ?_
 exact ⟨(y_1641.Kind == 3),H,q.sub (zc (zc (zc (zc (zc (zc (zc (zc zz)))))))),s⟩
 rw [ifb_f hb_1653] at H
 refine zr<|zl q (r_ibin q rfl rfl rfl) fun a q=>za q rfl fun a q=>zn ?_
 exact ⟨(y_1641.Kind == 4),H,q.sub (zc (zc (zc (zc (zc (zc (zc (zc zz)))))))),s⟩
 rintro a w ⟨x_1651,H,q,s⟩
 unfold ref18_laid.j1 at H
 refine wp_mid (fun a w=>∃ (x_1901 : List api_Value) (v_1902 : Value) (cs_1903 : List Value),ref18_laid.j2 (ref18_laid.l0 a0 a1 a3 k_l0) a0 a1 a3 x_809 x_810 x_1901 = some r ∧ Reps ty_api_Value R cs_1903 x_1901 ∧ Kn 125 a [(0,v0_0),(1,v1_0),(3,v3_0),(9,v_1902),(10,I6 x_809),(11,I6 x_810)] ∧ St [] w0 w R [.row 52 11 v_1902 x_1901.length cs_1903]) ?_ ?_
 refine wp_cond_split (q.ev rfl) (fun (hb_1906 : x_1651 = true)=>?_) fun hb_1906=>?_
 rw [ifb_t hb_1906] at H
 refine zq ?_
 refine wp_mid (fun a w=>∃ (x_1938 : Bool),ref18_laid.j3 (ref18_laid.l0 a0 a1 a3 k_l0) a0 a1 a3 x_805 x_809 x_810 x_1938 = some r ∧ Kn 125 a [(0,v0_0),(1,v1_0),(3,v3_0),(9,v_806),(10,I6 x_809),(11,I6 x_810),(83,.bool x_1938)] ∧ St [] w0 w R [.row 52 11 v_806 x_805.length cs_807]) ?_ ?_
 refine zr<|zm q rfl fun a q=>zm q rfl fun a q=>?_
 obtain ⟨y_1940,h_1941,H⟩:=bs H
 obtain ⟨b_1942,o_1943,c_1944,cs_1945,hv_1946,hr_1947,hc_1948,h_19410,h_19411⟩:=h3_0.ix h_1941
 subst hr_1947
 refine zl q (r_indexAddr_R underlying24 sizeOf49 hv_1946 h_19410 h_19411 q rfl rfl) fun a q=>zl q (r_fieldAddr underlying49 rfl sizeOf3 q rfl) fun a q=>zl q (r_load isAgg3 q rfl ((s.ra hRA nil_not).cell (hc_1948 0 _ rfl))) fun a q=>zl q (r_ibin q rfl rfl rfl) fun a q=>zm q rfl fun a q=>?_
 rcases or_b (y_1940.Kind == 3) with hb_1949 | hb_1949
 rw [ifb_t hb_1949] at H
 refine zw q (wtt hb_1949) (r_move q rfl) fun a q=>zw q (wtt hb_1949) (r_ibin q rfl rfl rfl) fun a q=>zl q (r_pick_t hb_1949 q rfl rfl) fun a q=>zm q rfl fun a q=>?_
 rcases or_b (decide (y_1639 < 0)) with hb_1950 | hb_1950
 rw [ifb_t hb_1950] at H
 refine zsw q (wft hb_1950) fun a q=>zsw q (wft hb_1950) fun a q=>zsw q (wft hb_1950) fun a q=>zsw q (wft hb_1950) fun a q=>zsw q (wft hb_1950) fun a q=>zsw q (wft hb_1950) fun a q=>zsw q (wft hb_1950) fun a q=>zs q fun a q=>zs q fun a q=>zsw q (wft hb_1950) fun a q=>zl q (r_pick_t hb_1950 q rfl rfl) fun a q=>zn ?_
 exact ⟨true,H,q.sub (zc (zc (zc (zc (zc (zc (zc zz))))))),s⟩
 rw [ifb_f hb_1950] at H
 refine zw q (wff hb_1950) (r_move q rfl) fun a q=>zw q (wff hb_1950) (r_move q rfl) fun a q=>?_
 obtain ⟨y_1951,h_1952,H⟩:=bs H
 obtain ⟨b_1953,o_1954,c_1955,cs_1956,hv_1957,hr_1958,hc_1959,h_19520,h_19521⟩:=h3_0.ix h_1952
 subst hr_1958
 refine zw q (wff hb_1950) (r_indexAddr_R underlying24 sizeOf49 hv_1957 h_19520 h_19521 q rfl rfl) fun a q=>zw q (wff hb_1950) (r_fieldAddr underlying49 rfl sizeOf3 q rfl) fun a q=>zw q (wff hb_1950) (r_load isAgg3 q rfl ((s.ra hRA nil_not).cell (hc_1959 0 _ rfl))) fun a q=>zw q (wff hb_1950) (r_ibin q rfl rfl rfl) fun a q=>zw q (wff hb_1950) (r_move q rfl) fun a q=>?_
 rcases or_b (y_1951.Kind == 4) with hb_1960 | hb_1960
 rw [ifb_t hb_1960] at H
 refine zw q (wtt hb_1960) (r_move q rfl) fun a q=>zw q (wtt hb_1960) (r_ibin q rfl rfl rfl) fun a q=>zw q (wff hb_1950) (r_pick_t hb_1960 q rfl rfl) fun a q=>zl q (r_pick_f hb_1950 q rfl rfl) fun a q=>zn ?_
 exact ⟨(decide (y_1639 > 0)),H,q.sub (zc (zc (zc (zc (zc (zc (zc zz))))))),s⟩
 rw [ifb_f hb_1960] at H
 refine zsw q (wtf hb_1960) fun a q=>zsw q (wtf hb_1960) fun a q=>zw q (wff hb_1950) (r_pick_f hb_1960 q rfl rfl) fun a q=>zl q (r_pick_f hb_1950 q rfl rfl) fun a q=>zn ?_
 exact ⟨false,H,q.sub (zc (zc (zc (zc (zc (zc (zc zz))))))),s⟩
 rw [ifb_f hb_1949] at H
 refine zsw q (wtf hb_1949) fun a q=>zsw q (wtf hb_1949) fun a q=>zl q (r_pick_f hb_1949 q rfl rfl) fun a q=>zm q rfl fun a q=>zm q rfl fun a q=>zm q rfl fun a q=>?_
 obtain ⟨y_1961,h_1962,H⟩:=bs H
 obtain ⟨b_1963,o_1964,c_1965,cs_1966,hv_1967,hr_1968,hc_1969,h_19620,h_19621⟩:=h3_0.ix h_1962
 subst hr_1968
 refine zl q (r_indexAddr_R underlying24 sizeOf49 hv_1967 h_19620 h_19621 q rfl rfl) fun a q=>zl q (r_fieldAddr underlying49 rfl sizeOf3 q rfl) fun a q=>zl q (r_load isAgg3 q rfl ((s.ra hRA nil_not).cell (hc_1969 0 _ rfl))) fun a q=>zl q (r_ibin q rfl rfl rfl) fun a q=>zm q rfl fun a q=>?_
 rcases or_b (y_1961.Kind == 4) with hb_1970 | hb_1970
 rw [ifb_t hb_1970] at H
 refine zw q (wtt hb_1970) (r_move q rfl) fun a q=>zw q (wtt hb_1970) (r_ibin q rfl rfl rfl) fun a q=>zl q (r_pick_t hb_1970 q rfl rfl) fun a q=>zl q (r_pick q rfl rfl rfl) fun a q=>zn ?_
 exact ⟨(decide (y_1639 > 0)),H,q.sub (zc (zc (zc (zc (zc (zc (zc zz))))))),s⟩
 rw [ifb_f hb_1970] at H
 refine zsw q (wtf hb_1970) fun a q=>zsw q (wtf hb_1970) fun a q=>zl q (r_pick_f hb_1970 q rfl rfl) fun a q=>zl q (r_pick q rfl rfl rfl) fun a q=>zn ?_
 exact ⟨false,H,q.sub (zc (zc (zc (zc (zc (zc (zc zz))))))),s⟩
 rintro a w ⟨x_1938,H,q,s⟩
 unfold ref18_laid.j3 at H
 refine wp_mid (fun a w=>∃ (x_2005 : List api_Value) (v_2006 : Value) (cs_2007 : List Value),ref18_laid.j4 (ref18_laid.l0 a0 a1 a3 k_l0) a0 a1 a3 x_809 x_810 x_2005 = some r ∧ Reps ty_api_Value R cs_2007 x_2005 ∧ Kn 125 a [(0,v0_0),(1,v1_0),(3,v3_0),(9,v_2006),(10,I6 x_809),(11,I6 x_810)] ∧ St [] w0 w R [.row 52 11 v_2006 x_2005.length cs_2007]) ?_ ?_
 refine wp_cond_split (q.ev rfl) (fun (hb_2010 : x_1938 = true)=>?_) fun hb_2010=>?_
 rw [ifb_t hb_2010] at H
 refine zr<|zm q rfl fun a q=>zm q rfl fun a q=>zm q rfl fun a q=>?_
 obtain ⟨y_2011,h_2012,H⟩:=bs H
 obtain ⟨b_2013,o_2014,c_2015,cs_2016,hv_2017,hr_2018,hc_2019,h_20120,h_20121⟩:=h1_0.ix h_2012
 subst hr_2018
 refine zl q (r_indexAddr_R underlying53 sizeOf52 hv_2017 h_20120 h_20121 q rfl rfl) fun a q=>zl q (r_loadA (cs:=(cV y_2011)) isAgg52 sizeOf52 rfl q rfl (fun j v hv=>(s.ra hRA nil_not).cell (hc_2019 j v hv))) fun a q=>?_
 refine sl_buildSliceF (zc:=[I6 0,I6 0,.string (⟨#[]⟩ : ByteArray),I6 0,I6 0,I6 0,I6 0,I6 0,I6 0,I6 0,I6 0]) (ps:=[(0,.agg ⟨cV y_2011⟩)]) (c:=(cV y_2011)) [(cV y_2011)] underlying53 sizeOf52 zeroValue52 rfl (pc_cons rfl pc_nil) rfl rfl (Nat.le_of_ble_eq_true rfl) rfl (zc zz) rfl s q (by decide) rfl fun a w b_2020 s q=>?_
 obtain ⟨y_2021,h_2022,H⟩:=bs H
 have s:=s.pk1
 refine sl_append_L (ty:=ty_api_Value) (ys:=[y_2011]) elT53 (by decide) rfl hq_808 rfl (Reps.cons (show Ty.rep ty_api_Value _ (cV y_2011) y_2011 from rfl) (Reps.nil _ _)) rfl h_2022 s q (by decide) rfl rfl rfl fun a w v_2023 cs_2024 hq_2025 s q=>?_
 refine za q rfl fun a q=>zn ?_
 exact ⟨y_2021,_,_,H,hq_2025,q.sub (zc (zc (zc (zc (zc (zc zz)))))),s⟩
 rw [ifb_f hb_2010] at H
 refine zr<|zm q rfl fun a q=>zm q rfl fun a q=>zm q rfl fun a q=>?_
 obtain ⟨y_2027,h_2028,H⟩:=bs H
 obtain ⟨b_2029,o_2030,c_2031,cs_2032,hv_2033,hr_2034,hc_2035,h_20280,h_20281⟩:=h0_0.ix h_2028
 subst hr_2034
 refine zl q (r_indexAddr_R underlying53 sizeOf52 hv_2033 h_20280 h_20281 q rfl rfl) fun a q=>zl q (r_loadA (cs:=(cV y_2027)) isAgg52 sizeOf52 rfl q rfl (fun j v hv=>(s.ra hRA nil_not).cell (hc_2035 j v hv))) fun a q=>?_
 refine sl_buildSliceF (zc:=[I6 0,I6 0,.string (⟨#[]⟩ : ByteArray),I6 0,I6 0,I6 0,I6 0,I6 0,I6 0,I6 0,I6 0]) (ps:=[(0,.agg ⟨cV y_2027⟩)]) (c:=(cV y_2027)) [(cV y_2027)] underlying53 sizeOf52 zeroValue52 rfl (pc_cons rfl pc_nil) rfl rfl (Nat.le_of_ble_eq_true rfl) rfl (zc zz) rfl s q (by decide) rfl fun a w b_2036 s q=>?_
 obtain ⟨y_2037,h_2038,H⟩:=bs H
 have s:=s.pk1
 refine sl_append_L (ty:=ty_api_Value) (ys:=[y_2027]) elT53 (by decide) rfl hq_808 rfl (Reps.cons (show Ty.rep ty_api_Value _ (cV y_2027) y_2027 from rfl) (Reps.nil _ _)) rfl h_2038 s q (by decide) rfl rfl rfl fun a w v_2039 cs_2040 hq_2041 s q=>?_
 refine za q rfl fun a q=>zn ?_
 exact ⟨y_2037,_,_,H,hq_2041,q.sub (zc (zc (zc (zc (zc (zc zz)))))),s⟩
 rintro a w ⟨x_2005,v_2006,cs_2007,H,hq_2008,q,s⟩
 unfold ref18_laid.j4 at H
 exact ⟨x_2005,_,_,H,hq_2008,q.sub (zc (zc (zc (zc (zc (zc zz)))))),s⟩
 rw [ifb_f hb_1906] at H
 refine zq ?_
 refine wp_mid (fun a w=>∃ (x_2092 : Int) (x_2093 : Int) (x_2094 : ByteArray) (x_2095 : Arr8) (b_2091 : Nat),ref18_laid.j5 (ref18_laid.l0 a0 a1 a3 k_l0) a0 a1 a3 x_805 x_809 x_810 x_2092 x_2093 x_2094 x_2095 = some r ∧ Kn 125 a [(0,v0_0),(1,v1_0),(3,v3_0),(9,v_806),(10,I6 x_809),(11,I6 x_810),(13,.pointer (some ⟨b_2091,0,none⟩))] ∧ St [] w0 w R [.row 52 11 v_806 x_805.length cs_807,.cells b_2091 [I6 x_2092,I6 x_2093,.string x_2094,I6 x_2095.a0,I6 x_2095.a1,I6 x_2095.a2,I6 x_2095.a3,I6 x_2095.a4,I6 x_2095.a5,I6 x_2095.a6,I6 x_2095.a7] 52]) ?_ ?_
 refine treeT_region (C:=fun w=>St [] w0 w R [.row 52 11 v_806 x_805.length cs_807]) 14 (.br [(0,true),(1,true),(2,true),(3,true),(4,true),(5,true),(6,true),(7,true)] 8 (.list [(9,true),(10,true),(11,true),(12,false),(13,false)]) 12 (.list [(8,false),(9,true),(10,true),(11,true),(13,false)])) mixed (by kernel_rfl) s (fun w s=>s) fun w s=>?_
 refine tree_fork ?_
 refine zp rfl q (fun w s=>r_move q rfl) fun a q=>zp rfl q (fun w s=>r_move q rfl) fun a q=>?_
 obtain ⟨y_2121,h_2122,H⟩:=bs H
 obtain ⟨b_2123,o_2124,c_2125,cs_2126,hv_2127,hr_2128,hc_2129,h_21220,h_21221⟩:=h0_0.ix h_2122
 subst hr_2128
 refine zp rfl q (fun w s=>r_indexAddr_R underlying53 sizeOf52 hv_2127 h_21220 h_21221 q rfl rfl) fun a q=>zp rfl q (fun w s=>r_loadA (cs:=(cV y_2121)) isAgg52 sizeOf52 rfl q rfl (fun j v hv=>(s.ra hRA nil_not).cell (hc_2129 j v hv))) fun a q=>zp rfl q (fun w s=>r_move q rfl) fun a q=>zp rfl q (fun w s=>r_move q rfl) fun a q=>?_
 obtain ⟨y_2130,h_2131,H⟩:=bs H
 obtain ⟨b_2132,o_2133,c_2134,cs_2135,hv_2136,hr_2137,hc_2138,h_21310,h_21311⟩:=h1_0.ix h_2131
 subst hr_2137
 refine zp rfl q (fun w s=>r_indexAddr_R underlying53 sizeOf52 hv_2136 h_21310 h_21311 q rfl rfl) fun a q=>zp rfl q (fun w s=>r_loadA (cs:=(cV y_2130)) isAgg52 sizeOf52 rfl q rfl (fun j v hv=>(s.ra hRA nil_not).cell (hc_2138 j v hv))) fun a q=>?_
 refine wpPar_nil (tree_br ?_ ?_)
 refine spwB (k:=8) rfl rfl s ?_
 obtain ⟨y_2139,h_2140,H⟩:=bs H
 refine sl_callV call83 s q (by decide) rfl rfl rfl (ref01_Add.calls y_2121 y_2130 h_2140 _) fun a w s q=>?_
 refine parKK_nil s ?_
 refine tree_list ?_
 refine zp rfl q (fun w s=>r_move q rfl) fun a q=>zp rfl q (fun w s=>r_extract q rfl rfl) fun a q=>zp rfl q (fun w s=>r_extract q rfl rfl) fun a q=>?_
 refine spw (k:=12) rfl rfl s ?_
 refine sl_alloc zeroValue52 s q (by decide) rfl rfl fun a w b_2141 s q=>?_
 refine parK_nil (s.pk1.trunc 1) ?_
 refine spw (k:=13) rfl rfl (s.pk1.trunc 1) ?_
 refine sl_storeA (vs:=(cV y_2139.1)) (c':=(cV y_2139.1)) sizeOf52 s q rfl rfl rfl rfl (zc (zc (zc (zc (zc (zc (zc (zc (zc (zc (zc zz))))))))))) (Nat.le_of_ble_eq_true rfl) rfl fun a w s q=>?_
 refine parK_nil (s.pk1.trunc 1) ?_
 refine thenL_nil ?_
 refine za q rfl fun a q=>?_
 refine wpList_nil (NoP_nil ?_)
 have s:=s.pk1
 exact ⟨y_2139.1.Kind,y_2139.1.N,y_2139.1.S,y_2139.1.H,_,H,q.sub (zc (zc (zc (zc (zc (zc (zc zz))))))),s⟩
 refine spwB (k:=12) rfl rfl s ?_
 refine sl_alloc zeroValue52 s q (by decide) rfl rfl fun a w b_2142 s q=>?_
 refine parKK_nil (s.pk1.trunc 1) ?_
 refine tree_list ?_
 refine spw (k:=8) rfl rfl (s.pk1.trunc 1) ?_
 obtain ⟨y_2143,h_2144,H⟩:=bs H
 refine sl_callV call83 s q (by decide) rfl rfl rfl (ref01_Add.calls y_2121 y_2130 h_2144 _) fun a w s q=>?_
 refine parK_nil (s.pk1.trunc 1) ?_
 refine zp rfl q (fun w s=>r_move q rfl) fun a q=>zp rfl q (fun w s=>r_extract q rfl rfl) fun a q=>zp rfl q (fun w s=>r_extract q rfl rfl) fun a q=>?_
 refine spw (k:=13) rfl rfl (s.pk1.trunc 1) ?_
 refine sl_storeA (vs:=(cV y_2143.1)) (c':=(cV y_2143.1)) sizeOf52 s q rfl rfl rfl rfl (zc (zc (zc (zc (zc (zc (zc (zc (zc (zc (zc zz))))))))))) (Nat.le_of_ble_eq_true rfl) rfl fun a w s q=>?_
 refine parK_nil (s.pk1.trunc 1) ?_
 refine thenL_nil ?_
 refine za q rfl fun a q=>?_
 refine wpList_nil (NoP_nil ?_)
 have s:=s.pk1
 exact ⟨y_2143.1.Kind,y_2143.1.N,y_2143.1.S,y_2143.1.H,_,H,q.sub (zc (zc (zc (zc (zc (zc (zc zz))))))),s⟩
 rintro a w ⟨x_2092,x_2093,x_2094,x_2095,b_2091,H,q,s⟩
 unfold ref18_laid.j5 at H
 refine zr<|zm q rfl fun a q=>zl q (r_loadA (cs:=[I6 x_2092,I6 x_2093,.string x_2094,I6 x_2095.a0,I6 x_2095.a1,I6 x_2095.a2,I6 x_2095.a3,I6 x_2095.a4,I6 x_2095.a5,I6 x_2095.a6,I6 x_2095.a7]) isAgg52 sizeOf52 rfl q rfl (s.cells_of (m:=11) z1 rfl)) fun a q=>?_
 refine sl_buildSliceF (zc:=[I6 0,I6 0,.string (⟨#[]⟩ : ByteArray),I6 0,I6 0,I6 0,I6 0,I6 0,I6 0,I6 0,I6 0]) (ps:=[(0,.agg #[I6 x_2092,I6 x_2093,.string x_2094,I6 x_2095.a0,I6 x_2095.a1,I6 x_2095.a2,I6 x_2095.a3,I6 x_2095.a4,I6 x_2095.a5,I6 x_2095.a6,I6 x_2095.a7])]) (c:=[I6 x_2092,I6 x_2093,.string x_2094,I6 x_2095.a0,I6 x_2095.a1,I6 x_2095.a2,I6 x_2095.a3,I6 x_2095.a4,I6 x_2095.a5,I6 x_2095.a6,I6 x_2095.a7]) [[I6 x_2092,I6 x_2093,.string x_2094,I6 x_2095.a0,I6 x_2095.a1,I6 x_2095.a2,I6 x_2095.a3,I6 x_2095.a4,I6 x_2095.a5,I6 x_2095.a6,I6 x_2095.a7]] underlying53 sizeOf52 zeroValue52 rfl (pc_cons rfl pc_nil) rfl rfl (Nat.le_of_ble_eq_true rfl) rfl (zc zz) rfl s q (by decide) rfl fun a w b_2145 s q=>?_
 obtain ⟨y_2146,h_2147,H⟩:=bs H
 have s:=s.pk1
 refine sl_append_L (ty:=ty_api_Value) (ys:=[(⟨x_2092,x_2093,x_2094,x_2095⟩ : api_Value)]) elT53 (by decide) rfl hq_808 rfl (Reps.cons (show Ty.rep ty_api_Value _ [I6 x_2092,I6 x_2093,.string x_2094,I6 x_2095.a0,I6 x_2095.a1,I6 x_2095.a2,I6 x_2095.a3,I6 x_2095.a4,I6 x_2095.a5,I6 x_2095.a6,I6 x_2095.a7] (⟨x_2092,x_2093,x_2094,x_2095⟩ : api_Value) from rfl) (Reps.nil _ _)) rfl h_2147 s q (by decide) rfl rfl rfl fun a w v_2148 cs_2149 hq_2150 s q=>?_
 refine za q rfl fun a q=>zn ?_
 exact ⟨y_2146,_,_,H,hq_2150,q.sub (zc (zc (zc (zc (zc (zc zz)))))),s.trunc 1⟩
 rintro a w ⟨x_1901,v_1902,cs_1903,H,hq_1904,q,s⟩
 unfold ref18_laid.j2 at H
 refine zq<|zr<|zm q rfl fun a q=>zl q (r_ibin q rfl rfl rfl) fun a q=>za q rfl fun a q=>zn<|zq<|zr<|zm q rfl fun a q=>zm q rfl fun a q=>?_
 obtain ⟨y_2152,h_2153,H⟩:=bs H
 obtain ⟨b_2154,o_2155,c_2156,cs_2157,hv_2158,hr_2159,hc_2160,h_21530,h_21531⟩:=h3_0.ix h_2153
 subst hr_2159
 refine zl q (r_indexAddr_R underlying24 sizeOf49 hv_2158 h_21530 h_21531 q rfl rfl) fun a q=>zl q (r_fieldAddr underlying49 rfl sizeOf3 q rfl) fun a q=>zl q (r_load isAgg3 q rfl ((s.ra hRA nil_not).cell (hc_2160 0 _ rfl))) fun a q=>zl q (r_ibin q rfl rfl rfl) fun a q=>zn ?_
 refine wp_mid (fun a w=>∃ (x_2272 : List api_Value) (x_2276 : Int) (v_2273 : Value) (cs_2274 : List Value),ref18_laid.j6 (ref18_laid.l0 a0 a1 a3 k_l0) a3 x_810 x_2272 x_2276 = some r ∧ Reps ty_api_Value R cs_2274 x_2272 ∧ Kn 125 a [(0,v0_0),(1,v1_0),(3,v3_0),(9,v_2273),(10,I6 x_2276),(11,I6 x_810)] ∧ St [] w0 w R [.row 52 11 v_2273 x_2272.length cs_2274]) ?_ ?_
 refine wp_cond_split (q.ev rfl) (fun (hb_2278 : (y_2152.Kind == 5) = true)=>?_) fun hb_2278=>?_
 rw [ifb_t hb_2278] at H
 refine zq ?_
 refine wp_mid (fun a w=>∃ (x_2328 : Int) (x_2329 : Int) (x_2330 : ByteArray) (x_2331 : Arr8) (b_2327 : Nat),ref18_laid.j7 (ref18_laid.l0 a0 a1 a3 k_l0) a3 x_809 x_810 x_1901 x_2328 x_2329 x_2330 x_2331 = some r ∧ Kn 125 a [(0,v0_0),(1,v1_0),(3,v3_0),(9,v_1902),(10,I6 (IntKind.i64.wrap (x_809 + 1))),(11,I6 x_810),(15,.pointer (some ⟨b_2327,0,none⟩))] ∧ St [] w0 w R [.row 52 11 v_1902 x_1901.length cs_1903,.cells b_2327 [I6 x_2328,I6 x_2329,.string x_2330,I6 x_2331.a0,I6 x_2331.a1,I6 x_2331.a2,I6 x_2331.a3,I6 x_2331.a4,I6 x_2331.a5,I6 x_2331.a6,I6 x_2331.a7] 52]) ?_ ?_
 refine treeT_region (C:=fun w=>St [] w0 w R [.row 52 11 v_1902 x_1901.length cs_1903]) 14 (.br [(0,true),(1,true),(2,true),(3,true),(4,true),(5,true),(6,true),(7,true)] 8 (.list [(9,true),(10,true),(11,true),(12,false),(13,false)]) 12 (.list [(8,false),(9,true),(10,true),(11,true),(13,false)])) mixed (by kernel_rfl) s (fun w s=>s) fun w s=>?_
 refine tree_fork ?_
 refine zp rfl q (fun w s=>r_move q rfl) fun a q=>zp rfl q (fun w s=>r_move q rfl) fun a q=>?_
 obtain ⟨y_2357,h_2358,H⟩:=bs H
 obtain ⟨b_2359,o_2360,c_2361,cs_2362,hv_2363,hr_2364,hc_2365,h_23580,h_23581⟩:=h0_0.ix h_2358
 subst hr_2364
 refine zp rfl q (fun w s=>r_indexAddr_R underlying53 sizeOf52 hv_2363 h_23580 h_23581 q rfl rfl) fun a q=>zp rfl q (fun w s=>r_loadA (cs:=(cV y_2357)) isAgg52 sizeOf52 rfl q rfl (fun j v hv=>(s.ra hRA nil_not).cell (hc_2365 j v hv))) fun a q=>zp rfl q (fun w s=>r_move q rfl) fun a q=>zp rfl q (fun w s=>r_move q rfl) fun a q=>?_
 obtain ⟨y_2366,h_2367,H⟩:=bs H
 obtain ⟨b_2368,o_2369,c_2370,cs_2371,hv_2372,hr_2373,hc_2374,h_23670,h_23671⟩:=h1_0.ix h_2367
 subst hr_2373
 refine zp rfl q (fun w s=>r_indexAddr_R underlying53 sizeOf52 hv_2372 h_23670 h_23671 q rfl rfl) fun a q=>zp rfl q (fun w s=>r_loadA (cs:=(cV y_2366)) isAgg52 sizeOf52 rfl q rfl (fun j v hv=>(s.ra hRA nil_not).cell (hc_2374 j v hv))) fun a q=>?_
 refine wpPar_nil (tree_br ?_ ?_)
 refine spwB (k:=8) rfl rfl s ?_
 obtain ⟨y_2375,h_2376,H⟩:=bs H
 refine sl_callV call83 s q (by decide) rfl rfl rfl (ref01_Add.calls y_2357 y_2366 h_2376 _) fun a w s q=>?_
 refine parKK_nil s ?_
 refine tree_list ?_
 refine zp rfl q (fun w s=>r_move q rfl) fun a q=>zp rfl q (fun w s=>r_extract q rfl rfl) fun a q=>zp rfl q (fun w s=>r_extract q rfl rfl) fun a q=>?_
 refine spw (k:=12) rfl rfl s ?_
 refine sl_alloc zeroValue52 s q (by decide) rfl rfl fun a w b_2377 s q=>?_
 refine parK_nil (s.pk1.trunc 1) ?_
 refine spw (k:=13) rfl rfl (s.pk1.trunc 1) ?_
 refine sl_storeA (vs:=(cV y_2375.1)) (c':=(cV y_2375.1)) sizeOf52 s q rfl rfl rfl rfl (zc (zc (zc (zc (zc (zc (zc (zc (zc (zc (zc zz))))))))))) (Nat.le_of_ble_eq_true rfl) rfl fun a w s q=>?_
 refine parK_nil (s.pk1.trunc 1) ?_
 refine thenL_nil ?_
 refine za q rfl fun a q=>?_
 refine wpList_nil (NoP_nil ?_)
 have s:=s.pk1
 exact ⟨y_2375.1.Kind,y_2375.1.N,y_2375.1.S,y_2375.1.H,_,H,q.sub (zc (zc (zc (zc (zc (zc (zc zz))))))),s⟩
 refine spwB (k:=12) rfl rfl s ?_
 refine sl_alloc zeroValue52 s q (by decide) rfl rfl fun a w b_2378 s q=>?_
 refine parKK_nil (s.pk1.trunc 1) ?_
 refine tree_list ?_
 refine spw (k:=8) rfl rfl (s.pk1.trunc 1) ?_
 obtain ⟨y_2379,h_2380,H⟩:=bs H
 refine sl_callV call83 s q (by decide) rfl rfl rfl (ref01_Add.calls y_2357 y_2366 h_2380 _) fun a w s q=>?_
 refine parK_nil (s.pk1.trunc 1) ?_
 refine zp rfl q (fun w s=>r_move q rfl) fun a q=>zp rfl q (fun w s=>r_extract q rfl rfl) fun a q=>zp rfl q (fun w s=>r_extract q rfl rfl) fun a q=>?_
 refine spw (k:=13) rfl rfl (s.pk1.trunc 1) ?_
 refine sl_storeA (vs:=(cV y_2379.1)) (c':=(cV y_2379.1)) sizeOf52 s q rfl rfl rfl rfl (zc (zc (zc (zc (zc (zc (zc (zc (zc (zc (zc zz))))))))))) (Nat.le_of_ble_eq_true rfl) rfl fun a w s q=>?_
 refine parK_nil (s.pk1.trunc 1) ?_
 refine thenL_nil ?_
 refine za q rfl fun a q=>?_
 refine wpList_nil (NoP_nil ?_)
 have s:=s.pk1
 exact ⟨y_2379.1.Kind,y_2379.1.N,y_2379.1.S,y_2379.1.H,_,H,q.sub (zc (zc (zc (zc (zc (zc (zc zz))))))),s⟩
 rintro a w ⟨x_2328,x_2329,x_2330,x_2331,b_2327,H,q,s⟩
 unfold ref18_laid.j7 at H
 refine zq<|zr<|zm q rfl fun a q=>zl q (r_loadA (cs:=[I6 x_2328,I6 x_2329,.string x_2330,I6 x_2331.a0,I6 x_2331.a1,I6 x_2331.a2,I6 x_2331.a3,I6 x_2331.a4,I6 x_2331.a5,I6 x_2331.a6,I6 x_2331.a7]) isAgg52 sizeOf52 rfl q rfl (s.cells_of (m:=11) z1 rfl)) fun a q=>?_
 refine sl_buildSliceF (zc:=[I6 0,I6 0,.string (⟨#[]⟩ : ByteArray),I6 0,I6 0,I6 0,I6 0,I6 0,I6 0,I6 0,I6 0]) (ps:=[(0,.agg #[I6 x_2328,I6 x_2329,.string x_2330,I6 x_2331.a0,I6 x_2331.a1,I6 x_2331.a2,I6 x_2331.a3,I6 x_2331.a4,I6 x_2331.a5,I6 x_2331.a6,I6 x_2331.a7])]) (c:=[I6 x_2328,I6 x_2329,.string x_2330,I6 x_2331.a0,I6 x_2331.a1,I6 x_2331.a2,I6 x_2331.a3,I6 x_2331.a4,I6 x_2331.a5,I6 x_2331.a6,I6 x_2331.a7]) [[I6 x_2328,I6 x_2329,.string x_2330,I6 x_2331.a0,I6 x_2331.a1,I6 x_2331.a2,I6 x_2331.a3,I6 x_2331.a4,I6 x_2331.a5,I6 x_2331.a6,I6 x_2331.a7]] underlying53 sizeOf52 zeroValue52 rfl (pc_cons rfl pc_nil) rfl rfl (Nat.le_of_ble_eq_true rfl) rfl (zc zz) rfl s q (by decide) rfl fun a w b_2381 s q=>?_
 obtain ⟨y_2382,h_2383,H⟩:=bs H
 have s:=s.pk1
 refine sl_append_L (ty:=ty_api_Value) (ys:=[(⟨x_2328,x_2329,x_2330,x_2331⟩ : api_Value)]) elT53 (by decide) rfl hq_1904 rfl (Reps.cons (show Ty.rep ty_api_Value _ [I6 x_2328,I6 x_2329,.string x_2330,I6 x_2331.a0,I6 x_2331.a1,I6 x_2331.a2,I6 x_2331.a3,I6 x_2331.a4,I6 x_2331.a5,I6 x_2331.a6,I6 x_2331.a7] (⟨x_2328,x_2329,x_2330,x_2331⟩ : api_Value) from rfl) (Reps.nil _ _)) rfl h_2383 s q (by decide) rfl rfl rfl fun a w v_2384 cs_2385 hq_2386 s q=>?_
 refine za q rfl fun a q=>zn<|zr<|zm q rfl fun a q=>zl q (r_ibin q rfl rfl rfl) fun a q=>za q rfl fun a q=>zn ?_
 exact ⟨y_2382,(IntKind.i64.wrap ((IntKind.i64.wrap (x_809 + 1)) + 1)),_,_,H,hq_2386,q.sub (zc (zc (zc (zc (zc (zc zz)))))),s.trunc 1⟩
 rw [ifb_f hb_2278] at H
 refine wp_skip ?_
 exact ⟨x_1901,(IntKind.i64.wrap (x_809 + 1)),_,_,H,hq_1904,q.sub (zc (zc (zc (zc (zc (zc zz)))))),s⟩
 rintro a w ⟨x_2272,x_2276,v_2273,cs_2274,H,hq_2275,q,s⟩
 unfold ref18_laid.j6 at H
 refine zr<|zm q rfl fun a q=>zl q (r_ibin q rfl rfl rfl) fun a q=>za q rfl fun a q=>zn ?_
 exact ⟨_,Nat.lt_succ_self _,x_2272,x_2276,(IntKind.i64.wrap (x_810 + 1)),_,_,H,hq_2275,q.sub (zc (zc (zc (zc (zc (zc zz)))))),s⟩
 rw [ifb_f hb_1600] at H
 refine wp_exit ?_
 refine zq<|zr<|zm q rfl fun a q=>za q rfl fun a q=>zn ?_
 obtain rfl:=Option.some.inj H
 refine wp_ret ?_
 repeat first | refine zt ?_ | refine zb ?_ | refine zo ?_
 exact ret_1 results60 q (rv_tmp q rfl) ⟨_,rfl,_,_,_,rfl,s,hRL,hq_808⟩
theorem ref02_Row.calls (a0 : List api_Value) (a1 : List api_Value) {w0 : World} {RA : Hp} {v0_0 : Value} {v1_0 : Value} (hRA : RA.sub w0) (h0_0 : SlR ty_api_Value RA v0_0 a0) (h1_0 : SlR ty_api_Value RA v1_0 a1) {r : Int} (H : ref02_Row a0 a1 = some r) : CallsV prog 23 #[v0_0,v1_0] w0 (I6 r):=by
 unfold ref02_Row at H
 refine enter (args:=[v0_0,v1_0]) func23 rfl ntmps23 rfl fun a q=>?_
 have s:=St.init (R:=fun _=>none) (w:=w0) (fun _ _ h=>by cases h)
 have hRL:=RLe.refl (M:=[]) w0 (fun _=>none)
 refine zq<|zr<|za q rfl fun a q=>zn<|zq<|zq<|zr<|za q rfl fun a q=>zn ?_
 refine wp_block ?_
 refine wp_loop_k (fun k_l0 a w=>∃ (x_48 : Int),ref02_Row.l0 a0 a1 k_l0 x_48 = some r ∧ Kn 41 a [(0,v0_0),(1,v1_0),(5,I6 x_48)] ∧ St [] w0 w (fun _=>none) []) (((a0.length : Int) - 0).toNat + 1) ?_ ?_
 exact ⟨0,H,q.sub (zc (zc (zc zz))),s⟩
 rintro k_l0 a w ⟨x_48,H,q,s⟩
 rcases k_l0 with _ | k_l0
 cases H
 rw [ref02_Row.l0.eq_2] at H
 refine zq<|zq ?_
 refine wp_mid (fun a w=>∃ (x_98 : Bool),ref02_Row.j1 (ref02_Row.l0 a0 a1 k_l0) a0 a1 x_48 x_98 = some r ∧ Kn 41 a [(0,v0_0),(1,v1_0),(5,I6 x_48),(16,.bool x_98)] ∧ St [] w0 w (fun _=>none) []) ?_ ?_
 refine zr<|zm q rfl fun a q=>zm q rfl fun a q=>zl q (r_len_R underlying53 h0_0 q rfl) fun a q=>zl q (r_ibin q rfl rfl rfl) fun a q=>zm q rfl fun a q=>?_
 rcases or_b (decide (x_48 < (a0.length : Int))) with hb_100 | hb_100
 rw [ifb_t hb_100] at H
 refine zw q (wtt hb_100) (r_move q rfl) fun a q=>zw q (wtt hb_100) (r_move q rfl) fun a q=>zw q (wtt hb_100) (r_len_R underlying53 h1_0 q rfl) fun a q=>zw q (wtt hb_100) (r_ibin q rfl rfl rfl) fun a q=>zl q (r_pick_t hb_100 q rfl rfl) fun a q=>zn ?_
 exact ⟨(decide (x_48 < (a1.length : Int))),H,q.sub (zc (zc (zc (zc zz)))),s⟩
 rw [ifb_f hb_100] at H
 refine zsw q (wtf hb_100) fun a q=>zsw q (wtf hb_100) fun a q=>zsw q (wtf hb_100) fun a q=>zsw q (wtf hb_100) fun a q=>zl q (r_pick_f hb_100 q rfl rfl) fun a q=>zn ?_
 exact ⟨false,H,q.sub (zc (zc (zc (zc zz)))),s⟩
 rintro a w ⟨x_98,H,q,s⟩
 unfold ref02_Row.j1 at H
 refine wp_cond_split (q.ev rfl) (fun (hb_101 : x_98 = true)=>?_) fun hb_101=>?_
 rw [ifb_t hb_101] at H
 refine wp_skip<|zq ?_
 refine wp_block ?_
 refine zq ?_
 refine parT_region (C:=fun w=>St [] w0 w (fun _=>none) []) 8 [(0,true),(1,true),(2,true),(3,true),(4,true),(5,true),(6,true),(7,true)] mixed (by kernel_rfl) s (fun w s=>s) fun w s=>?_
 refine zp rfl q (fun w s=>r_move q rfl) fun a q=>zp rfl q (fun w s=>r_move q rfl) fun a q=>?_
 obtain ⟨y_122,h_123,H⟩:=bs H
 obtain ⟨b_124,o_125,c_126,cs_127,hv_128,hr_129,hc_130,h_1230,h_1231⟩:=h0_0.ix h_123
 subst hr_129
 refine zp rfl q (fun w s=>r_indexAddr_R underlying53 sizeOf52 hv_128 h_1230 h_1231 q rfl rfl) fun a q=>zp rfl q (fun w s=>r_loadA (cs:=(cV y_122)) isAgg52 sizeOf52 rfl q rfl (fun j v hv=>(s.ra hRA nil_not).cell (hc_130 j v hv))) fun a q=>zp rfl q (fun w s=>r_move q rfl) fun a q=>zp rfl q (fun w s=>r_move q rfl) fun a q=>?_
 obtain ⟨y_131,h_132,H⟩:=bs H
 obtain ⟨b_133,o_134,c_135,cs_136,hv_137,hr_138,hc_139,h_1320,h_1321⟩:=h1_0.ix h_132
 subst hr_138
 refine zp rfl q (fun w s=>r_indexAddr_R underlying53 sizeOf52 hv_137 h_1320 h_1321 q rfl rfl) fun a q=>zp rfl q (fun w s=>r_loadA (cs:=(cV y_131)) isAgg52 sizeOf52 rfl q rfl (fun j v hv=>(s.ra hRA nil_not).cell (hc_139 j v hv))) fun a q=>?_
 refine thenL_nil ?_
 obtain ⟨y_140,h_141,H⟩:=bs H
 refine sl_callV call46 s q (by decide) rfl rfl rfl (ref01_Compare.calls y_122 y_131 h_141 _) fun a w s q=>?_
 refine za q rfl fun a q=>?_
 refine wpList_nil (NoP_nil ?_)
 refine zq<|zr<|zm q rfl fun a q=>zl q (r_ibin q rfl rfl rfl) fun a q=>zn ?_
 refine wp_cond_split (q.ev rfl) (fun (hb_142 : (y_140 != 0) = true)=>?_) fun hb_142=>?_
 rw [ifb_t hb_142] at H
 refine zq<|zr<|zm q rfl fun a q=>za q rfl fun a q=>zn ?_
 obtain rfl:=Option.some.inj H
 refine wp_ret ?_
 repeat first | refine zt ?_ | refine zb ?_ | refine zo ?_
 exact ret_1 results23 q (rv_tmp q rfl) ⟨rfl,s.bel⟩
 rw [ifb_f hb_142] at H
 refine wp_skip<|zr<|zm q rfl fun a q=>zl q (r_ibin q rfl rfl rfl) fun a q=>za q rfl fun a q=>zn ?_
 exact ⟨_,Nat.lt_succ_self _,(IntKind.i64.wrap (x_48 + 1)),H,q.sub (zc (zc (zc zz))),s⟩
 rw [ifb_f hb_101] at H
 refine wp_exit ?_
 refine zq<|zq<|zr<|zm q rfl fun a q=>zl q (r_len_R underlying53 h0_0 q rfl) fun a q=>zm q rfl fun a q=>zl q (r_len_R underlying53 h1_0 q rfl) fun a q=>zl q (r_ibin q rfl rfl rfl) fun a q=>zn ?_
 refine wp_cond_split (q.ev rfl) (fun (hb_143 : (decide ((a0.length : Int) < (a1.length : Int))) = true)=>?_) fun hb_143=>?_
 rw [ifb_t hb_143] at H
 refine zq<|zr<|za q rfl fun a q=>zn ?_
 obtain rfl:=Option.some.inj H
 refine wp_ret ?_
 repeat first | refine zt ?_ | refine zb ?_ | refine zo ?_
 exact ret_1 results23 q (rv_tmp q rfl) ⟨rfl,s.bel⟩
 rw [ifb_f hb_143] at H
 refine wp_skip<|zq<|zq<|zr<|zm q rfl fun a q=>zl q (r_len_R underlying53 h0_0 q rfl) fun a q=>zm q rfl fun a q=>zl q (r_len_R underlying53 h1_0 q rfl) fun a q=>zl q (r_ibin q rfl rfl rfl) fun a q=>zn ?_
 refine wp_cond_split (q.ev rfl) (fun (hb_144 : (decide ((a0.length : Int) > (a1.length : Int))) = true)=>?_) fun hb_144=>?_
 rw [ifb_t hb_144] at H
 refine zq<|zr<|za q rfl fun a q=>zn ?_
 obtain rfl:=Option.some.inj H
 refine wp_ret ?_
 repeat first | refine zt ?_ | refine zb ?_ | refine zo ?_
 exact ret_1 results23 q (rv_tmp q rfl) ⟨rfl,s.bel⟩
 rw [ifb_f hb_144] at H
 refine wp_skip<|zq<|zr<|za q rfl fun a q=>zn ?_
 obtain rfl:=Option.some.inj H
 refine wp_ret ?_
 repeat first | refine zt ?_ | refine zb ?_ | refine zo ?_
 exact ret_1 results23 q (rv_tmp q rfl) ⟨rfl,s.bel⟩
theorem ref02_sorted.r_calls (fuel : Nat) : ∀ (a0 : List (List api_Value)) {w0 : World} {R : Hp} {v0_0 : Value} (hR : R.sub w0) (h0_0 : SlR (tySl ty_api_Value) R v0_0 a0) {r : List (List api_Value)} (H : ref02_sorted.r fuel a0 = some r),Calls prog 84 #[v0_0] w0 (Rets fun v w'=>∃ (R' : Hp) (u0 : Value) (cu0 : List Value),v = u0 ∧ St [] w0 w' R' [.row 53 1 u0 r.length cu0] ∧ RLe [] w0 R R' ∧ Reps (tySl ty_api_Value) R' cu0 r):=by
 induction fuel with
 | zero=>intros; rename_i H; exact nomatch (show (none : Option _) = some _ from H)
 | succ fuel ih_84 =>
  intro a0 w0 R v0_0 hR h0_0 r H
  rw [ref02_sorted.r.eq_2] at H
  generalize ref02_sorted.r fuel = kr_84 at ih_84 H
  unfold ref02_sorted.b at H
  refine enter (args:=[v0_0]) func84 rfl ntmps84 rfl fun a q=>?_
  have s:=St.init hR
  have hRL:=RLe.refl (M:=[]) w0 R
  refine zq<|zr<|za q rfl fun a q=>zn<|zq<|zq<|zr<|zm q rfl fun a q=>zl q (r_len_R underlying33 h0_0 q rfl) fun a q=>zl q (r_ibin q rfl rfl rfl) fun a q=>zn ?_
  refine wp_cond_split (q.ev rfl) (fun (hb_1 : (decide ((a0.length : Int) < 2)) = true)=>?_) fun hb_1=>?_
  rw [ifb_t hb_1] at H
  refine zq<|zr ?_
  refine sl_buildSliceC (zc:=[.slice none 0 0]) (zs:=[]) (ps:=[]) (c:=[]) underlying33 sizeOf53 zeroValue53 rfl pc_nil rfl rfl (by decide) (by kernel_rfl) rfl s q (by decide) rfl fun a w b_2 s q=>?_
  refine zm q rfl fun a q=>?_
  obtain ⟨y_5,h_6,H⟩:=bs H
  have s:=s.row_lit (size:=1) (m:=0) rfl (by decide)
  have hq_4 : Reps (tySl ty_api_Value) R [] ([] : List (List api_Value)):=(Reps.nil _ _)
  refine sl_append_R elT33 (by decide) rfl hq_4 rfl h0_0 h_6 s q (by decide) rfl rfl rfl fun a w v_7 cs_8 hq_9 s q=>?_
  refine za q rfl fun a q=>zn ?_
  obtain rfl:=Option.some.inj H
  refine wp_ret ?_
  repeat first | refine zt ?_ | refine zb ?_ | refine zo ?_
  exact ret_1 results84 q (rv_tmp q rfl) ⟨_,rfl,_,_,_,rfl,s,hRL,hq_9⟩
  rw [ifb_f hb_1] at H
  refine wp_skip<|zq<|zr<|zm q rfl fun a q=>zm q rfl fun a q=>zl q (r_len_R underlying33 h0_0 q rfl) fun a q=>zl q (r_quo q rfl rfl (by decide)) fun a q=>?_
  obtain ⟨y_11,h_12,H⟩:=bs H
  obtain ⟨v_13,hs_14,hr_15⟩:=r_slice_R (x:=.tmp 14) (lo:=none) (hi:=some (.tmp 17)) underlying33 sizeOf53 h0_0 h_12 q rfl rfl ⟨_,rfl⟩
  refine zl q (hr_15 _ _ _ _ _ _ _ q) fun a q=>?_
  obtain ⟨y_16,h_17,H⟩:=bs H
  refine sl_call call84 q (by decide) rfl rfl rfl (ih_84 y_11 s.sub hs_14 h_17) fun a v_ w hv_ q=>?_
  obtain ⟨R_18,v_21,cs_22,hv_,hr_,hl_19,hq_23⟩:=hv_
  have hv_:=hv_.symm
  subst hv_
  obtain ⟨s,hl_19⟩:=s.sp0.back hr_ hl_19
  have s:=s.un1
  have hRL:=hRL.trans hl_19
  refine za q rfl fun a q=>zn<|zq<|zr<|zm q rfl fun a q=>zm q rfl fun a q=>zl q (r_len_R underlying33 h0_0 q rfl) fun a q=>zl q (r_quo q rfl rfl (by decide)) fun a q=>?_
  obtain ⟨y_24,h_25,H⟩:=bs H
  obtain ⟨v_26,hs_27,hr_28⟩:=r_slice_R (x:=.tmp 20) (lo:=some (.tmp 23)) (hi:=none) underlying33 sizeOf53 h0_0 h_25 q rfl ⟨_,rfl⟩ rfl
  refine zl q (hr_28 _ _ _ _ _ _ _ q) fun a q=>?_
  obtain ⟨y_29,h_30,H⟩:=bs H
  refine sl_call call84 q (by decide) rfl rfl rfl (ih_84 y_24 s.sub (hs_27.mono hl_19.le) h_30) fun a v_ w hv_ q=>?_
  obtain ⟨R_31,v_34,cs_35,hv_,hr_,hl_32,hq_36⟩:=hv_
  have hv_:=hv_.symm
  subst hv_
  obtain ⟨s,hl_32⟩:=s.sp0.back hr_ hl_32
  have s:=s.un1
  have hRL:=hRL.trans hl_32
  refine za q rfl fun a q=>zn<|zq<|zr<|za q rfl fun a q=>zn<|zq<|zr<|za q rfl fun a q=>zn<|zq<|zr<|za q rfl fun a q=>zn<|zq ?_
  refine wp_block ?_
  refine wp_loop_k (fun k_l0 a w=>∃ (x_228 : List (List api_Value)) (x_232 : Int) (x_233 : Int) (v_229 : Value) (cs_230 : List Value),ref02_sorted.l0 y_16 y_29 k_l0 x_228 x_232 x_233 = some r ∧ Reps (tySl ty_api_Value) R_31 cs_230 x_228 ∧ Kn 77 a [(3,v_21),(4,v_34),(5,v_229),(6,I6 x_232),(7,I6 x_233)] ∧ St [] w0 w R_31 [.row 53 1 v_21 y_16.length cs_22,.row 53 1 v_34 y_29.length cs_35,.row 53 1 v_229 x_228.length cs_230]) (y_16.length + y_29.length + 1) ?_ ?_
  have s:=s.row_nil 53 1
  have hq_417 : Reps (tySl ty_api_Value) R_31 [] ([] : List (List api_Value)):=Reps.nil _ _
  have s:=s.pk1
  have s:=s.pk2
  exact ⟨[],0,0,_,_,H,hq_417,q.sub (zc (zc (zc (zc (zc zz))))),s⟩
  rintro k_l0 a w ⟨x_228,x_232,x_233,v_229,cs_230,H,hq_231,q,s⟩
  rcases k_l0 with _ | k_l0
  cases H
  rw [ref02_sorted.l0.eq_2] at H
  refine zq<|zq ?_
  refine wp_mid (fun a w=>∃ (x_419 : Bool),ref02_sorted.j1 (ref02_sorted.l0 y_16 y_29 k_l0) y_16 y_29 x_228 x_232 x_233 x_419 = some r ∧ Kn 77 a [(3,v_21),(4,v_34),(5,v_229),(6,I6 x_232),(7,I6 x_233),(35,.bool x_419)] ∧ St [] w0 w R_31 [.row 53 1 v_21 y_16.length cs_22,.row 53 1 v_34 y_29.length cs_35,.row 53 1 v_229 x_228.length cs_230]) ?_ ?_
  refine zr<|zm q rfl fun a q=>zm q rfl fun a q=>zl q (r_len_O underlying33 s z0 q rfl) fun a q=>zl q (r_ibin q rfl rfl rfl) fun a q=>zm q rfl fun a q=>?_
  rcases or_b (decide (x_232 < (y_16.length : Int))) with hb_421 | hb_421
  rw [ifb_t hb_421] at H
  refine zsw q (wft hb_421) fun a q=>zsw q (wft hb_421) fun a q=>zsw q (wft hb_421) fun a q=>zsw q (wft hb_421) fun a q=>zl q (r_pick_t hb_421 q rfl rfl) fun a q=>zn ?_
  have s:=s.pk2
  have s:=s.pk2
  have s:=s.pk2
  exact ⟨true,H,q.sub (zc (zc (zc (zc (zc (zc zz)))))),s⟩
  rw [ifb_f hb_421] at H
  refine zw q (wff hb_421) (r_move q rfl) fun a q=>zw q (wff hb_421) (r_move q rfl) fun a q=>zw q (wff hb_421) (r_len_O underlying33 s z1 q rfl) fun a q=>zw q (wff hb_421) (r_ibin q rfl rfl rfl) fun a q=>zl q (r_pick_f hb_421 q rfl rfl) fun a q=>zn ?_
  have s:=s.pk2
  have s:=s.pk2
  have s:=s.pk2
  exact ⟨(decide (x_233 < (y_29.length : Int))),H,q.sub (zc (zc (zc (zc (zc (zc zz)))))),s⟩
  rintro a w ⟨x_419,H,q,s⟩
  unfold ref02_sorted.j1 at H
  refine wp_cond_split (q.ev rfl) (fun (hb_422 : x_419 = true)=>?_) fun hb_422=>?_
  rw [ifb_t hb_422] at H
  refine wp_skip ?_
  refine wp_block ?_
  refine zq ?_
  refine wp_mid (fun a w=>∃ (x_471 : Bool),ref02_sorted.j2 (ref02_sorted.l0 y_16 y_29 k_l0) y_16 y_29 x_228 x_232 x_233 x_471 = some r ∧ Kn 77 a [(3,v_21),(4,v_34),(5,v_229),(6,I6 x_232),(7,I6 x_233),(57,.bool x_471)] ∧ St [] w0 w R_31 [.row 53 1 v_21 y_16.length cs_22,.row 53 1 v_34 y_29.length cs_35,.row 53 1 v_229 x_228.length cs_230]) ?_ ?_
  refine parT_region (C:=fun w=>St [] w0 w R_31 [.row 53 1 v_21 y_16.length cs_22,.row 53 1 v_34 y_29.length cs_35,.row 53 1 v_229 x_228.length cs_230]) 18 [(0,true),(1,true),(2,true),(3,true),(4,true),(5,true),(6,true),(7,true),(8,true),(9,true),(10,true),(11,true),(12,true),(13,true),(14,true),(15,true),(16,true),(17,true)] mixed (by kernel_rfl) s (fun w s=>s) fun w s=>?_
  refine zp rfl q (fun w s=>r_move q rfl) fun a q=>zp rfl q (fun w s=>r_move q rfl) fun a q=>zp rfl q (fun w s=>r_len_O underlying33 s z1 q rfl) fun a q=>zp rfl q (fun w s=>r_ibin q rfl rfl rfl) fun a q=>zp rfl q (fun w s=>r_move q rfl) fun a q=>?_
  rcases or_b (x_233 == (y_29.length : Int)) with hb_497 | hb_497
  rw [ifb_t hb_497] at H
  refine zps rfl q (wft hb_497) fun a q=>zps rfl q (wft hb_497) fun a q=>zps rfl q (wft hb_497) fun a q=>zps rfl q (wft hb_497) fun a q=>zps rfl q (wft hb_497) fun a q=>zps rfl q rfl fun a q=>zps rfl q rfl fun a q=>zps rfl q rfl fun a q=>zps rfl q rfl fun a q=>zps rfl q rfl fun a q=>zps rfl q rfl fun a q=>zps rfl q rfl fun a q=>zps rfl q rfl fun a q=>?_
  refine thenL_nil ?_
  refine zs q fun a q=>zs q fun a q=>zsw q (wft hb_497) fun a q=>zl q (r_pick_t hb_497 q rfl rfl) fun a q=>?_
  refine wpList_nil (NoP_nil ?_)
  have s:=s.pk2
  have s:=s.pk2
  have s:=s.pk2
  exact ⟨true,H,q.sub (zc (zc (zc (zc (zc (zc zz)))))),s⟩
  rw [ifb_f hb_497] at H
  refine zpw rfl q (wff hb_497) (fun w s=>r_move q rfl) fun a q=>zpw rfl q (wff hb_497) (fun w s=>r_move q rfl) fun a q=>zpw rfl q (wff hb_497) (fun w s=>r_len_O underlying33 s z0 q rfl) fun a q=>zpw rfl q (wff hb_497) (fun w s=>r_ibin q rfl rfl rfl) fun a q=>zpw rfl q (wff hb_497) (fun w s=>r_move q rfl) fun a q=>?_
  rcases or_b (decide (x_232 < (y_16.length : Int))) with hb_498 | hb_498
  rw [ifb_t hb_498] at H
  refine zpw rfl q (wtt hb_498) (fun w s=>r_move q rfl) fun a q=>zpw rfl q (wtt hb_498) (fun w s=>r_move q rfl) fun a q=>?_
  obtain ⟨y_499,h_500,H⟩:=bs H
  obtain ⟨b_502,c_503,cs_504,hv_501,hr_505,hc_506,h_5000,h_5001⟩:=s.row_ix z0 (hq_23.mono hl_32.le) rfl rfl h_500
  obtain ⟨v_507,rfl,hs_508⟩:=hr_505
  refine zpw rfl q (wtt hb_498) (fun w s=>r_indexAddr_R underlying33 sizeOf53 hv_501 h_5000 h_5001 q rfl rfl) fun a q=>zpw rfl q (wtt hb_498) (fun w s=>r_load isAgg53 q rfl (s.row_cell z0 hv_501 (hc_506 0 _ rfl))) fun a q=>zpw rfl q (wtt hb_498) (fun w s=>r_move q rfl) fun a q=>zpw rfl q (wtt hb_498) (fun w s=>r_move q rfl) fun a q=>?_
  obtain ⟨y_509,h_510,H⟩:=bs H
  obtain ⟨b_512,c_513,cs_514,hv_511,hr_515,hc_516,h_5100,h_5101⟩:=s.row_ix z1 hq_36 rfl rfl h_510
  obtain ⟨v_517,rfl,hs_518⟩:=hr_515
  refine zpw rfl q (wtt hb_498) (fun w s=>r_indexAddr_R underlying33 sizeOf53 hv_511 h_5100 h_5101 q rfl rfl) fun a q=>zpw rfl q (wtt hb_498) (fun w s=>r_load isAgg53 q rfl (s.row_cell z1 hv_511 (hc_516 0 _ rfl))) fun a q=>?_
  refine thenL_nil ?_
  obtain ⟨y_519,h_520,H⟩:=bs H
  refine sl_callV call23 s q (by decide) (wtt hb_498) rfl rfl (ref02_Row.calls y_499 y_509 (lentOf_sub [] _) (hs_508.mono s.rLe0) (hs_518.mono s.rLe0) h_520) fun a w s q=>?_
  refine zw q (wtt hb_498) (r_ibin q rfl rfl rfl) fun a q=>zw q (wff hb_497) (r_pick_t hb_498 q rfl rfl) fun a q=>zl q (r_pick_f hb_497 q rfl rfl) fun a q=>?_
  refine wpList_nil (NoP_nil ?_)
  have s:=s.pk2
  have s:=s.pk2
  have s:=s.pk2
  exact ⟨(decide (y_519 ≤ 0)),H,q.sub (zc (zc (zc (zc (zc (zc zz)))))),s⟩
  rw [ifb_f hb_498] at H
  refine zps rfl q (wtf hb_498) fun a q=>zps rfl q (wtf hb_498) fun a q=>zps rfl q (wtf hb_498) fun a q=>zps rfl q (wtf hb_498) fun a q=>zps rfl q (wtf hb_498) fun a q=>zps rfl q (wtf hb_498) fun a q=>zps rfl q (wtf hb_498) fun a q=>zps rfl q (wtf hb_498) fun a q=>?_
  refine thenL_nil ?_
  refine zsw q (wtf hb_498) fun a q=>zsw q (wtf hb_498) fun a q=>zw q (wff hb_497) (r_pick_f hb_498 q rfl rfl) fun a q=>zl q (r_pick_f hb_497 q rfl rfl) fun a q=>?_
  refine wpList_nil (NoP_nil ?_)
  have s:=s.pk2
  have s:=s.pk2
  have s:=s.pk2
  exact ⟨false,H,q.sub (zc (zc (zc (zc (zc (zc zz)))))),s⟩
  rintro a w ⟨x_471,H,q,s⟩
  unfold ref02_sorted.j2 at H
  refine wp_mid (fun a w=>∃ (x_557 : List (List api_Value)) (x_561 : Int) (x_562 : Int) (v_558 : Value) (cs_559 : List Value),ref02_sorted.j3 (ref02_sorted.l0 y_16 y_29 k_l0) y_16 y_29 x_557 x_561 x_562 = some r ∧ Reps (tySl ty_api_Value) R_31 cs_559 x_557 ∧ Kn 77 a [(3,v_21),(4,v_34),(5,v_558),(6,I6 x_561),(7,I6 x_562)] ∧ St [] w0 w R_31 [.row 53 1 v_21 y_16.length cs_22,.row 53 1 v_34 y_29.length cs_35,.row 53 1 v_558 x_557.length cs_559]) ?_ ?_
  refine wp_cond_split (q.ev rfl) (fun (hb_564 : x_471 = true)=>?_) fun hb_564=>?_
  rw [ifb_t hb_564] at H
  refine zq<|zr<|zm q rfl fun a q=>zm q rfl fun a q=>zm q rfl fun a q=>?_
  obtain ⟨y_565,h_566,H⟩:=bs H
  obtain ⟨b_568,c_569,cs_570,hv_567,hr_571,hc_572,h_5660,h_5661⟩:=s.row_ix z0 (hq_23.mono hl_32.le) rfl rfl h_566
  obtain ⟨v_573,rfl,hs_574⟩:=hr_571
  refine zl q (r_indexAddr_R underlying33 sizeOf53 hv_567 h_5660 h_5661 q rfl rfl) fun a q=>zl q (r_load isAgg53 q rfl (s.row_cell z0 hv_567 (hc_572 0 _ rfl))) fun a q=>?_
  refine sl_buildSliceF (zc:=[.slice none 0 0]) (ps:=[(0,v_573)]) (c:=[v_573]) [[v_573]] underlying33 sizeOf53 zeroValue53 rfl (pc_cons (cells1 hs_574.one) pc_nil) rfl rfl (Nat.le_of_ble_eq_true rfl) rfl (zc zz) rfl s q (by decide) rfl fun a w b_575 s q=>?_
  obtain ⟨y_576,h_577,H⟩:=bs H
  have s:=s.pk3
  refine sl_append_L (ty:=(tySl ty_api_Value)) (ys:=[y_565]) elT33 (by decide) rfl hq_231 rfl (Reps.cons (show Ty.rep (tySl ty_api_Value) _ [v_573] y_565 from ⟨_,rfl,hs_574⟩) (Reps.nil _ _)) rfl h_577 s q (by decide) rfl rfl rfl fun a w v_578 cs_579 hq_580 s q=>?_
  refine za q rfl fun a q=>zn<|zr<|zm q rfl fun a q=>zl q (r_ibin q rfl rfl rfl) fun a q=>za q rfl fun a q=>zn ?_
  have s:=s.pk2
  have s:=s.pk2
  exact ⟨y_576,(IntKind.i64.wrap (x_232 + 1)),x_233,_,_,H,hq_580,q.sub (zc (zc (zc (zc (zc zz))))),s⟩
  rw [ifb_f hb_564] at H
  refine zq<|zr<|zm q rfl fun a q=>zm q rfl fun a q=>zm q rfl fun a q=>?_
  obtain ⟨y_582,h_583,H⟩:=bs H
  obtain ⟨b_585,c_586,cs_587,hv_584,hr_588,hc_589,h_5830,h_5831⟩:=s.row_ix z1 hq_36 rfl rfl h_583
  obtain ⟨v_590,rfl,hs_591⟩:=hr_588
  refine zl q (r_indexAddr_R underlying33 sizeOf53 hv_584 h_5830 h_5831 q rfl rfl) fun a q=>zl q (r_load isAgg53 q rfl (s.row_cell z1 hv_584 (hc_589 0 _ rfl))) fun a q=>?_
  refine sl_buildSliceF (zc:=[.slice none 0 0]) (ps:=[(0,v_590)]) (c:=[v_590]) [[v_590]] underlying33 sizeOf53 zeroValue53 rfl (pc_cons (cells1 hs_591.one) pc_nil) rfl rfl (Nat.le_of_ble_eq_true rfl) rfl (zc zz) rfl s q (by decide) rfl fun a w b_592 s q=>?_
  obtain ⟨y_593,h_594,H⟩:=bs H
  have s:=s.pk3
  refine sl_append_L (ty:=(tySl ty_api_Value)) (ys:=[y_582]) elT33 (by decide) rfl hq_231 rfl (Reps.cons (show Ty.rep (tySl ty_api_Value) _ [v_590] y_582 from ⟨_,rfl,hs_591⟩) (Reps.nil _ _)) rfl h_594 s q (by decide) rfl rfl rfl fun a w v_595 cs_596 hq_597 s q=>?_
  refine za q rfl fun a q=>zn<|zr<|zm q rfl fun a q=>zl q (r_ibin q rfl rfl rfl) fun a q=>za q rfl fun a q=>zn ?_
  have s:=s.pk2
  have s:=s.pk2
  exact ⟨y_593,x_232,(IntKind.i64.wrap (x_233 + 1)),_,_,H,hq_597,q.sub (zc (zc (zc (zc (zc zz))))),s⟩
  rintro a w ⟨x_557,x_561,x_562,v_558,cs_559,H,hq_560,q,s⟩
  unfold ref02_sorted.j3 at H
  have s:=s.pk2
  have s:=s.pk2
  have s:=s.pk2
  exact ⟨_,Nat.lt_succ_self _,x_557,x_561,x_562,_,_,H,hq_560,q.sub (zc (zc (zc (zc (zc zz))))),s⟩
  rw [ifb_f hb_422] at H
  refine wp_exit ?_
  refine zq<|zr<|zm q rfl fun a q=>za q rfl fun a q=>zn ?_
  obtain rfl:=Option.some.inj H
  refine wp_ret ?_
  repeat first | refine zt ?_ | refine zb ?_ | refine zo ?_
  exact ret_1 results84 q (rv_tmp q rfl) ⟨_,rfl,_,_,_,rfl,(s.pk2.trunc 1),hRL,hq_231⟩
theorem ref02_sorted.calls (a0 : List (List api_Value)) {w0 : World} {R : Hp} {v0_0 : Value} (hR : R.sub w0) (h0_0 : SlR (tySl ty_api_Value) R v0_0 a0) {r : List (List api_Value)} (H : ref02_sorted a0 = some r) : Calls prog 84 #[v0_0] w0 (Rets fun v w'=>∃ (R' : Hp) (u0 : Value) (cu0 : List Value),v = u0 ∧ St [] w0 w' R' [.row 53 1 u0 r.length cu0] ∧ RLe [] w0 R R' ∧ Reps (tySl ty_api_Value) R' cu0 r):=ref02_sorted.r_calls _ a0 hR h0_0 H
theorem ref02_Canon.calls (a0 : api_Table) {w0 : World} {R : Hp} {v0_0 : Value} {v0_1 : Value} (hR : R.sub w0) (h0_0 : SlR ty_api_Col R v0_0 a0.Cols) (h0_1 : SlR (tySl ty_api_Value) R v0_1 a0.Rows) {r : api_Table} (H : ref02_Canon a0 = some r) : Calls prog 61 #[.agg #[v0_0,v0_1]] w0 (Rets fun v w'=>∃ (R' : Hp) (u0 : Value) (cu0 : List Value) (u1 : Value) (cu1 : List Value),v = .agg #[u0,u1] ∧ St [] w0 w' R' [.row 47 2 u0 r.Cols.length cu0,.row 53 1 u1 r.Rows.length cu1] ∧ RLe [] w0 R R' ∧ Reps ty_api_Col R' cu0 r.Cols ∧ Reps (tySl ty_api_Value) R' cu1 r.Rows):=by
 unfold ref02_Canon at H
 refine enter (args:=[.agg #[v0_0,v0_1]]) func61 rfl ntmps61 rfl fun a q=>?_
 have s:=St.init hR
 have hRL:=RLe.refl (M:=[]) w0 R
 refine zq<|zr ?_
 refine sl_box s q (by decide) rfl rfl (c:=[v0_0,v0_1]) rfl fun a w b_1 s q=>?_
 refine sl_alloc zeroValue35 s q (by decide) rfl rfl fun a w b_2 s q=>?_
 refine zn<|zq ?_
 refine parT_region (C:=fun w=>St [] w0 w R [.cells b_2 [.slice none 0 0,.slice none 0 0] 35,.cells b_1 [v0_0,v0_1] 35]) 6 [(1,true),(2,true),(4,true),(5,true),(0,false),(3,false)] mixed (by kernel_rfl) s (fun w s=>s) fun w s=>?_
 refine zp rfl q (fun w s=>r_fieldAddr underlying35 rfl sizeOf22 q rfl) fun a q=>zp rfl q (fun w s=>r_load isAgg22 q rfl (s.cell z1 rfl)) fun a q=>zp rfl q (fun w s=>r_fieldAddr underlying35 rfl sizeOf33 q rfl) fun a q=>zp rfl q (fun w s=>r_load isAgg33 q rfl (s.cell z1 rfl)) fun a q=>?_
 refine spw (k:=0) rfl rfl s ?_
 refine sl_buildSliceC (zc:=[.string (⟨#[]⟩ : ByteArray),I6 0]) (zs:=[]) (ps:=[]) (c:=[]) underlying22 sizeOf47 zeroValue47 rfl pc_nil rfl rfl (by decide) (by kernel_rfl) rfl s q (by decide) rfl fun a w b_22 s q=>?_
 refine parK_nil (s.pk2.pk2.trunc 2) ?_
 refine spw (k:=3) rfl rfl (s.pk2.pk2.trunc 2) ?_
 obtain ⟨y_25,h_26,H⟩:=bs H
 have s:=s.row_lit (size:=2) (m:=0) rfl (by decide)
 have hq_24 : Reps ty_api_Col R [] ([] : List api_Col):=(Reps.nil _ _)
 refine sl_append_R elT22 (by decide) rfl hq_24 rfl h0_0 h_26 s q (by decide) rfl rfl rfl fun a w v_27 cs_28 hq_29 s q=>?_
 refine parK_nil (s.pk2.pk2.trunc 2) ?_
 refine thenL_nil ?_
 obtain ⟨y_31,h_32,H⟩:=bs H
 refine sl_call call84 q (by decide) rfl rfl rfl (ref02_sorted.calls a0.Rows s.sub h0_1 h_32) fun a v_ w hv_ q=>?_
 obtain ⟨R_33,v_36,cs_37,hv_,hr_,hl_34,hq_38⟩:=hv_
 have hv_:=hv_.symm
 subst hv_
 obtain ⟨s,hl_34⟩:=s.sp0.back hr_ hl_34
 have s:=s.un1
 have hRL:=hRL.trans hl_34
 have ho_39:=s.row_one z1
 have ho_40:=s.row_one z0
 refine zl q (r_buildC (ps:=[(0,v_27),(1,v_36)]) (c:=[v_27,v_36]) underlying35 zeroValue35 places35 q rfl (pc_cons (cells1 ho_39) (pc_cons (cells1 ho_40) pc_nil)) rfl rfl) fun a q=>?_
 have s:=s.pk2
 refine sl_storeA (vs:=[v_27,v_36]) (c':=[v_27,v_36]) sizeOf35 s q rfl rfl rfl rfl (all_cons (s.row_one z2) (all_cons (s.row_one z1) zz)) (Nat.le_of_ble_eq_true rfl) rfl fun a w s q=>?_
 refine wpList_nil (NoP_nil ?_)
 obtain rfl:=Option.some.inj H
 refine wp_ret ?_
 repeat first | refine zt ?_ | refine zb ?_ | refine zo ?_
 exact ret_1 results61 q (rv_cell (c:=[v_27,v_36]) isAgg35 sizeOf35 s z0 rfl q rfl) ⟨_,rfl,_,_,_,_,_,rfl,(s.pk1.pk2.trunc 2),hRL,(hq_29.mono hl_34.le),hq_38⟩
theorem ref18_together.calls (a0 : api_Table) (a1 : Int) (a2 : List api_Agg) {w0 : World} {R : Hp} {RA : Hp} {v0_0 : Value} {v0_1 : Value} {v2_0 : Value} (hRA : RA.sub w0) (hR : R.sub w0) (h0_0 : SlR ty_api_Col R v0_0 a0.Cols) (h0_1 : SlR (tySl ty_api_Value) R v0_1 a0.Rows) (h2_0 : SlR ty_api_Agg RA v2_0 a2) {r : api_Table} (H : ref18_together a0 a1 a2 = some r) : Calls prog 38 #[.agg #[v0_0,v0_1],I6 a1,v2_0] w0 (Rets fun v w'=>∃ (R' : Hp) (u0 : Value) (cu0 : List Value) (u1 : Value) (cu1 : List Value),v = .agg #[u0,u1] ∧ St [] w0 w' R' [.row 47 2 u0 r.Cols.length cu0,.row 53 1 u1 r.Rows.length cu1] ∧ RLe [] w0 R R' ∧ Reps ty_api_Col R' cu0 r.Cols ∧ Reps (tySl ty_api_Value) R' cu1 r.Rows):=by
 unfold ref18_together at H
 refine enter (args:=[.agg #[v0_0,v0_1],I6 a1,v2_0]) func38 rfl ntmps38 rfl fun a q=>?_
 have s:=St.init hR
 have hRL:=RLe.refl (M:=[]) w0 R
 refine zq<|zr ?_
 refine sl_box s q (by decide) rfl rfl (c:=[v0_0,v0_1]) rfl fun a w b_1 s q=>?_
 refine sl_alloc zeroValue35 s q (by decide) rfl rfl fun a w b_2 s q=>?_
 refine zn<|zq<|zr<|zl q (r_fieldAddr underlying35 rfl sizeOf22 q rfl) fun a q=>zl q (r_load isAgg22 q rfl (s.cell z1 rfl)) fun a q=>zl q (r_buildC (ps:=[(0,v0_0)]) (c:=[v0_0,.slice none 0 0]) underlying35 zeroValue35 places35 q rfl (pc_cons (cells1 h0_0.one) pc_nil) rfl rfl) fun a q=>?_
 refine sl_alloc zeroValue35 s q (by decide) rfl rfl fun a w b_3 s q=>?_
 refine sl_storeA (vs:=[v0_0,.slice none 0 0]) (c':=[v0_0,.slice none 0 0]) sizeOf35 s q rfl rfl rfl rfl (all_cons h0_0.one (zc zz)) (Nat.le_of_ble_eq_true rfl) rfl fun a w s q=>?_
 refine zn<|zq<|zq<|zr<|za q rfl fun a q=>zn ?_
 refine wp_block ?_
 refine wp_loop_k (fun k_l0 a w=>∃ (x_78 : List (List api_Value)) (x_82 : Int) (R_83 : Hp) (v_79 : Value) (cs_80 : List Value),ref18_together.l0 a0 a1 a2 k_l0 x_78 x_82 = some r ∧ RLe [] w0 R R_83 ∧ Reps (tySl ty_api_Value) R_83 cs_80 x_78 ∧ Kn 78 a [(1,I6 a1),(2,v2_0),(3,.pointer (some ⟨b_1,0,none⟩)),(6,.pointer (some ⟨b_2,0,none⟩)),(7,.pointer (some ⟨b_3,0,none⟩)),(8,I6 x_82)] ∧ St [] w0 w R_83 [.cells b_1 [v0_0,v0_1] 35,.cells b_2 [.slice none 0 0,.slice none 0 0] 35,.row 53 1 v_79 x_78.length cs_80,.cells b_3 [v0_0,v_79] 35]) (((a0.Rows.length : Int) - 0).toNat + 1) ?_ ?_
 have s:=s.row_nil 53 1
 have hq_760 : Reps (tySl ty_api_Value) R [] ([] : List (List api_Value)):=Reps.nil _ _
 have s:=s.pk1
 have s:=s.pk1
 have s:=s.pk2
 have s:=s.pk3
 exact ⟨[],0,_,_,_,H,(RLe.refl _ _),hq_760,q.sub (zc (zc (zc (zc (zc (zc zz)))))),s⟩
 rintro k_l0 a w ⟨x_78,x_82,R_83,v_79,cs_80,H,hl_84,hq_81,q,s⟩
 rcases k_l0 with _ | k_l0
 cases H
 rw [ref18_together.l0.eq_2] at H
 have hRL:=hRL.trans hl_84
 refine zq<|zq<|zr<|zm q rfl fun a q=>zl q (r_fieldAddr underlying35 rfl sizeOf33 q rfl) fun a q=>zl q (r_load isAgg33 q rfl (s.cell z0 rfl)) fun a q=>zl q (r_len_R underlying33 h0_1 q rfl) fun a q=>zl q (r_ibin q rfl rfl rfl) fun a q=>zn ?_
 refine wp_cond_split (q.ev rfl) (fun (hb_761 : (decide (x_82 < (a0.Rows.length : Int))) = true)=>?_) fun hb_761=>?_
 rw [ifb_t hb_761] at H
 refine wp_skip<|zq ?_
 refine wp_block ?_
 refine zq<|zr<|za q rfl fun a q=>zn<|zq ?_
 refine wp_block ?_
 refine wp_loop_k (fun k_l1 a w=>∃ (x_862 : Int),ref18_together.l1 (ref18_together.l0 a0 a1 a2 k_l0) a0 a1 a2 x_78 x_82 k_l1 x_862 = some r ∧ Kn 78 a [(1,I6 a1),(2,v2_0),(3,.pointer (some ⟨b_1,0,none⟩)),(6,.pointer (some ⟨b_2,0,none⟩)),(7,.pointer (some ⟨b_3,0,none⟩)),(8,I6 x_82),(9,I6 x_862)] ∧ St [] w0 w R_83 [.cells b_1 [v0_0,v0_1] 35,.cells b_2 [.slice none 0 0,.slice none 0 0] 35,.row 53 1 v_79 x_78.length cs_80,.cells b_3 [v0_0,v_79] 35]) (((x_78.length : Int) - 0).toNat + 1) ?_ ?_
 have s:=s.pk3
 have s:=s.pk3
 have s:=s.pk3
 have s:=s.pk3
 exact ⟨0,H,q.sub (zc (zc (zc (zc (zc (zc (zc zz))))))),s⟩
 rintro k_l1 a w ⟨x_862,H,q,s⟩
 rcases k_l1 with _ | k_l1
 cases H
 rw [ref18_together.l1.eq_2] at H
 refine zq<|zq ?_
 refine wp_mid (fun a w=>∃ (x_1059 : Bool),ref18_together.j2 (ref18_together.l0 a0 a1 a2 k_l0) (ref18_together.l1 (ref18_together.l0 a0 a1 a2 k_l0) a0 a1 a2 x_78 x_82 k_l1) a0 a1 a2 x_78 x_82 x_862 x_1059 = some r ∧ Kn 78 a [(1,I6 a1),(2,v2_0),(3,.pointer (some ⟨b_1,0,none⟩)),(6,.pointer (some ⟨b_2,0,none⟩)),(7,.pointer (some ⟨b_3,0,none⟩)),(8,I6 x_82),(9,I6 x_862),(39,.bool x_1059)] ∧ St [] w0 w R_83 [.cells b_1 [v0_0,v0_1] 35,.cells b_2 [.slice none 0 0,.slice none 0 0] 35,.row 53 1 v_79 x_78.length cs_80,.cells b_3 [v0_0,v_79] 35]) ?_ ?_
 refine parT_region (C:=fun w=>St [] w0 w R_83 [.cells b_1 [v0_0,v0_1] 35,.cells b_2 [.slice none 0 0,.slice none 0 0] 35,.row 53 1 v_79 x_78.length cs_80,.cells b_3 [v0_0,v_79] 35]) 17 [(0,true),(1,true),(2,true),(3,true),(4,true),(5,true),(6,true),(7,true),(8,true),(9,true),(10,true),(11,true),(12,true),(13,true),(14,true),(15,true),(16,true)] mixed (by kernel_rfl) s (fun w s=>s) fun w s=>?_
 refine zp rfl q (fun w s=>r_move q rfl) fun a q=>zp rfl q (fun w s=>r_fieldAddr underlying35 rfl sizeOf33 q rfl) fun a q=>zp rfl q (fun w s=>r_load isAgg33 q rfl (s.cell z3 rfl)) fun a q=>zp rfl q (fun w s=>r_len_O underlying33 s z2 q rfl) fun a q=>zp rfl q (fun w s=>r_ibin q rfl rfl rfl) fun a q=>zp rfl q (fun w s=>r_move q rfl) fun a q=>?_
 rcases or_b (decide (x_862 < (x_78.length : Int))) with hb_1085 | hb_1085
 rw [ifb_t hb_1085] at H
 refine zpw rfl q (wtt hb_1085) (fun w s=>r_fieldAddr underlying35 rfl sizeOf33 q rfl) fun a q=>zpw rfl q (wtt hb_1085) (fun w s=>r_load isAgg33 q rfl (s.cell z3 rfl)) fun a q=>zpw rfl q (wtt hb_1085) (fun w s=>r_move q rfl) fun a q=>?_
 obtain ⟨y_1086,h_1087,H⟩:=bs H
 obtain ⟨b_1089,c_1090,cs_1091,hv_1088,hr_1092,hc_1093,h_10870,h_10871⟩:=s.row_ix z2 hq_81 rfl rfl h_1087
 obtain ⟨v_1094,rfl,hs_1095⟩:=hr_1092
 refine zpw rfl q (wtt hb_1085) (fun w s=>r_indexAddr_R underlying33 sizeOf53 hv_1088 h_10870 h_10871 q rfl rfl) fun a q=>zpw rfl q (wtt hb_1085) (fun w s=>r_load isAgg53 q rfl (s.row_cell z2 hv_1088 (hc_1093 0 _ rfl))) fun a q=>zpw rfl q (wtt hb_1085) (fun w s=>r_fieldAddr underlying35 rfl sizeOf33 q rfl) fun a q=>zpw rfl q (wtt hb_1085) (fun w s=>r_load isAgg33 q rfl (s.cell z0 rfl)) fun a q=>zpw rfl q (wtt hb_1085) (fun w s=>r_move q rfl) fun a q=>?_
 obtain ⟨y_1096,h_1097,H⟩:=bs H
 obtain ⟨b_1098,o_1099,c_1100,cs_1101,hv_1102,hr_1103,hc_1104,h_10970,h_10971⟩:=h0_1.ix h_1097
 obtain ⟨v_1105,rfl,hs_1106⟩:=hr_1103
 refine zpw rfl q (wtt hb_1085) (fun w s=>r_indexAddr_R underlying33 sizeOf53 hv_1102 h_10970 h_10971 q rfl rfl) fun a q=>zpw rfl q (wtt hb_1085) (fun w s=>r_load isAgg53 q rfl ((s.sub.le hl_84.le).cell (hc_1104 0 _ rfl))) fun a q=>zpw rfl q (wtt hb_1085) (fun w s=>r_move q rfl) fun a q=>?_
 refine thenL_nil ?_
 obtain ⟨y_1107,h_1108,H⟩:=bs H
 refine sl_callV call59 s q (by decide) (wtt hb_1085) rfl rfl (ref18_same.calls y_1086 y_1096 a1 (lentOf_sub [] _) (hs_1095.mono s.rLe0) (hs_1106.mono (hl_84.le.trans s.rLe0)) h_1108) fun a w s q=>?_
 refine zw q (wtt hb_1085) (r_un q rfl (u_not _)) fun a q=>zl q (r_pick_t hb_1085 q rfl rfl) fun a q=>?_
 refine wpList_nil (NoP_nil ?_)
 have s:=s.pk3
 have s:=s.pk3
 have s:=s.pk3
 have s:=s.pk3
 exact ⟨(!y_1107),H,q.sub (zc (zc (zc (zc (zc (zc (zc (zc zz)))))))),s⟩
 rw [ifb_f hb_1085] at H
 refine zps rfl q (wtf hb_1085) fun a q=>zps rfl q (wtf hb_1085) fun a q=>zps rfl q (wtf hb_1085) fun a q=>zps rfl q (wtf hb_1085) fun a q=>zps rfl q (wtf hb_1085) fun a q=>zps rfl q (wtf hb_1085) fun a q=>zps rfl q (wtf hb_1085) fun a q=>zps rfl q (wtf hb_1085) fun a q=>zps rfl q (wtf hb_1085) fun a q=>zps rfl q (wtf hb_1085) fun a q=>zps rfl q (wtf hb_1085) fun a q=>?_
 refine thenL_nil ?_
 refine zsw q (wtf hb_1085) fun a q=>zsw q (wtf hb_1085) fun a q=>zl q (r_pick_f hb_1085 q rfl rfl) fun a q=>?_
 refine wpList_nil (NoP_nil ?_)
 have s:=s.pk3
 have s:=s.pk3
 have s:=s.pk3
 have s:=s.pk3
 exact ⟨false,H,q.sub (zc (zc (zc (zc (zc (zc (zc (zc zz)))))))),s⟩
 rintro a w ⟨x_1059,H,q,s⟩
 unfold ref18_together.j2 at H
 refine wp_cond_split (q.ev rfl) (fun (hb_1109 : x_1059 = true)=>?_) fun hb_1109=>?_
 rw [ifb_t hb_1109] at H
 refine wp_skip ?_
 refine wp_block ?_
 refine zr<|zm q rfl fun a q=>zl q (r_ibin q rfl rfl rfl) fun a q=>za q rfl fun a q=>zn ?_
 have s:=s.pk3
 have s:=s.pk3
 have s:=s.pk3
 have s:=s.pk3
 exact ⟨_,Nat.lt_succ_self _,(IntKind.i64.wrap (x_862 + 1)),H,q.sub (zc (zc (zc (zc (zc (zc (zc zz))))))),s⟩
 rw [ifb_f hb_1109] at H
 refine wp_exit ?_
 refine zq<|zr<|zm q rfl fun a q=>zl q (r_fieldAddr underlying35 rfl sizeOf33 q rfl) fun a q=>zl q (r_load isAgg33 q rfl (s.cell z3 rfl)) fun a q=>zl q (r_len_O underlying33 s z2 q rfl) fun a q=>zl q (r_ibin q rfl rfl rfl) fun a q=>zn ?_
 refine wp_mid (fun a w=>∃ (x_1270 : List (List api_Value)) (R_1274 : Hp) (v_1271 : Value) (cs_1272 : List Value),ref18_together.j3 (ref18_together.l0 a0 a1 a2 k_l0) a0 x_82 x_1270 = some r ∧ RLe [] w0 R_83 R_1274 ∧ Reps (tySl ty_api_Value) R_1274 cs_1272 x_1270 ∧ Kn 78 a [(1,I6 a1),(2,v2_0),(3,.pointer (some ⟨b_1,0,none⟩)),(6,.pointer (some ⟨b_2,0,none⟩)),(7,.pointer (some ⟨b_3,0,none⟩)),(8,I6 x_82)] ∧ St [] w0 w R_1274 [.cells b_1 [v0_0,v0_1] 35,.cells b_2 [.slice none 0 0,.slice none 0 0] 35,.row 53 1 v_1271 x_1270.length cs_1272,.cells b_3 [v0_0,v_1271] 35]) ?_ ?_
 refine wp_cond_split (q.ev rfl) (fun (hb_1276 : (x_862 == (x_78.length : Int)) = true)=>?_) fun hb_1276=>?_
 rw [ifb_t hb_1276] at H
 refine parT_region (C:=fun w=>St [] w0 w R_83 [.cells b_1 [v0_0,v0_1] 35,.cells b_2 [.slice none 0 0,.slice none 0 0] 35,.row 53 1 v_79 x_78.length cs_80,.cells b_3 [v0_0,v_79] 35]) 10 [(0,true),(1,true),(3,true),(4,true),(5,true),(6,true),(7,true),(2,false),(8,false),(9,false)] mixed (by kernel_rfl) s (fun w s=>s) fun w s=>?_
 refine zp rfl q (fun w s=>r_fieldAddr underlying35 rfl sizeOf33 q rfl) fun a q=>zp rfl q (fun w s=>r_load isAgg33 q rfl (s.cell z3 rfl)) fun a q=>zp rfl q (fun w s=>r_fieldAddr underlying35 rfl sizeOf33 q rfl) fun a q=>zp rfl q (fun w s=>r_load isAgg33 q rfl (s.cell z0 rfl)) fun a q=>zp rfl q (fun w s=>r_move q rfl) fun a q=>?_
 obtain ⟨y_1308,h_1309,H⟩:=bs H
 obtain ⟨b_1310,o_1311,c_1312,cs_1313,hv_1314,hr_1315,hc_1316,h_13090,h_13091⟩:=h0_1.ix h_1309
 obtain ⟨v_1317,rfl,hs_1318⟩:=hr_1315
 refine zp rfl q (fun w s=>r_indexAddr_R underlying33 sizeOf53 hv_1314 h_13090 h_13091 q rfl rfl) fun a q=>zp rfl q (fun w s=>r_load isAgg53 q rfl ((s.sub.le hl_84.le).cell (hc_1316 0 _ rfl))) fun a q=>?_
 refine spw (k:=2) rfl rfl s ?_
 refine sl_buildSliceC (zc:=[I6 0,I6 0,.string (⟨#[]⟩ : ByteArray),I6 0,I6 0,I6 0,I6 0,I6 0,I6 0,I6 0,I6 0]) (zs:=[]) (ps:=[]) (c:=[]) underlying53 sizeOf52 zeroValue52 rfl pc_nil rfl rfl (by decide) (by kernel_rfl) rfl s q (by decide) rfl fun a w b_1319 s q=>?_
 refine parK_nil (s.pk4.pk4.pk4.pk4.trunc 4) ?_
 refine spw (k:=8) rfl rfl (s.pk4.pk4.pk4.pk4.trunc 4) ?_
 obtain ⟨y_1322,h_1323,H⟩:=bs H
 have s:=s.row_lit (size:=11) (m:=0) rfl (by decide)
 have hq_1321 : Reps ty_api_Value R_83 [] ([] : List api_Value):=(Reps.nil _ _)
 refine sl_append_R elT53 (by decide) rfl hq_1321 rfl (hs_1318.mono hl_84.le) h_1323 s q (by decide) rfl rfl rfl fun a w v_1324 cs_1325 hq_1326 s q=>?_
 refine parK_nil (s.pk4.pk4.pk4.pk4.trunc 4) ?_
 refine spw (k:=9) rfl rfl (s.pk4.pk4.pk4.pk4.trunc 4) ?_
 have ho_1328:=s.row_one z0
 refine sl_buildSliceF (zc:=[.slice none 0 0]) (ps:=[(0,v_1324)]) (c:=[v_1324]) [[v_1324]] underlying33 sizeOf53 zeroValue53 rfl (pc_cons (cells1 ho_1328) pc_nil) rfl rfl (Nat.le_of_ble_eq_true rfl) rfl (zc zz) rfl s q (by decide) rfl fun a w b_1329 s q=>?_
 refine parK_nil (s.pk5.pk5.pk5.pk5.trunc 4) ?_
 refine thenL_nil ?_
 have s:=s.pk4
 have s:=s.pk2
 obtain ⟨R_1330,s,hl_1332,hs_1331⟩:=s.fz_row hq_1326 rfl rfl
 have hRL:=hRL.trans hl_1332
 obtain ⟨y_1333,h_1334,H⟩:=bs H
 refine sl_append_L (ty:=(tySl ty_api_Value)) (ys:=[y_1322]) elT33 (by decide) rfl (hq_81.mono hl_1332.le) rfl (Reps.cons (show Ty.rep (tySl ty_api_Value) _ [v_1324] y_1322 from ⟨_,rfl,hs_1331⟩) (Reps.nil _ _)) rfl h_1334 s q (by decide) rfl rfl rfl fun a w v_1335 cs_1336 hq_1337 s q=>?_
 refine zl q (r_fieldAddr underlying35 rfl sizeOf33 q rfl) fun a q=>?_
 have s:=s.pk3
 refine sl_store1 (c':=[v0_0,v_1335]) sizeOf33 s q rfl rfl rfl (s.row_one z1) (Nat.le_of_ble_eq_true rfl) rfl fun a w s q=>?_
 refine wpList_nil (NoP_nil ?_)
 have s:=s.pk1
 have s:=s.pk3
 have s:=s.pk3
 exact ⟨y_1333,_,_,_,H,hl_1332,hq_1337,q.sub (zc (zc (zc (zc (zc (zc zz)))))),s⟩
 rw [ifb_f hb_1276] at H
 refine parT_region (C:=fun w=>St [] w0 w R_83 [.cells b_1 [v0_0,v0_1] 35,.cells b_2 [.slice none 0 0,.slice none 0 0] 35,.row 53 1 v_79 x_78.length cs_80,.cells b_3 [v0_0,v_79] 35]) 16 [(0,true),(1,true),(2,true),(3,true),(4,true),(5,true),(6,true),(7,true),(8,true),(9,true),(10,true),(11,true),(12,true),(13,true),(14,true),(15,false)] mixed (by kernel_rfl) s (fun w s=>s) fun w s=>?_
 refine zp rfl q (fun w s=>r_fieldAddr underlying35 rfl sizeOf33 q rfl) fun a q=>zp rfl q (fun w s=>r_load isAgg33 q rfl (s.cell z3 rfl)) fun a q=>zp rfl q (fun w s=>r_move q rfl) fun a q=>zp rfl q (fun w s=>r_fieldAddr underlying35 rfl sizeOf33 q rfl) fun a q=>zp rfl q (fun w s=>r_load isAgg33 q rfl (s.cell z3 rfl)) fun a q=>zp rfl q (fun w s=>r_move q rfl) fun a q=>?_
 obtain ⟨y_1387,h_1388,H⟩:=bs H
 obtain ⟨b_1390,c_1391,cs_1392,hv_1389,hr_1393,hc_1394,h_13880,h_13881⟩:=s.row_ix z2 hq_81 rfl rfl h_1388
 obtain ⟨v_1395,rfl,hs_1396⟩:=hr_1393
 refine zp rfl q (fun w s=>r_indexAddr_R underlying33 sizeOf53 hv_1389 h_13880 h_13881 q rfl rfl) fun a q=>zp rfl q (fun w s=>r_load isAgg53 q rfl (s.row_cell z2 hv_1389 (hc_1394 0 _ rfl))) fun a q=>zp rfl q (fun w s=>r_fieldAddr underlying35 rfl sizeOf33 q rfl) fun a q=>zp rfl q (fun w s=>r_load isAgg33 q rfl (s.cell z0 rfl)) fun a q=>zp rfl q (fun w s=>r_move q rfl) fun a q=>?_
 obtain ⟨y_1397,h_1398,H⟩:=bs H
 obtain ⟨b_1399,o_1400,c_1401,cs_1402,hv_1403,hr_1404,hc_1405,h_13980,h_13981⟩:=h0_1.ix h_1398
 obtain ⟨v_1406,rfl,hs_1407⟩:=hr_1404
 refine zp rfl q (fun w s=>r_indexAddr_R underlying33 sizeOf53 hv_1403 h_13980 h_13981 q rfl rfl) fun a q=>zp rfl q (fun w s=>r_load isAgg53 q rfl ((s.sub.le hl_84.le).cell (hc_1405 0 _ rfl))) fun a q=>zp rfl q (fun w s=>r_move q rfl) fun a q=>zp rfl q (fun w s=>r_move q rfl) fun a q=>?_
 refine spw (k:=15) rfl rfl s ?_
 obtain ⟨y_1408,h_1409,H⟩:=bs H
 refine sl_call call60 q (by decide) rfl rfl rfl (ref18_laid.calls y_1387 y_1397 a1 a2 (lentOf_sub [] _) s.sub (hs_1396.mono s.rLe0) (hs_1407.mono (hl_84.le.trans s.rLe0)) (h2_0.mono (s.raLe0 hRA nil_not)) h_1409) fun a v_ w hv_ q=>?_
 obtain ⟨R_1410,v_1413,cs_1414,hv_,hr_,hl_1411,hq_1415⟩:=hv_
 have hv_:=hv_.symm
 subst hv_
 obtain ⟨s,hl_1411⟩:=s.sp0.back hr_ hl_1411
 have s:=s.un1
 have hRL:=hRL.trans hl_1411
 refine parK_nil ((s.pk4.pk4.pk4.pk4.trunc 4).lower hl_1411.le) ?_
 refine thenL_nil ?_
 obtain ⟨y_1416,h_1417,H⟩:=bs H
 obtain ⟨b_1419,c_1420,cs_1421,hv_1418,hr_1422,hc_1423,h_14170,h_14171⟩:=s.row_ix z3 (hq_81.mono hl_1411.le) rfl rfl h_1417
 obtain ⟨v_1424,rfl,hs_1425⟩:=hr_1422
 refine zl q (r_indexAddr_R underlying33 sizeOf53 hv_1418 h_14170 h_14171 q rfl rfl) fun a q=>?_
 obtain ⟨R_1426,s,hl_1428,hs_1427⟩:=s.fz_row hq_1415 rfl rfl
 have hRL:=hRL.trans hl_1428
 have s:=s.pk2
 refine sl_store_row sizeOf53 hv_1418 h_1417 rfl (show Ty.rep (tySl ty_api_Value) _ [v_1413] y_1408 from ⟨_,rfl,hs_1427⟩) (hq_81.mono (hl_1411.le.trans hl_1428.le)) rfl s q rfl rfl rfl hs_1427.one fun a w cs_1429 hq_1430 s q=>?_
 obtain ⟨z_1434,h_1432⟩:=ix_upd x_862 y_1408 h_1388
 have hv_1433 : v_79 = Value.slice (some ⟨b_1390,0,none⟩) (upd x_78 x_862 y_1408).length c_1391:=by rw [upd_length]; exact hv_1389
 refine wpList_nil (NoP_nil ?_)
 have s:=s.pk3
 have s:=s.pk1
 have s:=s.pk3
 have s:=s.pk3
 exact ⟨(upd x_78 x_862 y_1408),_,_,_,H,(hl_1411.trans hl_1428),hq_1430,q.sub (zc (zc (zc (zc (zc (zc zz)))))),s⟩
 rintro a w ⟨x_1270,R_1274,v_1271,cs_1272,H,hl_1275,hq_1273,q,s⟩
 unfold ref18_together.j3 at H
 have hRL:=hRL.trans hl_1275
 refine zr<|zm q rfl fun a q=>zl q (r_ibin q rfl rfl rfl) fun a q=>za q rfl fun a q=>zn ?_
 have s:=s.pk3
 have s:=s.pk3
 have s:=s.pk3
 have s:=s.pk3
 exact ⟨_,Nat.lt_succ_self _,x_1270,(IntKind.i64.wrap (x_82 + 1)),_,_,_,H,(hl_84.trans hl_1275),hq_1273,q.sub (zc (zc (zc (zc (zc (zc zz)))))),s⟩
 rw [ifb_f hb_761] at H
 refine wp_exit ?_
 refine zq<|zr<|zl q (r_loadA (cs:=[v0_0,v_79]) isAgg35 sizeOf35 rfl q rfl (s.cells_of (m:=2) z3 rfl)) fun a q=>?_
 have s:=s.pk2
 obtain ⟨R_1435,s,hl_1437,hs_1436⟩:=s.fz_row hq_81 rfl rfl
 have hRL:=hRL.trans hl_1437
 obtain ⟨y_1438,h_1439,H⟩:=bs H
 refine sl_call call61 q (by decide) rfl rfl rfl (ref02_Canon.calls (⟨a0.Cols,x_78⟩ : api_Table) s.sub (h0_0.mono (hl_84.le.trans hl_1437.le)) hs_1436 h_1439) fun a v_ w hv_ q=>?_
 obtain ⟨R_1440,v_1443,cs_1444,v_1447,cs_1448,hv_,hr_,hl_1441,hq_1445,hq_1449⟩:=hv_
 have hv_:=hv_.symm
 subst hv_
 obtain ⟨s,hl_1441⟩:=s.sp0.back hr_ hl_1441
 have s:=s.un2
 have hRL:=hRL.trans hl_1441
 have s:=s.pk3
 refine sl_storeA (vs:=[v_1443,v_1447]) (c':=[v_1443,v_1447]) sizeOf35 s q rfl rfl rfl rfl (all_cons (s.row_one z1) (all_cons (s.row_one z2) zz)) (Nat.le_of_ble_eq_true rfl) rfl fun a w s q=>?_
 refine zn ?_
 obtain rfl:=Option.some.inj H
 refine wp_ret ?_
 repeat first | refine zt ?_ | refine zb ?_ | refine zo ?_
 exact ret_1 results38 q (rv_cell (c:=[v_1443,v_1447]) isAgg35 sizeOf35 s z0 rfl q rfl) ⟨_,rfl,_,_,_,_,_,rfl,(s.pk2.pk2.trunc 2),hRL,hq_1445,hq_1449⟩
theorem ref18_Partial.calls (a0 : api_Table) (a1 : List ByteArray) (a2 : List api_Agg) {w0 : World} {R : Hp} {v0_0 : Value} {v0_1 : Value} {v1_0 : Value} {v2_0 : Value} (hR : R.sub w0) (h0_0 : SlR ty_api_Col R v0_0 a0.Cols) (h0_1 : SlR (tySl ty_api_Value) R v0_1 a0.Rows) (h1_0 : SlR tyStr R v1_0 a1) (h2_0 : SlR ty_api_Agg R v2_0 a2) {r : api_Table × Int} (H : ref18_Partial a0 a1 a2 = some r) : Calls prog 16 #[.agg #[v0_0,v0_1],v1_0,v2_0] w0 (Rets fun v w'=>∃ (R' : Hp) (u0 : Value) (cu0 : List Value) (u1 : Value) (cu1 : List Value),v = .tuple #[.agg #[u0,u1],I6 r.2] ∧ St [] w0 w' R' [.row 47 2 u0 r.1.Cols.length cu0,.row 53 1 u1 r.1.Rows.length cu1] ∧ RLe [] w0 R R' ∧ Reps ty_api_Col R' cu0 r.1.Cols ∧ Reps (tySl ty_api_Value) R' cu1 r.1.Rows):=by
 unfold ref18_Partial at H
 refine enter (args:=[.agg #[v0_0,v0_1],v1_0,v2_0]) func16 rfl ntmps16 rfl fun a q=>?_
 have s:=St.init hR
 have hRL:=RLe.refl (M:=[]) w0 R
 refine zq<|zr ?_
 refine sl_box s q (by decide) rfl rfl (c:=[v0_0,v0_1]) rfl fun a w b_1 s q=>?_
 refine sl_alloc zeroValue35 s q (by decide) rfl rfl fun a w b_2 s q=>?_
 refine za q rfl fun a q=>zn<|zq<|zr<|zl q (r_loadA (cs:=[v0_0,v0_1]) isAgg35 sizeOf35 rfl q rfl (s.cells_of (m:=2) z1 rfl)) fun a q=>?_
 obtain ⟨y_3,h_4,H⟩:=bs H
 refine sl_callV call20 s q (by decide) rfl rfl rfl (ref02_Check.calls a0 (lentOf_sub [] _) (h0_0.mono s.rLe0) (h0_1.mono s.rLe0) h_4) fun a w s q=>?_
 refine za q rfl fun a q=>zn<|zq<|zq<|zr<|zm q rfl fun a q=>zl q (r_ibin q rfl rfl rfl) fun a q=>zn ?_
 refine wp_cond_split (q.ev rfl) (fun (hb_5 : (y_3 != 0) = true)=>?_) fun hb_5=>?_
 rw [ifb_t hb_5] at H
 refine zq<|zr<|zl q (r_buildC (ps:=[]) (c:=[.slice none 0 0,.slice none 0 0]) underlying35 zeroValue35 places35 q rfl pc_nil rfl rfl) fun a q=>zm q rfl fun a q=>?_
 refine sl_storeA (vs:=[.slice none 0 0,.slice none 0 0]) (c':=[.slice none 0 0,.slice none 0 0]) sizeOf35 s q rfl rfl rfl rfl (zc (zc zz)) (Nat.le_of_ble_eq_true rfl) rfl fun a w s q=>?_
 refine za q rfl fun a q=>zn ?_
 have s:=s.row_nil 47 2
 have hq_7 : Reps ty_api_Col R [] ([] : List api_Col):=Reps.nil _ _
 have s:=s.row_nil 53 1
 have hq_9 : Reps (tySl ty_api_Value) R [] ([] : List (List api_Value)):=Reps.nil _ _
 obtain rfl:=Option.some.inj H
 refine wp_ret ?_
 repeat first | refine zt ?_ | refine zb ?_ | refine zo ?_
 exact ret_2 results16 q (rv_cell (c:=[(.slice none 0 0),(.slice none 0 0)]) isAgg35 sizeOf35 s z2 rfl q rfl) (rv_tmp q rfl) ⟨_,rfl,_,_,_,_,_,rfl,(s.pk1.trunc 2),hRL,hq_7,hq_9⟩
 rw [ifb_f hb_5] at H
 refine wp_skip<|zq<|zr<|zl q (r_fieldAddr underlying35 rfl sizeOf22 q rfl) fun a q=>zl q (r_load isAgg22 q rfl (s.cell z1 rfl)) fun a q=>zm q rfl fun a q=>zm q rfl fun a q=>?_
 obtain ⟨y_10,h_11,H⟩:=bs H
 refine sl_call call12 q (by decide) rfl rfl rfl (ref18_Cols.calls a0.Cols a1 a2 s.sub h0_0 h1_0 h2_0 h_11) fun a v_ w hv_ q=>?_
 obtain ⟨R_12,v_15,cs_16,v_18,hv_,hr_,hl_13,hq_17,hs_19⟩:=hv_
 have hv_:=hv_.symm
 subst hv_
 obtain ⟨s,hl_13⟩:=s.sp0.back hr_ hl_13
 have s:=s.un1
 have hRL:=hRL.trans hl_13
 refine zm q rfl fun a q=>zl q (r_extract q rfl rfl) fun a q=>zl q (r_extract q rfl rfl) fun a q=>zl q (r_extract q rfl rfl) fun a q=>za q rfl fun a q=>za q rfl fun a q=>za q rfl fun a q=>zn<|zq<|zq<|zr<|zm q rfl fun a q=>zl q (r_un q rfl (u_not _)) fun a q=>zn ?_
 refine wp_cond_split (q.ev rfl) (fun (hb_20 : (!y_10.2.2) = true)=>?_) fun hb_20=>?_
 rw [ifb_t hb_20] at H
 refine zq<|zr<|zl q (r_buildC (ps:=[]) (c:=[.slice none 0 0,.slice none 0 0]) underlying35 zeroValue35 places35 q rfl pc_nil rfl rfl) fun a q=>?_
 have s:=s.pk1
 refine sl_storeA (vs:=[.slice none 0 0,.slice none 0 0]) (c':=[.slice none 0 0,.slice none 0 0]) sizeOf35 s q rfl rfl rfl rfl (zc (zc zz)) (Nat.le_of_ble_eq_true rfl) rfl fun a w s q=>?_
 refine za q rfl fun a q=>zn ?_
 have s:=s.row_nil 47 2
 have hq_22 : Reps ty_api_Col R_12 [] ([] : List api_Col):=Reps.nil _ _
 have s:=s.row_nil 53 1
 have hq_24 : Reps (tySl ty_api_Value) R_12 [] ([] : List (List api_Value)):=Reps.nil _ _
 obtain rfl:=Option.some.inj H
 refine wp_ret ?_
 repeat first | refine zt ?_ | refine zb ?_ | refine zo ?_
 exact ret_2 results16 q (rv_cell (c:=[(.slice none 0 0),(.slice none 0 0)]) isAgg35 sizeOf35 s z2 rfl q rfl) (rv_tmp q rfl) ⟨_,rfl,_,_,_,_,_,rfl,(s.pk1.trunc 2),hRL,hq_22,hq_24⟩
 rw [ifb_f hb_20] at H
 refine wp_skip<|zq<|zr<|zm q rfl fun a q=>?_
 have ho_25:=s.row_one z0
 refine zl q (r_buildC (ps:=[(0,v_15)]) (c:=[v_15,.slice none 0 0]) underlying35 zeroValue35 places35 q rfl (pc_cons (cells1 ho_25) pc_nil) rfl rfl) fun a q=>?_
 refine sl_alloc zeroValue35 s q (by decide) rfl rfl fun a w b_26 s q=>?_
 refine sl_storeA (vs:=[v_15,.slice none 0 0]) (c':=[v_15,.slice none 0 0]) sizeOf35 s q rfl rfl rfl rfl (all_cons (s.row_one z1) (zc zz)) (Nat.le_of_ble_eq_true rfl) rfl fun a w s q=>?_
 refine zn<|zq<|zq<|zr<|za q rfl fun a q=>zn ?_
 refine wp_block ?_
 refine wp_loop_k (fun k_l0 a w=>∃ (x_1003 : List (List api_Value)) (x_1007 : Int) (R_1008 : Hp) (v_1004 : Value) (cs_1005 : List Value),ref18_Partial.l0 a0 a1 a2 y_10 k_l0 x_1003 x_1007 = some r ∧ RLe [] w0 R_12 R_1008 ∧ Reps (tySl ty_api_Value) R_1008 cs_1005 x_1003 ∧ Kn 122 a [(1,v1_0),(2,v2_0),(3,.pointer (some ⟨b_1,0,none⟩)),(6,.pointer (some ⟨b_2,0,none⟩)),(12,.pointer (some ⟨b_26,0,none⟩)),(13,I6 x_1007)] ∧ St [] w0 w R_1008 [.cells b_1 [v0_0,v0_1] 35,.cells b_2 [.slice none 0 0,.slice none 0 0] 35,.row 47 2 v_15 y_10.1.length cs_16,.row 53 1 v_1004 x_1003.length cs_1005,.cells b_26 [v_15,v_1004] 35]) (((a0.Rows.length : Int) - 0).toNat + 1) ?_ ?_
 have s:=s.row_nil 53 1
 have hq_1981 : Reps (tySl ty_api_Value) R_12 [] ([] : List (List api_Value)):=Reps.nil _ _
 have s:=s.pk1
 have s:=s.pk1
 have s:=s.pk2
 have s:=s.pk3
 have s:=s.pk4
 exact ⟨[],0,_,_,_,H,(RLe.refl _ _),hq_1981,q.sub (zc (zc (zc (zc (zc (zc zz)))))),s⟩
 rintro k_l0 a w ⟨x_1003,x_1007,R_1008,v_1004,cs_1005,H,hl_1009,hq_1006,q,s⟩
 rcases k_l0 with _ | k_l0
 cases H
 rw [ref18_Partial.l0.eq_2] at H
 have hRL:=hRL.trans hl_1009
 refine zq<|zq<|zr<|zm q rfl fun a q=>zl q (r_fieldAddr underlying35 rfl sizeOf33 q rfl) fun a q=>zl q (r_load isAgg33 q rfl (s.cell z0 rfl)) fun a q=>zl q (r_len_R underlying33 h0_1 q rfl) fun a q=>zl q (r_ibin q rfl rfl rfl) fun a q=>zn ?_
 refine wp_cond_split (q.ev rfl) (fun (hb_1982 : (decide (x_1007 < (a0.Rows.length : Int))) = true)=>?_) fun hb_1982=>?_
 rw [ifb_t hb_1982] at H
 refine wp_skip<|zq ?_
 refine wp_block ?_
 refine zq<|zr<|za q rfl fun a q=>zn<|zq<|zq<|zr<|za q rfl fun a q=>zn ?_
 refine wp_block ?_
 refine wp_loop_k (fun k_l1 a w=>∃ (x_2066 : List api_Value) (x_2070 : Int) (v_2067 : Value) (cs_2068 : List Value),ref18_Partial.l1 (ref18_Partial.l0 a0 a1 a2 y_10 k_l0) a0 a1 a2 x_1003 x_1007 k_l1 x_2066 x_2070 = some r ∧ Reps ty_api_Value R_1008 cs_2068 x_2066 ∧ Kn 122 a [(1,v1_0),(2,v2_0),(3,.pointer (some ⟨b_1,0,none⟩)),(6,.pointer (some ⟨b_2,0,none⟩)),(12,.pointer (some ⟨b_26,0,none⟩)),(13,I6 x_1007),(14,v_2067),(15,I6 x_2070)] ∧ St [] w0 w R_1008 [.cells b_1 [v0_0,v0_1] 35,.cells b_2 [.slice none 0 0,.slice none 0 0] 35,.row 47 2 v_15 y_10.1.length cs_16,.row 53 1 v_1004 x_1003.length cs_1005,.cells b_26 [v_15,v_1004] 35,.row 52 11 v_2067 x_2066.length cs_2068]) (((a1.length : Int) - 0).toNat + 1) ?_ ?_
 have s:=s.row_nil 52 11
 have hq_2150 : Reps ty_api_Value R_1008 [] ([] : List api_Value):=Reps.nil _ _
 have s:=s.pk5
 have s:=s.pk5
 have s:=s.pk5
 have s:=s.pk5
 have s:=s.pk5
 exact ⟨[],0,_,_,H,hq_2150,q.sub (zc (zc (zc (zc (zc (zc (zc (zc zz)))))))),s⟩
 rintro k_l1 a w ⟨x_2066,x_2070,v_2067,cs_2068,H,hq_2069,q,s⟩
 rcases k_l1 with _ | k_l1
 cases H
 rw [ref18_Partial.l1.eq_2] at H
 refine zq<|zq<|zr<|zm q rfl fun a q=>zm q rfl fun a q=>zl q (r_len_R underlying23 h1_0 q rfl) fun a q=>zl q (r_ibin q rfl rfl rfl) fun a q=>zn ?_
 refine wp_cond_split (q.ev rfl) (fun (hb_2151 : (decide (x_2070 < (a1.length : Int))) = true)=>?_) fun hb_2151=>?_
 rw [ifb_t hb_2151] at H
 refine wp_skip<|zq ?_
 refine wp_block ?_
 refine parT_region (C:=fun w=>St [] w0 w R_1008 [.cells b_1 [v0_0,v0_1] 35,.cells b_2 [.slice none 0 0,.slice none 0 0] 35,.row 47 2 v_15 y_10.1.length cs_16,.row 53 1 v_1004 x_1003.length cs_1005,.cells b_26 [v_15,v_1004] 35,.row 52 11 v_2067 x_2066.length cs_2068]) 16 [(0,true),(1,true),(2,true),(3,true),(4,true),(5,true),(6,true),(7,true),(8,true),(9,true),(10,true),(11,true),(12,false),(13,true),(14,true),(15,false)] mixed (by kernel_rfl) s (fun w s=>s) fun w s=>?_
 refine zp rfl q (fun w s=>r_move q rfl) fun a q=>zp rfl q (fun w s=>r_fieldAddr underlying35 rfl sizeOf33 q rfl) fun a q=>zp rfl q (fun w s=>r_load isAgg33 q rfl (s.cell z0 rfl)) fun a q=>zp rfl q (fun w s=>r_move q rfl) fun a q=>?_
 obtain ⟨y_2190,h_2191,H⟩:=bs H
 obtain ⟨b_2192,o_2193,c_2194,cs_2195,hv_2196,hr_2197,hc_2198,h_21910,h_21911⟩:=h0_1.ix h_2191
 obtain ⟨v_2199,rfl,hs_2200⟩:=hr_2197
 refine zp rfl q (fun w s=>r_indexAddr_R underlying33 sizeOf53 hv_2196 h_21910 h_21911 q rfl rfl) fun a q=>zp rfl q (fun w s=>r_load isAgg53 q rfl ((s.sub.le (hl_13.le.trans hl_1009.le)).cell (hc_2198 0 _ rfl))) fun a q=>zp rfl q (fun w s=>r_fieldAddr underlying35 rfl sizeOf22 q rfl) fun a q=>zp rfl q (fun w s=>r_load isAgg22 q rfl (s.cell z0 rfl)) fun a q=>zp rfl q (fun w s=>r_move q rfl) fun a q=>zp rfl q (fun w s=>r_move q rfl) fun a q=>?_
 obtain ⟨y_2201,h_2202,H⟩:=bs H
 obtain ⟨b_2203,o_2204,c_2205,cs_2206,hv_2207,hr_2208,hc_2209,h_22020,h_22021⟩:=h1_0.ix h_2202
 subst hr_2208
 refine zp rfl q (fun w s=>r_indexAddr_R underlying23 sizeOf9 hv_2207 h_22020 h_22021 q rfl rfl) fun a q=>zp rfl q (fun w s=>r_load isAgg9 q rfl ((s.sub.le (hl_13.le.trans hl_1009.le)).cell (hc_2209 0 _ rfl))) fun a q=>?_
 refine spw (k:=12) rfl rfl s ?_
 obtain ⟨y_2210,h_2211,H⟩:=bs H
 refine sl_callV call36 s q (by decide) rfl rfl rfl (ref02_Find.calls a0.Cols y_2201 (lentOf_sub [] _) (h0_0.mono ((hl_13.le.trans hl_1009.le).trans s.rLe0)) h_2211) fun a w s q=>?_
 refine parK_nil s ?_
 obtain ⟨y_2212,h_2213,H⟩:=bs H
 obtain ⟨b_2214,o_2215,c_2216,cs_2217,hv_2218,hr_2219,hc_2220,h_22130,h_22131⟩:=hs_2200.ix h_2213
 subst hr_2219
 refine zp rfl q (fun w s=>r_indexAddr_R underlying53 sizeOf52 hv_2218 h_22130 h_22131 q rfl rfl) fun a q=>zp rfl q (fun w s=>r_loadA (cs:=(cV y_2212)) isAgg52 sizeOf52 rfl q rfl (fun j v hv=>(s.sub.le (hl_13.le.trans hl_1009.le)).cell (hc_2220 j v hv))) fun a q=>?_
 refine spw (k:=15) rfl rfl s ?_
 refine sl_buildSliceF (zc:=[I6 0,I6 0,.string (⟨#[]⟩ : ByteArray),I6 0,I6 0,I6 0,I6 0,I6 0,I6 0,I6 0,I6 0]) (ps:=[(0,.agg ⟨cV y_2212⟩)]) (c:=(cV y_2212)) [(cV y_2212)] underlying53 sizeOf52 zeroValue52 rfl (pc_cons rfl pc_nil) rfl rfl (Nat.le_of_ble_eq_true rfl) rfl (zc zz) rfl s q (by decide) rfl fun a w b_2221 s q=>?_
 refine parK_nil (s.pk6.pk6.pk6.pk6.pk6.pk6.trunc 6) ?_
 refine thenL_nil ?_
 obtain ⟨y_2222,h_2223,H⟩:=bs H
 have s:=s.pk6
 refine sl_append_L (ty:=ty_api_Value) (ys:=[y_2212]) elT53 (by decide) rfl hq_2069 rfl (Reps.cons (show Ty.rep ty_api_Value _ (cV y_2212) y_2212 from rfl) (Reps.nil _ _)) rfl h_2223 s q (by decide) rfl rfl rfl fun a w v_2224 cs_2225 hq_2226 s q=>?_
 refine za q rfl fun a q=>?_
 refine wpList_nil (NoP_nil ?_)
 refine zr<|zm q rfl fun a q=>zl q (r_ibin q rfl rfl rfl) fun a q=>za q rfl fun a q=>zn ?_
 have s:=s.pk5
 have s:=s.pk5
 have s:=s.pk5
 have s:=s.pk5
 have s:=s.pk5
 exact ⟨_,Nat.lt_succ_self _,y_2222,(IntKind.i64.wrap (x_2070 + 1)),_,_,H,hq_2226,q.sub (zc (zc (zc (zc (zc (zc (zc (zc zz)))))))),s⟩
 rw [ifb_f hb_2151] at H
 refine wp_exit ?_
 refine zq<|zq<|zr<|za q rfl fun a q=>zn ?_
 refine wp_block ?_
 refine wp_loop_k (fun k_l2 a w=>∃ (x_2465 : List api_Value) (x_2469 : Int) (v_2466 : Value) (cs_2467 : List Value),ref18_Partial.l2 (ref18_Partial.l0 a0 a1 a2 y_10 k_l0) a0 a2 x_1003 x_1007 k_l2 x_2465 x_2469 = some r ∧ Reps ty_api_Value R_1008 cs_2467 x_2465 ∧ Kn 122 a [(1,v1_0),(2,v2_0),(3,.pointer (some ⟨b_1,0,none⟩)),(6,.pointer (some ⟨b_2,0,none⟩)),(12,.pointer (some ⟨b_26,0,none⟩)),(13,I6 x_1007),(14,v_2466),(16,I6 x_2469)] ∧ St [] w0 w R_1008 [.cells b_1 [v0_0,v0_1] 35,.cells b_2 [.slice none 0 0,.slice none 0 0] 35,.row 47 2 v_15 y_10.1.length cs_16,.row 53 1 v_1004 x_1003.length cs_1005,.cells b_26 [v_15,v_1004] 35,.row 52 11 v_2466 x_2465.length cs_2467]) (((a2.length : Int) - 0).toNat + 1) ?_ ?_
 have s:=s.pk5
 have s:=s.pk5
 have s:=s.pk5
 have s:=s.pk5
 have s:=s.pk5
 have s:=s.pk5
 exact ⟨x_2066,0,_,_,H,hq_2069,q.sub (zc (zc (zc (zc (zc (zc (zc (zc zz)))))))),s⟩
 rintro k_l2 a w ⟨x_2465,x_2469,v_2466,cs_2467,H,hq_2468,q,s⟩
 rcases k_l2 with _ | k_l2
 cases H
 rw [ref18_Partial.l2.eq_2] at H
 refine zq<|zq<|zr<|zm q rfl fun a q=>zm q rfl fun a q=>zl q (r_len_R underlying24 h2_0 q rfl) fun a q=>zl q (r_ibin q rfl rfl rfl) fun a q=>zn ?_
 refine wp_cond_split (q.ev rfl) (fun (hb_2706 : (decide (x_2469 < (a2.length : Int))) = true)=>?_) fun hb_2706=>?_
 rw [ifb_t hb_2706] at H
 refine wp_skip<|zq ?_
 refine wp_mid (fun a w=>∃ (x_2822 : List api_Value) (v_2823 : Value) (cs_2824 : List Value),ref18_Partial.j3 (ref18_Partial.l2 (ref18_Partial.l0 a0 a1 a2 y_10 k_l0) a0 a2 x_1003 x_1007 k_l2) a2 x_2469 x_2822 = some r ∧ Reps ty_api_Value R_1008 cs_2824 x_2822 ∧ Kn 122 a [(1,v1_0),(2,v2_0),(3,.pointer (some ⟨b_1,0,none⟩)),(6,.pointer (some ⟨b_2,0,none⟩)),(12,.pointer (some ⟨b_26,0,none⟩)),(13,I6 x_1007),(14,v_2823),(16,I6 x_2469)] ∧ St [] w0 w R_1008 [.cells b_1 [v0_0,v0_1] 35,.cells b_2 [.slice none 0 0,.slice none 0 0] 35,.row 47 2 v_15 y_10.1.length cs_16,.row 53 1 v_1004 x_1003.length cs_1005,.cells b_26 [v_15,v_1004] 35,.row 52 11 v_2823 x_2822.length cs_2824]) ?_ ?_
 refine wp_block ?_
 refine zq<|zq<|zr<|zm q rfl fun a q=>zm q rfl fun a q=>?_
 obtain ⟨y_2827,h_2828,H⟩:=bs H
 obtain ⟨b_2829,o_2830,c_2831,cs_2832,hv_2833,hr_2834,hc_2835,h_28280,h_28281⟩:=h2_0.ix h_2828
 subst hr_2834
 refine zl q (r_indexAddr_R underlying24 sizeOf49 hv_2833 h_28280 h_28281 q rfl rfl) fun a q=>zl q (r_fieldAddr underlying49 rfl sizeOf3 q rfl) fun a q=>zl q (r_load isAgg3 q rfl ((s.sub.le (hl_13.le.trans hl_1009.le)).cell (hc_2835 0 _ rfl))) fun a q=>zl q (r_ibin q rfl rfl rfl) fun a q=>zn ?_
 refine wp_cond_split (q.ev rfl) (fun (hb_2836 : (y_2827.Kind == 1) = true)=>?_) fun hb_2836=>?_
 rw [ifb_t hb_2836] at H
 refine zq<|zr<|zm q rfl fun a q=>?_
 obtain ⟨y_2837,h_2838,H⟩:=bs H
 refine sl_callV call37 s q (by decide) rfl rfl rfl (ref01_OfInt.calls 1 h_2838 _) fun a w s q=>?_
 refine sl_buildSliceF (zc:=[I6 0,I6 0,.string (⟨#[]⟩ : ByteArray),I6 0,I6 0,I6 0,I6 0,I6 0,I6 0,I6 0,I6 0]) (ps:=[(0,.agg ⟨cV y_2837⟩)]) (c:=(cV y_2837)) [(cV y_2837)] underlying53 sizeOf52 zeroValue52 rfl (pc_cons rfl pc_nil) rfl rfl (Nat.le_of_ble_eq_true rfl) rfl (zc zz) rfl s q (by decide) rfl fun a w b_2839 s q=>?_
 obtain ⟨y_2840,h_2841,H⟩:=bs H
 have s:=s.pk6
 refine sl_append_L (ty:=ty_api_Value) (ys:=[y_2837]) elT53 (by decide) rfl hq_2468 rfl (Reps.cons (show Ty.rep ty_api_Value _ (cV y_2837) y_2837 from rfl) (Reps.nil _ _)) rfl h_2841 s q (by decide) rfl rfl rfl fun a w v_2842 cs_2843 hq_2844 s q=>?_
 refine za q rfl fun a q=>zn ?_
 refine wp_exit ?_
 have s:=s.pk5
 have s:=s.pk5
 have s:=s.pk5
 have s:=s.pk5
 have s:=s.pk5
 exact ⟨y_2840,_,_,H,hq_2844,q.sub (zc (zc (zc (zc (zc (zc (zc (zc zz)))))))),s⟩
 rw [ifb_f hb_2836] at H
 refine wp_skip<|zq ?_
 refine parT_region (C:=fun w=>St [] w0 w R_1008 [.cells b_1 [v0_0,v0_1] 35,.cells b_2 [.slice none 0 0,.slice none 0 0] 35,.row 47 2 v_15 y_10.1.length cs_16,.row 53 1 v_1004 x_1003.length cs_1005,.cells b_26 [v_15,v_1004] 35,.row 52 11 v_2466 x_2465.length cs_2467]) 17 [(0,true),(1,true),(2,true),(3,true),(4,true),(5,true),(6,true),(7,true),(8,true),(9,true),(10,true),(11,true),(12,true),(13,false),(14,true),(15,true),(16,false)] mixed (by kernel_rfl) s (fun w s=>s) fun w s=>?_
 refine zp rfl q (fun w s=>r_move q rfl) fun a q=>zp rfl q (fun w s=>r_fieldAddr underlying35 rfl sizeOf33 q rfl) fun a q=>zp rfl q (fun w s=>r_load isAgg33 q rfl (s.cell z0 rfl)) fun a q=>zp rfl q (fun w s=>r_move q rfl) fun a q=>?_
 obtain ⟨y_2884,h_2885,H⟩:=bs H
 obtain ⟨b_2886,o_2887,c_2888,cs_2889,hv_2890,hr_2891,hc_2892,h_28850,h_28851⟩:=h0_1.ix h_2885
 obtain ⟨v_2893,rfl,hs_2894⟩:=hr_2891
 refine zp rfl q (fun w s=>r_indexAddr_R underlying33 sizeOf53 hv_2890 h_28850 h_28851 q rfl rfl) fun a q=>zp rfl q (fun w s=>r_load isAgg53 q rfl ((s.sub.le (hl_13.le.trans hl_1009.le)).cell (hc_2892 0 _ rfl))) fun a q=>zp rfl q (fun w s=>r_fieldAddr underlying35 rfl sizeOf22 q rfl) fun a q=>zp rfl q (fun w s=>r_load isAgg22 q rfl (s.cell z0 rfl)) fun a q=>zp rfl q (fun w s=>r_move q rfl) fun a q=>zp rfl q (fun w s=>r_move q rfl) fun a q=>?_
 obtain ⟨y_2895,h_2896,H⟩:=bs H
 obtain ⟨b_2897,o_2898,c_2899,cs_2900,hv_2901,hr_2902,hc_2903,h_28960,h_28961⟩:=h2_0.ix h_2896
 subst hr_2902
 refine zp rfl q (fun w s=>r_indexAddr_R underlying24 sizeOf49 hv_2901 h_28960 h_28961 q rfl rfl) fun a q=>zp rfl q (fun w s=>r_fieldAddr underlying49 rfl sizeOf9 q rfl) fun a q=>zp rfl q (fun w s=>r_load isAgg9 q rfl ((s.sub.le (hl_13.le.trans hl_1009.le)).cell (hc_2903 1 _ rfl))) fun a q=>?_
 refine spw (k:=13) rfl rfl s ?_
 obtain ⟨y_2904,h_2905,H⟩:=bs H
 refine sl_callV call36 s q (by decide) rfl rfl rfl (ref02_Find.calls a0.Cols y_2895.Col (lentOf_sub [] _) (h0_0.mono ((hl_13.le.trans hl_1009.le).trans s.rLe0)) h_2905) fun a w s q=>?_
 refine parK_nil s ?_
 obtain ⟨y_2906,h_2907,H⟩:=bs H
 obtain ⟨b_2908,o_2909,c_2910,cs_2911,hv_2912,hr_2913,hc_2914,h_29070,h_29071⟩:=hs_2894.ix h_2907
 subst hr_2913
 refine zp rfl q (fun w s=>r_indexAddr_R underlying53 sizeOf52 hv_2912 h_29070 h_29071 q rfl rfl) fun a q=>zp rfl q (fun w s=>r_loadA (cs:=(cV y_2906)) isAgg52 sizeOf52 rfl q rfl (fun j v hv=>(s.sub.le (hl_13.le.trans hl_1009.le)).cell (hc_2914 j v hv))) fun a q=>?_
 refine spw (k:=16) rfl rfl s ?_
 refine sl_buildSliceF (zc:=[I6 0,I6 0,.string (⟨#[]⟩ : ByteArray),I6 0,I6 0,I6 0,I6 0,I6 0,I6 0,I6 0,I6 0]) (ps:=[(0,.agg ⟨cV y_2906⟩)]) (c:=(cV y_2906)) [(cV y_2906)] underlying53 sizeOf52 zeroValue52 rfl (pc_cons rfl pc_nil) rfl rfl (Nat.le_of_ble_eq_true rfl) rfl (zc zz) rfl s q (by decide) rfl fun a w b_2915 s q=>?_
 refine parK_nil (s.pk6.pk6.pk6.pk6.pk6.pk6.trunc 6) ?_
 refine thenL_nil ?_
 obtain ⟨y_2916,h_2917,H⟩:=bs H
 have s:=s.pk6
 refine sl_append_L (ty:=ty_api_Value) (ys:=[y_2906]) elT53 (by decide) rfl hq_2468 rfl (Reps.cons (show Ty.rep ty_api_Value _ (cV y_2906) y_2906 from rfl) (Reps.nil _ _)) rfl h_2917 s q (by decide) rfl rfl rfl fun a w v_2918 cs_2919 hq_2920 s q=>?_
 refine za q rfl fun a q=>?_
 refine wpList_nil (NoP_nil ?_)
 refine zq<|zr<|zm q rfl fun a q=>zm q rfl fun a q=>?_
 obtain ⟨y_2922,h_2923,H⟩:=bs H
 obtain ⟨b_2924,o_2925,c_2926,cs_2927,hv_2928,hr_2929,hc_2930,h_29230,h_29231⟩:=h2_0.ix h_2923
 subst hr_2929
 refine zl q (r_indexAddr_R underlying24 sizeOf49 hv_2928 h_29230 h_29231 q rfl rfl) fun a q=>zl q (r_fieldAddr underlying49 rfl sizeOf3 q rfl) fun a q=>zl q (r_load isAgg3 q rfl ((s.sub.le (hl_13.le.trans hl_1009.le)).cell (hc_2930 0 _ rfl))) fun a q=>zl q (r_ibin q rfl rfl rfl) fun a q=>zn ?_
 refine wp_cond_split (q.ev rfl) (fun (hb_2931 : (y_2922.Kind == 5) = true)=>?_) fun hb_2931=>?_
 rw [ifb_t hb_2931] at H
 refine zr<|zm q rfl fun a q=>?_
 obtain ⟨y_2932,h_2933,H⟩:=bs H
 refine sl_callV call37 s q (by decide) rfl rfl rfl (ref01_OfInt.calls 1 h_2933 _) fun a w s q=>?_
 refine sl_buildSliceF (zc:=[I6 0,I6 0,.string (⟨#[]⟩ : ByteArray),I6 0,I6 0,I6 0,I6 0,I6 0,I6 0,I6 0,I6 0]) (ps:=[(0,.agg ⟨cV y_2932⟩)]) (c:=(cV y_2932)) [(cV y_2932)] underlying53 sizeOf52 zeroValue52 rfl (pc_cons rfl pc_nil) rfl rfl (Nat.le_of_ble_eq_true rfl) rfl (zc zz) rfl s q (by decide) rfl fun a w b_2934 s q=>?_
 obtain ⟨y_2935,h_2936,H⟩:=bs H
 have s:=s.pk1
 refine sl_append_L (ty:=ty_api_Value) (ys:=[y_2932]) elT53 (by decide) rfl hq_2920 rfl (Reps.cons (show Ty.rep ty_api_Value _ (cV y_2932) y_2932 from rfl) (Reps.nil _ _)) rfl h_2936 s q (by decide) rfl rfl rfl fun a w v_2937 cs_2938 hq_2939 s q=>?_
 refine za q rfl fun a q=>zn ?_
 have s:=s.pk5
 have s:=s.pk5
 have s:=s.pk5
 have s:=s.pk5
 have s:=s.pk5
 exact ⟨y_2935,_,_,H,hq_2939,q.sub (zc (zc (zc (zc (zc (zc (zc (zc zz)))))))),s⟩
 rw [ifb_f hb_2931] at H
 refine wp_skip ?_
 have s:=s.pk5
 have s:=s.pk5
 have s:=s.pk5
 have s:=s.pk5
 have s:=s.pk5
 exact ⟨y_2916,_,_,H,hq_2920,q.sub (zc (zc (zc (zc (zc (zc (zc (zc zz)))))))),s⟩
 rintro a w ⟨x_2822,v_2823,cs_2824,H,hq_2825,q,s⟩
 unfold ref18_Partial.j3 at H
 refine zr<|zm q rfl fun a q=>zl q (r_ibin q rfl rfl rfl) fun a q=>za q rfl fun a q=>zn ?_
 have s:=s.pk5
 have s:=s.pk5
 have s:=s.pk5
 have s:=s.pk5
 have s:=s.pk5
 have s:=s.pk5
 exact ⟨_,Nat.lt_succ_self _,x_2822,(IntKind.i64.wrap (x_2469 + 1)),_,_,H,hq_2825,q.sub (zc (zc (zc (zc (zc (zc (zc (zc zz)))))))),s⟩
 rw [ifb_f hb_2706] at H
 refine wp_exit ?_
 refine zr<|zl q (r_fieldAddr underlying35 rfl sizeOf33 q rfl) fun a q=>zl q (r_load isAgg33 q rfl (s.cell z4 rfl)) fun a q=>zm q rfl fun a q=>?_
 have ho_2941:=s.row_one z5
 refine sl_buildSliceF (zc:=[.slice none 0 0]) (ps:=[(0,v_2466)]) (c:=[v_2466]) [[v_2466]] underlying33 sizeOf53 zeroValue53 rfl (pc_cons (cells1 ho_2941) pc_nil) rfl rfl (Nat.le_of_ble_eq_true rfl) rfl (zc zz) rfl s q (by decide) rfl fun a w b_2942 s q=>?_
 have s:=s.pk4
 have s:=s.pk6
 obtain ⟨R_2943,s,hl_2945,hs_2944⟩:=s.fz_row hq_2468 rfl rfl
 have hRL:=hRL.trans hl_2945
 obtain ⟨y_2946,h_2947,H⟩:=bs H
 refine sl_append_L (ty:=(tySl ty_api_Value)) (ys:=[x_2465]) elT33 (by decide) rfl (hq_1006.mono hl_2945.le) rfl (Reps.cons (show Ty.rep (tySl ty_api_Value) _ [v_2466] x_2465 from ⟨_,rfl,hs_2944⟩) (Reps.nil _ _)) rfl h_2947 s q (by decide) rfl rfl rfl fun a w v_2948 cs_2949 hq_2950 s q=>?_
 refine zl q (r_fieldAddr underlying35 rfl sizeOf33 q rfl) fun a q=>?_
 have s:=s.pk4
 refine sl_store1 (c':=[v_15,v_2948]) sizeOf33 s q rfl rfl rfl (s.row_one z1) (Nat.le_of_ble_eq_true rfl) rfl fun a w s q=>?_
 refine zn<|zr<|zm q rfl fun a q=>zl q (r_ibin q rfl rfl rfl) fun a q=>za q rfl fun a q=>zn ?_
 have s:=s.pk1
 have s:=s.pk4
 have s:=s.pk4
 have s:=s.pk4
 exact ⟨_,Nat.lt_succ_self _,y_2946,(IntKind.i64.wrap (x_1007 + 1)),_,_,_,H,(hl_1009.trans hl_2945),hq_2950,q.sub (zc (zc (zc (zc (zc (zc zz)))))),s⟩
 rw [ifb_f hb_1982] at H
 refine wp_exit ?_
 refine zq<|zr<|zl q (r_loadA (cs:=[v_15,v_1004]) isAgg35 sizeOf35 rfl q rfl (s.cells_of (m:=2) z4 rfl)) fun a q=>zm q rfl fun a q=>zl q (r_len_R underlying23 h1_0 q rfl) fun a q=>zm q rfl fun a q=>?_
 have s:=s.pk2
 obtain ⟨R_2952,s,hl_2954,hs_2953⟩:=s.fz_row (hq_17.mono hl_1009.le) rfl rfl
 have hRL:=hRL.trans hl_2954
 have s:=s.pk2
 obtain ⟨R_2955,s,hl_2957,hs_2956⟩:=s.fz_row (hq_1006.mono hl_2954.le) rfl rfl
 have hRL:=hRL.trans hl_2957
 obtain ⟨y_2958,h_2959,H⟩:=bs H
 refine sl_call call38 q (by decide) rfl rfl rfl (ref18_together.calls (⟨y_10.1,x_1003⟩ : api_Table) (a1.length : Int) a2 (lentOf_sub [] _) s.sub (hs_2953.mono hl_2957.le) hs_2956 (h2_0.mono ((hl_13.le.trans (hl_1009.le.trans (hl_2954.le.trans hl_2957.le))).trans s.rLe0)) h_2959) fun a v_ w hv_ q=>?_
 obtain ⟨R_2960,v_2963,cs_2964,v_2967,cs_2968,hv_,hr_,hl_2961,hq_2965,hq_2969⟩:=hv_
 have hv_:=hv_.symm
 subst hv_
 obtain ⟨s,hl_2961⟩:=s.sp0.back hr_ hl_2961
 have s:=s.un2
 have hRL:=hRL.trans hl_2961
 have s:=s.pk3
 refine sl_storeA (vs:=[v_2963,v_2967]) (c':=[v_2963,v_2967]) sizeOf35 s q rfl rfl rfl rfl (all_cons (s.row_one z1) (all_cons (s.row_one z2) zz)) (Nat.le_of_ble_eq_true rfl) rfl fun a w s q=>?_
 refine za q rfl fun a q=>zn ?_
 obtain rfl:=Option.some.inj H
 refine wp_ret ?_
 repeat first | refine zt ?_ | refine zb ?_ | refine zo ?_
 exact ret_2 results16 q (rv_cell (c:=[v_2963,v_2967]) isAgg35 sizeOf35 s z0 rfl q rfl) (rv_tmp q rfl) ⟨_,rfl,_,_,_,_,_,rfl,(s.pk2.pk2.trunc 2),hRL,hq_2965,hq_2969⟩
theorem ref02_Same.calls (a0 : api_Table) (a1 : api_Table) {w0 : World} {RA : Hp} {v0_0 : Value} {v0_1 : Value} {v1_0 : Value} {v1_1 : Value} (hRA : RA.sub w0) (h0_0 : SlR ty_api_Col RA v0_0 a0.Cols) (h0_1 : SlR (tySl ty_api_Value) RA v0_1 a0.Rows) (h1_0 : SlR ty_api_Col RA v1_0 a1.Cols) (h1_1 : SlR (tySl ty_api_Value) RA v1_1 a1.Rows) {r : Bool} (H : ref02_Same a0 a1 = some r) : CallsV prog 17 #[.agg #[v0_0,v0_1],.agg #[v1_0,v1_1]] w0 (.bool r):=by
 unfold ref02_Same at H
 refine enter (args:=[.agg #[v0_0,v0_1],.agg #[v1_0,v1_1]]) func17 rfl ntmps17 rfl fun a q=>?_
 have s:=St.init (R:=fun _=>none) (w:=w0) (fun _ _ h=>by cases h)
 have hRL:=RLe.refl (M:=[]) w0 (fun _=>none)
 refine zq<|zr ?_
 refine sl_box s q (by decide) rfl rfl (c:=[v0_0,v0_1]) rfl fun a w b_1 s q=>?_
 refine sl_box s q (by decide) rfl rfl (c:=[v1_0,v1_1]) rfl fun a w b_2 s q=>?_
 refine za q rfl fun a q=>zn<|zq<|zq ?_
 refine wp_mid (fun a w=>∃ (x_6 : Bool),ref02_Same.j0 a0 a1 x_6 = some r ∧ Kn 40 a [(2,.pointer (some ⟨b_1,0,none⟩)),(3,.pointer (some ⟨b_2,0,none⟩)),(20,.bool x_6)] ∧ St [] w0 w (fun _=>none) [.cells b_1 [v0_0,v0_1] 35,.cells b_2 [v1_0,v1_1] 35]) ?_ ?_
 refine zr<|zl q (r_fieldAddr underlying35 rfl sizeOf22 q rfl) fun a q=>zl q (r_load isAgg22 q rfl (s.cell z1 rfl)) fun a q=>zl q (r_fieldAddr underlying35 rfl sizeOf22 q rfl) fun a q=>zl q (r_load isAgg22 q rfl (s.cell z0 rfl)) fun a q=>?_
 obtain ⟨y_8,h_9,H⟩:=bs H
 refine sl_callV call13 s q (by decide) rfl rfl rfl (ref02_SameCols.calls a0.Cols a1.Cols (lentOf_sub [] _) (h0_0.mono (s.raLe0 hRA nil_not)) (h1_0.mono (s.raLe0 hRA nil_not)) h_9) fun a w s q=>?_
 refine zl q (r_un q rfl (u_not _)) fun a q=>zm q rfl fun a q=>?_
 rcases or_b (!y_8) with hb_10 | hb_10
 rw [ifb_t hb_10] at H
 refine zsw q (wft hb_10) fun a q=>zsw q (wft hb_10) fun a q=>zsw q (wft hb_10) fun a q=>zsw q (wft hb_10) fun a q=>zsw q (wft hb_10) fun a q=>zsw q (wft hb_10) fun a q=>zsw q (wft hb_10) fun a q=>zl q (r_pick_t hb_10 q rfl rfl) fun a q=>zn ?_
 have s:=s.pk1
 exact ⟨true,H,q.sub (zc (zc (zc zz))),s⟩
 rw [ifb_f hb_10] at H
 refine zw q (wff hb_10) (r_fieldAddr underlying35 rfl sizeOf33 q rfl) fun a q=>zw q (wff hb_10) (r_load isAgg33 q rfl (s.cell z1 rfl)) fun a q=>zw q (wff hb_10) (r_len_R underlying33 h0_1 q rfl) fun a q=>zw q (wff hb_10) (r_fieldAddr underlying35 rfl sizeOf33 q rfl) fun a q=>zw q (wff hb_10) (r_load isAgg33 q rfl (s.cell z0 rfl)) fun a q=>zw q (wff hb_10) (r_len_R underlying33 h1_1 q rfl) fun a q=>zw q (wff hb_10) (r_ibin q rfl rfl rfl) fun a q=>zl q (r_pick_f hb_10 q rfl rfl) fun a q=>zn ?_
 have s:=s.pk1
 exact ⟨((a0.Rows.length : Int) != (a1.Rows.length : Int)),H,q.sub (zc (zc (zc zz))),s⟩
 rintro a w ⟨x_6,H,q,s⟩
 unfold ref02_Same.j0 at H
 refine wp_cond_split (q.ev rfl) (fun (hb_11 : x_6 = true)=>?_) fun hb_11=>?_
 rw [ifb_t hb_11] at H
 refine zq<|zr<|za q rfl fun a q=>zn ?_
 obtain rfl:=Option.some.inj H
 refine wp_ret ?_
 repeat first | refine zt ?_ | refine zb ?_ | refine zo ?_
 exact ret_1 results17 q (rv_tmp q rfl) ⟨rfl,s.bel⟩
 rw [ifb_f hb_11] at H
 refine wp_skip<|zq<|zq<|zr<|za q rfl fun a q=>zn ?_
 refine wp_block ?_
 refine wp_loop_k (fun k_l1 a w=>∃ (x_63 : Int),ref02_Same.l1 a0 a1 k_l1 x_63 = some r ∧ Kn 40 a [(2,.pointer (some ⟨b_1,0,none⟩)),(3,.pointer (some ⟨b_2,0,none⟩)),(5,I6 x_63)] ∧ St [] w0 w (fun _=>none) [.cells b_1 [v0_0,v0_1] 35,.cells b_2 [v1_0,v1_1] 35]) (((a0.Rows.length : Int) - 0).toNat + 1) ?_ ?_
 have s:=s.pk1
 have s:=s.pk1
 exact ⟨0,H,q.sub (zc (zc (zc zz))),s⟩
 rintro k_l1 a w ⟨x_63,H,q,s⟩
 rcases k_l1 with _ | k_l1
 cases H
 rw [ref02_Same.l1.eq_2] at H
 refine zq<|zq<|zr<|zm q rfl fun a q=>zl q (r_fieldAddr underlying35 rfl sizeOf33 q rfl) fun a q=>zl q (r_load isAgg33 q rfl (s.cell z0 rfl)) fun a q=>zl q (r_len_R underlying33 h0_1 q rfl) fun a q=>zl q (r_ibin q rfl rfl rfl) fun a q=>zn ?_
 refine wp_cond_split (q.ev rfl) (fun (hb_115 : (decide (x_63 < (a0.Rows.length : Int))) = true)=>?_) fun hb_115=>?_
 rw [ifb_t hb_115] at H
 refine wp_skip<|zq ?_
 refine wp_block ?_
 refine zq ?_
 refine parT_region (C:=fun w=>St [] w0 w (fun _=>none) [.cells b_1 [v0_0,v0_1] 35,.cells b_2 [v1_0,v1_1] 35]) 10 [(0,true),(1,true),(2,true),(3,true),(4,true),(5,true),(6,true),(7,true),(8,true),(9,true)] mixed (by kernel_rfl) s (fun w s=>s) fun w s=>?_
 refine zp rfl q (fun w s=>r_fieldAddr underlying35 rfl sizeOf33 q rfl) fun a q=>zp rfl q (fun w s=>r_load isAgg33 q rfl (s.cell z0 rfl)) fun a q=>zp rfl q (fun w s=>r_move q rfl) fun a q=>?_
 obtain ⟨y_140,h_141,H⟩:=bs H
 obtain ⟨b_142,o_143,c_144,cs_145,hv_146,hr_147,hc_148,h_1410,h_1411⟩:=h0_1.ix h_141
 obtain ⟨v_149,rfl,hs_150⟩:=hr_147
 refine zp rfl q (fun w s=>r_indexAddr_R underlying33 sizeOf53 hv_146 h_1410 h_1411 q rfl rfl) fun a q=>zp rfl q (fun w s=>r_load isAgg53 q rfl ((s.ra hRA nil_not).cell (hc_148 0 _ rfl))) fun a q=>zp rfl q (fun w s=>r_fieldAddr underlying35 rfl sizeOf33 q rfl) fun a q=>zp rfl q (fun w s=>r_load isAgg33 q rfl (s.cell z1 rfl)) fun a q=>zp rfl q (fun w s=>r_move q rfl) fun a q=>?_
 obtain ⟨y_151,h_152,H⟩:=bs H
 obtain ⟨b_153,o_154,c_155,cs_156,hv_157,hr_158,hc_159,h_1520,h_1521⟩:=h1_1.ix h_152
 obtain ⟨v_160,rfl,hs_161⟩:=hr_158
 refine zp rfl q (fun w s=>r_indexAddr_R underlying33 sizeOf53 hv_157 h_1520 h_1521 q rfl rfl) fun a q=>zp rfl q (fun w s=>r_load isAgg53 q rfl ((s.ra hRA nil_not).cell (hc_159 0 _ rfl))) fun a q=>?_
 refine thenL_nil ?_
 obtain ⟨y_162,h_163,H⟩:=bs H
 refine sl_callV call23 s q (by decide) rfl rfl rfl (ref02_Row.calls y_140 y_151 (lentOf_sub [] _) (hs_150.mono (s.raLe0 hRA nil_not)) (hs_161.mono (s.raLe0 hRA nil_not)) h_163) fun a w s q=>?_
 refine zl q (r_ibin q rfl rfl rfl) fun a q=>?_
 refine wpList_nil (NoP_nil ?_)
 refine wp_cond_split (q.ev rfl) (fun (hb_164 : (y_162 != 0) = true)=>?_) fun hb_164=>?_
 rw [ifb_t hb_164] at H
 refine zq<|zr<|za q rfl fun a q=>zn ?_
 obtain rfl:=Option.some.inj H
 refine wp_ret ?_
 repeat first | refine zt ?_ | refine zb ?_ | refine zo ?_
 exact ret_1 results17 q (rv_tmp q rfl) ⟨rfl,s.bel⟩
 rw [ifb_f hb_164] at H
 refine wp_skip<|zr<|zm q rfl fun a q=>zl q (r_ibin q rfl rfl rfl) fun a q=>za q rfl fun a q=>zn ?_
 have s:=s.pk1
 have s:=s.pk1
 exact ⟨_,Nat.lt_succ_self _,(IntKind.i64.wrap (x_63 + 1)),H,q.sub (zc (zc (zc zz))),s⟩
 rw [ifb_f hb_115] at H
 refine wp_exit ?_
 refine zq<|zr<|za q rfl fun a q=>zn ?_
 obtain rfl:=Option.some.inj H
 refine wp_ret ?_
 repeat first | refine zt ?_ | refine zb ?_ | refine zo ?_
 exact ret_1 results17 q (rv_tmp q rfl) ⟨rfl,s.bel⟩
end Go.Proofs.YtonfglmfdhljnaaGreatDoor.M
end
section
namespace Go.Proofs.YtonfglmfdhljnaaGreatDoor.M
open Go Go.Eng Go.Proofs Go.RowKit
set_option linter.unusedVariables false
set_option linter.unusedSimpArgs false
open Go.Proofs.Tryz
set_option maxHeartbeats 4000000
set_option maxRecDepth 100000
theorem law18_GroupParts.calls (a0 : api_Table) (a1 : catchmentlaw18_By) {w0 : World} {R : Hp} {RA : Hp} {v0_0 : Value} {v0_1 : Value} {v1_0 : Value} {v1_1 : Value} (hRA : RA.sub w0) (hR : R.sub w0) (h0_0 : SlR ty_api_Col R v0_0 a0.Cols) (h0_1 : SlR (tySl ty_api_Value) R v0_1 a0.Rows) (h1_0 : SlR tyStr R v1_0 a1.Names) (h1_1 : SlR ty_api_Agg R v1_1 a1.Aggs) (hG : GF RA) (H : law18_GroupParts a0 a1 = some true) : CallsV prog 4 #[.agg #[v0_0,v0_1],.agg #[v1_0,v1_1]] w0 (.bool true):=by
 unfold law18_GroupParts at H
 refine enter (args:=[.agg #[v0_0,v0_1],.agg #[v1_0,v1_1]]) func4 rfl ntmps4 rfl fun a q=>?_
 have s:=St.init hR
 have hRL:=RLe.refl (M:=[]) w0 R
 refine zq<|zr ?_
 refine sl_box s q (by decide) rfl rfl (c:=[v0_0,v0_1]) rfl fun a w b_1 s q=>?_
 refine sl_box s q (by decide) rfl rfl (c:=[v1_0,v1_1]) rfl fun a w b_2 s q=>?_
 refine za q rfl fun a q=>zn<|zq<|zr ?_
 obtain ⟨y_3,h_4,H⟩:=bs H
 refine sl_callV call9 s q (by decide) rfl rfl rfl (law18_shown.calls (lentOf_sub [] _) (GF.mono (s.raLe0 hRA nil_not) hG) h_4) fun a w s q=>?_
 refine za q rfl fun a q=>zn<|zq<|zr<|zl q (r_loadA (cs:=[v0_0,v0_1]) isAgg35 sizeOf35 rfl q rfl (s.cells_of (m:=2) z1 rfl)) fun a q=>?_
 obtain ⟨y_5,h_6,H⟩:=bs H
 refine sl_call call14 q (by decide) rfl rfl rfl (law18_cut.calls a0 s.sub h0_0 h0_1 h_6) fun a v_ w hv_ q=>?_
 obtain ⟨R_7,v_9,v_11,hv_,hr_,hl_8,hs_10,hs_12⟩:=hv_
 have hv_:=hv_.symm
 subst hv_
 obtain ⟨s,hl_8⟩:=s.sp0.back hr_ hl_8
 have s:=s.un0
 have hRL:=hRL.trans hl_8
 have s:=s.pk1
 refine sl_storeA (vs:=[v_9,v_11]) (c':=[v_9,v_11]) sizeOf35 s q rfl rfl rfl rfl (all_cons hs_10.one (all_cons hs_12.one zz)) (Nat.le_of_ble_eq_true rfl) rfl fun a w s q=>?_
 refine zn<|zq<|zr<|zl q (r_loadA (cs:=[v1_0,v1_1]) isAgg26 sizeOf26 rfl q rfl (s.cells_of (m:=2) z1 rfl)) fun a q=>?_
 obtain ⟨y_13,h_14,H⟩:=bs H
 refine sl_call call10 q (by decide) rfl rfl rfl (law18_few.calls a1 s.sub (h1_0.mono hl_8.le) (h1_1.mono hl_8.le) h_14) fun a v_ w hv_ q=>?_
 obtain ⟨R_15,v_17,v_19,hv_,hr_,hl_16,hs_18,hs_20⟩:=hv_
 have hv_:=hv_.symm
 subst hv_
 obtain ⟨s,hl_16⟩:=s.sp0.back hr_ hl_16
 have s:=s.un0
 have hRL:=hRL.trans hl_16
 have s:=s.pk1
 refine sl_storeA (vs:=[v_17,v_19]) (c':=[v_17,v_19]) sizeOf26 s q rfl rfl rfl rfl (all_cons hs_18.one (all_cons hs_20.one zz)) (Nat.le_of_ble_eq_true rfl) rfl fun a w s q=>?_
 refine zn<|zq<|zr<|zl q (r_loadA (cs:=[v_9,v_11]) isAgg35 sizeOf35 rfl q rfl (s.cells_of (m:=2) z1 rfl)) fun a q=>zl q (r_fieldAddr underlying26 rfl sizeOf23 q rfl) fun a q=>zl q (r_load isAgg23 q rfl (s.cell z0 rfl)) fun a q=>zl q (r_fieldAddr underlying26 rfl sizeOf24 q rfl) fun a q=>zl q (r_load isAgg24 q rfl (s.cell z0 rfl)) fun a q=>?_
 obtain ⟨y_21,h_22,H⟩:=bs H
 refine sl_call call15 q (by decide) rfl rfl rfl (group_Partial.calls y_5 y_13.Names y_13.Aggs (lentOf_sub [] _) s.sub (hs_10.mono hl_16.le) (hs_12.mono hl_16.le) hs_18 hs_20 (GF.mono (s.raLe0 hRA nil_not) hG) h_22) fun a v_ w hv_ q=>?_
 obtain ⟨R_23,v_26,cs_27,v_30,cs_31,hv_,hr_,hl_24,hq_28,hq_32⟩:=hv_
 have hv_:=hv_.symm
 subst hv_
 obtain ⟨s,hl_24⟩:=s.sp0.back hr_ hl_24
 have s:=s.un2
 have hRL:=hRL.trans hl_24
 refine zm q rfl fun a q=>zl q (r_extract q rfl rfl) fun a q=>zl q (r_extract q rfl rfl) fun a q=>?_
 refine sl_alloc zeroValue35 s q (by decide) rfl rfl fun a w b_33 s q=>?_
 refine sl_storeA (vs:=[v_26,v_30]) (c':=[v_26,v_30]) sizeOf35 s q rfl rfl rfl rfl (all_cons (s.row_one z1) (all_cons (s.row_one z2) zz)) (Nat.le_of_ble_eq_true rfl) rfl fun a w s q=>?_
 refine za q rfl fun a q=>zn<|zq<|zr<|zl q (r_loadA (cs:=[v_9,v_11]) isAgg35 sizeOf35 rfl q rfl (s.cells_of (m:=2) z4 rfl)) fun a q=>zl q (r_fieldAddr underlying26 rfl sizeOf23 q rfl) fun a q=>zl q (r_load isAgg23 q rfl (s.cell z3 rfl)) fun a q=>zl q (r_fieldAddr underlying26 rfl sizeOf24 q rfl) fun a q=>zl q (r_load isAgg24 q rfl (s.cell z3 rfl)) fun a q=>?_
 obtain ⟨y_34,h_35,H⟩:=bs H
 refine sl_call call16 q (by decide) rfl rfl rfl (ref18_Partial.calls y_5 y_13.Names y_13.Aggs s.sub (hs_10.mono (hl_16.le.trans hl_24.le)) (hs_12.mono (hl_16.le.trans hl_24.le)) (hs_18.mono hl_24.le) (hs_20.mono hl_24.le) h_35) fun a v_ w hv_ q=>?_
 obtain ⟨R_36,v_39,cs_40,v_43,cs_44,hv_,hr_,hl_37,hq_41,hq_45⟩:=hv_
 have hv_:=hv_.symm
 subst hv_
 obtain ⟨s,hl_37⟩:=s.sp0.back hr_ hl_37
 have s:=s.un2
 have hRL:=hRL.trans hl_37
 refine zm q rfl fun a q=>zl q (r_extract q rfl rfl) fun a q=>zl q (r_extract q rfl rfl) fun a q=>?_
 refine sl_alloc zeroValue35 s q (by decide) rfl rfl fun a w b_46 s q=>?_
 refine sl_storeA (vs:=[v_39,v_43]) (c':=[v_39,v_43]) sizeOf35 s q rfl rfl rfl rfl (all_cons (s.row_one z1) (all_cons (s.row_one z2) zz)) (Nat.le_of_ble_eq_true rfl) rfl fun a w s q=>?_
 refine za q rfl fun a q=>zn<|zq<|zr<|zl q (r_loadA (cs:=[v_26,v_30]) isAgg35 sizeOf35 rfl q rfl (s.cells_of (m:=2) z3 rfl)) fun a q=>zl q (r_loadA (cs:=[v_39,v_43]) isAgg35 sizeOf35 rfl q rfl (s.cells_of (m:=2) z0 rfl)) fun a q=>?_
 obtain ⟨y_47,h_48,H⟩:=bs H
 refine sl_callV call17 s q (by decide) rfl rfl rfl (ref02_Same.calls y_21.1 y_34.1 (lentOf_sub [] _) (s.lend_row0 z4 (hq_28.mono hl_37.le) rfl rfl) (s.lend_row0 z5 (hq_32.mono hl_37.le) rfl rfl) (s.lend_row0 z1 hq_41 rfl rfl) (s.lend_row0 z2 hq_45 rfl rfl) h_48) fun a w s q=>?_
 refine za q rfl fun a q=>zn<|zq<|zr<|zm q rfl fun a q=>zm q rfl fun a q=>?_
 rcases or_b y_3 with hb_49 | hb_49
 rw [ifb_t hb_49] at H
 refine zw q (wtt hb_49) (r_move q rfl) fun a q=>zl q (r_pick_t hb_49 q rfl rfl) fun a q=>zm q rfl fun a q=>?_
 rcases or_b y_47 with hb_50 | hb_50
 rw [ifb_t hb_50] at H
 refine zw q (wtt hb_50) (r_move q rfl) fun a q=>zw q (wtt hb_50) (r_move q rfl) fun a q=>zw q (wtt hb_50) (r_ibin q rfl rfl rfl) fun a q=>zl q (r_pick_t hb_50 q rfl rfl) fun a q=>za q rfl fun a q=>zn ?_
 have hr_:=Option.some.inj H
 refine wp_ret ?_
 repeat first | refine zt ?_ | refine zb ?_ | refine zo ?_
 exact ret_1 results4 q (rv_tmp q rfl) ⟨congrArg (fun b=>Ending.returned (Value.bool b)) hr_,s.bel⟩
 rw [ifb_f hb_50] at H
 refine zsw q (wtf hb_50) fun a q=>zsw q (wtf hb_50) fun a q=>zsw q (wtf hb_50) fun a q=>zl q (r_pick_f hb_50 q rfl rfl) fun a q=>za q rfl fun a q=>zn ?_
 exact absurd (Option.some.inj H) (by decide)
 rw [ifb_f hb_49] at H
 refine zsw q (wtf hb_49) fun a q=>zl q (r_pick_f hb_49 q rfl rfl) fun a q=>zm q rfl fun a q=>zs q fun a q=>zs q fun a q=>zs q fun a q=>zl q (r_pick q rfl rfl rfl) fun a q=>za q rfl fun a q=>zn ?_
 exact absurd (Option.some.inj H) (by decide)
end Go.Proofs.YtonfglmfdhljnaaGreatDoor.M
end
