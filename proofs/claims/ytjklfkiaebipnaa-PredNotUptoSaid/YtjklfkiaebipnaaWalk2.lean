/- Each Go function of the laws answers as its plain Lean function tells, wherever that tells something. Printed by wip/eng/gen.py. -/
import Derived.Test.YtjklfkiaebipnaaWalk1
namespace Go.Proofs.Ytjklfkiaebipnaa.M
open Go Go.Eng Go.Proofs Go.RowKit
set_option linter.unusedVariables false
set_option linter.unusedSimpArgs false

/-! ### catchment/catchmentref12.Cond: function 18 -/
set_option maxHeartbeats 4000000 in
set_option maxRecDepth 100000 in
theorem ref12_Cond.calls (a0 : List api_Token) {w0 : World} {R : Hp} {M : List Own} {v0_0 : Value} {cs0_0 : List Value} (hS0 : St M w0 w0 R [.row 72 4 v0_0 a0.length cs0_0]) (h0_0 : Reps ty_api_Token R cs0_0 a0) {r : api_Query × Int × Int} (H : ref12_Cond a0 = some r) : Calls Try.prog 18 #[v0_0] w0 (Rets fun v w' => ∃ (R' : Hp) (u0 : Value) (cu0 : List Value), v = .tuple #[.agg #[u0], .int .i64 r.2.1, .int .i64 r.2.2] ∧ St M w0 w' R' [.row 51 19 u0 r.1.N.length cu0] ∧ RLe M w0 R R' ∧ Reps ty_api_Node R' cu0 r.1.N) := by
  unfold ref12_Cond at H
  refine enter (args := [v0_0]) Try.func18 rfl Try.ntmps18 rfl fun a hK => ?_
  have hS := hS0
  have hRL := RLe.refl (M := M) w0 R
  refine wp_seq ?_
  refine wp_region_lit ?_
  refine sl_alloc Try.zeroValue24 hS hK (by decide) rfl rfl fun a w b_1 hS hK => ?_
  refine sl hK (by decide) rfl rfl (r_assign hK rfl) fun a hK => ?_
  refine sl hK (by decide) rfl rfl (r_assign hK rfl) fun a hK => ?_
  refine wpList_nil ?_
  refine wp_seq ?_
  refine wp_seq ?_
  refine wp_region_lit ?_
  refine sl hK (by decide) rfl rfl (r_move hK rfl) fun a hK => ?_
  refine sl hK (by decide) rfl rfl (r_len_O Try.underlying41 hS (.tail _ (.head _)) hK rfl) fun a hK => ?_
  refine sl hK (by decide) rfl rfl (r_ibin hK rfl rfl rfl) fun a hK => ?_
  refine wpList_nil ?_
  refine wp_cond_split (hK.ev rfl) (fun (hb_2 : (decide ((a0.length : Int) > 1024)) = true) => ?_) (fun (hb_2 : (decide ((a0.length : Int) > 1024)) = false) => ?_)
  · rw [ifb_t hb_2] at H
    refine wp_seq ?_
    refine wp_region_lit ?_
    refine sl hK (by decide) rfl rfl (r_buildC (ps := []) (c := [.slice none 0 0]) Try.underlying24 Try.zeroValue24 places24 hK rfl pc_nil rfl rfl) fun a hK => ?_
    refine sl_storeA (vs := [.slice none 0 0]) (c' := [.slice none 0 0]) Try.sizeOf24 hS hK rfl rfl rfl rfl (all_cons rfl (all_nil)) (Nat.le_of_ble_eq_true rfl) rfl fun a w hS hK => ?_
    refine sl hK (by decide) rfl rfl (r_assign hK rfl) fun a hK => ?_
    refine sl hK (by decide) rfl rfl (r_assign hK rfl) fun a hK => ?_
    refine wpList_nil ?_
    have hS := hS.row_nil 51 19
    have hq_4 : Reps ty_api_Node R [] ([] : List api_Node) := Reps.nil _ _
    obtain rfl := Option.some.inj H
    refine wp_ret ?_
    repeat (first | refine ret_then ?_ | refine ret_block ?_ | refine ret_scope ?_)
    exact ret_3 Try.results18 hK (rv_cell (c := [(.slice none 0 0)]) Try.isAgg24 Try.sizeOf24 hS (.tail _ (.head _)) rfl hK rfl) (rv_tmp hK rfl) (rv_tmp hK rfl) ⟨_, rfl, _, _, _, rfl, (hS.trunc 1), hRL, hq_4⟩
  · rw [ifb_f hb_2] at H
    refine wp_skip ?_
    refine wp_seq ?_
    refine wp_region_lit ?_
    refine sl hK (by decide) rfl rfl (r_move hK rfl) fun a hK => ?_
    have ho_5 := hS.row_one (.tail _ (.head _))
    refine sl hK (by decide) rfl rfl (r_buildC (ps := [(0, v0_0)]) (c := [v0_0, .int .i64 0, .slice none 0 0, .int .i64 0, .int .i64 0]) Try.underlying77 Try.zeroValue77 places77 hK rfl (pc_cons (cells1 ho_5) pc_nil) rfl rfl) fun a hK => ?_
    refine sl_box hS hK (by decide) rfl rfl (c := [v0_0, .int .i64 0, .slice none 0 0, .int .i64 0, .int .i64 0]) rfl fun a w b_6 hS hK => ?_
    refine sl hK (by decide) rfl rfl (r_assign hK rfl) fun a hK => ?_
    refine wpList_nil ?_
    refine wp_seq ?_
    refine wp_region_lit ?_
    refine sl hK (by decide) rfl rfl (r_move hK rfl) fun a hK => ?_
    have hS := hS.row_nil 51 19
    have hq_8 : Reps ty_api_Node R [] ([] : List api_Node) := Reps.nil _ _
    obtain ⟨y_9, h_10, H⟩ := bind_some H
    have hS := hS.pk3
    have hS := hS.pk2
    have hS1 := hS.sp3
    refine sl_call Try.call38 hK (by decide) rfl rfl rfl (ref12_reader_cond.calls (⟨a0, 0, ([] : List api_Node), 0, 0⟩ : catchmentref12_reader) hS1.lend h0_0 hq_8 h_10) fun a v_ w hv_ hK => ?_
    obtain ⟨R_11, v_14, cs_15, v_18, cs_19, hv_, hr_, hl_12, hq_16, hq_20⟩ := hv_
    have hv_ := hv_.symm
    subst hv_
    obtain ⟨hS, hl_12⟩ := hS1.back hr_ hl_12
    have hS := hS.un3
    have hRL := hRL.trans hl_12
    refine wpList_nil ?_
    refine wp_seq ?_
    refine wp_region_lit ?_
    refine sl hK (by decide) rfl rfl (r_move hK rfl) fun a hK => ?_
    obtain ⟨y_21, h_22, H⟩ := bind_some H
    have hS := hS.pk2
    have hS := hS.pk2
    have hS := hS.pk2
    have hS1 := hS.sp3
    refine sl_call Try.call39 hK (by decide) rfl rfl rfl (ref12_reader_end.calls y_9.2 hS1.lend hq_16 hq_20 h_22) fun a v_ w hv_ hK => ?_
    obtain ⟨R_23, v_26, cs_27, hv_, hr_, hl_24, hq_28⟩ := hv_
    have hv_ := hv_.symm
    subst hv_
    obtain ⟨hS, hl_24⟩ := hS1.back hr_ hl_24
    have hS := hS.un1
    have hRL := hRL.trans hl_24
    refine sl hK (by decide) rfl rfl (r_extract hK rfl rfl) fun a hK => ?_
    refine sl hK (by decide) rfl rfl (r_extract hK rfl rfl) fun a hK => ?_
    refine sl hK (by decide) rfl rfl (r_extract hK rfl rfl) fun a hK => ?_
    have hS := hS.pk1
    refine sl_storeA (vs := [v_26]) (c' := [v_26]) Try.sizeOf24 hS hK rfl rfl rfl rfl (all_cons (hS.row_one (.tail _ (.head _))) (all_nil)) (Nat.le_of_ble_eq_true rfl) rfl fun a w hS hK => ?_
    refine sl hK (by decide) rfl rfl (r_assign hK rfl) fun a hK => ?_
    refine sl hK (by decide) rfl rfl (r_assign hK rfl) fun a hK => ?_
    refine wpList_nil ?_
    obtain rfl := Option.some.inj H
    refine wp_ret ?_
    repeat (first | refine ret_then ?_ | refine ret_block ?_ | refine ret_scope ?_)
    exact ret_3 Try.results18 hK (rv_cell (c := [v_26]) Try.isAgg24 Try.sizeOf24 hS (.head _) rfl hK rfl) (rv_tmp hK rfl) (rv_tmp hK rfl) ⟨_, rfl, _, _, _, rfl, (hS.pk1.trunc 1), hRL, hq_28⟩

/-! ### catchment/catchmentlaw15.cond: function 43 -/
set_option maxHeartbeats 4000000 in
set_option maxRecDepth 100000 in
theorem law15_cond.calls (a0 : ByteArray) {w0 : World} {R : Hp} (hR : R.sub w0) {r : api_Query} (H : law15_cond a0 = some r) : Calls Try.prog 43 #[.string a0] w0 (Rets fun v w' => ∃ (R' : Hp) (u0 : Value) (cu0 : List Value), v = .agg #[u0] ∧ St [] w0 w' R' [.row 51 19 u0 r.N.length cu0] ∧ RLe [] w0 R R' ∧ Reps ty_api_Node R' cu0 r.N) := by
  unfold law15_cond at H
  refine enter (args := [.string a0]) Try.func43 rfl Try.ntmps43 rfl fun a hK => ?_
  have hS := St.init hR
  have hRL := RLe.refl (M := []) w0 R
  refine wp_seq ?_
  refine wp_region_lit ?_
  refine sl_alloc Try.zeroValue24 hS hK (by decide) rfl rfl fun a w b_1 hS hK => ?_
  refine wpList_nil ?_
  refine wp_seq ?_
  refine wp_region_lit ?_
  refine sl hK (by decide) rfl rfl (r_move hK rfl) fun a hK => ?_
  obtain ⟨y_2, h_3, H⟩ := bind_some H
  refine sl_call Try.call17 hK (by decide) rfl rfl rfl (ref11_Lex.calls a0 hS.sub h_3) fun a v_ w hv_ hK => ?_
  obtain ⟨R_4, v_7, cs_8, hv_, hr_, hl_5, hq_9⟩ := hv_
  have hv_ := hv_.symm
  subst hv_
  obtain ⟨hS, hl_5⟩ := hS.sp0.back hr_ hl_5
  have hS := hS.un1
  have hRL := hRL.trans hl_5
  refine sl hK (by decide) rfl rfl (r_move hK rfl) fun a hK => ?_
  refine sl hK (by decide) rfl rfl (r_extract hK rfl rfl) fun a hK => ?_
  refine sl hK (by decide) rfl rfl (r_extract hK rfl rfl) fun a hK => ?_
  refine sl hK (by decide) rfl rfl (r_extract hK rfl rfl) fun a hK => ?_
  refine sl hK (by decide) rfl rfl (r_assign hK rfl) fun a hK => ?_
  refine sl hK (by decide) rfl rfl (r_assign hK rfl) fun a hK => ?_
  refine sl hK (by decide) rfl rfl (r_assign hK rfl) fun a hK => ?_
  refine wpList_nil ?_
  refine wp_seq ?_
  refine wp_region_lit ?_
  refine sl hK (by decide) rfl rfl (r_move hK rfl) fun a hK => ?_
  obtain ⟨y_10, h_11, H⟩ := bind_some H
  have hS1 := hS.sp1
  refine sl_call Try.call18 hK (by decide) rfl rfl rfl (ref12_Cond.calls y_2.1 hS1.lend hq_9 h_11) fun a v_ w hv_ hK => ?_
  obtain ⟨R_12, v_15, cs_16, hv_, hr_, hl_13, hq_17⟩ := hv_
  have hv_ := hv_.symm
  subst hv_
  obtain ⟨hS, hl_13⟩ := hS1.back hr_ hl_13
  have hS := hS.un1
  have hRL := hRL.trans hl_13
  refine sl hK (by decide) rfl rfl (r_move hK rfl) fun a hK => ?_
  refine sl hK (by decide) rfl rfl (r_extract hK rfl rfl) fun a hK => ?_
  refine sl hK (by decide) rfl rfl (r_extract hK rfl rfl) fun a hK => ?_
  refine sl hK (by decide) rfl rfl (r_extract hK rfl rfl) fun a hK => ?_
  refine sl_alloc Try.zeroValue24 hS hK (by decide) rfl rfl fun a w b_18 hS hK => ?_
  refine sl_storeA (vs := [v_15]) (c' := [v_15]) Try.sizeOf24 hS hK rfl rfl rfl rfl (all_cons (hS.row_one (.tail _ (.head _))) (all_nil)) (Nat.le_of_ble_eq_true rfl) rfl fun a w hS hK => ?_
  refine sl hK (by decide) rfl rfl (r_assign hK rfl) fun a hK => ?_
  refine sl hK (by decide) rfl rfl (r_assign hK rfl) fun a hK => ?_
  refine wpList_nil ?_
  refine wp_seq ?_
  refine wp_region_lit ?_
  refine sl hK (by decide) rfl rfl (r_loadA (cs := [v_15]) Try.isAgg24 Try.sizeOf24 rfl hK rfl (hS.cells_of (m := 1) (.head _) rfl)) fun a hK => ?_
  have hS := hS.pk2
  refine sl_storeA (vs := [v_15]) (c' := [v_15]) Try.sizeOf24 hS hK rfl rfl rfl rfl (all_cons (hS.row_one (.tail _ (.tail _ (.head _)))) (all_nil)) (Nat.le_of_ble_eq_true rfl) rfl fun a w hS hK => ?_
  refine wpList_nil ?_
  obtain rfl := Option.some.inj H
  refine wp_ret ?_
  repeat (first | refine ret_then ?_ | refine ret_block ?_ | refine ret_scope ?_)
  exact ret_1 Try.results43 hK (rv_cell (c := [v_15]) Try.isAgg24 Try.sizeOf24 hS (.head _) rfl hK rfl) ⟨_, rfl, _, _, _, rfl, (hS.pk2.trunc 1), hRL, hq_17⟩

/-! ### catchment/table.Find$1: function 45 -/
set_option maxHeartbeats 4000000 in
set_option maxRecDepth 100000 in
theorem table_Find_1_cp.calls (a0 : api_Col) (a1 : ByteArray) {w0 : World} {RA : Hp} {b1 : Nat} {o1 : Nat} (hRA : RA.sub w0) (hc1 : ∀ j u, ([.string a1] : List Value)[j]? = some u → RA.cell b1 (o1 + j) = some u) {r : Bool} (H : table_Find_1_cp a0 a1 = some r) : CallsV Try.prog 45 #[.agg #[.string a0.Name, .int .i64 a0.Kind], .pointer (some ⟨b1, o1, none⟩)] w0 (.bool r) := by
  unfold table_Find_1_cp at H
  refine enter (args := [.agg #[.string a0.Name, .int .i64 a0.Kind], .pointer (some ⟨b1, o1, none⟩)]) Try.func45 rfl Try.ntmps45 rfl fun a hK => ?_
  have hS := St.init (R := fun _ => none) (w := w0) (fun _ _ h => by cases h)
  have hRL := RLe.refl (M := []) w0 (fun _ => none)
  refine wp_seq ?_
  refine wp_region_lit ?_
  refine sl_box hS hK (by decide) rfl rfl (c := [.string a0.Name, .int .i64 a0.Kind]) rfl fun a w b_1 hS hK => ?_
  refine sl hK (by decide) rfl rfl (r_assign hK rfl) fun a hK => ?_
  refine wpList_nil ?_
  refine wp_seq ?_
  refine wp_region_lit ?_
  refine sl hK (by decide) rfl rfl (r_fieldAddr Try.underlying57 rfl Try.sizeOf9 hK rfl) fun a hK => ?_
  refine sl hK (by decide) rfl rfl (r_load Try.isAgg9 hK rfl (hS.cell (.head _) rfl)) fun a hK => ?_
  refine sl hK (by decide) rfl rfl (r_load Try.isAgg9 hK rfl ((hS.ra hRA nil_not).cell (hc1 0 _ rfl))) fun a hK => ?_
  refine sl hK (by decide) rfl rfl (r_sbin hK rfl rfl rfl) fun a hK => ?_
  refine sl hK (by decide) rfl rfl (r_assign hK rfl) fun a hK => ?_
  refine wpList_nil ?_
  obtain rfl := Option.some.inj H
  refine wp_ret ?_
  repeat (first | refine ret_then ?_ | refine ret_block ?_ | refine ret_scope ?_)
  exact ret_1 Try.results45 hK (rv_tmp hK rfl) ⟨rfl, hS.bel⟩

/-! ### slices.IndexFunc[[]catchment/api.Col,catchment/api.Col]: function 44 -/
set_option maxHeartbeats 4000000 in
set_option maxRecDepth 100000 in
theorem slices_IndexFunc_api_Col_api_Col_f_table_Find_1p.calls (a0 : List api_Col) (a1_0 : ByteArray) {w0 : World} {RA : Hp} {v0_0 : Value} {b1q0 : Nat} {o1q0 : Nat} (hRA : RA.sub w0) (h0_0 : SlR ty_api_Col RA v0_0 a0) (hc1q0 : ∀ j u, ([.string a1_0] : List Value)[j]? = some u → RA.cell b1q0 (o1q0 + j) = some u) {r : Int} (H : slices_IndexFunc_api_Col_api_Col_f_table_Find_1p a0 a1_0 = some r) : CallsV Try.prog 44 #[v0_0, .func (.func 45) #[] #[.pointer (some ⟨b1q0, o1q0, none⟩)]] w0 (.int .i64 r) := by
  unfold slices_IndexFunc_api_Col_api_Col_f_table_Find_1p at H
  refine enter (args := [v0_0, .func (.func 45) #[] #[.pointer (some ⟨b1q0, o1q0, none⟩)]]) Try.func44 rfl Try.ntmps44 rfl fun a hK => ?_
  have hS := St.init (R := fun _ => none) (w := w0) (fun _ _ h => by cases h)
  have hRL := RLe.refl (M := []) w0 (fun _ => none)
  refine wp_seq ?_
  refine wp_region_lit ?_
  refine sl hK (by decide) rfl rfl (r_assign hK rfl) fun a hK => ?_
  refine wpList_nil ?_
  refine wp_seq ?_
  refine wp_seq ?_
  refine wp_region_lit ?_
  refine sl hK (by decide) rfl rfl (r_move hK rfl) fun a hK => ?_
  refine sl hK (by decide) rfl rfl (r_len_R Try.underlying25 h0_0 hK rfl) fun a hK => ?_
  refine sl hK (by decide) rfl rfl (r_move hK rfl) fun a hK => ?_
  refine wpList_nil ?_
  refine wp_block ?_
  refine wp_loop_k (fun k_l0 a w => ∃ (x_15 : Int), slices_IndexFunc_api_Col_api_Col_f_table_Find_1p.l0 a0 a1_0 k_l0 x_15 = some r ∧ Kn 19 a [(0, v0_0), (1, .func (.func 45) #[] #[.pointer (some ⟨b1q0, o1q0, none⟩)]), (7, .int .i64 (a0.length : Int)), (8, .int .i64 x_15)] ∧ St [] w0 w (fun _ => none) []) (((a0.length : Int) - 0).toNat + 1) ?_ ?_
  · exact ⟨0, H, hK.sub (all_cons rfl (all_cons rfl (all_cons rfl (all_cons rfl (all_nil))))), hS⟩
  · rintro k_l0 a w ⟨x_15, H, hK, hS⟩
    cases k_l0 with
    | zero => cases H
    | succ k_l0 =>
    rw [slices_IndexFunc_api_Col_api_Col_f_table_Find_1p.l0.eq_2] at H
    refine wp_seq ?_
    refine wp_region_lit ?_
    refine sl hK (by decide) rfl rfl (r_ibin hK rfl rfl rfl) fun a hK => ?_
    refine wpList_nil ?_
    refine wp_seq ?_
    refine wp_cond_split (hK.ev rfl) (fun (hb_30 : (decide (x_15 < (a0.length : Int))) = true) => ?_) (fun (hb_30 : (decide (x_15 < (a0.length : Int))) = false) => ?_)
    · rw [ifb_t hb_30] at H
      refine wp_skip ?_
      refine wp_seq ?_
      refine wp_block ?_
      refine wp_seq ?_
      refine wp_region_lit ?_
      refine sl hK (by decide) rfl rfl (r_move hK rfl) fun a hK => ?_
      refine sl hK (by decide) rfl rfl (r_assign hK rfl) fun a hK => ?_
      refine wpList_nil ?_
      refine wp_seq ?_
      refine wp_region_lit ?_
      refine sl hK (by decide) rfl rfl (r_move hK rfl) fun a hK => ?_
      refine sl hK (by decide) rfl rfl (r_move hK rfl) fun a hK => ?_
      refine sl hK (by decide) rfl rfl (r_move hK rfl) fun a hK => ?_
      obtain ⟨y_31, h_32, H⟩ := bind_some H
      obtain ⟨b_33, o_34, c_35, cs_36, hv_37, hr_38, hc_39, h_320, h_321⟩ := h0_0.ix h_32
      subst hr_38
      refine sl hK (by decide) rfl rfl (r_indexAddr_R Try.underlying25 Try.sizeOf57 hv_37 h_320 h_321 hK rfl rfl) fun a hK => ?_
      refine sl hK (by decide) rfl rfl (r_loadA (cs := [.string y_31.Name, .int .i64 y_31.Kind]) Try.isAgg57 Try.sizeOf57 rfl hK rfl (fun j v hv => (hS.ra hRA nil_not).cell (hc_39 j v hv))) fun a hK => ?_
      obtain ⟨y_40, h_41, H⟩ := bind_some H
      refine sl_callV Try.call45 hS hK (by decide) rfl rfl rfl (table_Find_1_cp.calls y_31 a1_0 (lentOf_sub [] _) (fun j u hu => Hp.cell_le (hS.raLe0 hRA nil_not) (hc1q0 j u hu)) h_41) fun a w hS hK => ?_
      refine wpList_nil ?_
      refine wp_cond_split (hK.ev rfl) (fun (hb_42 : y_40 = true) => ?_) (fun (hb_42 : y_40 = false) => ?_)
      · rw [ifb_t hb_42] at H
        refine wp_seq ?_
        refine wp_region_lit ?_
        refine sl hK (by decide) rfl rfl (r_move hK rfl) fun a hK => ?_
        refine sl hK (by decide) rfl rfl (r_assign hK rfl) fun a hK => ?_
        refine wpList_nil ?_
        obtain rfl := Option.some.inj H
        refine wp_ret ?_
        repeat (first | refine ret_then ?_ | refine ret_block ?_ | refine ret_scope ?_)
        exact ret_1 Try.results44 hK (rv_tmp hK rfl) ⟨rfl, hS.bel⟩
      · rw [ifb_f hb_42] at H
        refine wp_skip ?_
        refine wp_region_lit ?_
        refine sl hK (by decide) rfl rfl (r_ibin hK rfl rfl rfl) fun a hK => ?_
        refine sl hK (by decide) rfl rfl (r_move hK rfl) fun a hK => ?_
        refine wpList_nil ?_
        exact ⟨_, Nat.lt_succ_self _, (IntKind.i64.wrap (x_15 + 1)), H, hK.sub (all_cons rfl (all_cons rfl (all_cons rfl (all_cons rfl (all_nil))))), hS⟩
    · rw [ifb_f hb_30] at H
      refine wp_exit ?_
      refine wp_seq ?_
      refine wp_region_lit ?_
      refine sl hK (by decide) rfl rfl (r_assign hK rfl) fun a hK => ?_
      refine wpList_nil ?_
      obtain rfl := Option.some.inj H
      refine wp_ret ?_
      repeat (first | refine ret_then ?_ | refine ret_block ?_ | refine ret_scope ?_)
      exact ret_1 Try.results44 hK (rv_tmp hK rfl) ⟨rfl, hS.bel⟩

/-! ### catchment/table.Find: function 24 -/
set_option maxHeartbeats 4000000 in
set_option maxRecDepth 100000 in
theorem table_Find.calls (a0 : List api_Col) (a1 : ByteArray) {w0 : World} {RA : Hp} {v0_0 : Value} (hRA : RA.sub w0) (h0_0 : SlR ty_api_Col RA v0_0 a0) {r : Int} (H : table_Find a0 a1 = some r) : CallsV Try.prog 24 #[v0_0, .string a1] w0 (.int .i64 r) := by
  unfold table_Find at H
  refine enter (args := [v0_0, .string a1]) Try.func24 rfl Try.ntmps24 rfl fun a hK => ?_
  have hS := St.init (R := fun _ => none) (w := w0) (fun _ _ h => by cases h)
  have hRL := RLe.refl (M := []) w0 (fun _ => none)
  refine wp_seq ?_
  refine wp_region_lit ?_
  refine sl_box hS hK (by decide) rfl rfl (c := [.string a1]) rfl fun a w b_1 hS hK => ?_
  refine sl hK (by decide) rfl rfl (r_assign hK rfl) fun a hK => ?_
  refine wpList_nil ?_
  refine wp_seq ?_
  refine wp_region_lit ?_
  refine sl hK (by decide) rfl rfl (r_move hK rfl) fun a hK => ?_
  refine sl hK (by decide) rfl rfl (r_func (us := []) (vs := [.pointer (some ⟨b_1, 0, none⟩)]) rfl (hK.evs rfl)) fun a hK => ?_
  obtain ⟨y_2, h_3, H⟩ := bind_some H
  refine sl_callV Try.call44 hS hK (by decide) rfl rfl rfl (slices_IndexFunc_api_Col_api_Col_f_table_Find_1p.calls a0 a1 (lentOf_sub [] _) (h0_0.mono (hS.raLe0 hRA nil_not)) (hS.lend_box0 (.head _)) h_3) fun a w hS hK => ?_
  refine sl hK (by decide) rfl rfl (r_assign hK rfl) fun a hK => ?_
  refine wpList_nil ?_
  obtain rfl := Option.some.inj H
  refine wp_ret ?_
  repeat (first | refine ret_then ?_ | refine ret_block ?_ | refine ret_scope ?_)
  exact ret_1 Try.results24 hK (rv_tmp hK rfl) ⟨rfl, hS.bel⟩

/-! ### catchment/pred.Holds$1: function 23 -/
set_option maxHeartbeats 4000000 in
set_option maxRecDepth 100000 in
theorem pred_Holds_1_cp_cp.calls (a0 : api_Node) (a1 : List api_Col) (a2 : List api_Value) {w0 : World} {RA : Hp} {v0_0 : Value} {v0_1 : Value} {v0_2 : Value} {b1 : Nat} {o1 : Nat} {v1_0 : Value} {b2 : Nat} {o2 : Nat} {v2_0 : Value} (hRA : RA.sub w0) (h0_0 : SlR (tyInt .i64) RA v0_0 a0.L) (h0_1 : SlR tyStr RA v0_1 a0.Names) (h0_2 : SlR ty_api_Agg RA v0_2 a0.Aggs) (hc1 : ∀ j u, ([v1_0] : List Value)[j]? = some u → RA.cell b1 (o1 + j) = some u) (h1_0 : SlR ty_api_Col RA v1_0 a1) (hc2 : ∀ j u, ([v2_0] : List Value)[j]? = some u → RA.cell b2 (o2 + j) = some u) (h2_0 : SlR ty_api_Value RA v2_0 a2) {r : api_Value × Bool} (H : pred_Holds_1_cp_cp a0 a1 a2 = some r) : CallsV Try.prog 23 #[.agg #[.int .i64 a0.Kind, .string a0.S, .int .i64 a0.N, .int .i64 a0.From, .int .i64 a0.To, .int .i64 a0.V.Kind, .int .i64 a0.V.N, .string a0.V.S, .int .i64 a0.V.H.a0, .int .i64 a0.V.H.a1, .int .i64 a0.V.H.a2, .int .i64 a0.V.H.a3, .int .i64 a0.V.H.a4, .int .i64 a0.V.H.a5, .int .i64 a0.V.H.a6, .int .i64 a0.V.H.a7, v0_0, v0_1, v0_2], .pointer (some ⟨b1, o1, none⟩), .pointer (some ⟨b2, o2, none⟩)] w0 (.tuple #[.agg #[.int .i64 r.1.Kind, .int .i64 r.1.N, .string r.1.S, .int .i64 r.1.H.a0, .int .i64 r.1.H.a1, .int .i64 r.1.H.a2, .int .i64 r.1.H.a3, .int .i64 r.1.H.a4, .int .i64 r.1.H.a5, .int .i64 r.1.H.a6, .int .i64 r.1.H.a7], .bool r.2]) := by
  unfold pred_Holds_1_cp_cp at H
  refine enter (args := [.agg #[.int .i64 a0.Kind, .string a0.S, .int .i64 a0.N, .int .i64 a0.From, .int .i64 a0.To, .int .i64 a0.V.Kind, .int .i64 a0.V.N, .string a0.V.S, .int .i64 a0.V.H.a0, .int .i64 a0.V.H.a1, .int .i64 a0.V.H.a2, .int .i64 a0.V.H.a3, .int .i64 a0.V.H.a4, .int .i64 a0.V.H.a5, .int .i64 a0.V.H.a6, .int .i64 a0.V.H.a7, v0_0, v0_1, v0_2], .pointer (some ⟨b1, o1, none⟩), .pointer (some ⟨b2, o2, none⟩)]) Try.func23 rfl Try.ntmps23 rfl fun a hK => ?_
  have hS := St.init (R := fun _ => none) (w := w0) (fun _ _ h => by cases h)
  have hRL := RLe.refl (M := []) w0 (fun _ => none)
  refine wp_seq ?_
  refine wp_region_lit ?_
  refine sl_box hS hK (by decide) rfl rfl (c := [.int .i64 a0.Kind, .string a0.S, .int .i64 a0.N, .int .i64 a0.From, .int .i64 a0.To, .int .i64 a0.V.Kind, .int .i64 a0.V.N, .string a0.V.S, .int .i64 a0.V.H.a0, .int .i64 a0.V.H.a1, .int .i64 a0.V.H.a2, .int .i64 a0.V.H.a3, .int .i64 a0.V.H.a4, .int .i64 a0.V.H.a5, .int .i64 a0.V.H.a6, .int .i64 a0.V.H.a7, v0_0, v0_1, v0_2]) rfl fun a w b_1 hS hK => ?_
  refine sl_alloc Try.zeroValue39 hS hK (by decide) rfl rfl fun a w b_2 hS hK => ?_
  refine sl hK (by decide) rfl rfl (r_assign hK rfl) fun a hK => ?_
  refine wpList_nil ?_
  refine wp_seq ?_
  refine wp_region_lit ?_
  refine sl hK (by decide) rfl rfl (r_load Try.isAgg25 hK rfl ((hS.ra hRA nil_not).cell (hc1 0 _ rfl))) fun a hK => ?_
  refine sl hK (by decide) rfl rfl (r_fieldAddr Try.underlying51 rfl Try.sizeOf9 hK rfl) fun a hK => ?_
  refine sl hK (by decide) rfl rfl (r_load Try.isAgg9 hK rfl (hS.cell (.tail _ (.head _)) rfl)) fun a hK => ?_
  obtain ⟨y_3, h_4, H⟩ := bind_some H
  refine sl_callV Try.call24 hS hK (by decide) rfl rfl rfl (table_Find.calls a1 a0.S (lentOf_sub [] _) (h1_0.mono (hS.raLe0 hRA nil_not)) h_4) fun a w hS hK => ?_
  refine sl hK (by decide) rfl rfl (r_assign hK rfl) fun a hK => ?_
  refine wpList_nil ?_
  refine wp_seq ?_
  refine wp_seq ?_
  refine wp_mid (fun a w => ∃ (x_6 : Bool), pred_Holds_1_cp_cp.j0 a2 y_3 x_6 = some r ∧ Kn 24 a [(2, .pointer (some ⟨b2, o2, none⟩)), (4, .pointer (some ⟨b_2, 0, none⟩)), (6, .int .i64 y_3), (18, .bool x_6)] ∧ St [] w0 w (fun _ => none) [.cells b_2 [.int .i64 0, .int .i64 0, .string (⟨#[]⟩ : ByteArray), .int .i64 0, .int .i64 0, .int .i64 0, .int .i64 0, .int .i64 0, .int .i64 0, .int .i64 0, .int .i64 0] 39]) ?_ ?_
  · refine wp_region_lit ?_
    refine sl hK (by decide) rfl rfl (r_move hK rfl) fun a hK => ?_
    refine sl hK (by decide) rfl rfl (r_ibin hK rfl rfl rfl) fun a hK => ?_
    refine sl hK (by decide) rfl rfl (r_move hK rfl) fun a hK => ?_
    rcases or_b (decide (y_3 < 0)) with hb_8 | hb_8
    · rw [ifb_t hb_8] at H
      refine sl_skip hK (by decide) (wft hb_8) rfl fun a hK => ?_
      refine sl_skip hK (by decide) (wft hb_8) rfl fun a hK => ?_
      refine sl_skip hK (by decide) (wft hb_8) rfl fun a hK => ?_
      refine sl_skip hK (by decide) (wft hb_8) rfl fun a hK => ?_
      refine sl hK (by decide) rfl rfl (r_pick_t hb_8 hK rfl rfl) fun a hK => ?_
      refine wpList_nil ?_
      exact ⟨true, H, hK.sub (all_cons rfl (all_cons rfl (all_cons rfl (all_cons rfl (all_nil))))), hS.trunc 1⟩
    · rw [ifb_f hb_8] at H
      refine sl hK (by decide) (wff hb_8) rfl (r_move hK rfl) fun a hK => ?_
      refine sl hK (by decide) (wff hb_8) rfl (r_load Try.isAgg33 hK rfl ((hS.ra hRA nil_not).cell (hc2 0 _ rfl))) fun a hK => ?_
      refine sl hK (by decide) (wff hb_8) rfl (r_len_R Try.underlying33 h2_0 hK rfl) fun a hK => ?_
      refine sl hK (by decide) (wff hb_8) rfl (r_ibin hK rfl rfl rfl) fun a hK => ?_
      refine sl hK (by decide) rfl rfl (r_pick_f hb_8 hK rfl rfl) fun a hK => ?_
      refine wpList_nil ?_
      exact ⟨(decide (y_3 ≥ (a2.length : Int))), H, hK.sub (all_cons rfl (all_cons rfl (all_cons rfl (all_cons rfl (all_nil))))), hS.trunc 1⟩
  · rintro a w ⟨x_6, H, hK, hS⟩
    unfold pred_Holds_1_cp_cp.j0 at H
    refine wp_cond_split (hK.ev rfl) (fun (hb_9 : x_6 = true) => ?_) (fun (hb_9 : x_6 = false) => ?_)
    · rw [ifb_t hb_9] at H
      refine wp_seq ?_
      refine wp_region_lit ?_
      refine sl hK (by decide) rfl rfl (r_buildC (ps := []) (c := [.int .i64 0, .int .i64 0, .string (⟨#[]⟩ : ByteArray), .int .i64 0, .int .i64 0, .int .i64 0, .int .i64 0, .int .i64 0, .int .i64 0, .int .i64 0, .int .i64 0]) Try.underlying39 Try.zeroValue39 places39 hK rfl pc_nil rfl rfl) fun a hK => ?_
      refine sl_storeA (vs := [.int .i64 0, .int .i64 0, .string (⟨#[]⟩ : ByteArray), .int .i64 0, .int .i64 0, .int .i64 0, .int .i64 0, .int .i64 0, .int .i64 0, .int .i64 0, .int .i64 0]) (c' := [.int .i64 0, .int .i64 0, .string (⟨#[]⟩ : ByteArray), .int .i64 0, .int .i64 0, .int .i64 0, .int .i64 0, .int .i64 0, .int .i64 0, .int .i64 0, .int .i64 0]) Try.sizeOf39 hS hK rfl rfl rfl rfl (all_cons rfl (all_cons rfl (all_cons rfl (all_cons rfl (all_cons rfl (all_cons rfl (all_cons rfl (all_cons rfl (all_cons rfl (all_cons rfl (all_cons rfl (all_nil)))))))))))) (Nat.le_of_ble_eq_true rfl) rfl fun a w hS hK => ?_
      refine sl hK (by decide) rfl rfl (r_assign hK rfl) fun a hK => ?_
      refine wpList_nil ?_
      obtain rfl := Option.some.inj H
      refine wp_ret ?_
      repeat (first | refine ret_then ?_ | refine ret_block ?_ | refine ret_scope ?_)
      exact ret_2 Try.results23 hK (rv_cell (c := [.int .i64 0, .int .i64 0, .string (⟨#[]⟩ : ByteArray), .int .i64 0, .int .i64 0, .int .i64 0, .int .i64 0, .int .i64 0, .int .i64 0, .int .i64 0, .int .i64 0]) Try.isAgg39 Try.sizeOf39 hS (.head _) rfl hK rfl) (rv_tmp hK rfl) ⟨rfl, hS.bel⟩
    · rw [ifb_f hb_9] at H
      refine wp_skip ?_
      refine wp_seq ?_
      refine wp_region_lit ?_
      refine sl hK (by decide) rfl rfl (r_load Try.isAgg33 hK rfl ((hS.ra hRA nil_not).cell (hc2 0 _ rfl))) fun a hK => ?_
      refine sl hK (by decide) rfl rfl (r_move hK rfl) fun a hK => ?_
      obtain ⟨y_10, h_11, H⟩ := bind_some H
      obtain ⟨b_12, o_13, c_14, cs_15, hv_16, hr_17, hc_18, h_110, h_111⟩ := h2_0.ix h_11
      subst hr_17
      refine sl hK (by decide) rfl rfl (r_indexAddr_R Try.underlying33 Try.sizeOf39 hv_16 h_110 h_111 hK rfl rfl) fun a hK => ?_
      refine sl hK (by decide) rfl rfl (r_loadA (cs := [.int .i64 y_10.Kind, .int .i64 y_10.N, .string y_10.S, .int .i64 y_10.H.a0, .int .i64 y_10.H.a1, .int .i64 y_10.H.a2, .int .i64 y_10.H.a3, .int .i64 y_10.H.a4, .int .i64 y_10.H.a5, .int .i64 y_10.H.a6, .int .i64 y_10.H.a7]) Try.isAgg39 Try.sizeOf39 rfl hK rfl (fun j v hv => (hS.ra hRA nil_not).cell (hc_18 j v hv))) fun a hK => ?_
      refine sl_storeA (vs := [.int .i64 y_10.Kind, .int .i64 y_10.N, .string y_10.S, .int .i64 y_10.H.a0, .int .i64 y_10.H.a1, .int .i64 y_10.H.a2, .int .i64 y_10.H.a3, .int .i64 y_10.H.a4, .int .i64 y_10.H.a5, .int .i64 y_10.H.a6, .int .i64 y_10.H.a7]) (c' := [.int .i64 y_10.Kind, .int .i64 y_10.N, .string y_10.S, .int .i64 y_10.H.a0, .int .i64 y_10.H.a1, .int .i64 y_10.H.a2, .int .i64 y_10.H.a3, .int .i64 y_10.H.a4, .int .i64 y_10.H.a5, .int .i64 y_10.H.a6, .int .i64 y_10.H.a7]) Try.sizeOf39 hS hK rfl rfl rfl rfl (all_cons rfl (all_cons rfl (all_cons rfl (all_cons rfl (all_cons rfl (all_cons rfl (all_cons rfl (all_cons rfl (all_cons rfl (all_cons rfl (all_cons rfl (all_nil)))))))))))) (Nat.le_of_ble_eq_true rfl) rfl fun a w hS hK => ?_
      refine sl hK (by decide) rfl rfl (r_assign hK rfl) fun a hK => ?_
      refine wpList_nil ?_
      obtain rfl := Option.some.inj H
      refine wp_ret ?_
      repeat (first | refine ret_then ?_ | refine ret_block ?_ | refine ret_scope ?_)
      exact ret_2 Try.results23 hK (rv_cell (c := [.int .i64 y_10.Kind, .int .i64 y_10.N, .string y_10.S, .int .i64 y_10.H.a0, .int .i64 y_10.H.a1, .int .i64 y_10.H.a2, .int .i64 y_10.H.a3, .int .i64 y_10.H.a4, .int .i64 y_10.H.a5, .int .i64 y_10.H.a6, .int .i64 y_10.H.a7]) Try.isAgg39 Try.sizeOf39 hS (.head _) rfl hK rfl) (rv_tmp hK rfl) ⟨rfl, hS.bel⟩

/-! ### cmp.isNaN[int]: function 69 -/
set_option maxHeartbeats 4000000 in
set_option maxRecDepth 100000 in
theorem cmp_isNaN_int.calls (a0 : Int) {r : Bool} (H : cmp_isNaN_int a0 = some r) (w0 : World) : CallsV Try.prog 69 #[.int .i64 a0] w0 (.bool r) := by
  unfold cmp_isNaN_int at H
  refine enter (args := [.int .i64 a0]) Try.func69 rfl Try.ntmps69 rfl fun a hK => ?_
  have hS := St.init (R := fun _ => none) (w := w0) (fun _ _ h => by cases h)
  have hRL := RLe.refl (M := []) w0 (fun _ => none)
  refine wp_seq ?_
  refine wp_region_lit ?_
  refine sl hK (by decide) rfl rfl (r_assign hK rfl) fun a hK => ?_
  refine wpList_nil ?_
  refine wp_seq ?_
  refine wp_region_lit ?_
  refine sl hK (by decide) rfl rfl (r_move hK rfl) fun a hK => ?_
  refine sl hK (by decide) rfl rfl (r_move hK rfl) fun a hK => ?_
  refine sl hK (by decide) rfl rfl (r_ibin hK rfl rfl rfl) fun a hK => ?_
  refine sl hK (by decide) rfl rfl (r_assign hK rfl) fun a hK => ?_
  refine wpList_nil ?_
  obtain rfl := Option.some.inj H
  refine wp_ret ?_
  repeat (first | refine ret_then ?_ | refine ret_block ?_ | refine ret_scope ?_)
  exact ret_1 Try.results69 hK (rv_tmp hK rfl) ⟨rfl, hS.bel⟩

/-! ### cmp.Compare[int]: function 62 -/
set_option maxHeartbeats 4000000 in
set_option maxRecDepth 100000 in
theorem cmp_Compare_int.calls (a0 : Int) (a1 : Int) {r : Int} (H : cmp_Compare_int a0 a1 = some r) (w0 : World) : CallsV Try.prog 62 #[.int .i64 a0, .int .i64 a1] w0 (.int .i64 r) := by
  unfold cmp_Compare_int at H
  refine enter (args := [.int .i64 a0, .int .i64 a1]) Try.func62 rfl Try.ntmps62 rfl fun a hK => ?_
  have hS := St.init (R := fun _ => none) (w := w0) (fun _ _ h => by cases h)
  have hRL := RLe.refl (M := []) w0 (fun _ => none)
  refine wp_seq ?_
  refine wp_region_lit ?_
  refine sl hK (by decide) rfl rfl (r_assign hK rfl) fun a hK => ?_
  refine wpList_nil ?_
  refine wp_seq ?_
  refine wp_region_lit ?_
  refine sl hK (by decide) rfl rfl (r_move hK rfl) fun a hK => ?_
  obtain ⟨y_1, h_2, H⟩ := bind_some H
  refine sl_callV Try.call69 hS hK (by decide) rfl rfl rfl (cmp_isNaN_int.calls a0 h_2 _) fun a w hS hK => ?_
  refine sl hK (by decide) rfl rfl (r_assign hK rfl) fun a hK => ?_
  refine wpList_nil ?_
  refine wp_seq ?_
  refine wp_region_lit ?_
  refine sl hK (by decide) rfl rfl (r_move hK rfl) fun a hK => ?_
  obtain ⟨y_3, h_4, H⟩ := bind_some H
  refine sl_callV Try.call69 hS hK (by decide) rfl rfl rfl (cmp_isNaN_int.calls a1 h_4 _) fun a w hS hK => ?_
  refine sl hK (by decide) rfl rfl (r_assign hK rfl) fun a hK => ?_
  refine wpList_nil ?_
  refine wp_seq ?_
  refine wp_seq ?_
  refine wp_region_lit ?_
  refine sl hK (by decide) rfl rfl (r_move hK rfl) fun a hK => ?_
  refine wpList_nil ?_
  refine wp_cond_split (hK.ev rfl) (fun (hb_5 : y_1 = true) => ?_) (fun (hb_5 : y_1 = false) => ?_)
  · rw [ifb_t hb_5] at H
    refine wp_seq ?_
    refine wp_seq ?_
    refine wp_region_lit ?_
    refine sl hK (by decide) rfl rfl (r_move hK rfl) fun a hK => ?_
    refine wpList_nil ?_
    refine wp_cond_split (hK.ev rfl) (fun (hb_6 : y_3 = true) => ?_) (fun (hb_6 : y_3 = false) => ?_)
    · rw [ifb_t hb_6] at H
      refine wp_seq ?_
      refine wp_region_lit ?_
      refine sl hK (by decide) rfl rfl (r_assign hK rfl) fun a hK => ?_
      refine wpList_nil ?_
      obtain rfl := Option.some.inj H
      refine wp_ret ?_
      repeat (first | refine ret_then ?_ | refine ret_block ?_ | refine ret_scope ?_)
      exact ret_1 Try.results62 hK (rv_tmp hK rfl) ⟨rfl, hS.bel⟩
    · rw [ifb_f hb_6] at H
      refine wp_skip ?_
      refine wp_seq ?_
      refine wp_region_lit ?_
      refine sl hK (by decide) rfl rfl (r_assign hK rfl) fun a hK => ?_
      refine wpList_nil ?_
      obtain rfl := Option.some.inj H
      refine wp_ret ?_
      repeat (first | refine ret_then ?_ | refine ret_block ?_ | refine ret_scope ?_)
      exact ret_1 Try.results62 hK (rv_tmp hK rfl) ⟨rfl, hS.bel⟩
  · rw [ifb_f hb_5] at H
    refine wp_skip ?_
    refine wp_seq ?_
    refine wp_seq ?_
    refine wp_region_lit ?_
    refine sl hK (by decide) rfl rfl (r_move hK rfl) fun a hK => ?_
    refine wpList_nil ?_
    refine wp_cond_split (hK.ev rfl) (fun (hb_7 : y_3 = true) => ?_) (fun (hb_7 : y_3 = false) => ?_)
    · rw [ifb_t hb_7] at H
      refine wp_seq ?_
      refine wp_region_lit ?_
      refine sl hK (by decide) rfl rfl (r_assign hK rfl) fun a hK => ?_
      refine wpList_nil ?_
      obtain rfl := Option.some.inj H
      refine wp_ret ?_
      repeat (first | refine ret_then ?_ | refine ret_block ?_ | refine ret_scope ?_)
      exact ret_1 Try.results62 hK (rv_tmp hK rfl) ⟨rfl, hS.bel⟩
    · rw [ifb_f hb_7] at H
      refine wp_skip ?_
      refine wp_seq ?_
      refine wp_seq ?_
      refine wp_region_lit ?_
      refine sl hK (by decide) rfl rfl (r_move hK rfl) fun a hK => ?_
      refine sl hK (by decide) rfl rfl (r_move hK rfl) fun a hK => ?_
      refine sl hK (by decide) rfl rfl (r_ibin hK rfl rfl rfl) fun a hK => ?_
      refine wpList_nil ?_
      refine wp_cond_split (hK.ev rfl) (fun (hb_8 : (decide (a0 < a1)) = true) => ?_) (fun (hb_8 : (decide (a0 < a1)) = false) => ?_)
      · rw [ifb_t hb_8] at H
        refine wp_seq ?_
        refine wp_region_lit ?_
        refine sl hK (by decide) rfl rfl (r_assign hK rfl) fun a hK => ?_
        refine wpList_nil ?_
        obtain rfl := Option.some.inj H
        refine wp_ret ?_
        repeat (first | refine ret_then ?_ | refine ret_block ?_ | refine ret_scope ?_)
        exact ret_1 Try.results62 hK (rv_tmp hK rfl) ⟨rfl, hS.bel⟩
      · rw [ifb_f hb_8] at H
        refine wp_skip ?_
        refine wp_seq ?_
        refine wp_seq ?_
        refine wp_region_lit ?_
        refine sl hK (by decide) rfl rfl (r_move hK rfl) fun a hK => ?_
        refine sl hK (by decide) rfl rfl (r_move hK rfl) fun a hK => ?_
        refine sl hK (by decide) rfl rfl (r_ibin hK rfl rfl rfl) fun a hK => ?_
        refine wpList_nil ?_
        refine wp_cond_split (hK.ev rfl) (fun (hb_9 : (decide (a0 > a1)) = true) => ?_) (fun (hb_9 : (decide (a0 > a1)) = false) => ?_)
        · rw [ifb_t hb_9] at H
          refine wp_seq ?_
          refine wp_region_lit ?_
          refine sl hK (by decide) rfl rfl (r_assign hK rfl) fun a hK => ?_
          refine wpList_nil ?_
          obtain rfl := Option.some.inj H
          refine wp_ret ?_
          repeat (first | refine ret_then ?_ | refine ret_block ?_ | refine ret_scope ?_)
          exact ret_1 Try.results62 hK (rv_tmp hK rfl) ⟨rfl, hS.bel⟩
        · rw [ifb_f hb_9] at H
          refine wp_skip ?_
          refine wp_seq ?_
          refine wp_region_lit ?_
          refine sl hK (by decide) rfl rfl (r_assign hK rfl) fun a hK => ?_
          refine wpList_nil ?_
          obtain rfl := Option.some.inj H
          refine wp_ret ?_
          repeat (first | refine ret_then ?_ | refine ret_block ?_ | refine ret_scope ?_)
          exact ret_1 Try.results62 hK (rv_tmp hK rfl) ⟨rfl, hS.bel⟩

/-! ### internal/bytealg.CompareString: function 70 -/
set_option maxHeartbeats 4000000 in
set_option maxRecDepth 100000 in
theorem internal_bytealg_CompareString.calls (a0 : ByteArray) (a1 : ByteArray) {r : Int} (H : internal_bytealg_CompareString a0 a1 = some r) (w0 : World) : CallsV Try.prog 70 #[.string a0, .string a1] w0 (.int .i64 r) := by
  unfold internal_bytealg_CompareString at H
  refine enter (args := [.string a0, .string a1]) Try.func70 rfl Try.ntmps70 rfl fun a hK => ?_
  have hS := St.init (R := fun _ => none) (w := w0) (fun _ _ h => by cases h)
  have hRL := RLe.refl (M := []) w0 (fun _ => none)
  refine wp_seq ?_
  refine wp_region_lit ?_
  refine sl hK (by decide) rfl rfl (r_assign hK rfl) fun a hK => ?_
  refine wpList_nil ?_
  refine wp_seq ?_
  refine wp_region_lit ?_
  refine sl hK (by decide) rfl rfl (r_move hK rfl) fun a hK => ?_
  refine sl hK (by decide) rfl rfl (r_move hK rfl) fun a hK => ?_
  refine sl hK (by decide) rfl rfl (r_ext (ext79 a0 a1 _) hK rfl rfl) fun a hK => ?_
  refine sl hK (by decide) rfl rfl (r_assign hK rfl) fun a hK => ?_
  refine wpList_nil ?_
  obtain rfl := Option.some.inj H
  refine wp_ret ?_
  repeat (first | refine ret_then ?_ | refine ret_block ?_ | refine ret_scope ?_)
  exact ret_1 Try.results70 hK (rv_tmp hK rfl) ⟨rfl, hS.bel⟩

/-! ### strings.Compare: function 63 -/
set_option maxHeartbeats 4000000 in
set_option maxRecDepth 100000 in
theorem strings_Compare.calls (a0 : ByteArray) (a1 : ByteArray) {r : Int} (H : strings_Compare a0 a1 = some r) (w0 : World) : CallsV Try.prog 63 #[.string a0, .string a1] w0 (.int .i64 r) := by
  unfold strings_Compare at H
  refine enter (args := [.string a0, .string a1]) Try.func63 rfl Try.ntmps63 rfl fun a hK => ?_
  have hS := St.init (R := fun _ => none) (w := w0) (fun _ _ h => by cases h)
  have hRL := RLe.refl (M := []) w0 (fun _ => none)
  refine wp_seq ?_
  refine wp_region_lit ?_
  refine sl hK (by decide) rfl rfl (r_assign hK rfl) fun a hK => ?_
  refine wpList_nil ?_
  refine wp_seq ?_
  refine wp_region_lit ?_
  refine sl hK (by decide) rfl rfl (r_move hK rfl) fun a hK => ?_
  refine sl hK (by decide) rfl rfl (r_move hK rfl) fun a hK => ?_
  obtain ⟨y_1, h_2, H⟩ := bind_some H
  refine sl_callV Try.call70 hS hK (by decide) rfl rfl rfl (internal_bytealg_CompareString.calls a0 a1 h_2 _) fun a w hS hK => ?_
  refine sl hK (by decide) rfl rfl (r_assign hK rfl) fun a hK => ?_
  refine wpList_nil ?_
  obtain rfl := Option.some.inj H
  refine wp_ret ?_
  repeat (first | refine ret_then ?_ | refine ret_block ?_ | refine ret_scope ?_)
  exact ret_1 Try.results63 hK (rv_tmp hK rfl) ⟨rfl, hS.bel⟩

/-! ### slices.Compare[[]int,int]: function 64 -/
set_option maxHeartbeats 4000000 in
set_option maxRecDepth 100000 in
theorem slices_Compare_int_int.calls (a0 : List Int) (a1 : List Int) {w0 : World} {RA : Hp} {v0_0 : Value} {v1_0 : Value} (hRA : RA.sub w0) (h0_0 : SlR (tyInt .i64) RA v0_0 a0) (h1_0 : SlR (tyInt .i64) RA v1_0 a1) {r : Int} (H : slices_Compare_int_int a0 a1 = some r) : CallsV Try.prog 64 #[v0_0, v1_0] w0 (.int .i64 r) := by
  unfold slices_Compare_int_int at H
  refine enter (args := [v0_0, v1_0]) Try.func64 rfl Try.ntmps64 rfl fun a hK => ?_
  have hS := St.init (R := fun _ => none) (w := w0) (fun _ _ h => by cases h)
  have hRL := RLe.refl (M := []) w0 (fun _ => none)
  refine wp_seq ?_
  refine wp_region_lit ?_
  refine sl hK (by decide) rfl rfl (r_assign hK rfl) fun a hK => ?_
  refine wpList_nil ?_
  refine wp_seq ?_
  refine wp_seq ?_
  refine wp_region_lit ?_
  refine sl hK (by decide) rfl rfl (r_move hK rfl) fun a hK => ?_
  refine sl hK (by decide) rfl rfl (r_len_R Try.underlying47 h0_0 hK rfl) fun a hK => ?_
  refine sl hK (by decide) rfl rfl (r_move hK rfl) fun a hK => ?_
  refine wpList_nil ?_
  refine wp_block ?_
  refine wp_loop_k (fun k_l0 a w => ∃ (x_25 : Int), slices_Compare_int_int.l0 a0 a1 k_l0 x_25 = some r ∧ Kn 36 a [(0, v0_0), (1, v1_0), (9, v0_0), (10, .int .i64 (a0.length : Int)), (11, .int .i64 x_25)] ∧ St [] w0 w (fun _ => none) []) (((a0.length : Int) - 0).toNat + 1) ?_ ?_
  · exact ⟨0, H, hK.sub (all_cons rfl (all_cons rfl (all_cons rfl (all_cons rfl (all_cons rfl (all_nil)))))), hS⟩
  · rintro k_l0 a w ⟨x_25, H, hK, hS⟩
    cases k_l0 with
    | zero => cases H
    | succ k_l0 =>
    rw [slices_Compare_int_int.l0.eq_2] at H
    refine wp_seq ?_
    refine wp_region_lit ?_
    refine sl hK (by decide) rfl rfl (r_ibin hK rfl rfl rfl) fun a hK => ?_
    refine wpList_nil ?_
    refine wp_seq ?_
    refine wp_cond_split (hK.ev rfl) (fun (hb_50 : (decide (x_25 < (a0.length : Int))) = true) => ?_) (fun (hb_50 : (decide (x_25 < (a0.length : Int))) = false) => ?_)
    · rw [ifb_t hb_50] at H
      refine wp_skip ?_
      refine wp_seq ?_
      refine wp_block ?_
      refine wp_seq ?_
      refine wp_region_lit ?_
      refine sl hK (by decide) rfl rfl (r_move hK rfl) fun a hK => ?_
      obtain ⟨y_51, h_52, H⟩ := bind_some H
      obtain ⟨b_53, o_54, c_55, cs_56, hv_57, hr_58, hc_59, h_520, h_521⟩ := h0_0.ix h_52
      subst hr_58
      refine sl hK (by decide) rfl rfl (r_indexAddr_R Try.underlying47 Try.sizeOf3 hv_57 h_520 h_521 hK rfl rfl) fun a hK => ?_
      refine sl hK (by decide) rfl rfl (r_load Try.isAgg3 hK rfl ((hS.ra hRA nil_not).cell (hc_59 0 _ rfl))) fun a hK => ?_
      refine sl hK (by decide) rfl rfl (r_assign hK rfl) fun a hK => ?_
      refine sl hK (by decide) rfl rfl (r_assign hK rfl) fun a hK => ?_
      refine wpList_nil ?_
      refine wp_seq ?_
      refine wp_seq ?_
      refine wp_region_lit ?_
      refine sl hK (by decide) rfl rfl (r_move hK rfl) fun a hK => ?_
      refine sl hK (by decide) rfl rfl (r_move hK rfl) fun a hK => ?_
      refine sl hK (by decide) rfl rfl (r_len_R Try.underlying47 h1_0 hK rfl) fun a hK => ?_
      refine sl hK (by decide) rfl rfl (r_ibin hK rfl rfl rfl) fun a hK => ?_
      refine wpList_nil ?_
      refine wp_cond_split (hK.ev rfl) (fun (hb_60 : (decide (x_25 ≥ (a1.length : Int))) = true) => ?_) (fun (hb_60 : (decide (x_25 ≥ (a1.length : Int))) = false) => ?_)
      · rw [ifb_t hb_60] at H
        refine wp_seq ?_
        refine wp_region_lit ?_
        refine sl hK (by decide) rfl rfl (r_assign hK rfl) fun a hK => ?_
        refine wpList_nil ?_
        obtain rfl := Option.some.inj H
        refine wp_ret ?_
        repeat (first | refine ret_then ?_ | refine ret_block ?_ | refine ret_scope ?_)
        exact ret_1 Try.results64 hK (rv_tmp hK rfl) ⟨rfl, hS.bel⟩
      · rw [ifb_f hb_60] at H
        refine wp_skip ?_
        refine wp_seq ?_
        refine wp_region_lit ?_
        refine sl hK (by decide) rfl rfl (r_move hK rfl) fun a hK => ?_
        refine sl hK (by decide) rfl rfl (r_move hK rfl) fun a hK => ?_
        obtain ⟨y_61, h_62, H⟩ := bind_some H
        obtain ⟨b_63, o_64, c_65, cs_66, hv_67, hr_68, hc_69, h_620, h_621⟩ := h1_0.ix h_62
        subst hr_68
        refine sl hK (by decide) rfl rfl (r_indexAddr_R Try.underlying47 Try.sizeOf3 hv_67 h_620 h_621 hK rfl rfl) fun a hK => ?_
        refine sl hK (by decide) rfl rfl (r_load Try.isAgg3 hK rfl ((hS.ra hRA nil_not).cell (hc_69 0 _ rfl))) fun a hK => ?_
        refine sl hK (by decide) rfl rfl (r_assign hK rfl) fun a hK => ?_
        refine wpList_nil ?_
        refine wp_seq ?_
        refine wp_region_lit ?_
        refine sl hK (by decide) rfl rfl (r_move hK rfl) fun a hK => ?_
        refine sl hK (by decide) rfl rfl (r_move hK rfl) fun a hK => ?_
        obtain ⟨y_70, h_71, H⟩ := bind_some H
        refine sl_callV Try.call62 hS hK (by decide) rfl rfl rfl (cmp_Compare_int.calls y_51 y_61 h_71 _) fun a w hS hK => ?_
        refine sl hK (by decide) rfl rfl (r_assign hK rfl) fun a hK => ?_
        refine wpList_nil ?_
        refine wp_seq ?_
        refine wp_region_lit ?_
        refine sl hK (by decide) rfl rfl (r_move hK rfl) fun a hK => ?_
        refine sl hK (by decide) rfl rfl (r_ibin hK rfl rfl rfl) fun a hK => ?_
        refine wpList_nil ?_
        refine wp_cond_split (hK.ev rfl) (fun (hb_72 : (y_70 != 0) = true) => ?_) (fun (hb_72 : (y_70 != 0) = false) => ?_)
        · rw [ifb_t hb_72] at H
          refine wp_seq ?_
          refine wp_region_lit ?_
          refine sl hK (by decide) rfl rfl (r_move hK rfl) fun a hK => ?_
          refine sl hK (by decide) rfl rfl (r_assign hK rfl) fun a hK => ?_
          refine wpList_nil ?_
          obtain rfl := Option.some.inj H
          refine wp_ret ?_
          repeat (first | refine ret_then ?_ | refine ret_block ?_ | refine ret_scope ?_)
          exact ret_1 Try.results64 hK (rv_tmp hK rfl) ⟨rfl, hS.bel⟩
        · rw [ifb_f hb_72] at H
          refine wp_skip ?_
          refine wp_region_lit ?_
          refine sl hK (by decide) rfl rfl (r_ibin hK rfl rfl rfl) fun a hK => ?_
          refine sl hK (by decide) rfl rfl (r_move hK rfl) fun a hK => ?_
          refine wpList_nil ?_
          exact ⟨_, Nat.lt_succ_self _, (IntKind.i64.wrap (x_25 + 1)), H, hK.sub (all_cons rfl (all_cons rfl (all_cons rfl (all_cons rfl (all_cons rfl (all_nil)))))), hS⟩
    · rw [ifb_f hb_50] at H
      refine wp_exit ?_
      refine wp_seq ?_
      refine wp_seq ?_
      refine wp_region_lit ?_
      refine sl hK (by decide) rfl rfl (r_move hK rfl) fun a hK => ?_
      refine sl hK (by decide) rfl rfl (r_len_R Try.underlying47 h0_0 hK rfl) fun a hK => ?_
      refine sl hK (by decide) rfl rfl (r_move hK rfl) fun a hK => ?_
      refine sl hK (by decide) rfl rfl (r_len_R Try.underlying47 h1_0 hK rfl) fun a hK => ?_
      refine sl hK (by decide) rfl rfl (r_ibin hK rfl rfl rfl) fun a hK => ?_
      refine wpList_nil ?_
      refine wp_cond_split (hK.ev rfl) (fun (hb_73 : (decide ((a0.length : Int) < (a1.length : Int))) = true) => ?_) (fun (hb_73 : (decide ((a0.length : Int) < (a1.length : Int))) = false) => ?_)
      · rw [ifb_t hb_73] at H
        refine wp_seq ?_
        refine wp_region_lit ?_
        refine sl hK (by decide) rfl rfl (r_assign hK rfl) fun a hK => ?_
        refine wpList_nil ?_
        obtain rfl := Option.some.inj H
        refine wp_ret ?_
        repeat (first | refine ret_then ?_ | refine ret_block ?_ | refine ret_scope ?_)
        exact ret_1 Try.results64 hK (rv_tmp hK rfl) ⟨rfl, hS.bel⟩
      · rw [ifb_f hb_73] at H
        refine wp_skip ?_
        refine wp_seq ?_
        refine wp_region_lit ?_
        refine sl hK (by decide) rfl rfl (r_assign hK rfl) fun a hK => ?_
        refine wpList_nil ?_
        obtain rfl := Option.some.inj H
        refine wp_ret ?_
        repeat (first | refine ret_then ?_ | refine ret_block ?_ | refine ret_scope ?_)
        exact ret_1 Try.results64 hK (rv_tmp hK rfl) ⟨rfl, hS.bel⟩

/-! ### cmp.Or[int]: function 61 -/
set_option maxHeartbeats 4000000 in
set_option maxRecDepth 100000 in
theorem cmp_Or_int.calls (a0 : List Int) {w0 : World} {RA : Hp} {v0_0 : Value} (hRA : RA.sub w0) (h0_0 : SlR (tyInt .i64) RA v0_0 a0) {r : Int} (H : cmp_Or_int a0 = some r) : CallsV Try.prog 61 #[v0_0] w0 (.int .i64 r) := by
  unfold cmp_Or_int at H
  refine enter (args := [v0_0]) Try.func61 rfl Try.ntmps61 rfl fun a hK => ?_
  have hS := St.init (R := fun _ => none) (w := w0) (fun _ _ h => by cases h)
  have hRL := RLe.refl (M := []) w0 (fun _ => none)
  refine wp_seq ?_
  refine wp_region_lit ?_
  refine sl hK (by decide) rfl rfl (r_assign hK rfl) fun a hK => ?_
  refine wpList_nil ?_
  refine wp_seq ?_
  refine wp_region_lit ?_
  refine sl hK (by decide) rfl rfl (r_assign hK rfl) fun a hK => ?_
  refine wpList_nil ?_
  refine wp_seq ?_
  refine wp_seq ?_
  refine wp_region_lit ?_
  refine sl hK (by decide) rfl rfl (r_move hK rfl) fun a hK => ?_
  refine sl hK (by decide) rfl rfl (r_len_R Try.underlying47 h0_0 hK rfl) fun a hK => ?_
  refine sl hK (by decide) rfl rfl (r_move hK rfl) fun a hK => ?_
  refine wpList_nil ?_
  refine wp_block ?_
  refine wp_loop_k (fun k_l0 a w => ∃ (x_13 : Int), cmp_Or_int.l0 a0 k_l0 x_13 = some r ∧ Kn 18 a [(3, .int .i64 0), (6, v0_0), (7, .int .i64 (a0.length : Int)), (8, .int .i64 x_13)] ∧ St [] w0 w (fun _ => none) []) (((a0.length : Int) - 0).toNat + 1) ?_ ?_
  · exact ⟨0, H, hK.sub (all_cons rfl (all_cons rfl (all_cons rfl (all_cons rfl (all_nil))))), hS⟩
  · rintro k_l0 a w ⟨x_13, H, hK, hS⟩
    cases k_l0 with
    | zero => cases H
    | succ k_l0 =>
    rw [cmp_Or_int.l0.eq_2] at H
    refine wp_seq ?_
    refine wp_region_lit ?_
    refine sl hK (by decide) rfl rfl (r_ibin hK rfl rfl rfl) fun a hK => ?_
    refine wpList_nil ?_
    refine wp_seq ?_
    refine wp_cond_split (hK.ev rfl) (fun (hb_26 : (decide (x_13 < (a0.length : Int))) = true) => ?_) (fun (hb_26 : (decide (x_13 < (a0.length : Int))) = false) => ?_)
    · rw [ifb_t hb_26] at H
      refine wp_skip ?_
      refine wp_seq ?_
      refine wp_block ?_
      refine wp_seq ?_
      refine wp_region_lit ?_
      obtain ⟨y_27, h_28, H⟩ := bind_some H
      obtain ⟨b_29, o_30, c_31, cs_32, hv_33, hr_34, hc_35, h_280, h_281⟩ := h0_0.ix h_28
      subst hr_34
      refine sl hK (by decide) rfl rfl (r_indexAddr_R Try.underlying47 Try.sizeOf3 hv_33 h_280 h_281 hK rfl rfl) fun a hK => ?_
      refine sl hK (by decide) rfl rfl (r_load Try.isAgg3 hK rfl ((hS.ra hRA nil_not).cell (hc_35 0 _ rfl))) fun a hK => ?_
      refine sl hK (by decide) rfl rfl (r_assign hK rfl) fun a hK => ?_
      refine wpList_nil ?_
      refine wp_seq ?_
      refine wp_region_lit ?_
      refine sl hK (by decide) rfl rfl (r_move hK rfl) fun a hK => ?_
      refine sl hK (by decide) rfl rfl (r_move hK rfl) fun a hK => ?_
      refine sl hK (by decide) rfl rfl (r_ibin hK rfl rfl rfl) fun a hK => ?_
      refine wpList_nil ?_
      refine wp_cond_split (hK.ev rfl) (fun (hb_36 : (y_27 != 0) = true) => ?_) (fun (hb_36 : (y_27 != 0) = false) => ?_)
      · rw [ifb_t hb_36] at H
        refine wp_seq ?_
        refine wp_region_lit ?_
        refine sl hK (by decide) rfl rfl (r_move hK rfl) fun a hK => ?_
        refine sl hK (by decide) rfl rfl (r_assign hK rfl) fun a hK => ?_
        refine wpList_nil ?_
        obtain rfl := Option.some.inj H
        refine wp_ret ?_
        repeat (first | refine ret_then ?_ | refine ret_block ?_ | refine ret_scope ?_)
        exact ret_1 Try.results61 hK (rv_tmp hK rfl) ⟨rfl, hS.bel⟩
      · rw [ifb_f hb_36] at H
        refine wp_skip ?_
        refine wp_region_lit ?_
        refine sl hK (by decide) rfl rfl (r_ibin hK rfl rfl rfl) fun a hK => ?_
        refine sl hK (by decide) rfl rfl (r_move hK rfl) fun a hK => ?_
        refine wpList_nil ?_
        exact ⟨_, Nat.lt_succ_self _, (IntKind.i64.wrap (x_13 + 1)), H, hK.sub (all_cons rfl (all_cons rfl (all_cons rfl (all_cons rfl (all_nil))))), hS⟩
    · rw [ifb_f hb_26] at H
      refine wp_exit ?_
      refine wp_seq ?_
      refine wp_region_lit ?_
      refine sl hK (by decide) rfl rfl (r_move hK rfl) fun a hK => ?_
      refine sl hK (by decide) rfl rfl (r_assign hK rfl) fun a hK => ?_
      refine wpList_nil ?_
      obtain rfl := Option.some.inj H
      refine wp_ret ?_
      repeat (first | refine ret_then ?_ | refine ret_block ?_ | refine ret_scope ?_)
      exact ret_1 Try.results61 hK (rv_tmp hK rfl) ⟨rfl, hS.bel⟩

/-! ### catchment/value.Compare: function 47 -/
set_option maxHeartbeats 4000000 in
set_option maxRecDepth 100000 in
theorem value_Compare.calls (a0 : api_Value) (a1 : api_Value) {r : Int} (H : value_Compare a0 a1 = some r) (w0 : World) : CallsV Try.prog 47 #[.agg #[.int .i64 a0.Kind, .int .i64 a0.N, .string a0.S, .int .i64 a0.H.a0, .int .i64 a0.H.a1, .int .i64 a0.H.a2, .int .i64 a0.H.a3, .int .i64 a0.H.a4, .int .i64 a0.H.a5, .int .i64 a0.H.a6, .int .i64 a0.H.a7], .agg #[.int .i64 a1.Kind, .int .i64 a1.N, .string a1.S, .int .i64 a1.H.a0, .int .i64 a1.H.a1, .int .i64 a1.H.a2, .int .i64 a1.H.a3, .int .i64 a1.H.a4, .int .i64 a1.H.a5, .int .i64 a1.H.a6, .int .i64 a1.H.a7]] w0 (.int .i64 r) := by
  unfold value_Compare at H
  refine enter (args := [.agg #[.int .i64 a0.Kind, .int .i64 a0.N, .string a0.S, .int .i64 a0.H.a0, .int .i64 a0.H.a1, .int .i64 a0.H.a2, .int .i64 a0.H.a3, .int .i64 a0.H.a4, .int .i64 a0.H.a5, .int .i64 a0.H.a6, .int .i64 a0.H.a7], .agg #[.int .i64 a1.Kind, .int .i64 a1.N, .string a1.S, .int .i64 a1.H.a0, .int .i64 a1.H.a1, .int .i64 a1.H.a2, .int .i64 a1.H.a3, .int .i64 a1.H.a4, .int .i64 a1.H.a5, .int .i64 a1.H.a6, .int .i64 a1.H.a7]]) Try.func47 rfl Try.ntmps47 rfl fun a hK => ?_
  have hS := St.init (R := fun _ => none) (w := w0) (fun _ _ h => by cases h)
  have hRL := RLe.refl (M := []) w0 (fun _ => none)
  refine wp_seq ?_
  refine wp_region_lit ?_
  refine sl_box hS hK (by decide) rfl rfl (c := [.int .i64 a0.Kind, .int .i64 a0.N, .string a0.S, .int .i64 a0.H.a0, .int .i64 a0.H.a1, .int .i64 a0.H.a2, .int .i64 a0.H.a3, .int .i64 a0.H.a4, .int .i64 a0.H.a5, .int .i64 a0.H.a6, .int .i64 a0.H.a7]) rfl fun a w b_1 hS hK => ?_
  refine sl_box hS hK (by decide) rfl rfl (c := [.int .i64 a1.Kind, .int .i64 a1.N, .string a1.S, .int .i64 a1.H.a0, .int .i64 a1.H.a1, .int .i64 a1.H.a2, .int .i64 a1.H.a3, .int .i64 a1.H.a4, .int .i64 a1.H.a5, .int .i64 a1.H.a6, .int .i64 a1.H.a7]) rfl fun a w b_2 hS hK => ?_
  refine sl hK (by decide) rfl rfl (r_assign hK rfl) fun a hK => ?_
  refine wpList_nil ?_
  refine wp_seq ?_
  refine parT_region (C := fun w => St [] w0 w (fun _ => none) [.cells b_2 [.int .i64 a1.Kind, .int .i64 a1.N, .string a1.S, .int .i64 a1.H.a0, .int .i64 a1.H.a1, .int .i64 a1.H.a2, .int .i64 a1.H.a3, .int .i64 a1.H.a4, .int .i64 a1.H.a5, .int .i64 a1.H.a6, .int .i64 a1.H.a7] 39, .cells b_1 [.int .i64 a0.Kind, .int .i64 a0.N, .string a0.S, .int .i64 a0.H.a0, .int .i64 a0.H.a1, .int .i64 a0.H.a2, .int .i64 a0.H.a3, .int .i64 a0.H.a4, .int .i64 a0.H.a5, .int .i64 a0.H.a6, .int .i64 a0.H.a7] 39]) 19 [(0, true), (1, true), (2, true), (3, true), (5, true), (6, true), (7, true), (8, true), (10, true), (11, true), (12, true), (13, true), (15, true), (16, true), (17, true), (18, true), (4, false), (9, false), (14, false)] mixed (by kernel_rfl) hS (fun w hS => hS) fun w hS => ?_
  refine sp (k := 0) rfl hK (by decide) rfl rfl (fun w hS => r_fieldAddr Try.underlying39 rfl Try.sizeOf3 hK rfl) fun a hK => ?_
  refine sp (k := 1) rfl hK (by decide) rfl rfl (fun w hS => r_load Try.isAgg3 hK rfl (hS.cell (.tail _ (.head _)) rfl)) fun a hK => ?_
  refine sp (k := 2) rfl hK (by decide) rfl rfl (fun w hS => r_fieldAddr Try.underlying39 rfl Try.sizeOf3 hK rfl) fun a hK => ?_
  refine sp (k := 3) rfl hK (by decide) rfl rfl (fun w hS => r_load Try.isAgg3 hK rfl (hS.cell (.head _) rfl)) fun a hK => ?_
  refine sp (k := 5) rfl hK (by decide) rfl rfl (fun w hS => r_fieldAddr Try.underlying39 rfl Try.sizeOf3 hK rfl) fun a hK => ?_
  refine sp (k := 6) rfl hK (by decide) rfl rfl (fun w hS => r_load Try.isAgg3 hK rfl (hS.cell (.tail _ (.head _)) rfl)) fun a hK => ?_
  refine sp (k := 7) rfl hK (by decide) rfl rfl (fun w hS => r_fieldAddr Try.underlying39 rfl Try.sizeOf3 hK rfl) fun a hK => ?_
  refine sp (k := 8) rfl hK (by decide) rfl rfl (fun w hS => r_load Try.isAgg3 hK rfl (hS.cell (.head _) rfl)) fun a hK => ?_
  refine sp (k := 10) rfl hK (by decide) rfl rfl (fun w hS => r_fieldAddr Try.underlying39 rfl Try.sizeOf9 hK rfl) fun a hK => ?_
  refine sp (k := 11) rfl hK (by decide) rfl rfl (fun w hS => r_load Try.isAgg9 hK rfl (hS.cell (.tail _ (.head _)) rfl)) fun a hK => ?_
  refine sp (k := 12) rfl hK (by decide) rfl rfl (fun w hS => r_fieldAddr Try.underlying39 rfl Try.sizeOf9 hK rfl) fun a hK => ?_
  refine sp (k := 13) rfl hK (by decide) rfl rfl (fun w hS => r_load Try.isAgg9 hK rfl (hS.cell (.head _) rfl)) fun a hK => ?_
  refine sp (k := 15) rfl hK (by decide) rfl rfl (fun w hS => r_fieldAddr Try.underlying39 rfl Try.sizeOf37 hK rfl) fun a hK => ?_
  refine sp (k := 16) rfl hK (by decide) rfl rfl (fun w hS => r_slice_arr0 Try.underlying37 Try.sizeOf3 hK rfl) fun a hK => ?_
  refine sp (k := 17) rfl hK (by decide) rfl rfl (fun w hS => r_fieldAddr Try.underlying39 rfl Try.sizeOf37 hK rfl) fun a hK => ?_
  refine sp (k := 18) rfl hK (by decide) rfl rfl (fun w hS => r_slice_arr0 Try.underlying37 Try.sizeOf3 hK rfl) fun a hK => ?_
  refine spw (k := 4) rfl rfl hS ?_
  obtain ⟨y_14, h_15, H⟩ := bind_some H
  refine sl_callV Try.call62 hS hK (by decide) rfl rfl rfl (cmp_Compare_int.calls a0.Kind a1.Kind h_15 _) fun a w hS hK => ?_
  refine parK_nil hS ?_
  refine spw (k := 9) rfl rfl hS ?_
  obtain ⟨y_16, h_17, H⟩ := bind_some H
  refine sl_callV Try.call62 hS hK (by decide) rfl rfl rfl (cmp_Compare_int.calls a0.N a1.N h_17 _) fun a w hS hK => ?_
  refine parK_nil hS ?_
  refine spw (k := 14) rfl rfl hS ?_
  obtain ⟨y_18, h_19, H⟩ := bind_some H
  refine sl_callV Try.call63 hS hK (by decide) rfl rfl rfl (strings_Compare.calls a0.S a1.S h_19 _) fun a w hS hK => ?_
  refine parK_nil hS ?_
  refine thenL_nil ?_
  obtain ⟨y_20, h_21, H⟩ := bind_some H
  refine sl_callV Try.call64 hS hK (by decide) rfl rfl rfl (slices_Compare_int_int.calls a0.H.list a1.H.list (lentOf_sub [] _) (hS.lend_part0 (.tail _ (.head _)) (xs := a0.H.list) rfl (Nat.le_refl _)) (hS.lend_part0 (.head _) (xs := a1.H.list) rfl (Nat.le_refl _)) h_21) fun a w hS hK => ?_
  refine sl_buildSliceF (zc := [.int .i64 0]) (ps := [(0, .int .i64 y_14), (1, .int .i64 y_16), (2, .int .i64 y_18), (3, .int .i64 y_20)]) (c := [.int .i64 y_14, .int .i64 y_16, .int .i64 y_18, .int .i64 y_20]) [[.int .i64 y_14], [.int .i64 y_16], [.int .i64 y_18], [.int .i64 y_20]] Try.underlying47 Try.sizeOf3 Try.zeroValue3 rfl (pc_cons rfl (pc_cons rfl (pc_cons rfl (pc_cons rfl pc_nil)))) rfl rfl (Nat.le_of_ble_eq_true rfl) rfl (all_cons rfl (all_cons rfl (all_cons rfl (all_cons rfl (all_nil))))) rfl hS hK (by decide) rfl fun a w b_22 hS hK => ?_
  obtain ⟨y_23, h_24, H⟩ := bind_some H
  refine sl_callV Try.call61 hS hK (by decide) rfl rfl rfl (cmp_Or_int.calls [y_14, y_16, y_18, y_20] (lentOf_sub [] _) (hS.lend_lit0 (ty := (tyInt .i64)) (xs := [y_14, y_16, y_18, y_20]) (.head _) (Reps.cons (show Ty.rep (tyInt .i64) _ [.int .i64 y_14] y_14 from rfl) (Reps.cons (show Ty.rep (tyInt .i64) _ [.int .i64 y_16] y_16 from rfl) (Reps.cons (show Ty.rep (tyInt .i64) _ [.int .i64 y_18] y_18 from rfl) (Reps.cons (show Ty.rep (tyInt .i64) _ [.int .i64 y_20] y_20 from rfl) (Reps.nil _ _))))) rfl) h_24) fun a w hS hK => ?_
  refine sl hK (by decide) rfl rfl (r_assign hK rfl) fun a hK => ?_
  refine wpList_nil (NoP_nil ?_)
  obtain rfl := Option.some.inj H
  refine wp_ret ?_
  repeat (first | refine ret_then ?_ | refine ret_block ?_ | refine ret_scope ?_)
  exact ret_1 Try.results47 hK (rv_tmp hK rfl) ⟨rfl, hS.bel⟩

/-! ### catchment/value.Holds: function 28 -/
set_option maxHeartbeats 4000000 in
set_option maxRecDepth 100000 in
theorem value_Holds.calls (a0 : Int) (a1 : api_Value) (a2 : api_Value) {r : Bool} (H : value_Holds a0 a1 a2 = some r) (w0 : World) : CallsV Try.prog 28 #[.int .i64 a0, .agg #[.int .i64 a1.Kind, .int .i64 a1.N, .string a1.S, .int .i64 a1.H.a0, .int .i64 a1.H.a1, .int .i64 a1.H.a2, .int .i64 a1.H.a3, .int .i64 a1.H.a4, .int .i64 a1.H.a5, .int .i64 a1.H.a6, .int .i64 a1.H.a7], .agg #[.int .i64 a2.Kind, .int .i64 a2.N, .string a2.S, .int .i64 a2.H.a0, .int .i64 a2.H.a1, .int .i64 a2.H.a2, .int .i64 a2.H.a3, .int .i64 a2.H.a4, .int .i64 a2.H.a5, .int .i64 a2.H.a6, .int .i64 a2.H.a7]] w0 (.bool r) := by
  unfold value_Holds at H
  refine enter (args := [.int .i64 a0, .agg #[.int .i64 a1.Kind, .int .i64 a1.N, .string a1.S, .int .i64 a1.H.a0, .int .i64 a1.H.a1, .int .i64 a1.H.a2, .int .i64 a1.H.a3, .int .i64 a1.H.a4, .int .i64 a1.H.a5, .int .i64 a1.H.a6, .int .i64 a1.H.a7], .agg #[.int .i64 a2.Kind, .int .i64 a2.N, .string a2.S, .int .i64 a2.H.a0, .int .i64 a2.H.a1, .int .i64 a2.H.a2, .int .i64 a2.H.a3, .int .i64 a2.H.a4, .int .i64 a2.H.a5, .int .i64 a2.H.a6, .int .i64 a2.H.a7]]) Try.func28 rfl Try.ntmps28 rfl fun a hK => ?_
  have hS := St.init (R := fun _ => none) (w := w0) (fun _ _ h => by cases h)
  have hRL := RLe.refl (M := []) w0 (fun _ => none)
  refine wp_seq ?_
  refine wp_region_lit ?_
  refine sl_box hS hK (by decide) rfl rfl (c := [.int .i64 a1.Kind, .int .i64 a1.N, .string a1.S, .int .i64 a1.H.a0, .int .i64 a1.H.a1, .int .i64 a1.H.a2, .int .i64 a1.H.a3, .int .i64 a1.H.a4, .int .i64 a1.H.a5, .int .i64 a1.H.a6, .int .i64 a1.H.a7]) rfl fun a w b_1 hS hK => ?_
  refine sl_box hS hK (by decide) rfl rfl (c := [.int .i64 a2.Kind, .int .i64 a2.N, .string a2.S, .int .i64 a2.H.a0, .int .i64 a2.H.a1, .int .i64 a2.H.a2, .int .i64 a2.H.a3, .int .i64 a2.H.a4, .int .i64 a2.H.a5, .int .i64 a2.H.a6, .int .i64 a2.H.a7]) rfl fun a w b_2 hS hK => ?_
  refine sl hK (by decide) rfl rfl (r_assign hK rfl) fun a hK => ?_
  refine wpList_nil ?_
  refine wp_seq ?_
  refine wp_region_lit ?_
  refine sl hK (by decide) rfl rfl (r_loadA (cs := [.int .i64 a1.Kind, .int .i64 a1.N, .string a1.S, .int .i64 a1.H.a0, .int .i64 a1.H.a1, .int .i64 a1.H.a2, .int .i64 a1.H.a3, .int .i64 a1.H.a4, .int .i64 a1.H.a5, .int .i64 a1.H.a6, .int .i64 a1.H.a7]) Try.isAgg39 Try.sizeOf39 rfl hK rfl (hS.cells_of (m := 11) (.tail _ (.head _)) rfl)) fun a hK => ?_
  refine sl hK (by decide) rfl rfl (r_loadA (cs := [.int .i64 a2.Kind, .int .i64 a2.N, .string a2.S, .int .i64 a2.H.a0, .int .i64 a2.H.a1, .int .i64 a2.H.a2, .int .i64 a2.H.a3, .int .i64 a2.H.a4, .int .i64 a2.H.a5, .int .i64 a2.H.a6, .int .i64 a2.H.a7]) Try.isAgg39 Try.sizeOf39 rfl hK rfl (hS.cells_of (m := 11) (.head _) rfl)) fun a hK => ?_
  obtain ⟨y_3, h_4, H⟩ := bind_some H
  refine sl_callV Try.call47 hS hK (by decide) rfl rfl rfl (value_Compare.calls a1 a2 h_4 _) fun a w hS hK => ?_
  refine sl hK (by decide) rfl rfl (r_assign hK rfl) fun a hK => ?_
  refine wpList_nil ?_
  refine wp_seq ?_
  refine wp_seq ?_
  refine wp_region_lit ?_
  refine sl hK (by decide) rfl rfl (r_fieldAddr Try.underlying39 rfl Try.sizeOf3 hK rfl) fun a hK => ?_
  refine sl hK (by decide) rfl rfl (r_load Try.isAgg3 hK rfl (hS.cell (.tail _ (.head _)) rfl)) fun a hK => ?_
  refine sl hK (by decide) rfl rfl (r_fieldAddr Try.underlying39 rfl Try.sizeOf3 hK rfl) fun a hK => ?_
  refine sl hK (by decide) rfl rfl (r_load Try.isAgg3 hK rfl (hS.cell (.head _) rfl)) fun a hK => ?_
  refine sl hK (by decide) rfl rfl (r_ibin hK rfl rfl rfl) fun a hK => ?_
  refine wpList_nil ?_
  refine wp_cond_split (hK.ev rfl) (fun (hb_5 : (a1.Kind != a2.Kind) = true) => ?_) (fun (hb_5 : (a1.Kind != a2.Kind) = false) => ?_)
  · rw [ifb_t hb_5] at H
    refine wp_seq ?_
    refine wp_region_lit ?_
    refine sl hK (by decide) rfl rfl (r_assign hK rfl) fun a hK => ?_
    refine wpList_nil ?_
    obtain rfl := Option.some.inj H
    refine wp_ret ?_
    repeat (first | refine ret_then ?_ | refine ret_block ?_ | refine ret_scope ?_)
    exact ret_1 Try.results28 hK (rv_tmp hK rfl) ⟨rfl, hS.bel⟩
  · rw [ifb_f hb_5] at H
    refine wp_skip ?_
    refine wp_seq ?_
    refine wp_seq ?_
    refine wp_region_lit ?_
    refine sl hK (by decide) rfl rfl (r_move hK rfl) fun a hK => ?_
    refine wpList_nil ?_
    refine wp_block ?_
    refine wp_seq ?_
    refine wp_region_lit ?_
    refine sl hK (by decide) rfl rfl (r_ibin hK rfl rfl rfl) fun a hK => ?_
    refine sl hK (by decide) rfl rfl (r_assign hK rfl) fun a hK => ?_
    refine wpList_nil ?_
    refine wp_cond_split (hK.ev rfl) (fun (hb_6 : (a0 == 1) = true) => ?_) (fun (hb_6 : (a0 == 1) = false) => ?_)
    · rw [ifb_t hb_6] at H
      refine wp_seq ?_
      refine wp_region_lit ?_
      refine sl hK (by decide) rfl rfl (r_move hK rfl) fun a hK => ?_
      refine sl hK (by decide) rfl rfl (r_ibin hK rfl rfl rfl) fun a hK => ?_
      refine sl hK (by decide) rfl rfl (r_assign hK rfl) fun a hK => ?_
      refine wpList_nil ?_
      obtain rfl := Option.some.inj H
      refine wp_ret ?_
      repeat (first | refine ret_then ?_ | refine ret_block ?_ | refine ret_scope ?_)
      exact ret_1 Try.results28 hK (rv_tmp hK rfl) ⟨rfl, hS.bel⟩
    · rw [ifb_f hb_6] at H
      refine wp_seq ?_
      refine wp_region_lit ?_
      refine sl hK (by decide) rfl rfl (r_ibin hK rfl rfl rfl) fun a hK => ?_
      refine sl hK (by decide) rfl rfl (r_assign hK rfl) fun a hK => ?_
      refine wpList_nil ?_
      refine wp_cond_split (hK.ev rfl) (fun (hb_7 : (a0 == 2) = true) => ?_) (fun (hb_7 : (a0 == 2) = false) => ?_)
      · rw [ifb_t hb_7] at H
        refine wp_seq ?_
        refine wp_region_lit ?_
        refine sl hK (by decide) rfl rfl (r_move hK rfl) fun a hK => ?_
        refine sl hK (by decide) rfl rfl (r_ibin hK rfl rfl rfl) fun a hK => ?_
        refine sl hK (by decide) rfl rfl (r_assign hK rfl) fun a hK => ?_
        refine wpList_nil ?_
        obtain rfl := Option.some.inj H
        refine wp_ret ?_
        repeat (first | refine ret_then ?_ | refine ret_block ?_ | refine ret_scope ?_)
        exact ret_1 Try.results28 hK (rv_tmp hK rfl) ⟨rfl, hS.bel⟩
      · rw [ifb_f hb_7] at H
        refine wp_seq ?_
        refine wp_region_lit ?_
        refine sl hK (by decide) rfl rfl (r_ibin hK rfl rfl rfl) fun a hK => ?_
        refine sl hK (by decide) rfl rfl (r_assign hK rfl) fun a hK => ?_
        refine wpList_nil ?_
        refine wp_cond_split (hK.ev rfl) (fun (hb_8 : (a0 == 3) = true) => ?_) (fun (hb_8 : (a0 == 3) = false) => ?_)
        · rw [ifb_t hb_8] at H
          refine wp_seq ?_
          refine wp_region_lit ?_
          refine sl hK (by decide) rfl rfl (r_move hK rfl) fun a hK => ?_
          refine sl hK (by decide) rfl rfl (r_ibin hK rfl rfl rfl) fun a hK => ?_
          refine sl hK (by decide) rfl rfl (r_assign hK rfl) fun a hK => ?_
          refine wpList_nil ?_
          obtain rfl := Option.some.inj H
          refine wp_ret ?_
          repeat (first | refine ret_then ?_ | refine ret_block ?_ | refine ret_scope ?_)
          exact ret_1 Try.results28 hK (rv_tmp hK rfl) ⟨rfl, hS.bel⟩
        · rw [ifb_f hb_8] at H
          refine wp_seq ?_
          refine wp_region_lit ?_
          refine sl hK (by decide) rfl rfl (r_ibin hK rfl rfl rfl) fun a hK => ?_
          refine sl hK (by decide) rfl rfl (r_assign hK rfl) fun a hK => ?_
          refine wpList_nil ?_
          refine wp_cond_split (hK.ev rfl) (fun (hb_9 : (a0 == 4) = true) => ?_) (fun (hb_9 : (a0 == 4) = false) => ?_)
          · rw [ifb_t hb_9] at H
            refine wp_seq ?_
            refine wp_region_lit ?_
            refine sl hK (by decide) rfl rfl (r_move hK rfl) fun a hK => ?_
            refine sl hK (by decide) rfl rfl (r_ibin hK rfl rfl rfl) fun a hK => ?_
            refine sl hK (by decide) rfl rfl (r_assign hK rfl) fun a hK => ?_
            refine wpList_nil ?_
            obtain rfl := Option.some.inj H
            refine wp_ret ?_
            repeat (first | refine ret_then ?_ | refine ret_block ?_ | refine ret_scope ?_)
            exact ret_1 Try.results28 hK (rv_tmp hK rfl) ⟨rfl, hS.bel⟩
          · rw [ifb_f hb_9] at H
            refine wp_seq ?_
            refine wp_region_lit ?_
            refine sl hK (by decide) rfl rfl (r_ibin hK rfl rfl rfl) fun a hK => ?_
            refine sl hK (by decide) rfl rfl (r_assign hK rfl) fun a hK => ?_
            refine wpList_nil ?_
            refine wp_cond_split (hK.ev rfl) (fun (hb_10 : (a0 == 5) = true) => ?_) (fun (hb_10 : (a0 == 5) = false) => ?_)
            · rw [ifb_t hb_10] at H
              refine wp_seq ?_
              refine wp_region_lit ?_
              refine sl hK (by decide) rfl rfl (r_move hK rfl) fun a hK => ?_
              refine sl hK (by decide) rfl rfl (r_ibin hK rfl rfl rfl) fun a hK => ?_
              refine sl hK (by decide) rfl rfl (r_assign hK rfl) fun a hK => ?_
              refine wpList_nil ?_
              obtain rfl := Option.some.inj H
              refine wp_ret ?_
              repeat (first | refine ret_then ?_ | refine ret_block ?_ | refine ret_scope ?_)
              exact ret_1 Try.results28 hK (rv_tmp hK rfl) ⟨rfl, hS.bel⟩
            · rw [ifb_f hb_10] at H
              refine wp_seq ?_
              refine wp_region_lit ?_
              refine sl hK (by decide) rfl rfl (r_ibin hK rfl rfl rfl) fun a hK => ?_
              refine sl hK (by decide) rfl rfl (r_assign hK rfl) fun a hK => ?_
              refine wpList_nil ?_
              refine wp_cond_split (hK.ev rfl) (fun (hb_11 : (a0 == 6) = true) => ?_) (fun (hb_11 : (a0 == 6) = false) => ?_)
              · rw [ifb_t hb_11] at H
                refine wp_seq ?_
                refine wp_region_lit ?_
                refine sl hK (by decide) rfl rfl (r_move hK rfl) fun a hK => ?_
                refine sl hK (by decide) rfl rfl (r_ibin hK rfl rfl rfl) fun a hK => ?_
                refine sl hK (by decide) rfl rfl (r_assign hK rfl) fun a hK => ?_
                refine wpList_nil ?_
                obtain rfl := Option.some.inj H
                refine wp_ret ?_
                repeat (first | refine ret_then ?_ | refine ret_block ?_ | refine ret_scope ?_)
                exact ret_1 Try.results28 hK (rv_tmp hK rfl) ⟨rfl, hS.bel⟩
              · rw [ifb_f hb_11] at H
                refine wp_skip ?_
                refine wp_seq ?_
                refine wp_region_lit ?_
                refine sl hK (by decide) rfl rfl (r_assign hK rfl) fun a hK => ?_
                refine wpList_nil ?_
                obtain rfl := Option.some.inj H
                refine wp_ret ?_
                repeat (first | refine ret_then ?_ | refine ret_block ?_ | refine ret_scope ?_)
                exact ret_1 Try.results28 hK (rv_tmp hK rfl) ⟨rfl, hS.bel⟩

/-! ### strings.Contains: function 29 -/
set_option maxHeartbeats 4000000 in
set_option maxRecDepth 100000 in
theorem strings_Contains.calls (a0 : ByteArray) (a1 : ByteArray) {w0 : World} {RA : Hp} (hRA : RA.sub w0) (hG : GF RA) {r : Bool} (H : strings_Contains a0 a1 = some r) : CallsV Try.prog 29 #[.string a0, .string a1] w0 (.bool r) := by
  unfold strings_Contains at H
  split at H
  · rename_i hs
    obtain rfl := Option.some.inj H
    obtain ⟨gm, hgm⟩ := GF_maxlen hG hRA
    exact (Any.strings_Contains conL29 a0 a1 gm w0 hs hgm).mono fun e w' ⟨he, hw⟩ => ⟨he, by rw [hw]; exact Bel.refl _ _⟩
  · cases H

/-! ### catchment/pred.Holds$2$1: function 27 -/
set_option maxHeartbeats 4000000 in
set_option maxRecDepth 100000 in
theorem pred_Holds_2_1_cp.calls (a0 : Int) (a1 : Int) {w0 : World} {RA : Hp} {b1 : Nat} {o1 : Nat} (hRA : RA.sub w0) (hc1 : ∀ j u, ([.int .i64 a1] : List Value)[j]? = some u → RA.cell b1 (o1 + j) = some u) {r : Bool} (H : pred_Holds_2_1_cp a0 a1 = some r) : CallsV Try.prog 27 #[.int .i64 a0, .pointer (some ⟨b1, o1, none⟩)] w0 (.bool r) := by
  unfold pred_Holds_2_1_cp at H
  refine enter (args := [.int .i64 a0, .pointer (some ⟨b1, o1, none⟩)]) Try.func27 rfl Try.ntmps27 rfl fun a hK => ?_
  have hS := St.init (R := fun _ => none) (w := w0) (fun _ _ h => by cases h)
  have hRL := RLe.refl (M := []) w0 (fun _ => none)
  refine wp_seq ?_
  refine wp_region_lit ?_
  refine sl hK (by decide) rfl rfl (r_assign hK rfl) fun a hK => ?_
  refine wpList_nil ?_
  refine wp_seq ?_
  refine wp_region_lit ?_
  refine sl hK (by decide) rfl rfl (r_move hK rfl) fun a hK => ?_
  refine sl hK (by decide) rfl rfl (r_ibin hK rfl rfl rfl) fun a hK => ?_
  refine sl hK (by decide) rfl rfl (r_move hK rfl) fun a hK => ?_
  rcases or_b (decide (a0 < 0)) with hb_1 | hb_1
  · rw [ifb_t hb_1] at H
    refine sl_skip hK (by decide) (wft hb_1) rfl fun a hK => ?_
    refine sl_skip hK (by decide) (wft hb_1) rfl fun a hK => ?_
    refine sl_skip hK (by decide) (wft hb_1) rfl fun a hK => ?_
    refine sl hK (by decide) rfl rfl (r_pick_t hb_1 hK rfl rfl) fun a hK => ?_
    refine sl hK (by decide) rfl rfl (r_assign hK rfl) fun a hK => ?_
    refine wpList_nil ?_
    obtain rfl := Option.some.inj H
    refine wp_ret ?_
    repeat (first | refine ret_then ?_ | refine ret_block ?_ | refine ret_scope ?_)
    exact ret_1 Try.results27 hK (rv_tmp hK rfl) ⟨rfl, hS.bel⟩
  · rw [ifb_f hb_1] at H
    refine sl hK (by decide) (wff hb_1) rfl (r_move hK rfl) fun a hK => ?_
    refine sl hK (by decide) (wff hb_1) rfl (r_load Try.isAgg3 hK rfl ((hS.ra hRA nil_not).cell (hc1 0 _ rfl))) fun a hK => ?_
    refine sl hK (by decide) (wff hb_1) rfl (r_ibin hK rfl rfl rfl) fun a hK => ?_
    refine sl hK (by decide) rfl rfl (r_pick_f hb_1 hK rfl rfl) fun a hK => ?_
    refine sl hK (by decide) rfl rfl (r_assign hK rfl) fun a hK => ?_
    refine wpList_nil ?_
    obtain rfl := Option.some.inj H
    refine wp_ret ?_
    repeat (first | refine ret_then ?_ | refine ret_block ?_ | refine ret_scope ?_)
    exact ret_1 Try.results27 hK (rv_tmp hK rfl) ⟨rfl, hS.bel⟩

/-! ### slices.IndexFunc[[]int,int]: function 46 -/
set_option maxHeartbeats 4000000 in
set_option maxRecDepth 100000 in
theorem slices_IndexFunc_int_int_f_pred_Holds_2_1p.calls (a0 : List Int) (a1_0 : Int) {w0 : World} {RA : Hp} {v0_0 : Value} {b1q0 : Nat} {o1q0 : Nat} (hRA : RA.sub w0) (h0_0 : SlR (tyInt .i64) RA v0_0 a0) (hc1q0 : ∀ j u, ([.int .i64 a1_0] : List Value)[j]? = some u → RA.cell b1q0 (o1q0 + j) = some u) {r : Int} (H : slices_IndexFunc_int_int_f_pred_Holds_2_1p a0 a1_0 = some r) : CallsV Try.prog 46 #[v0_0, .func (.func 27) #[] #[.pointer (some ⟨b1q0, o1q0, none⟩)]] w0 (.int .i64 r) := by
  unfold slices_IndexFunc_int_int_f_pred_Holds_2_1p at H
  refine enter (args := [v0_0, .func (.func 27) #[] #[.pointer (some ⟨b1q0, o1q0, none⟩)]]) Try.func46 rfl Try.ntmps46 rfl fun a hK => ?_
  have hS := St.init (R := fun _ => none) (w := w0) (fun _ _ h => by cases h)
  have hRL := RLe.refl (M := []) w0 (fun _ => none)
  refine wp_seq ?_
  refine wp_region_lit ?_
  refine sl hK (by decide) rfl rfl (r_assign hK rfl) fun a hK => ?_
  refine wpList_nil ?_
  refine wp_seq ?_
  refine wp_seq ?_
  refine wp_region_lit ?_
  refine sl hK (by decide) rfl rfl (r_move hK rfl) fun a hK => ?_
  refine sl hK (by decide) rfl rfl (r_len_R Try.underlying47 h0_0 hK rfl) fun a hK => ?_
  refine sl hK (by decide) rfl rfl (r_move hK rfl) fun a hK => ?_
  refine wpList_nil ?_
  refine wp_block ?_
  refine wp_loop_k (fun k_l0 a w => ∃ (x_15 : Int), slices_IndexFunc_int_int_f_pred_Holds_2_1p.l0 a0 a1_0 k_l0 x_15 = some r ∧ Kn 19 a [(0, v0_0), (1, .func (.func 27) #[] #[.pointer (some ⟨b1q0, o1q0, none⟩)]), (7, .int .i64 (a0.length : Int)), (8, .int .i64 x_15)] ∧ St [] w0 w (fun _ => none) []) (((a0.length : Int) - 0).toNat + 1) ?_ ?_
  · exact ⟨0, H, hK.sub (all_cons rfl (all_cons rfl (all_cons rfl (all_cons rfl (all_nil))))), hS⟩
  · rintro k_l0 a w ⟨x_15, H, hK, hS⟩
    cases k_l0 with
    | zero => cases H
    | succ k_l0 =>
    rw [slices_IndexFunc_int_int_f_pred_Holds_2_1p.l0.eq_2] at H
    refine wp_seq ?_
    refine wp_region_lit ?_
    refine sl hK (by decide) rfl rfl (r_ibin hK rfl rfl rfl) fun a hK => ?_
    refine wpList_nil ?_
    refine wp_seq ?_
    refine wp_cond_split (hK.ev rfl) (fun (hb_30 : (decide (x_15 < (a0.length : Int))) = true) => ?_) (fun (hb_30 : (decide (x_15 < (a0.length : Int))) = false) => ?_)
    · rw [ifb_t hb_30] at H
      refine wp_skip ?_
      refine wp_seq ?_
      refine wp_block ?_
      refine wp_seq ?_
      refine wp_region_lit ?_
      refine sl hK (by decide) rfl rfl (r_move hK rfl) fun a hK => ?_
      refine sl hK (by decide) rfl rfl (r_assign hK rfl) fun a hK => ?_
      refine wpList_nil ?_
      refine wp_seq ?_
      refine wp_region_lit ?_
      refine sl hK (by decide) rfl rfl (r_move hK rfl) fun a hK => ?_
      refine sl hK (by decide) rfl rfl (r_move hK rfl) fun a hK => ?_
      refine sl hK (by decide) rfl rfl (r_move hK rfl) fun a hK => ?_
      obtain ⟨y_31, h_32, H⟩ := bind_some H
      obtain ⟨b_33, o_34, c_35, cs_36, hv_37, hr_38, hc_39, h_320, h_321⟩ := h0_0.ix h_32
      subst hr_38
      refine sl hK (by decide) rfl rfl (r_indexAddr_R Try.underlying47 Try.sizeOf3 hv_37 h_320 h_321 hK rfl rfl) fun a hK => ?_
      refine sl hK (by decide) rfl rfl (r_load Try.isAgg3 hK rfl ((hS.ra hRA nil_not).cell (hc_39 0 _ rfl))) fun a hK => ?_
      obtain ⟨y_40, h_41, H⟩ := bind_some H
      refine sl_callV Try.call27 hS hK (by decide) rfl rfl rfl (pred_Holds_2_1_cp.calls y_31 a1_0 (lentOf_sub [] _) (fun j u hu => Hp.cell_le (hS.raLe0 hRA nil_not) (hc1q0 j u hu)) h_41) fun a w hS hK => ?_
      refine wpList_nil ?_
      refine wp_cond_split (hK.ev rfl) (fun (hb_42 : y_40 = true) => ?_) (fun (hb_42 : y_40 = false) => ?_)
      · rw [ifb_t hb_42] at H
        refine wp_seq ?_
        refine wp_region_lit ?_
        refine sl hK (by decide) rfl rfl (r_move hK rfl) fun a hK => ?_
        refine sl hK (by decide) rfl rfl (r_assign hK rfl) fun a hK => ?_
        refine wpList_nil ?_
        obtain rfl := Option.some.inj H
        refine wp_ret ?_
        repeat (first | refine ret_then ?_ | refine ret_block ?_ | refine ret_scope ?_)
        exact ret_1 Try.results46 hK (rv_tmp hK rfl) ⟨rfl, hS.bel⟩
      · rw [ifb_f hb_42] at H
        refine wp_skip ?_
        refine wp_region_lit ?_
        refine sl hK (by decide) rfl rfl (r_ibin hK rfl rfl rfl) fun a hK => ?_
        refine sl hK (by decide) rfl rfl (r_move hK rfl) fun a hK => ?_
        refine wpList_nil ?_
        exact ⟨_, Nat.lt_succ_self _, (IntKind.i64.wrap (x_15 + 1)), H, hK.sub (all_cons rfl (all_cons rfl (all_cons rfl (all_cons rfl (all_nil))))), hS⟩
    · rw [ifb_f hb_30] at H
      refine wp_exit ?_
      refine wp_seq ?_
      refine wp_region_lit ?_
      refine sl hK (by decide) rfl rfl (r_assign hK rfl) fun a hK => ?_
      refine wpList_nil ?_
      obtain rfl := Option.some.inj H
      refine wp_ret ?_
      repeat (first | refine ret_then ?_ | refine ret_block ?_ | refine ret_scope ?_)
      exact ret_1 Try.results46 hK (rv_tmp hK rfl) ⟨rfl, hS.bel⟩

/-! ### slices.ContainsFunc[[]int,int]: function 26 -/
set_option maxHeartbeats 4000000 in
set_option maxRecDepth 100000 in
theorem slices_ContainsFunc_int_int_f_pred_Holds_2_1p.calls (a0 : List Int) (a1_0 : Int) {w0 : World} {RA : Hp} {v0_0 : Value} {b1q0 : Nat} {o1q0 : Nat} (hRA : RA.sub w0) (h0_0 : SlR (tyInt .i64) RA v0_0 a0) (hc1q0 : ∀ j u, ([.int .i64 a1_0] : List Value)[j]? = some u → RA.cell b1q0 (o1q0 + j) = some u) {r : Bool} (H : slices_ContainsFunc_int_int_f_pred_Holds_2_1p a0 a1_0 = some r) : CallsV Try.prog 26 #[v0_0, .func (.func 27) #[] #[.pointer (some ⟨b1q0, o1q0, none⟩)]] w0 (.bool r) := by
  unfold slices_ContainsFunc_int_int_f_pred_Holds_2_1p at H
  refine enter (args := [v0_0, .func (.func 27) #[] #[.pointer (some ⟨b1q0, o1q0, none⟩)]]) Try.func26 rfl Try.ntmps26 rfl fun a hK => ?_
  have hS := St.init (R := fun _ => none) (w := w0) (fun _ _ h => by cases h)
  have hRL := RLe.refl (M := []) w0 (fun _ => none)
  refine wp_seq ?_
  refine wp_region_lit ?_
  refine sl hK (by decide) rfl rfl (r_assign hK rfl) fun a hK => ?_
  refine wpList_nil ?_
  refine wp_seq ?_
  refine wp_region_lit ?_
  refine sl hK (by decide) rfl rfl (r_move hK rfl) fun a hK => ?_
  refine sl hK (by decide) rfl rfl (r_move hK rfl) fun a hK => ?_
  obtain ⟨y_1, h_2, H⟩ := bind_some H
  refine sl_callV Try.call46 hS hK (by decide) rfl rfl rfl (slices_IndexFunc_int_int_f_pred_Holds_2_1p.calls a0 a1_0 (lentOf_sub [] _) (h0_0.mono (hS.raLe0 hRA nil_not)) (fun j u hu => Hp.cell_le (hS.raLe0 hRA nil_not) (hc1q0 j u hu)) h_2) fun a w hS hK => ?_
  refine sl hK (by decide) rfl rfl (r_ibin hK rfl rfl rfl) fun a hK => ?_
  refine sl hK (by decide) rfl rfl (r_assign hK rfl) fun a hK => ?_
  refine wpList_nil ?_
  obtain rfl := Option.some.inj H
  refine wp_ret ?_
  repeat (first | refine ret_then ?_ | refine ret_block ?_ | refine ret_scope ?_)
  exact ret_1 Try.results26 hK (rv_tmp hK rfl) ⟨rfl, hS.bel⟩

/-! ### catchment/pred.Holds$2: function 25 -/
set_option maxHeartbeats 4000000 in
set_option maxRecDepth 100000 in
theorem pred_Holds_2_cp_cp.calls (a0 : Int) (a1 : api_Node) (a2 : Int) {w0 : World} {RA : Hp} {b1 : Nat} {o1 : Nat} {v1_0 : Value} {v1_1 : Value} {v1_2 : Value} {b2 : Nat} {o2 : Nat} (hRA : RA.sub w0) (hc1 : ∀ j u, ([.int .i64 a1.Kind, .string a1.S, .int .i64 a1.N, .int .i64 a1.From, .int .i64 a1.To, .int .i64 a1.V.Kind, .int .i64 a1.V.N, .string a1.V.S, .int .i64 a1.V.H.a0, .int .i64 a1.V.H.a1, .int .i64 a1.V.H.a2, .int .i64 a1.V.H.a3, .int .i64 a1.V.H.a4, .int .i64 a1.V.H.a5, .int .i64 a1.V.H.a6, .int .i64 a1.V.H.a7, v1_0, v1_1, v1_2] : List Value)[j]? = some u → RA.cell b1 (o1 + j) = some u) (h1_0 : SlR (tyInt .i64) RA v1_0 a1.L) (h1_1 : SlR tyStr RA v1_1 a1.Names) (h1_2 : SlR ty_api_Agg RA v1_2 a1.Aggs) (hc2 : ∀ j u, ([.int .i64 a2] : List Value)[j]? = some u → RA.cell b2 (o2 + j) = some u) {r : Bool} (H : pred_Holds_2_cp_cp a0 a1 a2 = some r) : CallsV Try.prog 25 #[.int .i64 a0, .pointer (some ⟨b1, o1, none⟩), .pointer (some ⟨b2, o2, none⟩)] w0 (.bool r) := by
  unfold pred_Holds_2_cp_cp at H
  refine enter (args := [.int .i64 a0, .pointer (some ⟨b1, o1, none⟩), .pointer (some ⟨b2, o2, none⟩)]) Try.func25 rfl Try.ntmps25 rfl fun a hK => ?_
  have hS := St.init (R := fun _ => none) (w := w0) (fun _ _ h => by cases h)
  have hRL := RLe.refl (M := []) w0 (fun _ => none)
  refine wp_seq ?_
  refine wp_region_lit ?_
  refine sl hK (by decide) rfl rfl (r_assign hK rfl) fun a hK => ?_
  refine wpList_nil ?_
  refine wp_seq ?_
  refine wp_region_lit ?_
  refine sl hK (by decide) rfl rfl (r_fieldAddr Try.underlying51 rfl Try.sizeOf47 hK rfl) fun a hK => ?_
  refine sl hK (by decide) rfl rfl (r_load Try.isAgg47 hK rfl ((hS.ra hRA nil_not).cell (hc1 16 _ rfl))) fun a hK => ?_
  refine sl hK (by decide) rfl rfl (r_len_R Try.underlying47 h1_0 hK rfl) fun a hK => ?_
  refine sl hK (by decide) rfl rfl (r_move hK rfl) fun a hK => ?_
  refine sl hK (by decide) rfl rfl (r_ibin hK rfl rfl rfl) fun a hK => ?_
  refine sl hK (by decide) rfl rfl (r_move hK rfl) fun a hK => ?_
  rcases or_b ((a1.L.length : Int) == a0) with hb_1 | hb_1
  · rw [ifb_t hb_1] at H
    refine sl hK (by decide) (wtt hb_1) rfl (r_fieldAddr Try.underlying51 rfl Try.sizeOf47 hK rfl) fun a hK => ?_
    refine sl hK (by decide) (wtt hb_1) rfl (r_load Try.isAgg47 hK rfl ((hS.ra hRA nil_not).cell (hc1 16 _ rfl))) fun a hK => ?_
    refine sl hK (by decide) (wtt hb_1) rfl (r_func (us := []) (vs := [.pointer (some ⟨b2, o2, none⟩)]) rfl (hK.evs rfl)) fun a hK => ?_
    obtain ⟨y_2, h_3, H⟩ := bind_some H
    refine sl_callV Try.call26 hS hK (by decide) (wtt hb_1) rfl rfl (slices_ContainsFunc_int_int_f_pred_Holds_2_1p.calls a1.L a2 (lentOf_sub [] _) (h1_0.mono (hS.raLe0 hRA nil_not)) (fun j u hu => Hp.cell_le (hS.raLe0 hRA nil_not) (hc2 j u hu)) h_3) fun a w hS hK => ?_
    refine sl hK (by decide) (wtt hb_1) rfl (r_un hK rfl (u_not _)) fun a hK => ?_
    refine sl hK (by decide) rfl rfl (r_pick_t hb_1 hK rfl rfl) fun a hK => ?_
    refine sl hK (by decide) rfl rfl (r_assign hK rfl) fun a hK => ?_
    refine wpList_nil ?_
    obtain rfl := Option.some.inj H
    refine wp_ret ?_
    repeat (first | refine ret_then ?_ | refine ret_block ?_ | refine ret_scope ?_)
    exact ret_1 Try.results25 hK (rv_tmp hK rfl) ⟨rfl, hS.bel⟩
  · rw [ifb_f hb_1] at H
    refine sl_skip hK (by decide) (wtf hb_1) rfl fun a hK => ?_
    refine sl_skip hK (by decide) (wtf hb_1) rfl fun a hK => ?_
    refine sl_skip hK (by decide) (wtf hb_1) rfl fun a hK => ?_
    refine sl_skip hK (by decide) (wtf hb_1) rfl fun a hK => ?_
    refine sl_skip hK (by decide) (wtf hb_1) rfl fun a hK => ?_
    refine sl hK (by decide) rfl rfl (r_pick_f hb_1 hK rfl rfl) fun a hK => ?_
    refine sl hK (by decide) rfl rfl (r_assign hK rfl) fun a hK => ?_
    refine wpList_nil ?_
    obtain rfl := Option.some.inj H
    refine wp_ret ?_
    repeat (first | refine ret_then ?_ | refine ret_block ?_ | refine ret_scope ?_)
    exact ret_1 Try.results25 hK (rv_tmp hK rfl) ⟨rfl, hS.bel⟩

/-! ### catchment/pred.Holds: function 12 -/
set_option maxHeartbeats 4000000 in
set_option maxRecDepth 100000 in
theorem pred_Holds.calls (a0 : api_Query) (a1 : Int) (a2 : List api_Col) (a3 : List api_Value) {w0 : World} {RA : Hp} {v0_0 : Value} {v2_0 : Value} {v3_0 : Value} (hRA : RA.sub w0) (h0_0 : SlR ty_api_Node RA v0_0 a0.N) (h2_0 : SlR ty_api_Col RA v2_0 a2) (h3_0 : SlR ty_api_Value RA v3_0 a3) (hG : GF RA) {r : Bool} (H : pred_Holds a0 a1 a2 a3 = some r) : CallsV Try.prog 12 #[.agg #[v0_0], .int .i64 a1, v2_0, v3_0] w0 (.bool r) := by
  unfold pred_Holds at H
  refine enter (args := [.agg #[v0_0], .int .i64 a1, v2_0, v3_0]) Try.func12 rfl Try.ntmps12 rfl fun a hK => ?_
  have hS := St.init (R := fun _ => none) (w := w0) (fun _ _ h => by cases h)
  have hRL := RLe.refl (M := []) w0 (fun _ => none)
  refine wp_seq ?_
  refine wp_region_lit ?_
  refine sl_box hS hK (by decide) rfl rfl (c := [v0_0]) rfl fun a w b_1 hS hK => ?_
  refine sl_box hS hK (by decide) rfl rfl (c := [v2_0]) (cellsA h2_0.one) fun a w b_2 hS hK => ?_
  refine sl_box hS hK (by decide) rfl rfl (c := [v3_0]) (cellsA h3_0.one) fun a w b_3 hS hK => ?_
  refine sl hK (by decide) rfl rfl (r_assign hK rfl) fun a hK => ?_
  refine wpList_nil ?_
  refine wp_seq ?_
  refine wp_seq ?_
  refine wp_mid (fun a w => ∃ (x_5 : Bool), pred_Holds.j0 a0 a1 a2 a3 x_5 = some r ∧ Kn 162 a [(1, .int .i64 a1), (4, .pointer (some ⟨b_1, 0, none⟩)), (6, .pointer (some ⟨b_2, 0, none⟩)), (7, .pointer (some ⟨b_3, 0, none⟩)), (26, .bool x_5)] ∧ St [] w0 w (fun _ => none) [.cells b_1 [v0_0] 24, .cells b_2 [v2_0] 25, .cells b_3 [v3_0] 33]) ?_ ?_
  · refine wp_region_lit ?_
    refine sl hK (by decide) rfl rfl (r_move hK rfl) fun a hK => ?_
    refine sl hK (by decide) rfl rfl (r_ibin hK rfl rfl rfl) fun a hK => ?_
    refine sl hK (by decide) rfl rfl (r_move hK rfl) fun a hK => ?_
    rcases or_b (decide (a1 < 0)) with hb_7 | hb_7
    · rw [ifb_t hb_7] at H
      refine sl_skip hK (by decide) (wft hb_7) rfl fun a hK => ?_
      refine sl_skip hK (by decide) (wft hb_7) rfl fun a hK => ?_
      refine sl_skip hK (by decide) (wft hb_7) rfl fun a hK => ?_
      refine sl_skip hK (by decide) (wft hb_7) rfl fun a hK => ?_
      refine sl_skip hK (by decide) (wft hb_7) rfl fun a hK => ?_
      refine sl hK (by decide) rfl rfl (r_pick_t hb_7 hK rfl rfl) fun a hK => ?_
      refine wpList_nil ?_
      have hS := hS.pk1
      have hS := hS.pk2
      exact ⟨true, H, hK.sub (all_cons rfl (all_cons rfl (all_cons rfl (all_cons rfl (all_cons rfl (all_nil)))))), hS⟩
    · rw [ifb_f hb_7] at H
      refine sl hK (by decide) (wff hb_7) rfl (r_move hK rfl) fun a hK => ?_
      refine sl hK (by decide) (wff hb_7) rfl (r_fieldAddr Try.underlying24 rfl Try.sizeOf22 hK rfl) fun a hK => ?_
      refine sl hK (by decide) (wff hb_7) rfl (r_load Try.isAgg22 hK rfl (hS.cell (.tail _ (.tail _ (.head _))) rfl)) fun a hK => ?_
      refine sl hK (by decide) (wff hb_7) rfl (r_len_R Try.underlying22 h0_0 hK rfl) fun a hK => ?_
      refine sl hK (by decide) (wff hb_7) rfl (r_ibin hK rfl rfl rfl) fun a hK => ?_
      refine sl hK (by decide) rfl rfl (r_pick_f hb_7 hK rfl rfl) fun a hK => ?_
      refine wpList_nil ?_
      have hS := hS.pk1
      have hS := hS.pk2
      exact ⟨(decide (a1 ≥ (a0.N.length : Int))), H, hK.sub (all_cons rfl (all_cons rfl (all_cons rfl (all_cons rfl (all_cons rfl (all_nil)))))), hS⟩
  · rintro a w ⟨x_5, H, hK, hS⟩
    unfold pred_Holds.j0 at H
    refine wp_cond_split (hK.ev rfl) (fun (hb_8 : x_5 = true) => ?_) (fun (hb_8 : x_5 = false) => ?_)
    · rw [ifb_t hb_8] at H
      refine wp_seq ?_
      refine wp_region_lit ?_
      refine sl hK (by decide) rfl rfl (r_assign hK rfl) fun a hK => ?_
      refine wpList_nil ?_
      obtain rfl := Option.some.inj H
      refine wp_ret ?_
      repeat (first | refine ret_then ?_ | refine ret_block ?_ | refine ret_scope ?_)
      exact ret_1 Try.results12 hK (rv_tmp hK rfl) ⟨rfl, hS.bel⟩
    · rw [ifb_f hb_8] at H
      refine wp_skip ?_
      refine wp_seq ?_
      refine wp_region_lit ?_
      refine sl hK (by decide) rfl rfl (r_move hK rfl) fun a hK => ?_
      refine sl hK (by decide) rfl rfl (r_ibin hK rfl rfl rfl) fun a hK => ?_
      obtain ⟨y_9, h_10, H⟩ := bind_some H
      refine sl_make (ty := tyBool) (c0 := .bool false) (z := false) elT59 (by decide) rfl Try.zeroValue4 rfl rfl h_10 hS hK (by decide) rfl rfl rfl fun a w v_11 cs_12 hq_13 hS hK => ?_
      refine sl hK (by decide) rfl rfl (r_assign hK rfl) fun a hK => ?_
      refine wpList_nil ?_
      refine wp_seq ?_
      refine wp_region_lit ?_
      refine sl hK (by decide) rfl rfl (r_func (us := []) (vs := [.pointer (some ⟨b_2, 0, none⟩), .pointer (some ⟨b_3, 0, none⟩)]) rfl (hK.evs rfl)) fun a hK => ?_
      refine sl hK (by decide) rfl rfl (r_assign hK rfl) fun a hK => ?_
      refine wpList_nil ?_
      refine wp_seq ?_
      refine wp_seq ?_
      refine wp_region_lit ?_
      refine sl hK (by decide) rfl rfl (r_fieldAddr Try.underlying24 rfl Try.sizeOf22 hK rfl) fun a hK => ?_
      refine sl hK (by decide) rfl rfl (r_load Try.isAgg22 hK rfl (hS.cell (.tail _ (.head _)) rfl)) fun a hK => ?_
      refine sl hK (by decide) rfl rfl (r_move hK rfl) fun a hK => ?_
      refine sl hK (by decide) rfl rfl (r_ibin hK rfl rfl rfl) fun a hK => ?_
      obtain ⟨y_15, h_16, H⟩ := bind_some H
      obtain ⟨v_17, hs_18, hr_19⟩ := r_slice_R (x := .tmp 32) (lo := none) (hi := some (.tmp 34)) Try.underlying22 Try.sizeOf51 h0_0 h_16 hK rfl rfl ⟨_, rfl⟩
      refine sl hK (by decide) rfl rfl (hr_19 _ _ _ _ _ _ _ hK) fun a hK => ?_
      refine sl hK (by decide) rfl rfl (r_len_R Try.underlying22 hs_18 hK rfl) fun a hK => ?_
      refine sl hK (by decide) rfl rfl (r_move hK rfl) fun a hK => ?_
      refine wpList_nil ?_
      refine wp_block ?_
      refine wp_loop_k (fun k_l1 a w => ∃ (x_18270 : List Bool) (x_18274 : Int) (v_18271 : Value) (cs_18272 : List Value), pred_Holds.l1 a1 a2 a3 y_15 k_l1 x_18270 x_18274 = some r ∧ Reps tyBool (fun _ => none) cs_18272 x_18270 ∧ Kn 162 a [(1, .int .i64 a1), (9, v_18271), (10, .func (.func 23) #[] #[.pointer (some ⟨b_2, 0, none⟩), .pointer (some ⟨b_3, 0, none⟩)]), (35, v_17), (36, .int .i64 (y_15.length : Int)), (37, .int .i64 x_18274)] ∧ St [] w0 w (fun _ => none) [.row 4 1 v_18271 x_18270.length cs_18272, .cells b_2 [v2_0] 25, .cells b_3 [v3_0] 33]) (((y_15.length : Int) - 0).toNat + 1) ?_ ?_
      · have hS := hS.pk3
        have hS := hS.pk3
        have hS := hS.pk2
        exact ⟨y_9, 0, _, _, H, hq_13, hK.sub (all_cons rfl (all_cons rfl (all_cons rfl (all_cons rfl (all_cons rfl (all_cons rfl (all_nil))))))), hS.trunc 3⟩
      · rintro k_l1 a w ⟨x_18270, x_18274, v_18271, cs_18272, H, hq_18273, hK, hS⟩
        cases k_l1 with
        | zero => cases H
        | succ k_l1 =>
        rw [pred_Holds.l1.eq_2] at H
        refine wp_seq ?_
        refine wp_region_lit ?_
        refine sl hK (by decide) rfl rfl (r_ibin hK rfl rfl rfl) fun a hK => ?_
        refine wpList_nil ?_
        refine wp_seq ?_
        refine wp_cond_split (hK.ev rfl) (fun (hb_36524 : (decide (x_18274 < (y_15.length : Int))) = true) => ?_) (fun (hb_36524 : (decide (x_18274 < (y_15.length : Int))) = false) => ?_)
        · rw [ifb_t hb_36524] at H
          refine wp_skip ?_
          refine wp_seq ?_
          refine wp_block ?_
          refine wp_seq ?_
          refine wp_region_lit ?_
          refine sl hK (by decide) rfl rfl (r_move hK rfl) fun a hK => ?_
          obtain ⟨y_36525, h_36526, H⟩ := bind_some H
          obtain ⟨b_36527, o_36528, c_36529, cs_36530, hv_36531, hr_36532, hc_36533, h_365260, h_365261⟩ := hs_18.ix h_36526
          obtain ⟨v_36534, v_36536, v_36538, rfl, hs_36535, hs_36537, hs_36539⟩ := hr_36532
          refine sl hK (by decide) rfl rfl (r_indexAddr_R Try.underlying22 Try.sizeOf51 hv_36531 h_365260 h_365261 hK rfl rfl) fun a hK => ?_
          refine sl hK (by decide) rfl rfl (r_loadA (cs := [.int .i64 y_36525.Kind, .string y_36525.S, .int .i64 y_36525.N, .int .i64 y_36525.From, .int .i64 y_36525.To, .int .i64 y_36525.V.Kind, .int .i64 y_36525.V.N, .string y_36525.V.S, .int .i64 y_36525.V.H.a0, .int .i64 y_36525.V.H.a1, .int .i64 y_36525.V.H.a2, .int .i64 y_36525.V.H.a3, .int .i64 y_36525.V.H.a4, .int .i64 y_36525.V.H.a5, .int .i64 y_36525.V.H.a6, .int .i64 y_36525.V.H.a7, v_36534, v_36536, v_36538]) Try.isAgg51 Try.sizeOf51 rfl hK rfl (fun j v hv => (hS.ra hRA nil_not).cell (hc_36533 j v hv))) fun a hK => ?_
          refine sl_alloc Try.zeroValue3 hS hK (by decide) rfl rfl fun a w b_36540 hS hK => ?_
          refine sl_alloc Try.zeroValue51 hS hK (by decide) rfl rfl fun a w b_36541 hS hK => ?_
          have hS := hS.pk1
          refine sl_store1 (c' := [.int .i64 x_18274]) Try.sizeOf3 hS hK rfl rfl rfl rfl (Nat.le_of_ble_eq_true rfl) rfl fun a w hS hK => ?_
          have hS := hS.pk1
          refine sl_storeA (vs := [.int .i64 y_36525.Kind, .string y_36525.S, .int .i64 y_36525.N, .int .i64 y_36525.From, .int .i64 y_36525.To, .int .i64 y_36525.V.Kind, .int .i64 y_36525.V.N, .string y_36525.V.S, .int .i64 y_36525.V.H.a0, .int .i64 y_36525.V.H.a1, .int .i64 y_36525.V.H.a2, .int .i64 y_36525.V.H.a3, .int .i64 y_36525.V.H.a4, .int .i64 y_36525.V.H.a5, .int .i64 y_36525.V.H.a6, .int .i64 y_36525.V.H.a7, v_36534, v_36536, v_36538]) (c' := [.int .i64 y_36525.Kind, .string y_36525.S, .int .i64 y_36525.N, .int .i64 y_36525.From, .int .i64 y_36525.To, .int .i64 y_36525.V.Kind, .int .i64 y_36525.V.N, .string y_36525.V.S, .int .i64 y_36525.V.H.a0, .int .i64 y_36525.V.H.a1, .int .i64 y_36525.V.H.a2, .int .i64 y_36525.V.H.a3, .int .i64 y_36525.V.H.a4, .int .i64 y_36525.V.H.a5, .int .i64 y_36525.V.H.a6, .int .i64 y_36525.V.H.a7, v_36534, v_36536, v_36538]) Try.sizeOf51 hS hK rfl rfl rfl rfl (all_cons rfl (all_cons rfl (all_cons rfl (all_cons rfl (all_cons rfl (all_cons rfl (all_cons rfl (all_cons rfl (all_cons rfl (all_cons rfl (all_cons rfl (all_cons rfl (all_cons rfl (all_cons rfl (all_cons rfl (all_cons rfl (all_cons hs_36535.one (all_cons hs_36537.one (all_cons hs_36539.one (all_nil)))))))))))))))))))) (Nat.le_of_ble_eq_true rfl) rfl fun a w hS hK => ?_
          refine wpList_nil ?_
          refine wp_seq ?_
          refine wp_region_lit ?_
          refine sl hK (by decide) rfl rfl (r_func (us := []) (vs := [.pointer (some ⟨b_36541, 0, none⟩), .pointer (some ⟨b_36540, 0, none⟩)]) rfl (hK.evs rfl)) fun a hK => ?_
          refine sl hK (by decide) rfl rfl (r_assign hK rfl) fun a hK => ?_
          refine wpList_nil ?_
          refine wp_seq ?_
          refine wp_region_lit ?_
          refine sl hK (by decide) rfl rfl (r_fieldAddr Try.underlying51 rfl Try.sizeOf3 hK rfl) fun a hK => ?_
          refine sl hK (by decide) rfl rfl (r_load Try.isAgg3 hK rfl (hS.cell (.head _) rfl)) fun a hK => ?_
          refine wpList_nil ?_
          refine wp_block ?_
          refine wp_seq ?_
          refine wp_region_lit ?_
          refine sl hK (by decide) rfl rfl (r_ibin hK rfl rfl rfl) fun a hK => ?_
          refine sl hK (by decide) rfl rfl (r_assign hK rfl) fun a hK => ?_
          refine wpList_nil ?_
          refine wp_mid (fun a w => ∃ (x_45655 : List Bool) (v_45656 : Value) (cs_45657 : List Value), pred_Holds.j2 (pred_Holds.l1 a1 a2 a3 y_15 k_l1) y_15 x_18274 x_45655 = some r ∧ Reps tyBool (fun _ => none) cs_45657 x_45655 ∧ Kn 162 a [(1, .int .i64 a1), (9, v_45656), (10, .func (.func 23) #[] #[.pointer (some ⟨b_2, 0, none⟩), .pointer (some ⟨b_3, 0, none⟩)]), (35, v_17), (36, .int .i64 (y_15.length : Int)), (37, .int .i64 x_18274)] ∧ St [] w0 w (fun _ => none) [.row 4 1 v_45656 x_45655.length cs_45657, .cells b_2 [v2_0] 25, .cells b_3 [v3_0] 33]) ?_ ?_
          · refine wp_cond_split (hK.ev rfl) (fun (hb_45660 : (y_36525.Kind == 14) = true) => ?_) (fun (hb_45660 : (y_36525.Kind == 14) = false) => ?_)
            · rw [ifb_t hb_45660] at H
              refine wp_seq ?_
              refine wp_region_lit ?_
              refine sl hK (by decide) rfl rfl (r_move hK rfl) fun a hK => ?_
              refine sl hK (by decide) rfl rfl (r_loadA (cs := [.int .i64 y_36525.Kind, .string y_36525.S, .int .i64 y_36525.N, .int .i64 y_36525.From, .int .i64 y_36525.To, .int .i64 y_36525.V.Kind, .int .i64 y_36525.V.N, .string y_36525.V.S, .int .i64 y_36525.V.H.a0, .int .i64 y_36525.V.H.a1, .int .i64 y_36525.V.H.a2, .int .i64 y_36525.V.H.a3, .int .i64 y_36525.V.H.a4, .int .i64 y_36525.V.H.a5, .int .i64 y_36525.V.H.a6, .int .i64 y_36525.V.H.a7, v_36534, v_36536, v_36538]) Try.isAgg51 Try.sizeOf51 rfl hK rfl (hS.cells_of (m := 19) (.head _) rfl)) fun a hK => ?_
              obtain ⟨y_45661, h_45662, H⟩ := bind_some H
              refine sl_callV Try.call23 hS hK (by decide) rfl rfl rfl (pred_Holds_1_cp_cp.calls y_36525 a2 a3 (lentOf_sub [] _) (hs_36535.mono (hS.raLe0 hRA nil_not)) (hs_36537.mono (hS.raLe0 hRA nil_not)) (hs_36539.mono (hS.raLe0 hRA nil_not)) (hS.lend_box0 (.tail _ (.tail _ (.tail _ (.head _))))) (h2_0.mono (hS.raLe0 hRA nil_not)) (hS.lend_box0 (.tail _ (.tail _ (.tail _ (.tail _ (.head _)))))) (h3_0.mono (hS.raLe0 hRA nil_not)) h_45662) fun a w hS hK => ?_
              refine sl hK (by decide) rfl rfl (r_move hK rfl) fun a hK => ?_
              refine sl hK (by decide) rfl rfl (r_extract hK rfl rfl) fun a hK => ?_
              refine sl hK (by decide) rfl rfl (r_extract hK rfl rfl) fun a hK => ?_
              refine sl_alloc Try.zeroValue39 hS hK (by decide) rfl rfl fun a w b_45663 hS hK => ?_
              refine sl_storeA (vs := [.int .i64 y_45661.1.Kind, .int .i64 y_45661.1.N, .string y_45661.1.S, .int .i64 y_45661.1.H.a0, .int .i64 y_45661.1.H.a1, .int .i64 y_45661.1.H.a2, .int .i64 y_45661.1.H.a3, .int .i64 y_45661.1.H.a4, .int .i64 y_45661.1.H.a5, .int .i64 y_45661.1.H.a6, .int .i64 y_45661.1.H.a7]) (c' := [.int .i64 y_45661.1.Kind, .int .i64 y_45661.1.N, .string y_45661.1.S, .int .i64 y_45661.1.H.a0, .int .i64 y_45661.1.H.a1, .int .i64 y_45661.1.H.a2, .int .i64 y_45661.1.H.a3, .int .i64 y_45661.1.H.a4, .int .i64 y_45661.1.H.a5, .int .i64 y_45661.1.H.a6, .int .i64 y_45661.1.H.a7]) Try.sizeOf39 hS hK rfl rfl rfl rfl (all_cons rfl (all_cons rfl (all_cons rfl (all_cons rfl (all_cons rfl (all_cons rfl (all_cons rfl (all_cons rfl (all_cons rfl (all_cons rfl (all_cons rfl (all_nil)))))))))))) (Nat.le_of_ble_eq_true rfl) rfl fun a w hS hK => ?_
              refine sl hK (by decide) rfl rfl (r_assign hK rfl) fun a hK => ?_
              refine wpList_nil ?_
              refine wp_mid (fun a w => ∃ (x_45715 : List Bool) (v_45716 : Value) (cs_45717 : List Value), pred_Holds.j3 (pred_Holds.l1 a1 a2 a3 y_15 k_l1) y_15 x_18274 x_45715 = some r ∧ Reps tyBool (fun _ => none) cs_45717 x_45715 ∧ Kn 162 a [(1, .int .i64 a1), (9, v_45716), (10, .func (.func 23) #[] #[.pointer (some ⟨b_2, 0, none⟩), .pointer (some ⟨b_3, 0, none⟩)]), (35, v_17), (36, .int .i64 (y_15.length : Int)), (37, .int .i64 x_18274)] ∧ St [] w0 w (fun _ => none) [.row 4 1 v_45716 x_45715.length cs_45717, .cells b_2 [v2_0] 25, .cells b_3 [v3_0] 33]) ?_ ?_
              · refine parT_region (C := fun w => St [] w0 w (fun _ => none) [.cells b_45663 [.int .i64 y_45661.1.Kind, .int .i64 y_45661.1.N, .string y_45661.1.S, .int .i64 y_45661.1.H.a0, .int .i64 y_45661.1.H.a1, .int .i64 y_45661.1.H.a2, .int .i64 y_45661.1.H.a3, .int .i64 y_45661.1.H.a4, .int .i64 y_45661.1.H.a5, .int .i64 y_45661.1.H.a6, .int .i64 y_45661.1.H.a7] 39, .cells b_36541 [.int .i64 y_36525.Kind, .string y_36525.S, .int .i64 y_36525.N, .int .i64 y_36525.From, .int .i64 y_36525.To, .int .i64 y_36525.V.Kind, .int .i64 y_36525.V.N, .string y_36525.V.S, .int .i64 y_36525.V.H.a0, .int .i64 y_36525.V.H.a1, .int .i64 y_36525.V.H.a2, .int .i64 y_36525.V.H.a3, .int .i64 y_36525.V.H.a4, .int .i64 y_36525.V.H.a5, .int .i64 y_36525.V.H.a6, .int .i64 y_36525.V.H.a7, v_36534, v_36536, v_36538] 51, .cells b_36540 [.int .i64 x_18274] 3, .row 4 1 v_18271 x_18270.length cs_18272, .cells b_2 [v2_0] 25, .cells b_3 [v3_0] 33]) 11 [(0, true), (1, true), (2, true), (3, true), (4, true), (5, true), (6, true), (7, true), (8, true), (9, false), (10, true)] mixed (by kernel_rfl) hS (fun w hS => hS) fun w hS => ?_
                refine sp (k := 0) rfl hK (by decide) rfl rfl (fun w hS => r_move hK rfl) fun a hK => ?_
                refine sp (k := 1) rfl hK (by decide) rfl rfl (fun w hS => r_load Try.isAgg3 hK rfl (hS.cell (.tail _ (.tail _ (.head _))) rfl)) fun a hK => ?_
                refine sp (k := 2) rfl hK (by decide) rfl rfl (fun w hS => r_move hK rfl) fun a hK => ?_
                refine sp (k := 3) rfl hK (by decide) rfl rfl (fun w hS => r_move hK rfl) fun a hK => ?_
                rcases or_b y_45661.2 with hb_45745 | hb_45745
                · rw [ifb_t hb_45745] at H
                  refine sp (k := 4) rfl hK (by decide) (wtt hb_45745) rfl (fun w hS => r_fieldAddr Try.underlying51 rfl Try.sizeOf3 hK rfl) fun a hK => ?_
                  refine sp (k := 5) rfl hK (by decide) (wtt hb_45745) rfl (fun w hS => r_load Try.isAgg3 hK rfl (hS.cell (.tail _ (.head _)) rfl)) fun a hK => ?_
                  refine sp (k := 6) rfl hK (by decide) (wtt hb_45745) rfl (fun w hS => r_loadA (cs := [.int .i64 y_45661.1.Kind, .int .i64 y_45661.1.N, .string y_45661.1.S, .int .i64 y_45661.1.H.a0, .int .i64 y_45661.1.H.a1, .int .i64 y_45661.1.H.a2, .int .i64 y_45661.1.H.a3, .int .i64 y_45661.1.H.a4, .int .i64 y_45661.1.H.a5, .int .i64 y_45661.1.H.a6, .int .i64 y_45661.1.H.a7]) Try.isAgg39 Try.sizeOf39 rfl hK rfl (hS.cells_of (m := 11) (.head _) rfl)) fun a hK => ?_
                  refine sp (k := 7) rfl hK (by decide) (wtt hb_45745) rfl (fun w hS => r_fieldAddr Try.underlying51 rfl Try.sizeOf39 hK rfl) fun a hK => ?_
                  refine sp (k := 8) rfl hK (by decide) (wtt hb_45745) rfl (fun w hS => r_loadA (cs := [.int .i64 y_36525.V.Kind, .int .i64 y_36525.V.N, .string y_36525.V.S, .int .i64 y_36525.V.H.a0, .int .i64 y_36525.V.H.a1, .int .i64 y_36525.V.H.a2, .int .i64 y_36525.V.H.a3, .int .i64 y_36525.V.H.a4, .int .i64 y_36525.V.H.a5, .int .i64 y_36525.V.H.a6, .int .i64 y_36525.V.H.a7]) Try.isAgg39 Try.sizeOf39 rfl hK rfl (hS.cells_of (m := 11) (.tail _ (.head _)) rfl)) fun a hK => ?_
                  refine spw (k := 9) rfl rfl hS ?_
                  obtain ⟨y_45746, h_45747, H⟩ := bind_some H
                  refine sl_callV Try.call28 hS hK (by decide) (wtt hb_45745) rfl rfl (value_Holds.calls y_36525.N y_45661.1 y_36525.V h_45747 _) fun a w hS hK => ?_
                  refine parK_nil hS ?_
                  refine sp (k := 10) rfl hK (by decide) rfl rfl (fun w hS => r_pick_t hb_45745 hK rfl rfl) fun a hK => ?_
                  refine thenL_nil ?_
                  obtain ⟨y_45748, h_45749, H⟩ := bind_some H
                  obtain ⟨b_45751, c_45752, cs_45753, hv_45750, hr_45754, hc_45755, h_457490, h_457491⟩ := hS.row_ix (.tail _ (.tail _ (.tail _ (.head _)))) hq_18273 rfl rfl h_45749
                  subst hr_45754
                  refine sl hK (by decide) rfl rfl (r_indexAddr_R Try.underlying59 Try.sizeOf4 hv_45750 h_457490 h_457491 hK rfl rfl) fun a hK => ?_
                  have hS := hS.pk3
                  refine sl_store_row Try.sizeOf4 hv_45750 h_45749 rfl (show Ty.rep tyBool _ [.bool y_45746] y_45746 from rfl) hq_18273 rfl hS hK rfl rfl rfl rfl fun a w cs_45756 hq_45757 hS hK => ?_
                  refine wpList_nil (NoP_nil ?_)
                  have hS := hS.pk5
                  have hS := hS.pk5
                  have hS := hS.pk2
                  exact ⟨(upd x_18270 x_18274 y_45746), _, _, H, hq_45757, hK.sub (all_cons rfl (all_cons rfl (all_cons rfl (all_cons rfl (all_cons rfl (all_cons rfl (all_nil))))))), hS.trunc 3⟩
                · rw [ifb_f hb_45745] at H
                  refine sp_skip (k := 4) rfl hK (by decide) (wtf hb_45745) rfl fun a hK => ?_
                  refine sp_skip (k := 5) rfl hK (by decide) (wtf hb_45745) rfl fun a hK => ?_
                  refine sp_skip (k := 6) rfl hK (by decide) (wtf hb_45745) rfl fun a hK => ?_
                  refine sp_skip (k := 7) rfl hK (by decide) (wtf hb_45745) rfl fun a hK => ?_
                  refine sp_skip (k := 8) rfl hK (by decide) (wtf hb_45745) rfl fun a hK => ?_
                  refine spw (k := 9) rfl rfl hS ?_
                  refine sl_skip hK (by decide) (wtf hb_45745) rfl fun a hK => ?_
                  refine parK_nil hS ?_
                  refine sp (k := 10) rfl hK (by decide) rfl rfl (fun w hS => r_pick_f hb_45745 hK rfl rfl) fun a hK => ?_
                  refine thenL_nil ?_
                  obtain ⟨y_45759, h_45760, H⟩ := bind_some H
                  obtain ⟨b_45762, c_45763, cs_45764, hv_45761, hr_45765, hc_45766, h_457600, h_457601⟩ := hS.row_ix (.tail _ (.tail _ (.tail _ (.head _)))) hq_18273 rfl rfl h_45760
                  subst hr_45765
                  refine sl hK (by decide) rfl rfl (r_indexAddr_R Try.underlying59 Try.sizeOf4 hv_45761 h_457600 h_457601 hK rfl rfl) fun a hK => ?_
                  have hS := hS.pk3
                  refine sl_store_row Try.sizeOf4 hv_45761 h_45760 rfl (show Ty.rep tyBool _ [.bool false] false from rfl) hq_18273 rfl hS hK rfl rfl rfl rfl fun a w cs_45767 hq_45768 hS hK => ?_
                  refine wpList_nil (NoP_nil ?_)
                  have hS := hS.pk5
                  have hS := hS.pk5
                  have hS := hS.pk2
                  exact ⟨(upd x_18270 x_18274 false), _, _, H, hq_45768, hK.sub (all_cons rfl (all_cons rfl (all_cons rfl (all_cons rfl (all_cons rfl (all_cons rfl (all_nil))))))), hS.trunc 3⟩
              · rintro a w ⟨x_45715, v_45716, cs_45717, H, hq_45718, hK, hS⟩
                unfold pred_Holds.j3 at H
                have hS := hS.pk2
                have hS := hS.pk2
                have hS := hS.pk2
                exact ⟨x_45715, _, _, H, hq_45718, hK.sub (all_cons rfl (all_cons rfl (all_cons rfl (all_cons rfl (all_cons rfl (all_cons rfl (all_nil))))))), hS⟩
            · rw [ifb_f hb_45660] at H
              refine wp_seq ?_
              refine wp_region_lit ?_
              refine sl hK (by decide) rfl rfl (r_ibin hK rfl rfl rfl) fun a hK => ?_
              refine sl hK (by decide) rfl rfl (r_assign hK rfl) fun a hK => ?_
              refine wpList_nil ?_
              refine wp_mid (fun a w => ∃ (x_50269 : List Bool) (v_50270 : Value) (cs_50271 : List Value), pred_Holds.j4 (pred_Holds.l1 a1 a2 a3 y_15 k_l1) y_15 x_18274 x_50269 = some r ∧ Reps tyBool (fun _ => none) cs_50271 x_50269 ∧ Kn 162 a [(1, .int .i64 a1), (9, v_50270), (10, .func (.func 23) #[] #[.pointer (some ⟨b_2, 0, none⟩), .pointer (some ⟨b_3, 0, none⟩)]), (35, v_17), (36, .int .i64 (y_15.length : Int)), (37, .int .i64 x_18274)] ∧ St [] w0 w (fun _ => none) [.row 4 1 v_50270 x_50269.length cs_50271, .cells b_2 [v2_0] 25, .cells b_3 [v3_0] 33]) ?_ ?_
              · refine wp_cond_split (hK.ev rfl) (fun (hb_50274 : (y_36525.Kind == 15) = true) => ?_) (fun (hb_50274 : (y_36525.Kind == 15) = false) => ?_)
                · rw [ifb_t hb_50274] at H
                  refine wp_seq ?_
                  refine wp_region_lit ?_
                  refine sl hK (by decide) rfl rfl (r_move hK rfl) fun a hK => ?_
                  refine sl hK (by decide) rfl rfl (r_loadA (cs := [.int .i64 y_36525.Kind, .string y_36525.S, .int .i64 y_36525.N, .int .i64 y_36525.From, .int .i64 y_36525.To, .int .i64 y_36525.V.Kind, .int .i64 y_36525.V.N, .string y_36525.V.S, .int .i64 y_36525.V.H.a0, .int .i64 y_36525.V.H.a1, .int .i64 y_36525.V.H.a2, .int .i64 y_36525.V.H.a3, .int .i64 y_36525.V.H.a4, .int .i64 y_36525.V.H.a5, .int .i64 y_36525.V.H.a6, .int .i64 y_36525.V.H.a7, v_36534, v_36536, v_36538]) Try.isAgg51 Try.sizeOf51 rfl hK rfl (hS.cells_of (m := 19) (.head _) rfl)) fun a hK => ?_
                  obtain ⟨y_50275, h_50276, H⟩ := bind_some H
                  refine sl_callV Try.call23 hS hK (by decide) rfl rfl rfl (pred_Holds_1_cp_cp.calls y_36525 a2 a3 (lentOf_sub [] _) (hs_36535.mono (hS.raLe0 hRA nil_not)) (hs_36537.mono (hS.raLe0 hRA nil_not)) (hs_36539.mono (hS.raLe0 hRA nil_not)) (hS.lend_box0 (.tail _ (.tail _ (.tail _ (.head _))))) (h2_0.mono (hS.raLe0 hRA nil_not)) (hS.lend_box0 (.tail _ (.tail _ (.tail _ (.tail _ (.head _)))))) (h3_0.mono (hS.raLe0 hRA nil_not)) h_50276) fun a w hS hK => ?_
                  refine sl hK (by decide) rfl rfl (r_move hK rfl) fun a hK => ?_
                  refine sl hK (by decide) rfl rfl (r_extract hK rfl rfl) fun a hK => ?_
                  refine sl hK (by decide) rfl rfl (r_extract hK rfl rfl) fun a hK => ?_
                  refine sl_alloc Try.zeroValue39 hS hK (by decide) rfl rfl fun a w b_50277 hS hK => ?_
                  refine sl_storeA (vs := [.int .i64 y_50275.1.Kind, .int .i64 y_50275.1.N, .string y_50275.1.S, .int .i64 y_50275.1.H.a0, .int .i64 y_50275.1.H.a1, .int .i64 y_50275.1.H.a2, .int .i64 y_50275.1.H.a3, .int .i64 y_50275.1.H.a4, .int .i64 y_50275.1.H.a5, .int .i64 y_50275.1.H.a6, .int .i64 y_50275.1.H.a7]) (c' := [.int .i64 y_50275.1.Kind, .int .i64 y_50275.1.N, .string y_50275.1.S, .int .i64 y_50275.1.H.a0, .int .i64 y_50275.1.H.a1, .int .i64 y_50275.1.H.a2, .int .i64 y_50275.1.H.a3, .int .i64 y_50275.1.H.a4, .int .i64 y_50275.1.H.a5, .int .i64 y_50275.1.H.a6, .int .i64 y_50275.1.H.a7]) Try.sizeOf39 hS hK rfl rfl rfl rfl (all_cons rfl (all_cons rfl (all_cons rfl (all_cons rfl (all_cons rfl (all_cons rfl (all_cons rfl (all_cons rfl (all_cons rfl (all_cons rfl (all_cons rfl (all_nil)))))))))))) (Nat.le_of_ble_eq_true rfl) rfl fun a w hS hK => ?_
                  refine sl hK (by decide) rfl rfl (r_assign hK rfl) fun a hK => ?_
                  refine wpList_nil ?_
                  refine wp_mid (fun a w => ∃ (x_50353 : List Bool) (v_50354 : Value) (cs_50355 : List Value), pred_Holds.j5 (pred_Holds.l1 a1 a2 a3 y_15 k_l1) y_15 x_18274 x_50353 = some r ∧ Reps tyBool (fun _ => none) cs_50355 x_50353 ∧ Kn 162 a [(1, .int .i64 a1), (9, v_50354), (10, .func (.func 23) #[] #[.pointer (some ⟨b_2, 0, none⟩), .pointer (some ⟨b_3, 0, none⟩)]), (35, v_17), (36, .int .i64 (y_15.length : Int)), (37, .int .i64 x_18274)] ∧ St [] w0 w (fun _ => none) [.row 4 1 v_50354 x_50353.length cs_50355, .cells b_2 [v2_0] 25, .cells b_3 [v3_0] 33]) ?_ ?_
                  · refine parT_region (C := fun w => St [] w0 w (fun _ => none) [.cells b_50277 [.int .i64 y_50275.1.Kind, .int .i64 y_50275.1.N, .string y_50275.1.S, .int .i64 y_50275.1.H.a0, .int .i64 y_50275.1.H.a1, .int .i64 y_50275.1.H.a2, .int .i64 y_50275.1.H.a3, .int .i64 y_50275.1.H.a4, .int .i64 y_50275.1.H.a5, .int .i64 y_50275.1.H.a6, .int .i64 y_50275.1.H.a7] 39, .cells b_36541 [.int .i64 y_36525.Kind, .string y_36525.S, .int .i64 y_36525.N, .int .i64 y_36525.From, .int .i64 y_36525.To, .int .i64 y_36525.V.Kind, .int .i64 y_36525.V.N, .string y_36525.V.S, .int .i64 y_36525.V.H.a0, .int .i64 y_36525.V.H.a1, .int .i64 y_36525.V.H.a2, .int .i64 y_36525.V.H.a3, .int .i64 y_36525.V.H.a4, .int .i64 y_36525.V.H.a5, .int .i64 y_36525.V.H.a6, .int .i64 y_36525.V.H.a7, v_36534, v_36536, v_36538] 51, .cells b_36540 [.int .i64 x_18274] 3, .row 4 1 v_18271 x_18270.length cs_18272, .cells b_2 [v2_0] 25, .cells b_3 [v3_0] 33]) 16 [(0, true), (1, true), (2, true), (3, true), (4, true), (5, true), (6, true), (7, true), (8, true), (9, true), (10, true), (11, true), (12, true), (13, true), (14, false), (15, true)] mixed (by kernel_rfl) hS (fun w hS => hS) fun w hS => ?_
                    refine sp (k := 0) rfl hK (by decide) rfl rfl (fun w hS => r_move hK rfl) fun a hK => ?_
                    refine sp (k := 1) rfl hK (by decide) rfl rfl (fun w hS => r_load Try.isAgg3 hK rfl (hS.cell (.tail _ (.tail _ (.head _))) rfl)) fun a hK => ?_
                    refine sp (k := 2) rfl hK (by decide) rfl rfl (fun w hS => r_move hK rfl) fun a hK => ?_
                    refine sp (k := 3) rfl hK (by decide) rfl rfl (fun w hS => r_move hK rfl) fun a hK => ?_
                    rcases or_b y_50275.2 with hb_50395 | hb_50395
                    · rw [ifb_t hb_50395] at H
                      refine sp (k := 4) rfl hK (by decide) (wtt hb_50395) rfl (fun w hS => r_fieldAddr Try.underlying39 rfl Try.sizeOf3 hK rfl) fun a hK => ?_
                      refine sp (k := 5) rfl hK (by decide) (wtt hb_50395) rfl (fun w hS => r_load Try.isAgg3 hK rfl (hS.cell (.head _) rfl)) fun a hK => ?_
                      refine sp (k := 6) rfl hK (by decide) (wtt hb_50395) rfl (fun w hS => r_ibin hK rfl rfl rfl) fun a hK => ?_
                      refine sp (k := 7) rfl hK (by decide) rfl rfl (fun w hS => r_pick_t hb_50395 hK rfl rfl) fun a hK => ?_
                      refine sp (k := 8) rfl hK (by decide) rfl rfl (fun w hS => r_move hK rfl) fun a hK => ?_
                      rcases or_b (y_50275.1.Kind == 2) with hb_50396 | hb_50396
                      · rw [ifb_t hb_50396] at H
                        refine sp (k := 9) rfl hK (by decide) (wtt hb_50396) rfl (fun w hS => r_fieldAddr Try.underlying39 rfl Try.sizeOf9 hK rfl) fun a hK => ?_
                        refine sp (k := 10) rfl hK (by decide) (wtt hb_50396) rfl (fun w hS => r_load Try.isAgg9 hK rfl (hS.cell (.head _) rfl)) fun a hK => ?_
                        refine sp (k := 11) rfl hK (by decide) (wtt hb_50396) rfl (fun w hS => r_fieldAddr Try.underlying51 rfl Try.sizeOf39 hK rfl) fun a hK => ?_
                        refine sp (k := 12) rfl hK (by decide) (wtt hb_50396) rfl (fun w hS => r_fieldAddr Try.underlying39 rfl Try.sizeOf9 hK rfl) fun a hK => ?_
                        refine sp (k := 13) rfl hK (by decide) (wtt hb_50396) rfl (fun w hS => r_load Try.isAgg9 hK rfl (hS.cell (.tail _ (.head _)) rfl)) fun a hK => ?_
                        refine spw (k := 14) rfl rfl hS ?_
                        obtain ⟨y_50397, h_50398, H⟩ := bind_some H
                        refine sl_callV Try.call29 hS hK (by decide) (wtt hb_50396) rfl rfl (strings_Contains.calls y_50275.1.S y_36525.V.S (lentOf_sub [] _) (GF.mono (hS.raLe0 hRA nil_not) hG) h_50398) fun a w hS hK => ?_
                        refine parK_nil hS ?_
                        refine sp (k := 15) rfl hK (by decide) rfl rfl (fun w hS => r_pick_t hb_50396 hK rfl rfl) fun a hK => ?_
                        refine thenL_nil ?_
                        obtain ⟨y_50399, h_50400, H⟩ := bind_some H
                        obtain ⟨b_50402, c_50403, cs_50404, hv_50401, hr_50405, hc_50406, h_504000, h_504001⟩ := hS.row_ix (.tail _ (.tail _ (.tail _ (.head _)))) hq_18273 rfl rfl h_50400
                        subst hr_50405
                        refine sl hK (by decide) rfl rfl (r_indexAddr_R Try.underlying59 Try.sizeOf4 hv_50401 h_504000 h_504001 hK rfl rfl) fun a hK => ?_
                        have hS := hS.pk3
                        refine sl_store_row Try.sizeOf4 hv_50401 h_50400 rfl (show Ty.rep tyBool _ [.bool y_50397] y_50397 from rfl) hq_18273 rfl hS hK rfl rfl rfl rfl fun a w cs_50407 hq_50408 hS hK => ?_
                        refine wpList_nil (NoP_nil ?_)
                        have hS := hS.pk5
                        have hS := hS.pk5
                        have hS := hS.pk2
                        exact ⟨(upd x_18270 x_18274 y_50397), _, _, H, hq_50408, hK.sub (all_cons rfl (all_cons rfl (all_cons rfl (all_cons rfl (all_cons rfl (all_cons rfl (all_nil))))))), hS.trunc 3⟩
                      · rw [ifb_f hb_50396] at H
                        refine sp_skip (k := 9) rfl hK (by decide) (wtf hb_50396) rfl fun a hK => ?_
                        refine sp_skip (k := 10) rfl hK (by decide) (wtf hb_50396) rfl fun a hK => ?_
                        refine sp_skip (k := 11) rfl hK (by decide) (wtf hb_50396) rfl fun a hK => ?_
                        refine sp_skip (k := 12) rfl hK (by decide) (wtf hb_50396) rfl fun a hK => ?_
                        refine sp_skip (k := 13) rfl hK (by decide) (wtf hb_50396) rfl fun a hK => ?_
                        refine spw (k := 14) rfl rfl hS ?_
                        refine sl_skip hK (by decide) (wtf hb_50396) rfl fun a hK => ?_
                        refine parK_nil hS ?_
                        refine sp (k := 15) rfl hK (by decide) rfl rfl (fun w hS => r_pick_f hb_50396 hK rfl rfl) fun a hK => ?_
                        refine thenL_nil ?_
                        obtain ⟨y_50410, h_50411, H⟩ := bind_some H
                        obtain ⟨b_50413, c_50414, cs_50415, hv_50412, hr_50416, hc_50417, h_504110, h_504111⟩ := hS.row_ix (.tail _ (.tail _ (.tail _ (.head _)))) hq_18273 rfl rfl h_50411
                        subst hr_50416
                        refine sl hK (by decide) rfl rfl (r_indexAddr_R Try.underlying59 Try.sizeOf4 hv_50412 h_504110 h_504111 hK rfl rfl) fun a hK => ?_
                        have hS := hS.pk3
                        refine sl_store_row Try.sizeOf4 hv_50412 h_50411 rfl (show Ty.rep tyBool _ [.bool false] false from rfl) hq_18273 rfl hS hK rfl rfl rfl rfl fun a w cs_50418 hq_50419 hS hK => ?_
                        refine wpList_nil (NoP_nil ?_)
                        have hS := hS.pk5
                        have hS := hS.pk5
                        have hS := hS.pk2
                        exact ⟨(upd x_18270 x_18274 false), _, _, H, hq_50419, hK.sub (all_cons rfl (all_cons rfl (all_cons rfl (all_cons rfl (all_cons rfl (all_cons rfl (all_nil))))))), hS.trunc 3⟩
                    · rw [ifb_f hb_50395] at H
                      refine sp_skip (k := 4) rfl hK (by decide) (wtf hb_50395) rfl fun a hK => ?_
                      refine sp_skip (k := 5) rfl hK (by decide) (wtf hb_50395) rfl fun a hK => ?_
                      refine sp_skip (k := 6) rfl hK (by decide) (wtf hb_50395) rfl fun a hK => ?_
                      refine sp (k := 7) rfl hK (by decide) rfl rfl (fun w hS => r_pick_f hb_50395 hK rfl rfl) fun a hK => ?_
                      refine sp (k := 8) rfl hK (by decide) rfl rfl (fun w hS => r_move hK rfl) fun a hK => ?_
                      refine sp_skip (k := 9) rfl hK (by decide) rfl rfl fun a hK => ?_
                      refine sp_skip (k := 10) rfl hK (by decide) rfl rfl fun a hK => ?_
                      refine sp_skip (k := 11) rfl hK (by decide) rfl rfl fun a hK => ?_
                      refine sp_skip (k := 12) rfl hK (by decide) rfl rfl fun a hK => ?_
                      refine sp_skip (k := 13) rfl hK (by decide) rfl rfl fun a hK => ?_
                      refine spw (k := 14) rfl rfl hS ?_
                      refine sl_skip hK (by decide) rfl rfl fun a hK => ?_
                      refine parK_nil hS ?_
                      refine sp (k := 15) rfl hK (by decide) rfl rfl (fun w hS => r_pick hK rfl rfl rfl) fun a hK => ?_
                      refine thenL_nil ?_
                      obtain ⟨y_50421, h_50422, H⟩ := bind_some H
                      obtain ⟨b_50424, c_50425, cs_50426, hv_50423, hr_50427, hc_50428, h_504220, h_504221⟩ := hS.row_ix (.tail _ (.tail _ (.tail _ (.head _)))) hq_18273 rfl rfl h_50422
                      subst hr_50427
                      refine sl hK (by decide) rfl rfl (r_indexAddr_R Try.underlying59 Try.sizeOf4 hv_50423 h_504220 h_504221 hK rfl rfl) fun a hK => ?_
                      have hS := hS.pk3
                      refine sl_store_row Try.sizeOf4 hv_50423 h_50422 rfl (show Ty.rep tyBool _ [.bool false] false from rfl) hq_18273 rfl hS hK rfl rfl rfl rfl fun a w cs_50429 hq_50430 hS hK => ?_
                      refine wpList_nil (NoP_nil ?_)
                      have hS := hS.pk5
                      have hS := hS.pk5
                      have hS := hS.pk2
                      exact ⟨(upd x_18270 x_18274 false), _, _, H, hq_50430, hK.sub (all_cons rfl (all_cons rfl (all_cons rfl (all_cons rfl (all_cons rfl (all_cons rfl (all_nil))))))), hS.trunc 3⟩
                  · rintro a w ⟨x_50353, v_50354, cs_50355, H, hq_50356, hK, hS⟩
                    unfold pred_Holds.j5 at H
                    have hS := hS.pk2
                    have hS := hS.pk2
                    have hS := hS.pk2
                    exact ⟨x_50353, _, _, H, hq_50356, hK.sub (all_cons rfl (all_cons rfl (all_cons rfl (all_cons rfl (all_cons rfl (all_cons rfl (all_nil))))))), hS⟩
                · rw [ifb_f hb_50274] at H
                  refine wp_seq ?_
                  refine wp_region_lit ?_
                  refine sl hK (by decide) rfl rfl (r_ibin hK rfl rfl rfl) fun a hK => ?_
                  refine sl hK (by decide) rfl rfl (r_assign hK rfl) fun a hK => ?_
                  refine wpList_nil ?_
                  refine wp_mid (fun a w => ∃ (x_52600 : List Bool) (v_52601 : Value) (cs_52602 : List Value), pred_Holds.j6 (pred_Holds.l1 a1 a2 a3 y_15 k_l1) y_15 x_18274 x_52600 = some r ∧ Reps tyBool (fun _ => none) cs_52602 x_52600 ∧ Kn 162 a [(1, .int .i64 a1), (9, v_52601), (10, .func (.func 23) #[] #[.pointer (some ⟨b_2, 0, none⟩), .pointer (some ⟨b_3, 0, none⟩)]), (35, v_17), (36, .int .i64 (y_15.length : Int)), (37, .int .i64 x_18274)] ∧ St [] w0 w (fun _ => none) [.row 4 1 v_52601 x_52600.length cs_52602, .cells b_2 [v2_0] 25, .cells b_3 [v3_0] 33]) ?_ ?_
                  · refine wp_cond_split (hK.ev rfl) (fun (hb_52605 : (y_36525.Kind == 13) = true) => ?_) (fun (hb_52605 : (y_36525.Kind == 13) = false) => ?_)
                    · rw [ifb_t hb_52605] at H
                      refine wp_mid (fun a w => ∃ (x_52697 : List Bool) (v_52698 : Value) (cs_52699 : List Value), pred_Holds.j7 (pred_Holds.l1 a1 a2 a3 y_15 k_l1) y_15 x_18274 x_52697 = some r ∧ Reps tyBool (fun _ => none) cs_52699 x_52697 ∧ Kn 162 a [(1, .int .i64 a1), (9, v_52698), (10, .func (.func 23) #[] #[.pointer (some ⟨b_2, 0, none⟩), .pointer (some ⟨b_3, 0, none⟩)]), (35, v_17), (36, .int .i64 (y_15.length : Int)), (37, .int .i64 x_18274)] ∧ St [] w0 w (fun _ => none) [.row 4 1 v_52698 x_52697.length cs_52699, .cells b_2 [v2_0] 25, .cells b_3 [v3_0] 33]) ?_ ?_
                      · refine parT_region (C := fun w => St [] w0 w (fun _ => none) [.cells b_36541 [.int .i64 y_36525.Kind, .string y_36525.S, .int .i64 y_36525.N, .int .i64 y_36525.From, .int .i64 y_36525.To, .int .i64 y_36525.V.Kind, .int .i64 y_36525.V.N, .string y_36525.V.S, .int .i64 y_36525.V.H.a0, .int .i64 y_36525.V.H.a1, .int .i64 y_36525.V.H.a2, .int .i64 y_36525.V.H.a3, .int .i64 y_36525.V.H.a4, .int .i64 y_36525.V.H.a5, .int .i64 y_36525.V.H.a6, .int .i64 y_36525.V.H.a7, v_36534, v_36536, v_36538] 51, .cells b_36540 [.int .i64 x_18274] 3, .row 4 1 v_18271 x_18270.length cs_18272, .cells b_2 [v2_0] 25, .cells b_3 [v3_0] 33]) 14 [(0, true), (1, true), (2, true), (3, false), (4, true), (5, true), (6, true), (7, true), (8, true), (9, true), (10, true), (11, true), (12, true), (13, true)] mixed (by kernel_rfl) hS (fun w hS => hS) fun w hS => ?_
                        refine sp (k := 0) rfl hK (by decide) rfl rfl (fun w hS => r_move hK rfl) fun a hK => ?_
                        refine sp (k := 1) rfl hK (by decide) rfl rfl (fun w hS => r_load Try.isAgg3 hK rfl (hS.cell (.tail _ (.head _)) rfl)) fun a hK => ?_
                        refine sp (k := 2) rfl hK (by decide) rfl rfl (fun w hS => r_move hK rfl) fun a hK => ?_
                        refine spw (k := 3) rfl rfl hS ?_
                        obtain ⟨y_52747, h_52748, H⟩ := bind_some H
                        refine sl_callV Try.call25 hS hK (by decide) rfl rfl rfl (pred_Holds_2_cp_cp.calls 1 y_36525 x_18274 (lentOf_sub [] _) (hS.lend_box0 (.head _)) (hs_36535.mono (hS.raLe0 hRA nil_not)) (hs_36537.mono (hS.raLe0 hRA nil_not)) (hs_36539.mono (hS.raLe0 hRA nil_not)) (hS.lend_box0 (.tail _ (.head _))) h_52748) fun a w hS hK => ?_
                        refine parK_nil hS ?_
                        refine sp (k := 4) rfl hK (by decide) rfl rfl (fun w hS => r_move hK rfl) fun a hK => ?_
                        rcases or_b y_52747 with hb_52749 | hb_52749
                        · rw [ifb_t hb_52749] at H
                          refine sp (k := 5) rfl hK (by decide) (wtt hb_52749) rfl (fun w hS => r_move hK rfl) fun a hK => ?_
                          refine sp (k := 6) rfl hK (by decide) (wtt hb_52749) rfl (fun w hS => r_fieldAddr Try.underlying51 rfl Try.sizeOf47 hK rfl) fun a hK => ?_
                          refine sp (k := 7) rfl hK (by decide) (wtt hb_52749) rfl (fun w hS => r_load Try.isAgg47 hK rfl (hS.cell (.head _) rfl)) fun a hK => ?_
                          obtain ⟨y_52750, h_52751, H⟩ := bind_some H
                          obtain ⟨b_52752, o_52753, c_52754, cs_52755, hv_52756, hr_52757, hc_52758, h_527510, h_527511⟩ := hs_36535.ix h_52751
                          subst hr_52757
                          refine sp (k := 8) rfl hK (by decide) (wtt hb_52749) rfl (fun w hS => r_indexAddr_R Try.underlying47 Try.sizeOf3 hv_52756 h_527510 h_527511 hK rfl rfl) fun a hK => ?_
                          refine sp (k := 9) rfl hK (by decide) (wtt hb_52749) rfl (fun w hS => r_load Try.isAgg3 hK rfl ((hS.ra hRA nil_not).cell (hc_52758 0 _ rfl))) fun a hK => ?_
                          obtain ⟨y_52759, h_52760, H⟩ := bind_some H
                          obtain ⟨b_52762, c_52763, cs_52764, hv_52761, hr_52765, hc_52766, h_527600, h_527601⟩ := hS.row_ix (.tail _ (.tail _ (.head _))) hq_18273 rfl rfl h_52760
                          subst hr_52765
                          refine sp (k := 10) rfl hK (by decide) (wtt hb_52749) rfl (fun w hS => r_indexAddr_R Try.underlying59 Try.sizeOf4 hv_52761 h_527600 h_527601 hK rfl rfl) fun a hK => ?_
                          refine sp (k := 11) rfl hK (by decide) (wtt hb_52749) rfl (fun w hS => r_load Try.isAgg4 hK rfl (hS.row_cell (.tail _ (.tail _ (.head _))) hv_52761 (hc_52766 0 _ rfl))) fun a hK => ?_
                          refine sp (k := 12) rfl hK (by decide) (wtt hb_52749) rfl (fun w hS => r_un hK rfl (u_not _)) fun a hK => ?_
                          refine sp (k := 13) rfl hK (by decide) rfl rfl (fun w hS => r_pick_t hb_52749 hK rfl rfl) fun a hK => ?_
                          refine thenL_nil ?_
                          obtain ⟨y_52767, h_52768, H⟩ := bind_some H
                          obtain ⟨b_52770, c_52771, cs_52772, hv_52769, hr_52773, hc_52774, h_527680, h_527681⟩ := hS.row_ix (.tail _ (.tail _ (.head _))) hq_18273 rfl rfl h_52768
                          subst hr_52773
                          refine sl hK (by decide) rfl rfl (r_indexAddr_R Try.underlying59 Try.sizeOf4 hv_52769 h_527680 h_527681 hK rfl rfl) fun a hK => ?_
                          have hS := hS.pk2
                          refine sl_store_row Try.sizeOf4 hv_52769 h_52768 rfl (show Ty.rep tyBool _ [.bool (!y_52759)] (!y_52759) from rfl) hq_18273 rfl hS hK rfl rfl rfl rfl fun a w cs_52775 hq_52776 hS hK => ?_
                          obtain ⟨z_52780, h_52778⟩ := ix_upd x_18274 (!y_52759) h_52760
                          have hv_52779 : v_18271 = Value.slice (some ⟨b_52762, 0, none⟩) (upd x_18270 x_18274 (!y_52759)).length c_52763 := by rw [upd_length]; exact hv_52761
                          refine wpList_nil (NoP_nil ?_)
                          have hS := hS.pk4
                          have hS := hS.pk4
                          have hS := hS.pk2
                          exact ⟨(upd x_18270 x_18274 (!y_52759)), _, _, H, hq_52776, hK.sub (all_cons rfl (all_cons rfl (all_cons rfl (all_cons rfl (all_cons rfl (all_cons rfl (all_nil))))))), hS.trunc 3⟩
                        · rw [ifb_f hb_52749] at H
                          refine sp_skip (k := 5) rfl hK (by decide) (wtf hb_52749) rfl fun a hK => ?_
                          refine sp_skip (k := 6) rfl hK (by decide) (wtf hb_52749) rfl fun a hK => ?_
                          refine sp_skip (k := 7) rfl hK (by decide) (wtf hb_52749) rfl fun a hK => ?_
                          refine sp_skip (k := 8) rfl hK (by decide) (wtf hb_52749) rfl fun a hK => ?_
                          refine sp_skip (k := 9) rfl hK (by decide) (wtf hb_52749) rfl fun a hK => ?_
                          refine sp_skip (k := 10) rfl hK (by decide) (wtf hb_52749) rfl fun a hK => ?_
                          refine sp_skip (k := 11) rfl hK (by decide) (wtf hb_52749) rfl fun a hK => ?_
                          refine sp_skip (k := 12) rfl hK (by decide) (wtf hb_52749) rfl fun a hK => ?_
                          refine sp (k := 13) rfl hK (by decide) rfl rfl (fun w hS => r_pick_f hb_52749 hK rfl rfl) fun a hK => ?_
                          refine thenL_nil ?_
                          obtain ⟨y_52781, h_52782, H⟩ := bind_some H
                          obtain ⟨b_52784, c_52785, cs_52786, hv_52783, hr_52787, hc_52788, h_527820, h_527821⟩ := hS.row_ix (.tail _ (.tail _ (.head _))) hq_18273 rfl rfl h_52782
                          subst hr_52787
                          refine sl hK (by decide) rfl rfl (r_indexAddr_R Try.underlying59 Try.sizeOf4 hv_52783 h_527820 h_527821 hK rfl rfl) fun a hK => ?_
                          have hS := hS.pk2
                          refine sl_store_row Try.sizeOf4 hv_52783 h_52782 rfl (show Ty.rep tyBool _ [.bool false] false from rfl) hq_18273 rfl hS hK rfl rfl rfl rfl fun a w cs_52789 hq_52790 hS hK => ?_
                          refine wpList_nil (NoP_nil ?_)
                          have hS := hS.pk4
                          have hS := hS.pk4
                          have hS := hS.pk2
                          exact ⟨(upd x_18270 x_18274 false), _, _, H, hq_52790, hK.sub (all_cons rfl (all_cons rfl (all_cons rfl (all_cons rfl (all_cons rfl (all_cons rfl (all_nil))))))), hS.trunc 3⟩
                      · rintro a w ⟨x_52697, v_52698, cs_52699, H, hq_52700, hK, hS⟩
                        unfold pred_Holds.j7 at H
                        have hS := hS.pk2
                        have hS := hS.pk2
                        have hS := hS.pk2
                        exact ⟨x_52697, _, _, H, hq_52700, hK.sub (all_cons rfl (all_cons rfl (all_cons rfl (all_cons rfl (all_cons rfl (all_cons rfl (all_nil))))))), hS⟩
                    · rw [ifb_f hb_52605] at H
                      refine wp_seq ?_
                      refine wp_region_lit ?_
                      refine sl hK (by decide) rfl rfl (r_ibin hK rfl rfl rfl) fun a hK => ?_
                      refine sl hK (by decide) rfl rfl (r_assign hK rfl) fun a hK => ?_
                      refine wpList_nil ?_
                      refine wp_mid (fun a w => ∃ (x_53780 : List Bool) (v_53781 : Value) (cs_53782 : List Value), pred_Holds.j8 (pred_Holds.l1 a1 a2 a3 y_15 k_l1) y_15 x_18274 x_53780 = some r ∧ Reps tyBool (fun _ => none) cs_53782 x_53780 ∧ Kn 162 a [(1, .int .i64 a1), (9, v_53781), (10, .func (.func 23) #[] #[.pointer (some ⟨b_2, 0, none⟩), .pointer (some ⟨b_3, 0, none⟩)]), (35, v_17), (36, .int .i64 (y_15.length : Int)), (37, .int .i64 x_18274)] ∧ St [] w0 w (fun _ => none) [.row 4 1 v_53781 x_53780.length cs_53782, .cells b_2 [v2_0] 25, .cells b_3 [v3_0] 33]) ?_ ?_
                      · refine wp_cond_split (hK.ev rfl) (fun (hb_53785 : (y_36525.Kind == 11) = true) => ?_) (fun (hb_53785 : (y_36525.Kind == 11) = false) => ?_)
                        · rw [ifb_t hb_53785] at H
                          refine wp_mid (fun a w => ∃ (x_53947 : List Bool) (v_53948 : Value) (cs_53949 : List Value), pred_Holds.j9 (pred_Holds.l1 a1 a2 a3 y_15 k_l1) y_15 x_18274 x_53947 = some r ∧ Reps tyBool (fun _ => none) cs_53949 x_53947 ∧ Kn 162 a [(1, .int .i64 a1), (9, v_53948), (10, .func (.func 23) #[] #[.pointer (some ⟨b_2, 0, none⟩), .pointer (some ⟨b_3, 0, none⟩)]), (35, v_17), (36, .int .i64 (y_15.length : Int)), (37, .int .i64 x_18274)] ∧ St [] w0 w (fun _ => none) [.row 4 1 v_53948 x_53947.length cs_53949, .cells b_2 [v2_0] 25, .cells b_3 [v3_0] 33]) ?_ ?_
                          · refine parT_region (C := fun w => St [] w0 w (fun _ => none) [.cells b_36541 [.int .i64 y_36525.Kind, .string y_36525.S, .int .i64 y_36525.N, .int .i64 y_36525.From, .int .i64 y_36525.To, .int .i64 y_36525.V.Kind, .int .i64 y_36525.V.N, .string y_36525.V.S, .int .i64 y_36525.V.H.a0, .int .i64 y_36525.V.H.a1, .int .i64 y_36525.V.H.a2, .int .i64 y_36525.V.H.a3, .int .i64 y_36525.V.H.a4, .int .i64 y_36525.V.H.a5, .int .i64 y_36525.V.H.a6, .int .i64 y_36525.V.H.a7, v_36534, v_36536, v_36538] 51, .cells b_36540 [.int .i64 x_18274] 3, .row 4 1 v_18271 x_18270.length cs_18272, .cells b_2 [v2_0] 25, .cells b_3 [v3_0] 33]) 22 [(0, true), (1, true), (2, true), (3, false), (4, true), (5, true), (6, true), (7, true), (8, true), (9, true), (10, true), (11, true), (12, true), (13, true), (14, true), (15, true), (16, true), (17, true), (18, true), (19, true), (20, true), (21, true)] mixed (by kernel_rfl) hS (fun w hS => hS) fun w hS => ?_
                            refine sp (k := 0) rfl hK (by decide) rfl rfl (fun w hS => r_move hK rfl) fun a hK => ?_
                            refine sp (k := 1) rfl hK (by decide) rfl rfl (fun w hS => r_load Try.isAgg3 hK rfl (hS.cell (.tail _ (.head _)) rfl)) fun a hK => ?_
                            refine sp (k := 2) rfl hK (by decide) rfl rfl (fun w hS => r_move hK rfl) fun a hK => ?_
                            refine spw (k := 3) rfl rfl hS ?_
                            obtain ⟨y_54032, h_54033, H⟩ := bind_some H
                            refine sl_callV Try.call25 hS hK (by decide) rfl rfl rfl (pred_Holds_2_cp_cp.calls 2 y_36525 x_18274 (lentOf_sub [] _) (hS.lend_box0 (.head _)) (hs_36535.mono (hS.raLe0 hRA nil_not)) (hs_36537.mono (hS.raLe0 hRA nil_not)) (hs_36539.mono (hS.raLe0 hRA nil_not)) (hS.lend_box0 (.tail _ (.head _))) h_54033) fun a w hS hK => ?_
                            refine parK_nil hS ?_
                            refine sp (k := 4) rfl hK (by decide) rfl rfl (fun w hS => r_move hK rfl) fun a hK => ?_
                            rcases or_b y_54032 with hb_54034 | hb_54034
                            · rw [ifb_t hb_54034] at H
                              refine sp (k := 5) rfl hK (by decide) (wtt hb_54034) rfl (fun w hS => r_move hK rfl) fun a hK => ?_
                              refine sp (k := 6) rfl hK (by decide) (wtt hb_54034) rfl (fun w hS => r_fieldAddr Try.underlying51 rfl Try.sizeOf47 hK rfl) fun a hK => ?_
                              refine sp (k := 7) rfl hK (by decide) (wtt hb_54034) rfl (fun w hS => r_load Try.isAgg47 hK rfl (hS.cell (.head _) rfl)) fun a hK => ?_
                              obtain ⟨y_54035, h_54036, H⟩ := bind_some H
                              obtain ⟨b_54037, o_54038, c_54039, cs_54040, hv_54041, hr_54042, hc_54043, h_540360, h_540361⟩ := hs_36535.ix h_54036
                              subst hr_54042
                              refine sp (k := 8) rfl hK (by decide) (wtt hb_54034) rfl (fun w hS => r_indexAddr_R Try.underlying47 Try.sizeOf3 hv_54041 h_540360 h_540361 hK rfl rfl) fun a hK => ?_
                              refine sp (k := 9) rfl hK (by decide) (wtt hb_54034) rfl (fun w hS => r_load Try.isAgg3 hK rfl ((hS.ra hRA nil_not).cell (hc_54043 0 _ rfl))) fun a hK => ?_
                              obtain ⟨y_54044, h_54045, H⟩ := bind_some H
                              obtain ⟨b_54047, c_54048, cs_54049, hv_54046, hr_54050, hc_54051, h_540450, h_540451⟩ := hS.row_ix (.tail _ (.tail _ (.head _))) hq_18273 rfl rfl h_54045
                              subst hr_54050
                              refine sp (k := 10) rfl hK (by decide) (wtt hb_54034) rfl (fun w hS => r_indexAddr_R Try.underlying59 Try.sizeOf4 hv_54046 h_540450 h_540451 hK rfl rfl) fun a hK => ?_
                              refine sp (k := 11) rfl hK (by decide) (wtt hb_54034) rfl (fun w hS => r_load Try.isAgg4 hK rfl (hS.row_cell (.tail _ (.tail _ (.head _))) hv_54046 (hc_54051 0 _ rfl))) fun a hK => ?_
                              refine sp (k := 12) rfl hK (by decide) rfl rfl (fun w hS => r_pick_t hb_54034 hK rfl rfl) fun a hK => ?_
                              refine sp (k := 13) rfl hK (by decide) rfl rfl (fun w hS => r_move hK rfl) fun a hK => ?_
                              rcases or_b y_54044 with hb_54052 | hb_54052
                              · rw [ifb_t hb_54052] at H
                                refine sp (k := 14) rfl hK (by decide) (wtt hb_54052) rfl (fun w hS => r_move hK rfl) fun a hK => ?_
                                refine sp (k := 15) rfl hK (by decide) (wtt hb_54052) rfl (fun w hS => r_fieldAddr Try.underlying51 rfl Try.sizeOf47 hK rfl) fun a hK => ?_
                                refine sp (k := 16) rfl hK (by decide) (wtt hb_54052) rfl (fun w hS => r_load Try.isAgg47 hK rfl (hS.cell (.head _) rfl)) fun a hK => ?_
                                obtain ⟨y_54053, h_54054, H⟩ := bind_some H
                                obtain ⟨b_54055, o_54056, c_54057, cs_54058, hv_54059, hr_54060, hc_54061, h_540540, h_540541⟩ := hs_36535.ix h_54054
                                subst hr_54060
                                refine sp (k := 17) rfl hK (by decide) (wtt hb_54052) rfl (fun w hS => r_indexAddr_R Try.underlying47 Try.sizeOf3 hv_54059 h_540540 h_540541 hK rfl rfl) fun a hK => ?_
                                refine sp (k := 18) rfl hK (by decide) (wtt hb_54052) rfl (fun w hS => r_load Try.isAgg3 hK rfl ((hS.ra hRA nil_not).cell (hc_54061 0 _ rfl))) fun a hK => ?_
                                obtain ⟨y_54062, h_54063, H⟩ := bind_some H
                                obtain ⟨b_54065, c_54066, cs_54067, hv_54064, hr_54068, hc_54069, h_540630, h_540631⟩ := hS.row_ix (.tail _ (.tail _ (.head _))) hq_18273 rfl rfl h_54063
                                subst hr_54068
                                refine sp (k := 19) rfl hK (by decide) (wtt hb_54052) rfl (fun w hS => r_indexAddr_R Try.underlying59 Try.sizeOf4 hv_54064 h_540630 h_540631 hK rfl rfl) fun a hK => ?_
                                refine sp (k := 20) rfl hK (by decide) (wtt hb_54052) rfl (fun w hS => r_load Try.isAgg4 hK rfl (hS.row_cell (.tail _ (.tail _ (.head _))) hv_54064 (hc_54069 0 _ rfl))) fun a hK => ?_
                                refine sp (k := 21) rfl hK (by decide) rfl rfl (fun w hS => r_pick_t hb_54052 hK rfl rfl) fun a hK => ?_
                                refine thenL_nil ?_
                                obtain ⟨y_54070, h_54071, H⟩ := bind_some H
                                obtain ⟨b_54073, c_54074, cs_54075, hv_54072, hr_54076, hc_54077, h_540710, h_540711⟩ := hS.row_ix (.tail _ (.tail _ (.head _))) hq_18273 rfl rfl h_54071
                                subst hr_54076
                                refine sl hK (by decide) rfl rfl (r_indexAddr_R Try.underlying59 Try.sizeOf4 hv_54072 h_540710 h_540711 hK rfl rfl) fun a hK => ?_
                                have hS := hS.pk2
                                refine sl_store_row Try.sizeOf4 hv_54072 h_54071 rfl (show Ty.rep tyBool _ [.bool y_54062] y_54062 from rfl) hq_18273 rfl hS hK rfl rfl rfl rfl fun a w cs_54078 hq_54079 hS hK => ?_
                                obtain ⟨z_54083, h_54081⟩ := ix_upd x_18274 y_54062 h_54045
                                have hv_54082 : v_18271 = Value.slice (some ⟨b_54047, 0, none⟩) (upd x_18270 x_18274 y_54062).length c_54048 := by rw [upd_length]; exact hv_54046
                                obtain ⟨z_54086, h_54084⟩ := ix_upd x_18274 y_54062 h_54063
                                have hv_54085 : v_18271 = Value.slice (some ⟨b_54065, 0, none⟩) (upd x_18270 x_18274 y_54062).length c_54066 := by rw [upd_length]; exact hv_54064
                                refine wpList_nil (NoP_nil ?_)
                                have hS := hS.pk4
                                have hS := hS.pk4
                                have hS := hS.pk2
                                exact ⟨(upd x_18270 x_18274 y_54062), _, _, H, hq_54079, hK.sub (all_cons rfl (all_cons rfl (all_cons rfl (all_cons rfl (all_cons rfl (all_cons rfl (all_nil))))))), hS.trunc 3⟩
                              · rw [ifb_f hb_54052] at H
                                refine sp_skip (k := 14) rfl hK (by decide) (wtf hb_54052) rfl fun a hK => ?_
                                refine sp_skip (k := 15) rfl hK (by decide) (wtf hb_54052) rfl fun a hK => ?_
                                refine sp_skip (k := 16) rfl hK (by decide) (wtf hb_54052) rfl fun a hK => ?_
                                refine sp_skip (k := 17) rfl hK (by decide) (wtf hb_54052) rfl fun a hK => ?_
                                refine sp_skip (k := 18) rfl hK (by decide) (wtf hb_54052) rfl fun a hK => ?_
                                refine sp_skip (k := 19) rfl hK (by decide) (wtf hb_54052) rfl fun a hK => ?_
                                refine sp_skip (k := 20) rfl hK (by decide) (wtf hb_54052) rfl fun a hK => ?_
                                refine sp (k := 21) rfl hK (by decide) rfl rfl (fun w hS => r_pick_f hb_54052 hK rfl rfl) fun a hK => ?_
                                refine thenL_nil ?_
                                obtain ⟨y_54087, h_54088, H⟩ := bind_some H
                                obtain ⟨b_54090, c_54091, cs_54092, hv_54089, hr_54093, hc_54094, h_540880, h_540881⟩ := hS.row_ix (.tail _ (.tail _ (.head _))) hq_18273 rfl rfl h_54088
                                subst hr_54093
                                refine sl hK (by decide) rfl rfl (r_indexAddr_R Try.underlying59 Try.sizeOf4 hv_54089 h_540880 h_540881 hK rfl rfl) fun a hK => ?_
                                have hS := hS.pk2
                                refine sl_store_row Try.sizeOf4 hv_54089 h_54088 rfl (show Ty.rep tyBool _ [.bool false] false from rfl) hq_18273 rfl hS hK rfl rfl rfl rfl fun a w cs_54095 hq_54096 hS hK => ?_
                                obtain ⟨z_54100, h_54098⟩ := ix_upd x_18274 false h_54045
                                have hv_54099 : v_18271 = Value.slice (some ⟨b_54047, 0, none⟩) (upd x_18270 x_18274 false).length c_54048 := by rw [upd_length]; exact hv_54046
                                refine wpList_nil (NoP_nil ?_)
                                have hS := hS.pk4
                                have hS := hS.pk4
                                have hS := hS.pk2
                                exact ⟨(upd x_18270 x_18274 false), _, _, H, hq_54096, hK.sub (all_cons rfl (all_cons rfl (all_cons rfl (all_cons rfl (all_cons rfl (all_cons rfl (all_nil))))))), hS.trunc 3⟩
                            · rw [ifb_f hb_54034] at H
                              refine sp_skip (k := 5) rfl hK (by decide) (wtf hb_54034) rfl fun a hK => ?_
                              refine sp_skip (k := 6) rfl hK (by decide) (wtf hb_54034) rfl fun a hK => ?_
                              refine sp_skip (k := 7) rfl hK (by decide) (wtf hb_54034) rfl fun a hK => ?_
                              refine sp_skip (k := 8) rfl hK (by decide) (wtf hb_54034) rfl fun a hK => ?_
                              refine sp_skip (k := 9) rfl hK (by decide) (wtf hb_54034) rfl fun a hK => ?_
                              refine sp_skip (k := 10) rfl hK (by decide) (wtf hb_54034) rfl fun a hK => ?_
                              refine sp_skip (k := 11) rfl hK (by decide) (wtf hb_54034) rfl fun a hK => ?_
                              refine sp (k := 12) rfl hK (by decide) rfl rfl (fun w hS => r_pick_f hb_54034 hK rfl rfl) fun a hK => ?_
                              refine sp (k := 13) rfl hK (by decide) rfl rfl (fun w hS => r_move hK rfl) fun a hK => ?_
                              refine sp_skip (k := 14) rfl hK (by decide) rfl rfl fun a hK => ?_
                              refine sp_skip (k := 15) rfl hK (by decide) rfl rfl fun a hK => ?_
                              refine sp_skip (k := 16) rfl hK (by decide) rfl rfl fun a hK => ?_
                              refine sp_skip (k := 17) rfl hK (by decide) rfl rfl fun a hK => ?_
                              refine sp_skip (k := 18) rfl hK (by decide) rfl rfl fun a hK => ?_
                              refine sp_skip (k := 19) rfl hK (by decide) rfl rfl fun a hK => ?_
                              refine sp_skip (k := 20) rfl hK (by decide) rfl rfl fun a hK => ?_
                              refine sp (k := 21) rfl hK (by decide) rfl rfl (fun w hS => r_pick hK rfl rfl rfl) fun a hK => ?_
                              refine thenL_nil ?_
                              obtain ⟨y_54101, h_54102, H⟩ := bind_some H
                              obtain ⟨b_54104, c_54105, cs_54106, hv_54103, hr_54107, hc_54108, h_541020, h_541021⟩ := hS.row_ix (.tail _ (.tail _ (.head _))) hq_18273 rfl rfl h_54102
                              subst hr_54107
                              refine sl hK (by decide) rfl rfl (r_indexAddr_R Try.underlying59 Try.sizeOf4 hv_54103 h_541020 h_541021 hK rfl rfl) fun a hK => ?_
                              have hS := hS.pk2
                              refine sl_store_row Try.sizeOf4 hv_54103 h_54102 rfl (show Ty.rep tyBool _ [.bool false] false from rfl) hq_18273 rfl hS hK rfl rfl rfl rfl fun a w cs_54109 hq_54110 hS hK => ?_
                              refine wpList_nil (NoP_nil ?_)
                              have hS := hS.pk4
                              have hS := hS.pk4
                              have hS := hS.pk2
                              exact ⟨(upd x_18270 x_18274 false), _, _, H, hq_54110, hK.sub (all_cons rfl (all_cons rfl (all_cons rfl (all_cons rfl (all_cons rfl (all_cons rfl (all_nil))))))), hS.trunc 3⟩
                          · rintro a w ⟨x_53947, v_53948, cs_53949, H, hq_53950, hK, hS⟩
                            unfold pred_Holds.j9 at H
                            have hS := hS.pk2
                            have hS := hS.pk2
                            have hS := hS.pk2
                            exact ⟨x_53947, _, _, H, hq_53950, hK.sub (all_cons rfl (all_cons rfl (all_cons rfl (all_cons rfl (all_cons rfl (all_cons rfl (all_nil))))))), hS⟩
                        · rw [ifb_f hb_53785] at H
                          refine wp_seq ?_
                          refine wp_region_lit ?_
                          refine sl hK (by decide) rfl rfl (r_ibin hK rfl rfl rfl) fun a hK => ?_
                          refine sl hK (by decide) rfl rfl (r_assign hK rfl) fun a hK => ?_
                          refine wpList_nil ?_
                          refine wp_mid (fun a w => ∃ (x_54440 : List Bool) (v_54441 : Value) (cs_54442 : List Value), pred_Holds.j10 (pred_Holds.l1 a1 a2 a3 y_15 k_l1) y_15 x_18274 x_54440 = some r ∧ Reps tyBool (fun _ => none) cs_54442 x_54440 ∧ Kn 162 a [(1, .int .i64 a1), (9, v_54441), (10, .func (.func 23) #[] #[.pointer (some ⟨b_2, 0, none⟩), .pointer (some ⟨b_3, 0, none⟩)]), (35, v_17), (36, .int .i64 (y_15.length : Int)), (37, .int .i64 x_18274)] ∧ St [] w0 w (fun _ => none) [.row 4 1 v_54441 x_54440.length cs_54442, .cells b_2 [v2_0] 25, .cells b_3 [v3_0] 33]) ?_ ?_
                          · refine wp_cond_split (hK.ev rfl) (fun (hb_54445 : (y_36525.Kind == 12) = true) => ?_) (fun (hb_54445 : (y_36525.Kind == 12) = false) => ?_)
                            · rw [ifb_t hb_54445] at H
                              refine wp_mid (fun a w => ∃ (x_54607 : List Bool) (v_54608 : Value) (cs_54609 : List Value), pred_Holds.j11 (pred_Holds.l1 a1 a2 a3 y_15 k_l1) y_15 x_18274 x_54607 = some r ∧ Reps tyBool (fun _ => none) cs_54609 x_54607 ∧ Kn 162 a [(1, .int .i64 a1), (9, v_54608), (10, .func (.func 23) #[] #[.pointer (some ⟨b_2, 0, none⟩), .pointer (some ⟨b_3, 0, none⟩)]), (35, v_17), (36, .int .i64 (y_15.length : Int)), (37, .int .i64 x_18274)] ∧ St [] w0 w (fun _ => none) [.row 4 1 v_54608 x_54607.length cs_54609, .cells b_2 [v2_0] 25, .cells b_3 [v3_0] 33]) ?_ ?_
                              · refine parT_region (C := fun w => St [] w0 w (fun _ => none) [.cells b_36541 [.int .i64 y_36525.Kind, .string y_36525.S, .int .i64 y_36525.N, .int .i64 y_36525.From, .int .i64 y_36525.To, .int .i64 y_36525.V.Kind, .int .i64 y_36525.V.N, .string y_36525.V.S, .int .i64 y_36525.V.H.a0, .int .i64 y_36525.V.H.a1, .int .i64 y_36525.V.H.a2, .int .i64 y_36525.V.H.a3, .int .i64 y_36525.V.H.a4, .int .i64 y_36525.V.H.a5, .int .i64 y_36525.V.H.a6, .int .i64 y_36525.V.H.a7, v_36534, v_36536, v_36538] 51, .cells b_36540 [.int .i64 x_18274] 3, .row 4 1 v_18271 x_18270.length cs_18272, .cells b_2 [v2_0] 25, .cells b_3 [v3_0] 33]) 22 [(0, true), (1, true), (2, true), (3, false), (4, true), (5, true), (6, true), (7, true), (8, true), (9, true), (10, true), (11, true), (12, true), (13, true), (14, true), (15, true), (16, true), (17, true), (18, true), (19, true), (20, true), (21, true)] mixed (by kernel_rfl) hS (fun w hS => hS) fun w hS => ?_
                                refine sp (k := 0) rfl hK (by decide) rfl rfl (fun w hS => r_move hK rfl) fun a hK => ?_
                                refine sp (k := 1) rfl hK (by decide) rfl rfl (fun w hS => r_load Try.isAgg3 hK rfl (hS.cell (.tail _ (.head _)) rfl)) fun a hK => ?_
                                refine sp (k := 2) rfl hK (by decide) rfl rfl (fun w hS => r_move hK rfl) fun a hK => ?_
                                refine spw (k := 3) rfl rfl hS ?_
                                obtain ⟨y_54692, h_54693, H⟩ := bind_some H
                                refine sl_callV Try.call25 hS hK (by decide) rfl rfl rfl (pred_Holds_2_cp_cp.calls 2 y_36525 x_18274 (lentOf_sub [] _) (hS.lend_box0 (.head _)) (hs_36535.mono (hS.raLe0 hRA nil_not)) (hs_36537.mono (hS.raLe0 hRA nil_not)) (hs_36539.mono (hS.raLe0 hRA nil_not)) (hS.lend_box0 (.tail _ (.head _))) h_54693) fun a w hS hK => ?_
                                refine parK_nil hS ?_
                                refine sp (k := 4) rfl hK (by decide) rfl rfl (fun w hS => r_move hK rfl) fun a hK => ?_
                                rcases or_b y_54692 with hb_54694 | hb_54694
                                · rw [ifb_t hb_54694] at H
                                  refine sp (k := 5) rfl hK (by decide) (wtt hb_54694) rfl (fun w hS => r_move hK rfl) fun a hK => ?_
                                  refine sp (k := 6) rfl hK (by decide) (wtt hb_54694) rfl (fun w hS => r_fieldAddr Try.underlying51 rfl Try.sizeOf47 hK rfl) fun a hK => ?_
                                  refine sp (k := 7) rfl hK (by decide) (wtt hb_54694) rfl (fun w hS => r_load Try.isAgg47 hK rfl (hS.cell (.head _) rfl)) fun a hK => ?_
                                  obtain ⟨y_54695, h_54696, H⟩ := bind_some H
                                  obtain ⟨b_54697, o_54698, c_54699, cs_54700, hv_54701, hr_54702, hc_54703, h_546960, h_546961⟩ := hs_36535.ix h_54696
                                  subst hr_54702
                                  refine sp (k := 8) rfl hK (by decide) (wtt hb_54694) rfl (fun w hS => r_indexAddr_R Try.underlying47 Try.sizeOf3 hv_54701 h_546960 h_546961 hK rfl rfl) fun a hK => ?_
                                  refine sp (k := 9) rfl hK (by decide) (wtt hb_54694) rfl (fun w hS => r_load Try.isAgg3 hK rfl ((hS.ra hRA nil_not).cell (hc_54703 0 _ rfl))) fun a hK => ?_
                                  obtain ⟨y_54704, h_54705, H⟩ := bind_some H
                                  obtain ⟨b_54707, c_54708, cs_54709, hv_54706, hr_54710, hc_54711, h_547050, h_547051⟩ := hS.row_ix (.tail _ (.tail _ (.head _))) hq_18273 rfl rfl h_54705
                                  subst hr_54710
                                  refine sp (k := 10) rfl hK (by decide) (wtt hb_54694) rfl (fun w hS => r_indexAddr_R Try.underlying59 Try.sizeOf4 hv_54706 h_547050 h_547051 hK rfl rfl) fun a hK => ?_
                                  refine sp (k := 11) rfl hK (by decide) (wtt hb_54694) rfl (fun w hS => r_load Try.isAgg4 hK rfl (hS.row_cell (.tail _ (.tail _ (.head _))) hv_54706 (hc_54711 0 _ rfl))) fun a hK => ?_
                                  refine sp (k := 12) rfl hK (by decide) (wtt hb_54694) rfl (fun w hS => r_move hK rfl) fun a hK => ?_
                                  rcases or_b y_54704 with hb_54712 | hb_54712
                                  · rw [ifb_t hb_54712] at H
                                    refine sp_skip (k := 13) rfl hK (by decide) (wft hb_54712) rfl fun a hK => ?_
                                    refine sp_skip (k := 14) rfl hK (by decide) (wft hb_54712) rfl fun a hK => ?_
                                    refine sp_skip (k := 15) rfl hK (by decide) (wft hb_54712) rfl fun a hK => ?_
                                    refine sp_skip (k := 16) rfl hK (by decide) (wft hb_54712) rfl fun a hK => ?_
                                    refine sp_skip (k := 17) rfl hK (by decide) (wft hb_54712) rfl fun a hK => ?_
                                    refine sp_skip (k := 18) rfl hK (by decide) (wft hb_54712) rfl fun a hK => ?_
                                    refine sp_skip (k := 19) rfl hK (by decide) (wft hb_54712) rfl fun a hK => ?_
                                    refine sp (k := 20) rfl hK (by decide) (wtt hb_54694) rfl (fun w hS => r_pick_t hb_54712 hK rfl rfl) fun a hK => ?_
                                    refine sp (k := 21) rfl hK (by decide) rfl rfl (fun w hS => r_pick_t hb_54694 hK rfl rfl) fun a hK => ?_
                                    refine thenL_nil ?_
                                    obtain ⟨y_54713, h_54714, H⟩ := bind_some H
                                    obtain ⟨b_54716, c_54717, cs_54718, hv_54715, hr_54719, hc_54720, h_547140, h_547141⟩ := hS.row_ix (.tail _ (.tail _ (.head _))) hq_18273 rfl rfl h_54714
                                    subst hr_54719
                                    refine sl hK (by decide) rfl rfl (r_indexAddr_R Try.underlying59 Try.sizeOf4 hv_54715 h_547140 h_547141 hK rfl rfl) fun a hK => ?_
                                    have hS := hS.pk2
                                    refine sl_store_row Try.sizeOf4 hv_54715 h_54714 rfl (show Ty.rep tyBool _ [.bool true] true from rfl) hq_18273 rfl hS hK rfl rfl rfl rfl fun a w cs_54721 hq_54722 hS hK => ?_
                                    obtain ⟨z_54726, h_54724⟩ := ix_upd x_18274 true h_54705
                                    have hv_54725 : v_18271 = Value.slice (some ⟨b_54707, 0, none⟩) (upd x_18270 x_18274 true).length c_54708 := by rw [upd_length]; exact hv_54706
                                    refine wpList_nil (NoP_nil ?_)
                                    have hS := hS.pk4
                                    have hS := hS.pk4
                                    have hS := hS.pk2
                                    exact ⟨(upd x_18270 x_18274 true), _, _, H, hq_54722, hK.sub (all_cons rfl (all_cons rfl (all_cons rfl (all_cons rfl (all_cons rfl (all_cons rfl (all_nil))))))), hS.trunc 3⟩
                                  · rw [ifb_f hb_54712] at H
                                    refine sp (k := 13) rfl hK (by decide) (wff hb_54712) rfl (fun w hS => r_move hK rfl) fun a hK => ?_
                                    refine sp (k := 14) rfl hK (by decide) (wff hb_54712) rfl (fun w hS => r_fieldAddr Try.underlying51 rfl Try.sizeOf47 hK rfl) fun a hK => ?_
                                    refine sp (k := 15) rfl hK (by decide) (wff hb_54712) rfl (fun w hS => r_load Try.isAgg47 hK rfl (hS.cell (.head _) rfl)) fun a hK => ?_
                                    obtain ⟨y_54727, h_54728, H⟩ := bind_some H
                                    obtain ⟨b_54729, o_54730, c_54731, cs_54732, hv_54733, hr_54734, hc_54735, h_547280, h_547281⟩ := hs_36535.ix h_54728
                                    subst hr_54734
                                    refine sp (k := 16) rfl hK (by decide) (wff hb_54712) rfl (fun w hS => r_indexAddr_R Try.underlying47 Try.sizeOf3 hv_54733 h_547280 h_547281 hK rfl rfl) fun a hK => ?_
                                    refine sp (k := 17) rfl hK (by decide) (wff hb_54712) rfl (fun w hS => r_load Try.isAgg3 hK rfl ((hS.ra hRA nil_not).cell (hc_54735 0 _ rfl))) fun a hK => ?_
                                    obtain ⟨y_54736, h_54737, H⟩ := bind_some H
                                    obtain ⟨b_54739, c_54740, cs_54741, hv_54738, hr_54742, hc_54743, h_547370, h_547371⟩ := hS.row_ix (.tail _ (.tail _ (.head _))) hq_18273 rfl rfl h_54737
                                    subst hr_54742
                                    refine sp (k := 18) rfl hK (by decide) (wff hb_54712) rfl (fun w hS => r_indexAddr_R Try.underlying59 Try.sizeOf4 hv_54738 h_547370 h_547371 hK rfl rfl) fun a hK => ?_
                                    refine sp (k := 19) rfl hK (by decide) (wff hb_54712) rfl (fun w hS => r_load Try.isAgg4 hK rfl (hS.row_cell (.tail _ (.tail _ (.head _))) hv_54738 (hc_54743 0 _ rfl))) fun a hK => ?_
                                    refine sp (k := 20) rfl hK (by decide) (wtt hb_54694) rfl (fun w hS => r_pick_f hb_54712 hK rfl rfl) fun a hK => ?_
                                    refine sp (k := 21) rfl hK (by decide) rfl rfl (fun w hS => r_pick_t hb_54694 hK rfl rfl) fun a hK => ?_
                                    refine thenL_nil ?_
                                    obtain ⟨y_54744, h_54745, H⟩ := bind_some H
                                    obtain ⟨b_54747, c_54748, cs_54749, hv_54746, hr_54750, hc_54751, h_547450, h_547451⟩ := hS.row_ix (.tail _ (.tail _ (.head _))) hq_18273 rfl rfl h_54745
                                    subst hr_54750
                                    refine sl hK (by decide) rfl rfl (r_indexAddr_R Try.underlying59 Try.sizeOf4 hv_54746 h_547450 h_547451 hK rfl rfl) fun a hK => ?_
                                    have hS := hS.pk2
                                    refine sl_store_row Try.sizeOf4 hv_54746 h_54745 rfl (show Ty.rep tyBool _ [.bool y_54736] y_54736 from rfl) hq_18273 rfl hS hK rfl rfl rfl rfl fun a w cs_54752 hq_54753 hS hK => ?_
                                    obtain ⟨z_54757, h_54755⟩ := ix_upd x_18274 y_54736 h_54705
                                    have hv_54756 : v_18271 = Value.slice (some ⟨b_54707, 0, none⟩) (upd x_18270 x_18274 y_54736).length c_54708 := by rw [upd_length]; exact hv_54706
                                    obtain ⟨z_54760, h_54758⟩ := ix_upd x_18274 y_54736 h_54737
                                    have hv_54759 : v_18271 = Value.slice (some ⟨b_54739, 0, none⟩) (upd x_18270 x_18274 y_54736).length c_54740 := by rw [upd_length]; exact hv_54738
                                    refine wpList_nil (NoP_nil ?_)
                                    have hS := hS.pk4
                                    have hS := hS.pk4
                                    have hS := hS.pk2
                                    exact ⟨(upd x_18270 x_18274 y_54736), _, _, H, hq_54753, hK.sub (all_cons rfl (all_cons rfl (all_cons rfl (all_cons rfl (all_cons rfl (all_cons rfl (all_nil))))))), hS.trunc 3⟩
                                · rw [ifb_f hb_54694] at H
                                  refine sp_skip (k := 5) rfl hK (by decide) (wtf hb_54694) rfl fun a hK => ?_
                                  refine sp_skip (k := 6) rfl hK (by decide) (wtf hb_54694) rfl fun a hK => ?_
                                  refine sp_skip (k := 7) rfl hK (by decide) (wtf hb_54694) rfl fun a hK => ?_
                                  refine sp_skip (k := 8) rfl hK (by decide) (wtf hb_54694) rfl fun a hK => ?_
                                  refine sp_skip (k := 9) rfl hK (by decide) (wtf hb_54694) rfl fun a hK => ?_
                                  refine sp_skip (k := 10) rfl hK (by decide) (wtf hb_54694) rfl fun a hK => ?_
                                  refine sp_skip (k := 11) rfl hK (by decide) (wtf hb_54694) rfl fun a hK => ?_
                                  refine sp_skip (k := 12) rfl hK (by decide) (wtf hb_54694) rfl fun a hK => ?_
                                  refine sp_skip (k := 13) rfl hK (by decide) rfl rfl fun a hK => ?_
                                  refine sp_skip (k := 14) rfl hK (by decide) rfl rfl fun a hK => ?_
                                  refine sp_skip (k := 15) rfl hK (by decide) rfl rfl fun a hK => ?_
                                  refine sp_skip (k := 16) rfl hK (by decide) rfl rfl fun a hK => ?_
                                  refine sp_skip (k := 17) rfl hK (by decide) rfl rfl fun a hK => ?_
                                  refine sp_skip (k := 18) rfl hK (by decide) rfl rfl fun a hK => ?_
                                  refine sp_skip (k := 19) rfl hK (by decide) rfl rfl fun a hK => ?_
                                  refine sp_skip (k := 20) rfl hK (by decide) (wtf hb_54694) rfl fun a hK => ?_
                                  refine sp (k := 21) rfl hK (by decide) rfl rfl (fun w hS => r_pick_f hb_54694 hK rfl rfl) fun a hK => ?_
                                  refine thenL_nil ?_
                                  obtain ⟨y_54761, h_54762, H⟩ := bind_some H
                                  obtain ⟨b_54764, c_54765, cs_54766, hv_54763, hr_54767, hc_54768, h_547620, h_547621⟩ := hS.row_ix (.tail _ (.tail _ (.head _))) hq_18273 rfl rfl h_54762
                                  subst hr_54767
                                  refine sl hK (by decide) rfl rfl (r_indexAddr_R Try.underlying59 Try.sizeOf4 hv_54763 h_547620 h_547621 hK rfl rfl) fun a hK => ?_
                                  have hS := hS.pk2
                                  refine sl_store_row Try.sizeOf4 hv_54763 h_54762 rfl (show Ty.rep tyBool _ [.bool false] false from rfl) hq_18273 rfl hS hK rfl rfl rfl rfl fun a w cs_54769 hq_54770 hS hK => ?_
                                  refine wpList_nil (NoP_nil ?_)
                                  have hS := hS.pk4
                                  have hS := hS.pk4
                                  have hS := hS.pk2
                                  exact ⟨(upd x_18270 x_18274 false), _, _, H, hq_54770, hK.sub (all_cons rfl (all_cons rfl (all_cons rfl (all_cons rfl (all_cons rfl (all_cons rfl (all_nil))))))), hS.trunc 3⟩
                              · rintro a w ⟨x_54607, v_54608, cs_54609, H, hq_54610, hK, hS⟩
                                unfold pred_Holds.j11 at H
                                have hS := hS.pk2
                                have hS := hS.pk2
                                have hS := hS.pk2
                                exact ⟨x_54607, _, _, H, hq_54610, hK.sub (all_cons rfl (all_cons rfl (all_cons rfl (all_cons rfl (all_cons rfl (all_cons rfl (all_nil))))))), hS⟩
                            · rw [ifb_f hb_54445] at H
                              refine wp_skip ?_
                              have hS := hS.pk4
                              have hS := hS.pk4
                              have hS := hS.pk4
                              exact ⟨x_18270, _, _, H, hq_18273, hK.sub (all_cons rfl (all_cons rfl (all_cons rfl (all_cons rfl (all_cons rfl (all_cons rfl (all_nil))))))), hS.trunc 3⟩
                          · rintro a w ⟨x_54440, v_54441, cs_54442, H, hq_54443, hK, hS⟩
                            unfold pred_Holds.j10 at H
                            have hS := hS.pk2
                            have hS := hS.pk2
                            have hS := hS.pk2
                            exact ⟨x_54440, _, _, H, hq_54443, hK.sub (all_cons rfl (all_cons rfl (all_cons rfl (all_cons rfl (all_cons rfl (all_cons rfl (all_nil))))))), hS⟩
                      · rintro a w ⟨x_53780, v_53781, cs_53782, H, hq_53783, hK, hS⟩
                        unfold pred_Holds.j8 at H
                        have hS := hS.pk2
                        have hS := hS.pk2
                        have hS := hS.pk2
                        exact ⟨x_53780, _, _, H, hq_53783, hK.sub (all_cons rfl (all_cons rfl (all_cons rfl (all_cons rfl (all_cons rfl (all_cons rfl (all_nil))))))), hS⟩
                  · rintro a w ⟨x_52600, v_52601, cs_52602, H, hq_52603, hK, hS⟩
                    unfold pred_Holds.j6 at H
                    have hS := hS.pk2
                    have hS := hS.pk2
                    have hS := hS.pk2
                    exact ⟨x_52600, _, _, H, hq_52603, hK.sub (all_cons rfl (all_cons rfl (all_cons rfl (all_cons rfl (all_cons rfl (all_cons rfl (all_nil))))))), hS⟩
              · rintro a w ⟨x_50269, v_50270, cs_50271, H, hq_50272, hK, hS⟩
                unfold pred_Holds.j4 at H
                have hS := hS.pk2
                have hS := hS.pk2
                have hS := hS.pk2
                exact ⟨x_50269, _, _, H, hq_50272, hK.sub (all_cons rfl (all_cons rfl (all_cons rfl (all_cons rfl (all_cons rfl (all_cons rfl (all_nil))))))), hS⟩
          · rintro a w ⟨x_45655, v_45656, cs_45657, H, hq_45658, hK, hS⟩
            unfold pred_Holds.j2 at H
            refine wp_region_lit ?_
            refine sl hK (by decide) rfl rfl (r_ibin hK rfl rfl rfl) fun a hK => ?_
            refine sl hK (by decide) rfl rfl (r_move hK rfl) fun a hK => ?_
            refine wpList_nil ?_
            have hS := hS.pk2
            have hS := hS.pk2
            have hS := hS.pk2
            exact ⟨_, Nat.lt_succ_self _, x_45655, (IntKind.i64.wrap (x_18274 + 1)), _, _, H, hq_45658, hK.sub (all_cons rfl (all_cons rfl (all_cons rfl (all_cons rfl (all_cons rfl (all_cons rfl (all_nil))))))), hS⟩
        · rw [ifb_f hb_36524] at H
          refine wp_exit ?_
          refine wp_seq ?_
          refine wp_region_lit ?_
          refine sl hK (by decide) rfl rfl (r_move hK rfl) fun a hK => ?_
          refine sl hK (by decide) rfl rfl (r_move hK rfl) fun a hK => ?_
          obtain ⟨y_54772, h_54773, H⟩ := bind_some H
          obtain ⟨b_54775, c_54776, cs_54777, hv_54774, hr_54778, hc_54779, h_547730, h_547731⟩ := hS.row_ix (.head _) hq_18273 rfl rfl h_54773
          subst hr_54778
          refine sl hK (by decide) rfl rfl (r_indexAddr_R Try.underlying59 Try.sizeOf4 hv_54774 h_547730 h_547731 hK rfl rfl) fun a hK => ?_
          refine sl hK (by decide) rfl rfl (r_load Try.isAgg4 hK rfl (hS.row_cell (.head _) hv_54774 (hc_54779 0 _ rfl))) fun a hK => ?_
          refine sl hK (by decide) rfl rfl (r_assign hK rfl) fun a hK => ?_
          refine wpList_nil ?_
          obtain rfl := Option.some.inj H
          refine wp_ret ?_
          repeat (first | refine ret_then ?_ | refine ret_block ?_ | refine ret_scope ?_)
          exact ret_1 Try.results12 hK (rv_tmp hK rfl) ⟨rfl, hS.bel⟩

/-! ### catchment/catchmentlaw15.holds: function 22 -/
set_option maxHeartbeats 4000000 in
set_option maxRecDepth 100000 in
theorem law15_holds.calls (a0 : ByteArray) {w0 : World} {RA : Hp} (hRA : RA.sub w0) (hG : GF RA) {r : Bool} (H : law15_holds a0 = some r) : CallsV Try.prog 22 #[.string a0] w0 (.bool r) := by
  unfold law15_holds at H
  refine enter (args := [.string a0]) Try.func22 rfl Try.ntmps22 rfl fun a hK => ?_
  have hS := St.init (R := fun _ => none) (w := w0) (fun _ _ h => by cases h)
  have hRL := RLe.refl (M := []) w0 (fun _ => none)
  refine wp_seq ?_
  refine wp_region_lit ?_
  refine sl hK (by decide) rfl rfl (r_assign hK rfl) fun a hK => ?_
  refine wpList_nil ?_
  refine wp_seq ?_
  refine wp_region_lit ?_
  refine sl hK (by decide) rfl rfl (r_move hK rfl) fun a hK => ?_
  obtain ⟨y_1, h_2, H⟩ := bind_some H
  refine sl_call Try.call43 hK (by decide) rfl rfl rfl (law15_cond.calls a0 hS.sub h_2) fun a v_ w hv_ hK => ?_
  obtain ⟨R_3, v_6, cs_7, hv_, hr_, hl_4, hq_8⟩ := hv_
  have hv_ := hv_.symm
  subst hv_
  obtain ⟨hS, hl_4⟩ := hS.sp0.back hr_ hl_4
  have hS := hS.un1
  have hRL := hRL.trans hl_4
  refine sl_alloc Try.zeroValue24 hS hK (by decide) rfl rfl fun a w b_9 hS hK => ?_
  refine sl_storeA (vs := [v_6]) (c' := [v_6]) Try.sizeOf24 hS hK rfl rfl rfl rfl (all_cons (hS.row_one (.tail _ (.head _))) (all_nil)) (Nat.le_of_ble_eq_true rfl) rfl fun a w hS hK => ?_
  refine wpList_nil ?_
  refine wp_seq ?_
  refine wp_region_lit ?_
  refine sl hK (by decide) rfl rfl (r_buildC (ps := [(0, .string (⟨#[104, 111, 115, 116]⟩ : ByteArray)), (1, .int .i64 2)]) (c := [.string (⟨#[104, 111, 115, 116]⟩ : ByteArray), .int .i64 2]) Try.underlying57 Try.zeroValue57 places57 hK rfl (pc_cons rfl (pc_cons rfl pc_nil)) rfl rfl) fun a hK => ?_
  refine sl hK (by decide) rfl rfl (r_buildC (ps := [(0, .string (⟨#[110]⟩ : ByteArray)), (1, .int .i64 1)]) (c := [.string (⟨#[110]⟩ : ByteArray), .int .i64 1]) Try.underlying57 Try.zeroValue57 places57 hK rfl (pc_cons rfl (pc_cons rfl pc_nil)) rfl rfl) fun a hK => ?_
  refine sl_buildSliceF (zc := [.string (⟨#[]⟩ : ByteArray), .int .i64 0]) (ps := [(0, .agg #[.string (⟨#[104, 111, 115, 116]⟩ : ByteArray), .int .i64 2]), (1, .agg #[.string (⟨#[110]⟩ : ByteArray), .int .i64 1])]) (c := [.string (⟨#[104, 111, 115, 116]⟩ : ByteArray), .int .i64 2, .string (⟨#[110]⟩ : ByteArray), .int .i64 1]) [[.string (⟨#[104, 111, 115, 116]⟩ : ByteArray), .int .i64 2], [.string (⟨#[110]⟩ : ByteArray), .int .i64 1]] Try.underlying25 Try.sizeOf57 Try.zeroValue57 rfl (pc_cons rfl (pc_cons rfl pc_nil)) rfl rfl (Nat.le_of_ble_eq_true rfl) rfl (all_cons rfl (all_cons rfl (all_nil))) rfl hS hK (by decide) rfl fun a w b_10 hS hK => ?_
  refine sl hK (by decide) rfl rfl (r_assign hK rfl) fun a hK => ?_
  refine wpList_nil ?_
  refine wp_seq ?_
  refine wp_region_lit ?_
  refine sl hK (by decide) rfl rfl (r_loadA (cs := [v_6]) Try.isAgg24 Try.sizeOf24 rfl hK rfl (hS.cells_of (m := 1) (.tail _ (.head _)) rfl)) fun a hK => ?_
  refine sl hK (by decide) rfl rfl (r_fieldAddr Try.underlying24 rfl Try.sizeOf22 hK rfl) fun a hK => ?_
  refine sl hK (by decide) rfl rfl (r_load Try.isAgg22 hK rfl (hS.cell (.tail _ (.head _)) rfl)) fun a hK => ?_
  refine sl hK (by decide) rfl rfl (r_len_O Try.underlying22 hS (.tail _ (.tail _ (.head _))) hK rfl) fun a hK => ?_
  refine sl hK (by decide) rfl rfl (r_ibin hK rfl rfl rfl) fun a hK => ?_
  refine sl hK (by decide) rfl rfl (r_move hK rfl) fun a hK => ?_
  refine sl hK (by decide) rfl rfl (r_buildC (ps := [(0, .int .i64 2), (2, .string (⟨#[119, 101, 98, 49]⟩ : ByteArray))]) (c := [.int .i64 2, .int .i64 0, .string (⟨#[119, 101, 98, 49]⟩ : ByteArray), .int .i64 0, .int .i64 0, .int .i64 0, .int .i64 0, .int .i64 0, .int .i64 0, .int .i64 0, .int .i64 0]) Try.underlying39 Try.zeroValue39 places39 hK rfl (pc_cons rfl (pc_cons rfl pc_nil)) rfl rfl) fun a hK => ?_
  refine sl hK (by decide) rfl rfl (r_buildC (ps := [(0, .int .i64 1), (1, .int .i64 5)]) (c := [.int .i64 1, .int .i64 5, .string (⟨#[]⟩ : ByteArray), .int .i64 0, .int .i64 0, .int .i64 0, .int .i64 0, .int .i64 0, .int .i64 0, .int .i64 0, .int .i64 0]) Try.underlying39 Try.zeroValue39 places39 hK rfl (pc_cons rfl (pc_cons rfl pc_nil)) rfl rfl) fun a hK => ?_
  refine sl_buildSliceF (zc := [.int .i64 0, .int .i64 0, .string (⟨#[]⟩ : ByteArray), .int .i64 0, .int .i64 0, .int .i64 0, .int .i64 0, .int .i64 0, .int .i64 0, .int .i64 0, .int .i64 0]) (ps := [(0, .agg #[.int .i64 2, .int .i64 0, .string (⟨#[119, 101, 98, 49]⟩ : ByteArray), .int .i64 0, .int .i64 0, .int .i64 0, .int .i64 0, .int .i64 0, .int .i64 0, .int .i64 0, .int .i64 0]), (1, .agg #[.int .i64 1, .int .i64 5, .string (⟨#[]⟩ : ByteArray), .int .i64 0, .int .i64 0, .int .i64 0, .int .i64 0, .int .i64 0, .int .i64 0, .int .i64 0, .int .i64 0])]) (c := [.int .i64 2, .int .i64 0, .string (⟨#[119, 101, 98, 49]⟩ : ByteArray), .int .i64 0, .int .i64 0, .int .i64 0, .int .i64 0, .int .i64 0, .int .i64 0, .int .i64 0, .int .i64 0, .int .i64 1, .int .i64 5, .string (⟨#[]⟩ : ByteArray), .int .i64 0, .int .i64 0, .int .i64 0, .int .i64 0, .int .i64 0, .int .i64 0, .int .i64 0, .int .i64 0]) [[.int .i64 2, .int .i64 0, .string (⟨#[119, 101, 98, 49]⟩ : ByteArray), .int .i64 0, .int .i64 0, .int .i64 0, .int .i64 0, .int .i64 0, .int .i64 0, .int .i64 0, .int .i64 0], [.int .i64 1, .int .i64 5, .string (⟨#[]⟩ : ByteArray), .int .i64 0, .int .i64 0, .int .i64 0, .int .i64 0, .int .i64 0, .int .i64 0, .int .i64 0, .int .i64 0]] Try.underlying33 Try.sizeOf39 Try.zeroValue39 rfl (pc_cons rfl (pc_cons rfl pc_nil)) rfl rfl (Nat.le_of_ble_eq_true rfl) rfl (all_cons rfl (all_cons rfl (all_nil))) rfl hS hK (by decide) rfl fun a w b_11 hS hK => ?_
  obtain ⟨y_12, h_13, H⟩ := bind_some H
  refine sl_callV Try.call12 hS hK (by decide) rfl rfl rfl (pred_Holds.calls y_1 (IntKind.i64.wrap ((y_1.N.length : Int) - 1)) [(⟨(⟨#[104, 111, 115, 116]⟩ : ByteArray), 2⟩ : api_Col), (⟨(⟨#[110]⟩ : ByteArray), 1⟩ : api_Col)] [(⟨2, 0, (⟨#[119, 101, 98, 49]⟩ : ByteArray), (⟨0, 0, 0, 0, 0, 0, 0, 0⟩ : Arr8)⟩ : api_Value), (⟨1, 5, (⟨#[]⟩ : ByteArray), (⟨0, 0, 0, 0, 0, 0, 0, 0⟩ : Arr8)⟩ : api_Value)] (lentOf_sub [] _) (hS.lend_row0 (.tail _ (.tail _ (.tail _ (.head _)))) hq_8 rfl rfl) (hS.lend_lit0 (ty := ty_api_Col) (xs := [(⟨(⟨#[104, 111, 115, 116]⟩ : ByteArray), 2⟩ : api_Col), (⟨(⟨#[110]⟩ : ByteArray), 1⟩ : api_Col)]) (.tail _ (.head _)) (Reps.cons (show Ty.rep ty_api_Col _ [.string (⟨#[104, 111, 115, 116]⟩ : ByteArray), .int .i64 2] (⟨(⟨#[104, 111, 115, 116]⟩ : ByteArray), 2⟩ : api_Col) from rfl) (Reps.cons (show Ty.rep ty_api_Col _ [.string (⟨#[110]⟩ : ByteArray), .int .i64 1] (⟨(⟨#[110]⟩ : ByteArray), 1⟩ : api_Col) from rfl) (Reps.nil _ _))) rfl) (hS.lend_lit0 (ty := ty_api_Value) (xs := [(⟨2, 0, (⟨#[119, 101, 98, 49]⟩ : ByteArray), (⟨0, 0, 0, 0, 0, 0, 0, 0⟩ : Arr8)⟩ : api_Value), (⟨1, 5, (⟨#[]⟩ : ByteArray), (⟨0, 0, 0, 0, 0, 0, 0, 0⟩ : Arr8)⟩ : api_Value)]) (.head _) (Reps.cons (show Ty.rep ty_api_Value _ [.int .i64 2, .int .i64 0, .string (⟨#[119, 101, 98, 49]⟩ : ByteArray), .int .i64 0, .int .i64 0, .int .i64 0, .int .i64 0, .int .i64 0, .int .i64 0, .int .i64 0, .int .i64 0] (⟨2, 0, (⟨#[119, 101, 98, 49]⟩ : ByteArray), (⟨0, 0, 0, 0, 0, 0, 0, 0⟩ : Arr8)⟩ : api_Value) from rfl) (Reps.cons (show Ty.rep ty_api_Value _ [.int .i64 1, .int .i64 5, .string (⟨#[]⟩ : ByteArray), .int .i64 0, .int .i64 0, .int .i64 0, .int .i64 0, .int .i64 0, .int .i64 0, .int .i64 0, .int .i64 0] (⟨1, 5, (⟨#[]⟩ : ByteArray), (⟨0, 0, 0, 0, 0, 0, 0, 0⟩ : Arr8)⟩ : api_Value) from rfl) (Reps.nil _ _))) rfl) (GF.mono (hS.raLe0 hRA nil_not) hG) h_13) fun a w hS hK => ?_
  refine sl hK (by decide) rfl rfl (r_assign hK rfl) fun a hK => ?_
  refine wpList_nil ?_
  obtain rfl := Option.some.inj H
  refine wp_ret ?_
  repeat (first | refine ret_then ?_ | refine ret_block ?_ | refine ret_scope ?_)
  exact ret_1 Try.results22 hK (rv_tmp hK rfl) ⟨rfl, hS.bel⟩

/-! ### catchment/catchmentlaw15.shown: function 9 -/
set_option maxHeartbeats 4000000 in
set_option maxRecDepth 100000 in
theorem law15_shown.calls {w0 : World} {RA : Hp} (hRA : RA.sub w0) (hG : GF RA) {r : Bool} (H : law15_shown  = some r) : CallsV Try.prog 9 #[] w0 (.bool r) := by
  unfold law15_shown at H
  refine enter (args := []) Try.func9 rfl Try.ntmps9 rfl fun a hK => ?_
  have hS := St.init (R := fun _ => none) (w := w0) (fun _ _ h => by cases h)
  have hRL := RLe.refl (M := []) w0 (fun _ => none)
  refine wp_seq ?_
  refine wp_region_lit ?_
  refine sl hK (by decide) rfl rfl (r_assign hK rfl) fun a hK => ?_
  refine wpList_nil ?_
  refine wp_seq ?_
  refine wp_region_lit ?_
  obtain ⟨y_1, h_2, H⟩ := bind_some H
  refine sl_callV Try.call22 hS hK (by decide) rfl rfl rfl (law15_holds.calls (⟨#[104, 111, 115, 116, 32, 104, 97, 115, 32, 34, 101, 98, 34]⟩ : ByteArray) (lentOf_sub [] _) (GF.mono (hS.raLe0 hRA nil_not) hG) h_2) fun a w hS hK => ?_
  refine sl hK (by decide) rfl rfl (r_move hK rfl) fun a hK => ?_
  rcases or_b y_1 with hb_3 | hb_3
  · rw [ifb_t hb_3] at H
    obtain ⟨y_4, h_5, H⟩ := bind_some H
    refine sl_callV Try.call22 hS hK (by decide) (wtt hb_3) rfl rfl (law15_holds.calls (⟨#[104, 111, 115, 116, 32, 104, 97, 115, 32, 34, 120, 34]⟩ : ByteArray) (lentOf_sub [] _) (GF.mono (hS.raLe0 hRA nil_not) hG) h_5) fun a w hS hK => ?_
    refine sl hK (by decide) (wtt hb_3) rfl (r_un hK rfl (u_not _)) fun a hK => ?_
    refine sl hK (by decide) rfl rfl (r_pick_t hb_3 hK rfl rfl) fun a hK => ?_
    refine sl hK (by decide) rfl rfl (r_move hK rfl) fun a hK => ?_
    rcases or_b (!y_4) with hb_6 | hb_6
    · rw [ifb_t hb_6] at H
      obtain ⟨y_7, h_8, H⟩ := bind_some H
      refine sl_callV Try.call22 hS hK (by decide) (wtt hb_6) rfl rfl (law15_holds.calls (⟨#[110, 32, 62, 32, 52, 32, 97, 110, 100, 32, 110, 111, 116, 32, 104, 111, 115, 116, 32, 61, 32, 34, 119, 101, 98, 34]⟩ : ByteArray) (lentOf_sub [] _) (GF.mono (hS.raLe0 hRA nil_not) hG) h_8) fun a w hS hK => ?_
      refine sl hK (by decide) rfl rfl (r_pick_t hb_6 hK rfl rfl) fun a hK => ?_
      refine sl hK (by decide) rfl rfl (r_move hK rfl) fun a hK => ?_
      rcases or_b y_7 with hb_9 | hb_9
      · rw [ifb_t hb_9] at H
        obtain ⟨y_10, h_11, H⟩ := bind_some H
        refine sl_callV Try.call22 hS hK (by decide) (wtt hb_9) rfl rfl (law15_holds.calls (⟨#[121, 32, 61, 32, 49]⟩ : ByteArray) (lentOf_sub [] _) (GF.mono (hS.raLe0 hRA nil_not) hG) h_11) fun a w hS hK => ?_
        refine sl hK (by decide) (wtt hb_9) rfl (r_un hK rfl (u_not _)) fun a hK => ?_
        refine sl hK (by decide) rfl rfl (r_pick_t hb_9 hK rfl rfl) fun a hK => ?_
        refine sl hK (by decide) rfl rfl (r_assign hK rfl) fun a hK => ?_
        refine wpList_nil ?_
        obtain rfl := Option.some.inj H
        refine wp_ret ?_
        repeat (first | refine ret_then ?_ | refine ret_block ?_ | refine ret_scope ?_)
        exact ret_1 Try.results9 hK (rv_tmp hK rfl) ⟨rfl, hS.bel⟩
      · rw [ifb_f hb_9] at H
        refine sl_skip hK (by decide) (wtf hb_9) rfl fun a hK => ?_
        refine sl_skip hK (by decide) (wtf hb_9) rfl fun a hK => ?_
        refine sl hK (by decide) rfl rfl (r_pick_f hb_9 hK rfl rfl) fun a hK => ?_
        refine sl hK (by decide) rfl rfl (r_assign hK rfl) fun a hK => ?_
        refine wpList_nil ?_
        obtain rfl := Option.some.inj H
        refine wp_ret ?_
        repeat (first | refine ret_then ?_ | refine ret_block ?_ | refine ret_scope ?_)
        exact ret_1 Try.results9 hK (rv_tmp hK rfl) ⟨rfl, hS.bel⟩
    · rw [ifb_f hb_6] at H
      refine sl_skip hK (by decide) (wtf hb_6) rfl fun a hK => ?_
      refine sl hK (by decide) rfl rfl (r_pick_f hb_6 hK rfl rfl) fun a hK => ?_
      refine sl hK (by decide) rfl rfl (r_move hK rfl) fun a hK => ?_
      refine sl_skip hK (by decide) rfl rfl fun a hK => ?_
      refine sl_skip hK (by decide) rfl rfl fun a hK => ?_
      refine sl hK (by decide) rfl rfl (r_pick hK rfl rfl rfl) fun a hK => ?_
      refine sl hK (by decide) rfl rfl (r_assign hK rfl) fun a hK => ?_
      refine wpList_nil ?_
      obtain rfl := Option.some.inj H
      refine wp_ret ?_
      repeat (first | refine ret_then ?_ | refine ret_block ?_ | refine ret_scope ?_)
      exact ret_1 Try.results9 hK (rv_tmp hK rfl) ⟨rfl, hS.bel⟩
  · rw [ifb_f hb_3] at H
    refine sl_skip hK (by decide) (wtf hb_3) rfl fun a hK => ?_
    refine sl_skip hK (by decide) (wtf hb_3) rfl fun a hK => ?_
    refine sl hK (by decide) rfl rfl (r_pick_f hb_3 hK rfl rfl) fun a hK => ?_
    refine sl hK (by decide) rfl rfl (r_move hK rfl) fun a hK => ?_
    refine sl_skip hK (by decide) rfl rfl fun a hK => ?_
    refine sl hK (by decide) rfl rfl (r_pick hK rfl rfl rfl) fun a hK => ?_
    refine sl hK (by decide) rfl rfl (r_move hK rfl) fun a hK => ?_
    refine sl_skip hK (by decide) rfl rfl fun a hK => ?_
    refine sl_skip hK (by decide) rfl rfl fun a hK => ?_
    refine sl hK (by decide) rfl rfl (r_pick hK rfl rfl rfl) fun a hK => ?_
    refine sl hK (by decide) rfl rfl (r_assign hK rfl) fun a hK => ?_
    refine wpList_nil ?_
    obtain rfl := Option.some.inj H
    refine wp_ret ?_
    repeat (first | refine ret_then ?_ | refine ret_block ?_ | refine ret_scope ?_)
    exact ret_1 Try.results9 hK (rv_tmp hK rfl) ⟨rfl, hS.bel⟩

/-! ### catchment/catchmentlaw15.few: function 10 -/
set_option maxHeartbeats 4000000 in
set_option maxRecDepth 100000 in
theorem law15_few.calls (a0 : api_Query) {w0 : World} {R : Hp} {v0_0 : Value} (hR : R.sub w0) (h0_0 : SlR ty_api_Node R v0_0 a0.N) {r : api_Query} (H : law15_few a0 = some r) : Calls Try.prog 10 #[.agg #[v0_0]] w0 (Rets fun v w' => ∃ (R' : Hp) (u0 : Value), v = .agg #[u0] ∧ St [] w0 w' R' [] ∧ RLe [] w0 R R' ∧ SlR ty_api_Node R' u0 r.N) := by
  unfold law15_few at H
  refine enter (args := [.agg #[v0_0]]) Try.func10 rfl Try.ntmps10 rfl fun a hK => ?_
  have hS := St.init hR
  have hRL := RLe.refl (M := []) w0 R
  refine wp_seq ?_
  refine wp_region_lit ?_
  refine sl_box hS hK (by decide) rfl rfl (c := [v0_0]) rfl fun a w b_1 hS hK => ?_
  refine sl_alloc Try.zeroValue24 hS hK (by decide) rfl rfl fun a w b_2 hS hK => ?_
  refine wpList_nil ?_
  refine wp_seq ?_
  refine wp_seq ?_
  refine wp_region_lit ?_
  refine sl hK (by decide) rfl rfl (r_fieldAddr Try.underlying24 rfl Try.sizeOf22 hK rfl) fun a hK => ?_
  refine sl hK (by decide) rfl rfl (r_load Try.isAgg22 hK rfl (hS.cell (.tail _ (.head _)) rfl)) fun a hK => ?_
  refine sl hK (by decide) rfl rfl (r_len_R Try.underlying22 h0_0 hK rfl) fun a hK => ?_
  refine sl hK (by decide) rfl rfl (r_ibin hK rfl rfl rfl) fun a hK => ?_
  refine wpList_nil ?_
  refine wp_cond_split (hK.ev rfl) (fun (hb_3 : (decide ((a0.N.length : Int) > 100)) = true) => ?_) (fun (hb_3 : (decide ((a0.N.length : Int) > 100)) = false) => ?_)
  · rw [ifb_t hb_3] at H
    refine wp_region_lit ?_
    refine sl hK (by decide) rfl rfl (r_fieldAddr Try.underlying24 rfl Try.sizeOf22 hK rfl) fun a hK => ?_
    refine sl hK (by decide) rfl rfl (r_load Try.isAgg22 hK rfl (hS.cell (.tail _ (.head _)) rfl)) fun a hK => ?_
    obtain ⟨y_4, h_5, H⟩ := bind_some H
    obtain ⟨v_6, hs_7, hr_8⟩ := r_slice_R (x := .tmp 8) (lo := none) (hi := some (.const (.int .i64 100))) Try.underlying22 Try.sizeOf51 h0_0 h_5 hK rfl rfl ⟨_, rfl⟩
    refine sl hK (by decide) rfl rfl (hr_8 _ _ _ _ _ _ _ hK) fun a hK => ?_
    refine sl hK (by decide) rfl rfl (r_fieldAddr Try.underlying24 rfl Try.sizeOf22 hK rfl) fun a hK => ?_
    have hS := hS.pk1
    refine sl_store1 (c' := [v_6]) Try.sizeOf22 hS hK rfl rfl rfl hs_7.one (Nat.le_of_ble_eq_true rfl) rfl fun a w hS hK => ?_
    refine wpList_nil ?_
    refine wp_seq ?_
    refine wp_region_lit ?_
    refine sl hK (by decide) rfl rfl (r_loadA (cs := [v_6]) Try.isAgg24 Try.sizeOf24 rfl hK rfl (hS.cells_of (m := 1) (.head _) rfl)) fun a hK => ?_
    have hS := hS.pk1
    refine sl_storeA (vs := [v_6]) (c' := [v_6]) Try.sizeOf24 hS hK rfl rfl rfl rfl (all_cons hs_7.one (all_nil)) (Nat.le_of_ble_eq_true rfl) rfl fun a w hS hK => ?_
    refine wpList_nil ?_
    obtain rfl := Option.some.inj H
    refine wp_ret ?_
    repeat (first | refine ret_then ?_ | refine ret_block ?_ | refine ret_scope ?_)
    exact ret_1 Try.results10 hK (rv_cell (c := [v_6]) Try.isAgg24 Try.sizeOf24 hS (.head _) rfl hK rfl) ⟨_, rfl, _, _, rfl, (hS.trunc 0), hRL, hs_7⟩
  · rw [ifb_f hb_3] at H
    refine wp_skip ?_
    refine wp_seq ?_
    refine wp_region_lit ?_
    refine sl hK (by decide) rfl rfl (r_loadA (cs := [v0_0]) Try.isAgg24 Try.sizeOf24 rfl hK rfl (hS.cells_of (m := 1) (.tail _ (.head _)) rfl)) fun a hK => ?_
    refine sl_storeA (vs := [v0_0]) (c' := [v0_0]) Try.sizeOf24 hS hK rfl rfl rfl rfl (all_cons h0_0.one (all_nil)) (Nat.le_of_ble_eq_true rfl) rfl fun a w hS hK => ?_
    refine wpList_nil ?_
    obtain rfl := Option.some.inj H
    refine wp_ret ?_
    repeat (first | refine ret_then ?_ | refine ret_block ?_ | refine ret_scope ?_)
    exact ret_1 Try.results10 hK (rv_cell (c := [v0_0]) Try.isAgg24 Try.sizeOf24 hS (.head _) rfl hK rfl) ⟨_, rfl, _, _, rfl, (hS.trunc 0), hRL, h0_0⟩

/-! ### catchment/catchmentlaw15.cut: function 11 -/
set_option maxHeartbeats 4000000 in
set_option maxRecDepth 100000 in
theorem law15_cut.calls (a0 : api_Table) {w0 : World} {R : Hp} {v0_0 : Value} {v0_1 : Value} (hR : R.sub w0) (h0_0 : SlR ty_api_Col R v0_0 a0.Cols) (h0_1 : SlR (tySl ty_api_Value) R v0_1 a0.Rows) {r : api_Table} (H : law15_cut a0 = some r) : Calls Try.prog 11 #[.agg #[v0_0, v0_1]] w0 (Rets fun v w' => ∃ (R' : Hp) (u0 : Value) (u1 : Value), v = .agg #[u0, u1] ∧ St [] w0 w' R' [] ∧ RLe [] w0 R R' ∧ SlR ty_api_Col R' u0 r.Cols ∧ SlR (tySl ty_api_Value) R' u1 r.Rows) := by
  unfold law15_cut at H
  refine enter (args := [.agg #[v0_0, v0_1]]) Try.func11 rfl Try.ntmps11 rfl fun a hK => ?_
  have hS := St.init hR
  have hRL := RLe.refl (M := []) w0 R
  refine wp_seq ?_
  refine wp_region_lit ?_
  refine sl_box hS hK (by decide) rfl rfl (c := [v0_0, v0_1]) rfl fun a w b_1 hS hK => ?_
  refine sl_alloc Try.zeroValue28 hS hK (by decide) rfl rfl fun a w b_2 hS hK => ?_
  refine wpList_nil ?_
  refine wp_seq ?_
  refine wp_seq ?_
  refine wp_region_lit ?_
  refine sl hK (by decide) rfl rfl (r_fieldAddr Try.underlying28 rfl Try.sizeOf26 hK rfl) fun a hK => ?_
  refine sl hK (by decide) rfl rfl (r_load Try.isAgg26 hK rfl (hS.cell (.tail _ (.head _)) rfl)) fun a hK => ?_
  refine sl hK (by decide) rfl rfl (r_len_R Try.underlying26 h0_1 hK rfl) fun a hK => ?_
  refine sl hK (by decide) rfl rfl (r_ibin hK rfl rfl rfl) fun a hK => ?_
  refine wpList_nil ?_
  refine wp_cond_split (hK.ev rfl) (fun (hb_3 : (decide ((a0.Rows.length : Int) > 100)) = true) => ?_) (fun (hb_3 : (decide ((a0.Rows.length : Int) > 100)) = false) => ?_)
  · rw [ifb_t hb_3] at H
    refine wp_region_lit ?_
    refine sl hK (by decide) rfl rfl (r_fieldAddr Try.underlying28 rfl Try.sizeOf26 hK rfl) fun a hK => ?_
    refine sl hK (by decide) rfl rfl (r_load Try.isAgg26 hK rfl (hS.cell (.tail _ (.head _)) rfl)) fun a hK => ?_
    obtain ⟨y_4, h_5, H⟩ := bind_some H
    obtain ⟨v_6, hs_7, hr_8⟩ := r_slice_R (x := .tmp 8) (lo := none) (hi := some (.const (.int .i64 100))) Try.underlying26 Try.sizeOf33 h0_1 h_5 hK rfl rfl ⟨_, rfl⟩
    refine sl hK (by decide) rfl rfl (hr_8 _ _ _ _ _ _ _ hK) fun a hK => ?_
    refine sl hK (by decide) rfl rfl (r_fieldAddr Try.underlying28 rfl Try.sizeOf26 hK rfl) fun a hK => ?_
    have hS := hS.pk1
    refine sl_store1 (c' := [v0_0, v_6]) Try.sizeOf26 hS hK rfl rfl rfl hs_7.one (Nat.le_of_ble_eq_true rfl) rfl fun a w hS hK => ?_
    refine wpList_nil ?_
    refine wp_seq ?_
    refine wp_region_lit ?_
    refine sl hK (by decide) rfl rfl (r_loadA (cs := [v0_0, v_6]) Try.isAgg28 Try.sizeOf28 rfl hK rfl (hS.cells_of (m := 2) (.head _) rfl)) fun a hK => ?_
    have hS := hS.pk1
    refine sl_storeA (vs := [v0_0, v_6]) (c' := [v0_0, v_6]) Try.sizeOf28 hS hK rfl rfl rfl rfl (all_cons h0_0.one (all_cons hs_7.one (all_nil))) (Nat.le_of_ble_eq_true rfl) rfl fun a w hS hK => ?_
    refine wpList_nil ?_
    obtain rfl := Option.some.inj H
    refine wp_ret ?_
    repeat (first | refine ret_then ?_ | refine ret_block ?_ | refine ret_scope ?_)
    exact ret_1 Try.results11 hK (rv_cell (c := [v0_0, v_6]) Try.isAgg28 Try.sizeOf28 hS (.head _) rfl hK rfl) ⟨_, rfl, _, _, _, rfl, (hS.trunc 0), hRL, h0_0, hs_7⟩
  · rw [ifb_f hb_3] at H
    refine wp_skip ?_
    refine wp_seq ?_
    refine wp_region_lit ?_
    refine sl hK (by decide) rfl rfl (r_loadA (cs := [v0_0, v0_1]) Try.isAgg28 Try.sizeOf28 rfl hK rfl (hS.cells_of (m := 2) (.tail _ (.head _)) rfl)) fun a hK => ?_
    refine sl_storeA (vs := [v0_0, v0_1]) (c' := [v0_0, v0_1]) Try.sizeOf28 hS hK rfl rfl rfl rfl (all_cons h0_0.one (all_cons h0_1.one (all_nil))) (Nat.le_of_ble_eq_true rfl) rfl fun a w hS hK => ?_
    refine wpList_nil ?_
    obtain rfl := Option.some.inj H
    refine wp_ret ?_
    repeat (first | refine ret_then ?_ | refine ret_block ?_ | refine ret_scope ?_)
    exact ret_1 Try.results11 hK (rv_cell (c := [v0_0, v0_1]) Try.isAgg28 Try.sizeOf28 hS (.head _) rfl hK rfl) ⟨_, rfl, _, _, _, rfl, (hS.trunc 0), hRL, h0_0, h0_1⟩

/-! ### catchment/catchmentref02.Find: function 30 -/
set_option maxHeartbeats 4000000 in
set_option maxRecDepth 100000 in
theorem ref02_Find.calls (a0 : List api_Col) (a1 : ByteArray) {w0 : World} {RA : Hp} {v0_0 : Value} (hRA : RA.sub w0) (h0_0 : SlR ty_api_Col RA v0_0 a0) {r : Int} (H : ref02_Find a0 a1 = some r) : CallsV Try.prog 30 #[v0_0, .string a1] w0 (.int .i64 r) := by
  unfold ref02_Find at H
  refine enter (args := [v0_0, .string a1]) Try.func30 rfl Try.ntmps30 rfl fun a hK => ?_
  have hS := St.init (R := fun _ => none) (w := w0) (fun _ _ h => by cases h)
  have hRL := RLe.refl (M := []) w0 (fun _ => none)
  refine wp_seq ?_
  refine wp_region_lit ?_
  refine sl hK (by decide) rfl rfl (r_assign hK rfl) fun a hK => ?_
  refine wpList_nil ?_
  refine wp_seq ?_
  refine wp_seq ?_
  refine wp_region_lit ?_
  refine sl hK (by decide) rfl rfl (r_assign hK rfl) fun a hK => ?_
  refine wpList_nil ?_
  refine wp_block ?_
  refine wp_loop_k (fun k_l0 a w => ∃ (x_13 : Int), ref02_Find.l0 a0 a1 k_l0 x_13 = some r ∧ Kn 20 a [(0, v0_0), (1, .string a1), (5, .int .i64 x_13)] ∧ St [] w0 w (fun _ => none) []) (((a0.length : Int) - 0).toNat + 1) ?_ ?_
  · exact ⟨0, H, hK.sub (all_cons rfl (all_cons rfl (all_cons rfl (all_nil)))), hS⟩
  · rintro k_l0 a w ⟨x_13, H, hK, hS⟩
    cases k_l0 with
    | zero => cases H
    | succ k_l0 =>
    rw [ref02_Find.l0.eq_2] at H
    refine wp_seq ?_
    refine wp_seq ?_
    refine wp_region_lit ?_
    refine sl hK (by decide) rfl rfl (r_move hK rfl) fun a hK => ?_
    refine sl hK (by decide) rfl rfl (r_move hK rfl) fun a hK => ?_
    refine sl hK (by decide) rfl rfl (r_len_R Try.underlying25 h0_0 hK rfl) fun a hK => ?_
    refine sl hK (by decide) rfl rfl (r_ibin hK rfl rfl rfl) fun a hK => ?_
    refine wpList_nil ?_
    refine wp_cond_split (hK.ev rfl) (fun (hb_26 : (decide (x_13 < (a0.length : Int))) = true) => ?_) (fun (hb_26 : (decide (x_13 < (a0.length : Int))) = false) => ?_)
    · rw [ifb_t hb_26] at H
      refine wp_skip ?_
      refine wp_seq ?_
      refine wp_block ?_
      refine wp_seq ?_
      refine wp_region_lit ?_
      refine sl hK (by decide) rfl rfl (r_move hK rfl) fun a hK => ?_
      refine sl hK (by decide) rfl rfl (r_move hK rfl) fun a hK => ?_
      obtain ⟨y_27, h_28, H⟩ := bind_some H
      obtain ⟨b_29, o_30, c_31, cs_32, hv_33, hr_34, hc_35, h_280, h_281⟩ := h0_0.ix h_28
      subst hr_34
      refine sl hK (by decide) rfl rfl (r_indexAddr_R Try.underlying25 Try.sizeOf57 hv_33 h_280 h_281 hK rfl rfl) fun a hK => ?_
      refine sl hK (by decide) rfl rfl (r_fieldAddr Try.underlying57 rfl Try.sizeOf9 hK rfl) fun a hK => ?_
      refine sl hK (by decide) rfl rfl (r_load Try.isAgg9 hK rfl ((hS.ra hRA nil_not).cell (hc_35 0 _ rfl))) fun a hK => ?_
      refine sl hK (by decide) rfl rfl (r_move hK rfl) fun a hK => ?_
      refine sl hK (by decide) rfl rfl (r_sbin hK rfl rfl rfl) fun a hK => ?_
      refine wpList_nil ?_
      refine wp_cond_split (hK.ev rfl) (fun (hb_36 : (y_27.Name.toList == a1.toList) = true) => ?_) (fun (hb_36 : (y_27.Name.toList == a1.toList) = false) => ?_)
      · rw [ifb_t hb_36] at H
        refine wp_seq ?_
        refine wp_region_lit ?_
        refine sl hK (by decide) rfl rfl (r_move hK rfl) fun a hK => ?_
        refine sl hK (by decide) rfl rfl (r_assign hK rfl) fun a hK => ?_
        refine wpList_nil ?_
        obtain rfl := Option.some.inj H
        refine wp_ret ?_
        repeat (first | refine ret_then ?_ | refine ret_block ?_ | refine ret_scope ?_)
        exact ret_1 Try.results30 hK (rv_tmp hK rfl) ⟨rfl, hS.bel⟩
      · rw [ifb_f hb_36] at H
        refine wp_skip ?_
        refine wp_region_lit ?_
        refine sl hK (by decide) rfl rfl (r_move hK rfl) fun a hK => ?_
        refine sl hK (by decide) rfl rfl (r_ibin hK rfl rfl rfl) fun a hK => ?_
        refine sl hK (by decide) rfl rfl (r_assign hK rfl) fun a hK => ?_
        refine wpList_nil ?_
        exact ⟨_, Nat.lt_succ_self _, (IntKind.i64.wrap (x_13 + 1)), H, hK.sub (all_cons rfl (all_cons rfl (all_cons rfl (all_nil)))), hS⟩
    · rw [ifb_f hb_26] at H
      refine wp_exit ?_
      refine wp_seq ?_
      refine wp_region_lit ?_
      refine sl hK (by decide) rfl rfl (r_assign hK rfl) fun a hK => ?_
      refine wpList_nil ?_
      obtain rfl := Option.some.inj H
      refine wp_ret ?_
      repeat (first | refine ret_then ?_ | refine ret_block ?_ | refine ret_scope ?_)
      exact ret_1 Try.results30 hK (rv_tmp hK rfl) ⟨rfl, hS.bel⟩

/-! ### catchment/catchmentref01.order: function 66 -/
set_option maxHeartbeats 4000000 in
set_option maxRecDepth 100000 in
theorem ref01_order.calls (a0 : Int) (a1 : Int) {r : Int} (H : ref01_order a0 a1 = some r) (w0 : World) : CallsV Try.prog 66 #[.int .i64 a0, .int .i64 a1] w0 (.int .i64 r) := by
  unfold ref01_order at H
  refine enter (args := [.int .i64 a0, .int .i64 a1]) Try.func66 rfl Try.ntmps66 rfl fun a hK => ?_
  have hS := St.init (R := fun _ => none) (w := w0) (fun _ _ h => by cases h)
  have hRL := RLe.refl (M := []) w0 (fun _ => none)
  refine wp_seq ?_
  refine wp_region_lit ?_
  refine sl hK (by decide) rfl rfl (r_assign hK rfl) fun a hK => ?_
  refine wpList_nil ?_
  refine wp_seq ?_
  refine wp_seq ?_
  refine wp_region_lit ?_
  refine sl hK (by decide) rfl rfl (r_move hK rfl) fun a hK => ?_
  refine sl hK (by decide) rfl rfl (r_move hK rfl) fun a hK => ?_
  refine sl hK (by decide) rfl rfl (r_ibin hK rfl rfl rfl) fun a hK => ?_
  refine wpList_nil ?_
  refine wp_cond_split (hK.ev rfl) (fun (hb_1 : (decide (a0 < a1)) = true) => ?_) (fun (hb_1 : (decide (a0 < a1)) = false) => ?_)
  · rw [ifb_t hb_1] at H
    refine wp_seq ?_
    refine wp_region_lit ?_
    refine sl hK (by decide) rfl rfl (r_assign hK rfl) fun a hK => ?_
    refine wpList_nil ?_
    obtain rfl := Option.some.inj H
    refine wp_ret ?_
    repeat (first | refine ret_then ?_ | refine ret_block ?_ | refine ret_scope ?_)
    exact ret_1 Try.results66 hK (rv_tmp hK rfl) ⟨rfl, hS.bel⟩
  · rw [ifb_f hb_1] at H
    refine wp_skip ?_
    refine wp_seq ?_
    refine wp_seq ?_
    refine wp_region_lit ?_
    refine sl hK (by decide) rfl rfl (r_move hK rfl) fun a hK => ?_
    refine sl hK (by decide) rfl rfl (r_move hK rfl) fun a hK => ?_
    refine sl hK (by decide) rfl rfl (r_ibin hK rfl rfl rfl) fun a hK => ?_
    refine wpList_nil ?_
    refine wp_cond_split (hK.ev rfl) (fun (hb_2 : (decide (a0 > a1)) = true) => ?_) (fun (hb_2 : (decide (a0 > a1)) = false) => ?_)
    · rw [ifb_t hb_2] at H
      refine wp_seq ?_
      refine wp_region_lit ?_
      refine sl hK (by decide) rfl rfl (r_assign hK rfl) fun a hK => ?_
      refine wpList_nil ?_
      obtain rfl := Option.some.inj H
      refine wp_ret ?_
      repeat (first | refine ret_then ?_ | refine ret_block ?_ | refine ret_scope ?_)
      exact ret_1 Try.results66 hK (rv_tmp hK rfl) ⟨rfl, hS.bel⟩
    · rw [ifb_f hb_2] at H
      refine wp_skip ?_
      refine wp_seq ?_
      refine wp_region_lit ?_
      refine sl hK (by decide) rfl rfl (r_assign hK rfl) fun a hK => ?_
      refine wpList_nil ?_
      obtain rfl := Option.some.inj H
      refine wp_ret ?_
      repeat (first | refine ret_then ?_ | refine ret_block ?_ | refine ret_scope ?_)
      exact ret_1 Try.results66 hK (rv_tmp hK rfl) ⟨rfl, hS.bel⟩

/-! ### catchment/catchmentref01.Compare: function 49 -/
set_option maxHeartbeats 4000000 in
set_option maxRecDepth 100000 in
theorem ref01_Compare.calls (a0 : api_Value) (a1 : api_Value) {r : Int} (H : ref01_Compare a0 a1 = some r) (w0 : World) : CallsV Try.prog 49 #[.agg #[.int .i64 a0.Kind, .int .i64 a0.N, .string a0.S, .int .i64 a0.H.a0, .int .i64 a0.H.a1, .int .i64 a0.H.a2, .int .i64 a0.H.a3, .int .i64 a0.H.a4, .int .i64 a0.H.a5, .int .i64 a0.H.a6, .int .i64 a0.H.a7], .agg #[.int .i64 a1.Kind, .int .i64 a1.N, .string a1.S, .int .i64 a1.H.a0, .int .i64 a1.H.a1, .int .i64 a1.H.a2, .int .i64 a1.H.a3, .int .i64 a1.H.a4, .int .i64 a1.H.a5, .int .i64 a1.H.a6, .int .i64 a1.H.a7]] w0 (.int .i64 r) := by
  unfold ref01_Compare at H
  refine enter (args := [.agg #[.int .i64 a0.Kind, .int .i64 a0.N, .string a0.S, .int .i64 a0.H.a0, .int .i64 a0.H.a1, .int .i64 a0.H.a2, .int .i64 a0.H.a3, .int .i64 a0.H.a4, .int .i64 a0.H.a5, .int .i64 a0.H.a6, .int .i64 a0.H.a7], .agg #[.int .i64 a1.Kind, .int .i64 a1.N, .string a1.S, .int .i64 a1.H.a0, .int .i64 a1.H.a1, .int .i64 a1.H.a2, .int .i64 a1.H.a3, .int .i64 a1.H.a4, .int .i64 a1.H.a5, .int .i64 a1.H.a6, .int .i64 a1.H.a7]]) Try.func49 rfl Try.ntmps49 rfl fun a hK => ?_
  have hS := St.init (R := fun _ => none) (w := w0) (fun _ _ h => by cases h)
  have hRL := RLe.refl (M := []) w0 (fun _ => none)
  refine wp_seq ?_
  refine wp_region_lit ?_
  refine sl_box hS hK (by decide) rfl rfl (c := [.int .i64 a0.Kind, .int .i64 a0.N, .string a0.S, .int .i64 a0.H.a0, .int .i64 a0.H.a1, .int .i64 a0.H.a2, .int .i64 a0.H.a3, .int .i64 a0.H.a4, .int .i64 a0.H.a5, .int .i64 a0.H.a6, .int .i64 a0.H.a7]) rfl fun a w b_1 hS hK => ?_
  refine sl_box hS hK (by decide) rfl rfl (c := [.int .i64 a1.Kind, .int .i64 a1.N, .string a1.S, .int .i64 a1.H.a0, .int .i64 a1.H.a1, .int .i64 a1.H.a2, .int .i64 a1.H.a3, .int .i64 a1.H.a4, .int .i64 a1.H.a5, .int .i64 a1.H.a6, .int .i64 a1.H.a7]) rfl fun a w b_2 hS hK => ?_
  refine sl hK (by decide) rfl rfl (r_assign hK rfl) fun a hK => ?_
  refine wpList_nil ?_
  refine wp_seq ?_
  refine wp_seq ?_
  refine wp_region_lit ?_
  refine sl hK (by decide) rfl rfl (r_fieldAddr Try.underlying39 rfl Try.sizeOf3 hK rfl) fun a hK => ?_
  refine sl hK (by decide) rfl rfl (r_load Try.isAgg3 hK rfl (hS.cell (.tail _ (.head _)) rfl)) fun a hK => ?_
  refine sl hK (by decide) rfl rfl (r_fieldAddr Try.underlying39 rfl Try.sizeOf3 hK rfl) fun a hK => ?_
  refine sl hK (by decide) rfl rfl (r_load Try.isAgg3 hK rfl (hS.cell (.head _) rfl)) fun a hK => ?_
  refine sl hK (by decide) rfl rfl (r_ibin hK rfl rfl rfl) fun a hK => ?_
  refine wpList_nil ?_
  refine wp_cond_split (hK.ev rfl) (fun (hb_3 : (a0.Kind != a1.Kind) = true) => ?_) (fun (hb_3 : (a0.Kind != a1.Kind) = false) => ?_)
  · rw [ifb_t hb_3] at H
    refine wp_seq ?_
    refine wp_region_lit ?_
    refine sl hK (by decide) rfl rfl (r_fieldAddr Try.underlying39 rfl Try.sizeOf3 hK rfl) fun a hK => ?_
    refine sl hK (by decide) rfl rfl (r_load Try.isAgg3 hK rfl (hS.cell (.tail _ (.head _)) rfl)) fun a hK => ?_
    refine sl hK (by decide) rfl rfl (r_fieldAddr Try.underlying39 rfl Try.sizeOf3 hK rfl) fun a hK => ?_
    refine sl hK (by decide) rfl rfl (r_load Try.isAgg3 hK rfl (hS.cell (.head _) rfl)) fun a hK => ?_
    obtain ⟨y_4, h_5, H⟩ := bind_some H
    refine sl_callV Try.call66 hS hK (by decide) rfl rfl rfl (ref01_order.calls a0.Kind a1.Kind h_5 _) fun a w hS hK => ?_
    refine sl hK (by decide) rfl rfl (r_assign hK rfl) fun a hK => ?_
    refine wpList_nil ?_
    obtain rfl := Option.some.inj H
    refine wp_ret ?_
    repeat (first | refine ret_then ?_ | refine ret_block ?_ | refine ret_scope ?_)
    exact ret_1 Try.results49 hK (rv_tmp hK rfl) ⟨rfl, hS.bel⟩
  · rw [ifb_f hb_3] at H
    refine wp_skip ?_
    refine wp_seq ?_
    refine wp_seq ?_
    refine wp_region_lit ?_
    refine sl hK (by decide) rfl rfl (r_fieldAddr Try.underlying39 rfl Try.sizeOf3 hK rfl) fun a hK => ?_
    refine sl hK (by decide) rfl rfl (r_load Try.isAgg3 hK rfl (hS.cell (.tail _ (.head _)) rfl)) fun a hK => ?_
    refine sl hK (by decide) rfl rfl (r_fieldAddr Try.underlying39 rfl Try.sizeOf3 hK rfl) fun a hK => ?_
    refine sl hK (by decide) rfl rfl (r_load Try.isAgg3 hK rfl (hS.cell (.head _) rfl)) fun a hK => ?_
    refine sl hK (by decide) rfl rfl (r_ibin hK rfl rfl rfl) fun a hK => ?_
    refine wpList_nil ?_
    refine wp_cond_split (hK.ev rfl) (fun (hb_6 : (a0.N != a1.N) = true) => ?_) (fun (hb_6 : (a0.N != a1.N) = false) => ?_)
    · rw [ifb_t hb_6] at H
      refine wp_seq ?_
      refine wp_region_lit ?_
      refine sl hK (by decide) rfl rfl (r_fieldAddr Try.underlying39 rfl Try.sizeOf3 hK rfl) fun a hK => ?_
      refine sl hK (by decide) rfl rfl (r_load Try.isAgg3 hK rfl (hS.cell (.tail _ (.head _)) rfl)) fun a hK => ?_
      refine sl hK (by decide) rfl rfl (r_fieldAddr Try.underlying39 rfl Try.sizeOf3 hK rfl) fun a hK => ?_
      refine sl hK (by decide) rfl rfl (r_load Try.isAgg3 hK rfl (hS.cell (.head _) rfl)) fun a hK => ?_
      obtain ⟨y_7, h_8, H⟩ := bind_some H
      refine sl_callV Try.call66 hS hK (by decide) rfl rfl rfl (ref01_order.calls a0.N a1.N h_8 _) fun a w hS hK => ?_
      refine sl hK (by decide) rfl rfl (r_assign hK rfl) fun a hK => ?_
      refine wpList_nil ?_
      obtain rfl := Option.some.inj H
      refine wp_ret ?_
      repeat (first | refine ret_then ?_ | refine ret_block ?_ | refine ret_scope ?_)
      exact ret_1 Try.results49 hK (rv_tmp hK rfl) ⟨rfl, hS.bel⟩
    · rw [ifb_f hb_6] at H
      refine wp_skip ?_
      refine wp_seq ?_
      refine wp_seq ?_
      refine wp_region_lit ?_
      refine sl hK (by decide) rfl rfl (r_assign hK rfl) fun a hK => ?_
      refine wpList_nil ?_
      refine wp_block ?_
      refine wp_loop_k (fun k_l0 a w => ∃ (x_36 : Int), ref01_Compare.l0 a0 a1 k_l0 x_36 = some r ∧ Kn 97 a [(2, .pointer (some ⟨b_1, 0, none⟩)), (3, .pointer (some ⟨b_2, 0, none⟩)), (5, .int .i64 x_36)] ∧ St [] w0 w (fun _ => none) [.cells b_1 [.int .i64 a0.Kind, .int .i64 a0.N, .string a0.S, .int .i64 a0.H.a0, .int .i64 a0.H.a1, .int .i64 a0.H.a2, .int .i64 a0.H.a3, .int .i64 a0.H.a4, .int .i64 a0.H.a5, .int .i64 a0.H.a6, .int .i64 a0.H.a7] 39, .cells b_2 [.int .i64 a1.Kind, .int .i64 a1.N, .string a1.S, .int .i64 a1.H.a0, .int .i64 a1.H.a1, .int .i64 a1.H.a2, .int .i64 a1.H.a3, .int .i64 a1.H.a4, .int .i64 a1.H.a5, .int .i64 a1.H.a6, .int .i64 a1.H.a7] 39]) (((a0.S.size : Int) - 0).toNat + 1) ?_ ?_
      · have hS := hS.pk1
        exact ⟨0, H, hK.sub (all_cons rfl (all_cons rfl (all_cons rfl (all_nil)))), hS⟩
      · rintro k_l0 a w ⟨x_36, H, hK, hS⟩
        cases k_l0 with
        | zero => cases H
        | succ k_l0 =>
        rw [ref01_Compare.l0.eq_2] at H
        refine wp_seq ?_
        refine wp_seq ?_
        refine wp_mid (fun a w => ∃ (x_66 : Bool), ref01_Compare.j1 (ref01_Compare.l0 a0 a1 k_l0) a0 a1 x_36 x_66 = some r ∧ Kn 97 a [(2, .pointer (some ⟨b_1, 0, none⟩)), (3, .pointer (some ⟨b_2, 0, none⟩)), (5, .int .i64 x_36), (38, .bool x_66)] ∧ St [] w0 w (fun _ => none) [.cells b_1 [.int .i64 a0.Kind, .int .i64 a0.N, .string a0.S, .int .i64 a0.H.a0, .int .i64 a0.H.a1, .int .i64 a0.H.a2, .int .i64 a0.H.a3, .int .i64 a0.H.a4, .int .i64 a0.H.a5, .int .i64 a0.H.a6, .int .i64 a0.H.a7] 39, .cells b_2 [.int .i64 a1.Kind, .int .i64 a1.N, .string a1.S, .int .i64 a1.H.a0, .int .i64 a1.H.a1, .int .i64 a1.H.a2, .int .i64 a1.H.a3, .int .i64 a1.H.a4, .int .i64 a1.H.a5, .int .i64 a1.H.a6, .int .i64 a1.H.a7] 39]) ?_ ?_
        · refine wp_region_lit ?_
          refine sl hK (by decide) rfl rfl (r_move hK rfl) fun a hK => ?_
          refine sl hK (by decide) rfl rfl (r_fieldAddr Try.underlying39 rfl Try.sizeOf9 hK rfl) fun a hK => ?_
          refine sl hK (by decide) rfl rfl (r_load Try.isAgg9 hK rfl (hS.cell (.head _) rfl)) fun a hK => ?_
          refine sl hK (by decide) rfl rfl (r_len_str Try.underlying9 hK rfl) fun a hK => ?_
          refine sl hK (by decide) rfl rfl (r_ibin hK rfl rfl rfl) fun a hK => ?_
          refine sl hK (by decide) rfl rfl (r_move hK rfl) fun a hK => ?_
          rcases or_b (decide (x_36 < (a0.S.size : Int))) with hb_68 | hb_68
          · rw [ifb_t hb_68] at H
            refine sl hK (by decide) (wtt hb_68) rfl (r_move hK rfl) fun a hK => ?_
            refine sl hK (by decide) (wtt hb_68) rfl (r_fieldAddr Try.underlying39 rfl Try.sizeOf9 hK rfl) fun a hK => ?_
            refine sl hK (by decide) (wtt hb_68) rfl (r_load Try.isAgg9 hK rfl (hS.cell (.tail _ (.head _)) rfl)) fun a hK => ?_
            refine sl hK (by decide) (wtt hb_68) rfl (r_len_str Try.underlying9 hK rfl) fun a hK => ?_
            refine sl hK (by decide) (wtt hb_68) rfl (r_ibin hK rfl rfl rfl) fun a hK => ?_
            refine sl hK (by decide) rfl rfl (r_pick_t hb_68 hK rfl rfl) fun a hK => ?_
            refine wpList_nil ?_
            have hS := hS.pk1
            have hS := hS.pk1
            exact ⟨(decide (x_36 < (a1.S.size : Int))), H, hK.sub (all_cons rfl (all_cons rfl (all_cons rfl (all_cons rfl (all_nil))))), hS⟩
          · rw [ifb_f hb_68] at H
            refine sl_skip hK (by decide) (wtf hb_68) rfl fun a hK => ?_
            refine sl_skip hK (by decide) (wtf hb_68) rfl fun a hK => ?_
            refine sl_skip hK (by decide) (wtf hb_68) rfl fun a hK => ?_
            refine sl_skip hK (by decide) (wtf hb_68) rfl fun a hK => ?_
            refine sl_skip hK (by decide) (wtf hb_68) rfl fun a hK => ?_
            refine sl hK (by decide) rfl rfl (r_pick_f hb_68 hK rfl rfl) fun a hK => ?_
            refine wpList_nil ?_
            have hS := hS.pk1
            have hS := hS.pk1
            exact ⟨false, H, hK.sub (all_cons rfl (all_cons rfl (all_cons rfl (all_cons rfl (all_nil))))), hS⟩
        · rintro a w ⟨x_66, H, hK, hS⟩
          unfold ref01_Compare.j1 at H
          refine wp_cond_split (hK.ev rfl) (fun (hb_69 : x_66 = true) => ?_) (fun (hb_69 : x_66 = false) => ?_)
          · rw [ifb_t hb_69] at H
            refine wp_skip ?_
            refine wp_seq ?_
            refine wp_block ?_
            refine wp_seq ?_
            refine par_region (C := fun w => St [] w0 w (fun _ => none) [.cells b_1 [.int .i64 a0.Kind, .int .i64 a0.N, .string a0.S, .int .i64 a0.H.a0, .int .i64 a0.H.a1, .int .i64 a0.H.a2, .int .i64 a0.H.a3, .int .i64 a0.H.a4, .int .i64 a0.H.a5, .int .i64 a0.H.a6, .int .i64 a0.H.a7] 39, .cells b_2 [.int .i64 a1.Kind, .int .i64 a1.N, .string a1.S, .int .i64 a1.H.a0, .int .i64 a1.H.a1, .int .i64 a1.H.a2, .int .i64 a1.H.a3, .int .i64 a1.H.a4, .int .i64 a1.H.a5, .int .i64 a1.H.a6, .int .i64 a1.H.a7] 39]) [(0, true), (1, true), (2, true), (3, true), (4, true), (5, true), (6, true), (7, true), (8, true)] mixed (by kernel_rfl) hS (fun w hS => hS) fun w hS => ?_
            refine sp (k := 0) rfl hK (by decide) rfl rfl (fun w hS => r_fieldAddr Try.underlying39 rfl Try.sizeOf9 hK rfl) fun a hK => ?_
            refine sp (k := 1) rfl hK (by decide) rfl rfl (fun w hS => r_load Try.isAgg9 hK rfl (hS.cell (.head _) rfl)) fun a hK => ?_
            refine sp (k := 2) rfl hK (by decide) rfl rfl (fun w hS => r_move hK rfl) fun a hK => ?_
            obtain ⟨y_74, h_75, H⟩ := bind_some H
            refine sp (k := 3) rfl hK (by decide) rfl rfl (fun w hS => r_index_str' Try.underlying9 h_75 hK rfl rfl) fun a hK => ?_
            refine sp (k := 4) rfl hK (by decide) rfl rfl (fun w hS => r_fieldAddr Try.underlying39 rfl Try.sizeOf9 hK rfl) fun a hK => ?_
            refine sp (k := 5) rfl hK (by decide) rfl rfl (fun w hS => r_load Try.isAgg9 hK rfl (hS.cell (.tail _ (.head _)) rfl)) fun a hK => ?_
            refine sp (k := 6) rfl hK (by decide) rfl rfl (fun w hS => r_move hK rfl) fun a hK => ?_
            obtain ⟨y_76, h_77, H⟩ := bind_some H
            refine sp (k := 7) rfl hK (by decide) rfl rfl (fun w hS => r_index_str' Try.underlying9 h_77 hK rfl rfl) fun a hK => ?_
            refine sp (k := 8) rfl hK (by decide) rfl rfl (fun w hS => r_ibin hK rfl rfl rfl) fun a hK => ?_
            refine wpPar_nil (NoP_nil ?_)
            refine wp_cond_split (hK.ev rfl) (fun (hb_78 : (y_74 != y_76) = true) => ?_) (fun (hb_78 : (y_74 != y_76) = false) => ?_)
            · rw [ifb_t hb_78] at H
              refine wp_seq ?_
              refine parT_region (C := fun w => St [] w0 w (fun _ => none) [.cells b_1 [.int .i64 a0.Kind, .int .i64 a0.N, .string a0.S, .int .i64 a0.H.a0, .int .i64 a0.H.a1, .int .i64 a0.H.a2, .int .i64 a0.H.a3, .int .i64 a0.H.a4, .int .i64 a0.H.a5, .int .i64 a0.H.a6, .int .i64 a0.H.a7] 39, .cells b_2 [.int .i64 a1.Kind, .int .i64 a1.N, .string a1.S, .int .i64 a1.H.a0, .int .i64 a1.H.a1, .int .i64 a1.H.a2, .int .i64 a1.H.a3, .int .i64 a1.H.a4, .int .i64 a1.H.a5, .int .i64 a1.H.a6, .int .i64 a1.H.a7] 39]) 10 [(0, true), (1, true), (2, true), (3, true), (4, true), (5, true), (6, true), (7, true), (8, true), (9, true)] mixed (by kernel_rfl) hS (fun w hS => hS) fun w hS => ?_
              refine sp (k := 0) rfl hK (by decide) rfl rfl (fun w hS => r_fieldAddr Try.underlying39 rfl Try.sizeOf9 hK rfl) fun a hK => ?_
              refine sp (k := 1) rfl hK (by decide) rfl rfl (fun w hS => r_load Try.isAgg9 hK rfl (hS.cell (.head _) rfl)) fun a hK => ?_
              refine sp (k := 2) rfl hK (by decide) rfl rfl (fun w hS => r_move hK rfl) fun a hK => ?_
              obtain ⟨y_85, h_86, H⟩ := bind_some H
              refine sp (k := 3) rfl hK (by decide) rfl rfl (fun w hS => r_index_str' Try.underlying9 h_86 hK rfl rfl) fun a hK => ?_
              refine sp (k := 4) rfl hK (by decide) rfl rfl (fun w hS => r_conv Try.underlying5 Try.underlying3 hK rfl) fun a hK => ?_
              refine sp (k := 5) rfl hK (by decide) rfl rfl (fun w hS => r_fieldAddr Try.underlying39 rfl Try.sizeOf9 hK rfl) fun a hK => ?_
              refine sp (k := 6) rfl hK (by decide) rfl rfl (fun w hS => r_load Try.isAgg9 hK rfl (hS.cell (.tail _ (.head _)) rfl)) fun a hK => ?_
              refine sp (k := 7) rfl hK (by decide) rfl rfl (fun w hS => r_move hK rfl) fun a hK => ?_
              obtain ⟨y_87, h_88, H⟩ := bind_some H
              refine sp (k := 8) rfl hK (by decide) rfl rfl (fun w hS => r_index_str' Try.underlying9 h_88 hK rfl rfl) fun a hK => ?_
              refine sp (k := 9) rfl hK (by decide) rfl rfl (fun w hS => r_conv Try.underlying5 Try.underlying3 hK rfl) fun a hK => ?_
              refine thenL_nil ?_
              obtain ⟨y_89, h_90, H⟩ := bind_some H
              refine sl_callV Try.call66 hS hK (by decide) rfl rfl rfl (ref01_order.calls (IntKind.i64.wrap y_85) (IntKind.i64.wrap y_87) h_90 _) fun a w hS hK => ?_
              refine sl hK (by decide) rfl rfl (r_assign hK rfl) fun a hK => ?_
              refine wpList_nil (NoP_nil ?_)
              obtain rfl := Option.some.inj H
              refine wp_ret ?_
              repeat (first | refine ret_then ?_ | refine ret_block ?_ | refine ret_scope ?_)
              exact ret_1 Try.results49 hK (rv_tmp hK rfl) ⟨rfl, hS.bel⟩
            · rw [ifb_f hb_78] at H
              refine wp_skip ?_
              refine wp_region_lit ?_
              refine sl hK (by decide) rfl rfl (r_move hK rfl) fun a hK => ?_
              refine sl hK (by decide) rfl rfl (r_ibin hK rfl rfl rfl) fun a hK => ?_
              refine sl hK (by decide) rfl rfl (r_assign hK rfl) fun a hK => ?_
              refine wpList_nil ?_
              have hS := hS.pk1
              have hS := hS.pk1
              exact ⟨_, Nat.lt_succ_self _, (IntKind.i64.wrap (x_36 + 1)), H, hK.sub (all_cons rfl (all_cons rfl (all_cons rfl (all_nil)))), hS⟩
          · rw [ifb_f hb_69] at H
            refine wp_exit ?_
            refine wp_seq ?_
            refine wp_seq ?_
            refine wp_region_lit ?_
            refine sl hK (by decide) rfl rfl (r_fieldAddr Try.underlying39 rfl Try.sizeOf9 hK rfl) fun a hK => ?_
            refine sl hK (by decide) rfl rfl (r_load Try.isAgg9 hK rfl (hS.cell (.head _) rfl)) fun a hK => ?_
            refine sl hK (by decide) rfl rfl (r_len_str Try.underlying9 hK rfl) fun a hK => ?_
            refine sl hK (by decide) rfl rfl (r_fieldAddr Try.underlying39 rfl Try.sizeOf9 hK rfl) fun a hK => ?_
            refine sl hK (by decide) rfl rfl (r_load Try.isAgg9 hK rfl (hS.cell (.tail _ (.head _)) rfl)) fun a hK => ?_
            refine sl hK (by decide) rfl rfl (r_len_str Try.underlying9 hK rfl) fun a hK => ?_
            refine sl hK (by decide) rfl rfl (r_ibin hK rfl rfl rfl) fun a hK => ?_
            refine wpList_nil ?_
            refine wp_cond_split (hK.ev rfl) (fun (hb_91 : ((a0.S.size : Int) != (a1.S.size : Int)) = true) => ?_) (fun (hb_91 : ((a0.S.size : Int) != (a1.S.size : Int)) = false) => ?_)
            · rw [ifb_t hb_91] at H
              refine wp_seq ?_
              refine wp_region_lit ?_
              refine sl hK (by decide) rfl rfl (r_fieldAddr Try.underlying39 rfl Try.sizeOf9 hK rfl) fun a hK => ?_
              refine sl hK (by decide) rfl rfl (r_load Try.isAgg9 hK rfl (hS.cell (.head _) rfl)) fun a hK => ?_
              refine sl hK (by decide) rfl rfl (r_len_str Try.underlying9 hK rfl) fun a hK => ?_
              refine sl hK (by decide) rfl rfl (r_fieldAddr Try.underlying39 rfl Try.sizeOf9 hK rfl) fun a hK => ?_
              refine sl hK (by decide) rfl rfl (r_load Try.isAgg9 hK rfl (hS.cell (.tail _ (.head _)) rfl)) fun a hK => ?_
              refine sl hK (by decide) rfl rfl (r_len_str Try.underlying9 hK rfl) fun a hK => ?_
              obtain ⟨y_92, h_93, H⟩ := bind_some H
              refine sl_callV Try.call66 hS hK (by decide) rfl rfl rfl (ref01_order.calls (a0.S.size : Int) (a1.S.size : Int) h_93 _) fun a w hS hK => ?_
              refine sl hK (by decide) rfl rfl (r_assign hK rfl) fun a hK => ?_
              refine wpList_nil ?_
              obtain rfl := Option.some.inj H
              refine wp_ret ?_
              repeat (first | refine ret_then ?_ | refine ret_block ?_ | refine ret_scope ?_)
              exact ret_1 Try.results49 hK (rv_tmp hK rfl) ⟨rfl, hS.bel⟩
            · rw [ifb_f hb_91] at H
              refine wp_skip ?_
              refine wp_seq ?_
              refine wp_seq ?_
              refine wp_region_lit ?_
              refine sl hK (by decide) rfl rfl (r_assign hK rfl) fun a hK => ?_
              refine wpList_nil ?_
              refine wp_block ?_
              refine wp_loop_k (fun k_l2 a w => ∃ (x_100 : Int), ref01_Compare.l2 a0 a1 k_l2 x_100 = some r ∧ Kn 97 a [(2, .pointer (some ⟨b_1, 0, none⟩)), (3, .pointer (some ⟨b_2, 0, none⟩)), (6, .int .i64 x_100)] ∧ St [] w0 w (fun _ => none) [.cells b_1 [.int .i64 a0.Kind, .int .i64 a0.N, .string a0.S, .int .i64 a0.H.a0, .int .i64 a0.H.a1, .int .i64 a0.H.a2, .int .i64 a0.H.a3, .int .i64 a0.H.a4, .int .i64 a0.H.a5, .int .i64 a0.H.a6, .int .i64 a0.H.a7] 39, .cells b_2 [.int .i64 a1.Kind, .int .i64 a1.N, .string a1.S, .int .i64 a1.H.a0, .int .i64 a1.H.a1, .int .i64 a1.H.a2, .int .i64 a1.H.a3, .int .i64 a1.H.a4, .int .i64 a1.H.a5, .int .i64 a1.H.a6, .int .i64 a1.H.a7] 39]) (((8 : Int) - 0).toNat + 1) ?_ ?_
              · have hS := hS.pk1
                have hS := hS.pk1
                exact ⟨0, H, hK.sub (all_cons rfl (all_cons rfl (all_cons rfl (all_nil)))), hS⟩
              · rintro k_l2 a w ⟨x_100, H, hK, hS⟩
                cases k_l2 with
                | zero => cases H
                | succ k_l2 =>
                rw [ref01_Compare.l2.eq_2] at H
                refine wp_seq ?_
                refine wp_seq ?_
                refine wp_region_lit ?_
                refine sl hK (by decide) rfl rfl (r_move hK rfl) fun a hK => ?_
                refine sl hK (by decide) rfl rfl (r_ibin hK rfl rfl rfl) fun a hK => ?_
                refine wpList_nil ?_
                refine wp_cond_split (hK.ev rfl) (fun (hb_124 : (decide (x_100 < 8)) = true) => ?_) (fun (hb_124 : (decide (x_100 < 8)) = false) => ?_)
                · rw [ifb_t hb_124] at H
                  refine wp_skip ?_
                  refine wp_seq ?_
                  refine wp_block ?_
                  refine wp_seq ?_
                  refine par_region (C := fun w => St [] w0 w (fun _ => none) [.cells b_1 [.int .i64 a0.Kind, .int .i64 a0.N, .string a0.S, .int .i64 a0.H.a0, .int .i64 a0.H.a1, .int .i64 a0.H.a2, .int .i64 a0.H.a3, .int .i64 a0.H.a4, .int .i64 a0.H.a5, .int .i64 a0.H.a6, .int .i64 a0.H.a7] 39, .cells b_2 [.int .i64 a1.Kind, .int .i64 a1.N, .string a1.S, .int .i64 a1.H.a0, .int .i64 a1.H.a1, .int .i64 a1.H.a2, .int .i64 a1.H.a3, .int .i64 a1.H.a4, .int .i64 a1.H.a5, .int .i64 a1.H.a6, .int .i64 a1.H.a7] 39]) [(0, true), (1, true), (2, true), (3, true), (4, true), (5, true), (6, true), (7, true), (8, true)] mixed (by kernel_rfl) hS (fun w hS => hS) fun w hS => ?_
                  refine sp (k := 0) rfl hK (by decide) rfl rfl (fun w hS => r_move hK rfl) fun a hK => ?_
                  refine sp (k := 1) rfl hK (by decide) rfl rfl (fun w hS => r_fieldAddr Try.underlying39 rfl Try.sizeOf37 hK rfl) fun a hK => ?_
                  obtain ⟨y_129, h_130, H⟩ := bind_some H
                  refine sp (k := 2) rfl hK (by decide) rfl rfl (fun w hS => r_indexAddr_arr Try.underlying37 Try.sizeOf3 hK rfl rfl (Arr8.ix_lt h_130).1 (Arr8.ix_lt h_130).2) fun a hK => ?_
                  refine sp (k := 3) rfl hK (by decide) rfl rfl (fun w hS => r_load Try.isAgg3 hK rfl (hS.cell (.head _) (Arr8.ix_cells h_130 [.int .i64 a0.Kind, .int .i64 a0.N, .string a0.S] [] rfl))) fun a hK => ?_
                  refine sp (k := 4) rfl hK (by decide) rfl rfl (fun w hS => r_move hK rfl) fun a hK => ?_
                  refine sp (k := 5) rfl hK (by decide) rfl rfl (fun w hS => r_fieldAddr Try.underlying39 rfl Try.sizeOf37 hK rfl) fun a hK => ?_
                  obtain ⟨y_131, h_132, H⟩ := bind_some H
                  refine sp (k := 6) rfl hK (by decide) rfl rfl (fun w hS => r_indexAddr_arr Try.underlying37 Try.sizeOf3 hK rfl rfl (Arr8.ix_lt h_132).1 (Arr8.ix_lt h_132).2) fun a hK => ?_
                  refine sp (k := 7) rfl hK (by decide) rfl rfl (fun w hS => r_load Try.isAgg3 hK rfl (hS.cell (.tail _ (.head _)) (Arr8.ix_cells h_132 [.int .i64 a1.Kind, .int .i64 a1.N, .string a1.S] [] rfl))) fun a hK => ?_
                  refine sp (k := 8) rfl hK (by decide) rfl rfl (fun w hS => r_ibin hK rfl rfl rfl) fun a hK => ?_
                  refine wpPar_nil (NoP_nil ?_)
                  refine wp_cond_split (hK.ev rfl) (fun (hb_133 : (y_129 != y_131) = true) => ?_) (fun (hb_133 : (y_129 != y_131) = false) => ?_)
                  · rw [ifb_t hb_133] at H
                    refine wp_seq ?_
                    refine parT_region (C := fun w => St [] w0 w (fun _ => none) [.cells b_1 [.int .i64 a0.Kind, .int .i64 a0.N, .string a0.S, .int .i64 a0.H.a0, .int .i64 a0.H.a1, .int .i64 a0.H.a2, .int .i64 a0.H.a3, .int .i64 a0.H.a4, .int .i64 a0.H.a5, .int .i64 a0.H.a6, .int .i64 a0.H.a7] 39, .cells b_2 [.int .i64 a1.Kind, .int .i64 a1.N, .string a1.S, .int .i64 a1.H.a0, .int .i64 a1.H.a1, .int .i64 a1.H.a2, .int .i64 a1.H.a3, .int .i64 a1.H.a4, .int .i64 a1.H.a5, .int .i64 a1.H.a6, .int .i64 a1.H.a7] 39]) 8 [(0, true), (1, true), (2, true), (3, true), (4, true), (5, true), (6, true), (7, true)] mixed (by kernel_rfl) hS (fun w hS => hS) fun w hS => ?_
                    refine sp (k := 0) rfl hK (by decide) rfl rfl (fun w hS => r_move hK rfl) fun a hK => ?_
                    refine sp (k := 1) rfl hK (by decide) rfl rfl (fun w hS => r_fieldAddr Try.underlying39 rfl Try.sizeOf37 hK rfl) fun a hK => ?_
                    obtain ⟨y_140, h_141, H⟩ := bind_some H
                    refine sp (k := 2) rfl hK (by decide) rfl rfl (fun w hS => r_indexAddr_arr Try.underlying37 Try.sizeOf3 hK rfl rfl (Arr8.ix_lt h_141).1 (Arr8.ix_lt h_141).2) fun a hK => ?_
                    refine sp (k := 3) rfl hK (by decide) rfl rfl (fun w hS => r_load Try.isAgg3 hK rfl (hS.cell (.head _) (Arr8.ix_cells h_141 [.int .i64 a0.Kind, .int .i64 a0.N, .string a0.S] [] rfl))) fun a hK => ?_
                    refine sp (k := 4) rfl hK (by decide) rfl rfl (fun w hS => r_move hK rfl) fun a hK => ?_
                    refine sp (k := 5) rfl hK (by decide) rfl rfl (fun w hS => r_fieldAddr Try.underlying39 rfl Try.sizeOf37 hK rfl) fun a hK => ?_
                    obtain ⟨y_142, h_143, H⟩ := bind_some H
                    refine sp (k := 6) rfl hK (by decide) rfl rfl (fun w hS => r_indexAddr_arr Try.underlying37 Try.sizeOf3 hK rfl rfl (Arr8.ix_lt h_143).1 (Arr8.ix_lt h_143).2) fun a hK => ?_
                    refine sp (k := 7) rfl hK (by decide) rfl rfl (fun w hS => r_load Try.isAgg3 hK rfl (hS.cell (.tail _ (.head _)) (Arr8.ix_cells h_143 [.int .i64 a1.Kind, .int .i64 a1.N, .string a1.S] [] rfl))) fun a hK => ?_
                    refine thenL_nil ?_
                    obtain ⟨y_144, h_145, H⟩ := bind_some H
                    refine sl_callV Try.call66 hS hK (by decide) rfl rfl rfl (ref01_order.calls y_140 y_142 h_145 _) fun a w hS hK => ?_
                    refine sl hK (by decide) rfl rfl (r_assign hK rfl) fun a hK => ?_
                    refine wpList_nil (NoP_nil ?_)
                    obtain rfl := Option.some.inj H
                    refine wp_ret ?_
                    repeat (first | refine ret_then ?_ | refine ret_block ?_ | refine ret_scope ?_)
                    exact ret_1 Try.results49 hK (rv_tmp hK rfl) ⟨rfl, hS.bel⟩
                  · rw [ifb_f hb_133] at H
                    refine wp_skip ?_
                    refine wp_region_lit ?_
                    refine sl hK (by decide) rfl rfl (r_move hK rfl) fun a hK => ?_
                    refine sl hK (by decide) rfl rfl (r_ibin hK rfl rfl rfl) fun a hK => ?_
                    refine sl hK (by decide) rfl rfl (r_assign hK rfl) fun a hK => ?_
                    refine wpList_nil ?_
                    have hS := hS.pk1
                    have hS := hS.pk1
                    exact ⟨_, Nat.lt_succ_self _, (IntKind.i64.wrap (x_100 + 1)), H, hK.sub (all_cons rfl (all_cons rfl (all_cons rfl (all_nil)))), hS⟩
                · rw [ifb_f hb_124] at H
                  refine wp_exit ?_
                  refine wp_seq ?_
                  refine wp_region_lit ?_
                  refine sl hK (by decide) rfl rfl (r_assign hK rfl) fun a hK => ?_
                  refine wpList_nil ?_
                  obtain rfl := Option.some.inj H
                  refine wp_ret ?_
                  repeat (first | refine ret_then ?_ | refine ret_block ?_ | refine ret_scope ?_)
                  exact ret_1 Try.results49 hK (rv_tmp hK rfl) ⟨rfl, hS.bel⟩

/-! ### catchment/catchmentref01.Holds: function 31 -/
set_option maxHeartbeats 4000000 in
set_option maxRecDepth 100000 in
theorem ref01_Holds.calls (a0 : Int) (a1 : api_Value) (a2 : api_Value) {r : Bool} (H : ref01_Holds a0 a1 a2 = some r) (w0 : World) : CallsV Try.prog 31 #[.int .i64 a0, .agg #[.int .i64 a1.Kind, .int .i64 a1.N, .string a1.S, .int .i64 a1.H.a0, .int .i64 a1.H.a1, .int .i64 a1.H.a2, .int .i64 a1.H.a3, .int .i64 a1.H.a4, .int .i64 a1.H.a5, .int .i64 a1.H.a6, .int .i64 a1.H.a7], .agg #[.int .i64 a2.Kind, .int .i64 a2.N, .string a2.S, .int .i64 a2.H.a0, .int .i64 a2.H.a1, .int .i64 a2.H.a2, .int .i64 a2.H.a3, .int .i64 a2.H.a4, .int .i64 a2.H.a5, .int .i64 a2.H.a6, .int .i64 a2.H.a7]] w0 (.bool r) := by
  unfold ref01_Holds at H
  refine enter (args := [.int .i64 a0, .agg #[.int .i64 a1.Kind, .int .i64 a1.N, .string a1.S, .int .i64 a1.H.a0, .int .i64 a1.H.a1, .int .i64 a1.H.a2, .int .i64 a1.H.a3, .int .i64 a1.H.a4, .int .i64 a1.H.a5, .int .i64 a1.H.a6, .int .i64 a1.H.a7], .agg #[.int .i64 a2.Kind, .int .i64 a2.N, .string a2.S, .int .i64 a2.H.a0, .int .i64 a2.H.a1, .int .i64 a2.H.a2, .int .i64 a2.H.a3, .int .i64 a2.H.a4, .int .i64 a2.H.a5, .int .i64 a2.H.a6, .int .i64 a2.H.a7]]) Try.func31 rfl Try.ntmps31 rfl fun a hK => ?_
  have hS := St.init (R := fun _ => none) (w := w0) (fun _ _ h => by cases h)
  have hRL := RLe.refl (M := []) w0 (fun _ => none)
  refine wp_seq ?_
  refine wp_region_lit ?_
  refine sl_box hS hK (by decide) rfl rfl (c := [.int .i64 a1.Kind, .int .i64 a1.N, .string a1.S, .int .i64 a1.H.a0, .int .i64 a1.H.a1, .int .i64 a1.H.a2, .int .i64 a1.H.a3, .int .i64 a1.H.a4, .int .i64 a1.H.a5, .int .i64 a1.H.a6, .int .i64 a1.H.a7]) rfl fun a w b_1 hS hK => ?_
  refine sl_box hS hK (by decide) rfl rfl (c := [.int .i64 a2.Kind, .int .i64 a2.N, .string a2.S, .int .i64 a2.H.a0, .int .i64 a2.H.a1, .int .i64 a2.H.a2, .int .i64 a2.H.a3, .int .i64 a2.H.a4, .int .i64 a2.H.a5, .int .i64 a2.H.a6, .int .i64 a2.H.a7]) rfl fun a w b_2 hS hK => ?_
  refine sl hK (by decide) rfl rfl (r_assign hK rfl) fun a hK => ?_
  refine wpList_nil ?_
  refine wp_seq ?_
  refine wp_seq ?_
  refine wp_region_lit ?_
  refine sl hK (by decide) rfl rfl (r_fieldAddr Try.underlying39 rfl Try.sizeOf3 hK rfl) fun a hK => ?_
  refine sl hK (by decide) rfl rfl (r_load Try.isAgg3 hK rfl (hS.cell (.tail _ (.head _)) rfl)) fun a hK => ?_
  refine sl hK (by decide) rfl rfl (r_fieldAddr Try.underlying39 rfl Try.sizeOf3 hK rfl) fun a hK => ?_
  refine sl hK (by decide) rfl rfl (r_load Try.isAgg3 hK rfl (hS.cell (.head _) rfl)) fun a hK => ?_
  refine sl hK (by decide) rfl rfl (r_ibin hK rfl rfl rfl) fun a hK => ?_
  refine wpList_nil ?_
  refine wp_cond_split (hK.ev rfl) (fun (hb_3 : (a1.Kind != a2.Kind) = true) => ?_) (fun (hb_3 : (a1.Kind != a2.Kind) = false) => ?_)
  · rw [ifb_t hb_3] at H
    refine wp_seq ?_
    refine wp_region_lit ?_
    refine sl hK (by decide) rfl rfl (r_assign hK rfl) fun a hK => ?_
    refine wpList_nil ?_
    obtain rfl := Option.some.inj H
    refine wp_ret ?_
    repeat (first | refine ret_then ?_ | refine ret_block ?_ | refine ret_scope ?_)
    exact ret_1 Try.results31 hK (rv_tmp hK rfl) ⟨rfl, hS.bel⟩
  · rw [ifb_f hb_3] at H
    refine wp_skip ?_
    refine wp_seq ?_
    refine wp_region_lit ?_
    refine sl hK (by decide) rfl rfl (r_loadA (cs := [.int .i64 a1.Kind, .int .i64 a1.N, .string a1.S, .int .i64 a1.H.a0, .int .i64 a1.H.a1, .int .i64 a1.H.a2, .int .i64 a1.H.a3, .int .i64 a1.H.a4, .int .i64 a1.H.a5, .int .i64 a1.H.a6, .int .i64 a1.H.a7]) Try.isAgg39 Try.sizeOf39 rfl hK rfl (hS.cells_of (m := 11) (.tail _ (.head _)) rfl)) fun a hK => ?_
    refine sl hK (by decide) rfl rfl (r_loadA (cs := [.int .i64 a2.Kind, .int .i64 a2.N, .string a2.S, .int .i64 a2.H.a0, .int .i64 a2.H.a1, .int .i64 a2.H.a2, .int .i64 a2.H.a3, .int .i64 a2.H.a4, .int .i64 a2.H.a5, .int .i64 a2.H.a6, .int .i64 a2.H.a7]) Try.isAgg39 Try.sizeOf39 rfl hK rfl (hS.cells_of (m := 11) (.head _) rfl)) fun a hK => ?_
    obtain ⟨y_4, h_5, H⟩ := bind_some H
    refine sl_callV Try.call49 hS hK (by decide) rfl rfl rfl (ref01_Compare.calls a1 a2 h_5 _) fun a w hS hK => ?_
    refine sl hK (by decide) rfl rfl (r_assign hK rfl) fun a hK => ?_
    refine wpList_nil ?_
    refine wp_seq ?_
    refine wp_seq ?_
    refine wp_region_lit ?_
    refine sl hK (by decide) rfl rfl (r_move hK rfl) fun a hK => ?_
    refine wpList_nil ?_
    refine wp_block ?_
    refine wp_seq ?_
    refine wp_region_lit ?_
    refine sl hK (by decide) rfl rfl (r_ibin hK rfl rfl rfl) fun a hK => ?_
    refine sl hK (by decide) rfl rfl (r_assign hK rfl) fun a hK => ?_
    refine wpList_nil ?_
    refine wp_cond_split (hK.ev rfl) (fun (hb_6 : (a0 == 1) = true) => ?_) (fun (hb_6 : (a0 == 1) = false) => ?_)
    · rw [ifb_t hb_6] at H
      refine wp_seq ?_
      refine wp_region_lit ?_
      refine sl hK (by decide) rfl rfl (r_move hK rfl) fun a hK => ?_
      refine sl hK (by decide) rfl rfl (r_ibin hK rfl rfl rfl) fun a hK => ?_
      refine sl hK (by decide) rfl rfl (r_assign hK rfl) fun a hK => ?_
      refine wpList_nil ?_
      obtain rfl := Option.some.inj H
      refine wp_ret ?_
      repeat (first | refine ret_then ?_ | refine ret_block ?_ | refine ret_scope ?_)
      exact ret_1 Try.results31 hK (rv_tmp hK rfl) ⟨rfl, hS.bel⟩
    · rw [ifb_f hb_6] at H
      refine wp_seq ?_
      refine wp_region_lit ?_
      refine sl hK (by decide) rfl rfl (r_ibin hK rfl rfl rfl) fun a hK => ?_
      refine sl hK (by decide) rfl rfl (r_assign hK rfl) fun a hK => ?_
      refine wpList_nil ?_
      refine wp_cond_split (hK.ev rfl) (fun (hb_7 : (a0 == 2) = true) => ?_) (fun (hb_7 : (a0 == 2) = false) => ?_)
      · rw [ifb_t hb_7] at H
        refine wp_seq ?_
        refine wp_region_lit ?_
        refine sl hK (by decide) rfl rfl (r_move hK rfl) fun a hK => ?_
        refine sl hK (by decide) rfl rfl (r_ibin hK rfl rfl rfl) fun a hK => ?_
        refine sl hK (by decide) rfl rfl (r_assign hK rfl) fun a hK => ?_
        refine wpList_nil ?_
        obtain rfl := Option.some.inj H
        refine wp_ret ?_
        repeat (first | refine ret_then ?_ | refine ret_block ?_ | refine ret_scope ?_)
        exact ret_1 Try.results31 hK (rv_tmp hK rfl) ⟨rfl, hS.bel⟩
      · rw [ifb_f hb_7] at H
        refine wp_seq ?_
        refine wp_region_lit ?_
        refine sl hK (by decide) rfl rfl (r_ibin hK rfl rfl rfl) fun a hK => ?_
        refine sl hK (by decide) rfl rfl (r_assign hK rfl) fun a hK => ?_
        refine wpList_nil ?_
        refine wp_cond_split (hK.ev rfl) (fun (hb_8 : (a0 == 3) = true) => ?_) (fun (hb_8 : (a0 == 3) = false) => ?_)
        · rw [ifb_t hb_8] at H
          refine wp_seq ?_
          refine wp_region_lit ?_
          refine sl hK (by decide) rfl rfl (r_move hK rfl) fun a hK => ?_
          refine sl hK (by decide) rfl rfl (r_ibin hK rfl rfl rfl) fun a hK => ?_
          refine sl hK (by decide) rfl rfl (r_assign hK rfl) fun a hK => ?_
          refine wpList_nil ?_
          obtain rfl := Option.some.inj H
          refine wp_ret ?_
          repeat (first | refine ret_then ?_ | refine ret_block ?_ | refine ret_scope ?_)
          exact ret_1 Try.results31 hK (rv_tmp hK rfl) ⟨rfl, hS.bel⟩
        · rw [ifb_f hb_8] at H
          refine wp_seq ?_
          refine wp_region_lit ?_
          refine sl hK (by decide) rfl rfl (r_ibin hK rfl rfl rfl) fun a hK => ?_
          refine sl hK (by decide) rfl rfl (r_assign hK rfl) fun a hK => ?_
          refine wpList_nil ?_
          refine wp_cond_split (hK.ev rfl) (fun (hb_9 : (a0 == 4) = true) => ?_) (fun (hb_9 : (a0 == 4) = false) => ?_)
          · rw [ifb_t hb_9] at H
            refine wp_seq ?_
            refine wp_region_lit ?_
            refine sl hK (by decide) rfl rfl (r_move hK rfl) fun a hK => ?_
            refine sl hK (by decide) rfl rfl (r_ibin hK rfl rfl rfl) fun a hK => ?_
            refine sl hK (by decide) rfl rfl (r_assign hK rfl) fun a hK => ?_
            refine wpList_nil ?_
            obtain rfl := Option.some.inj H
            refine wp_ret ?_
            repeat (first | refine ret_then ?_ | refine ret_block ?_ | refine ret_scope ?_)
            exact ret_1 Try.results31 hK (rv_tmp hK rfl) ⟨rfl, hS.bel⟩
          · rw [ifb_f hb_9] at H
            refine wp_seq ?_
            refine wp_region_lit ?_
            refine sl hK (by decide) rfl rfl (r_ibin hK rfl rfl rfl) fun a hK => ?_
            refine sl hK (by decide) rfl rfl (r_assign hK rfl) fun a hK => ?_
            refine wpList_nil ?_
            refine wp_cond_split (hK.ev rfl) (fun (hb_10 : (a0 == 5) = true) => ?_) (fun (hb_10 : (a0 == 5) = false) => ?_)
            · rw [ifb_t hb_10] at H
              refine wp_seq ?_
              refine wp_region_lit ?_
              refine sl hK (by decide) rfl rfl (r_move hK rfl) fun a hK => ?_
              refine sl hK (by decide) rfl rfl (r_ibin hK rfl rfl rfl) fun a hK => ?_
              refine sl hK (by decide) rfl rfl (r_assign hK rfl) fun a hK => ?_
              refine wpList_nil ?_
              obtain rfl := Option.some.inj H
              refine wp_ret ?_
              repeat (first | refine ret_then ?_ | refine ret_block ?_ | refine ret_scope ?_)
              exact ret_1 Try.results31 hK (rv_tmp hK rfl) ⟨rfl, hS.bel⟩
            · rw [ifb_f hb_10] at H
              refine wp_seq ?_
              refine wp_region_lit ?_
              refine sl hK (by decide) rfl rfl (r_ibin hK rfl rfl rfl) fun a hK => ?_
              refine sl hK (by decide) rfl rfl (r_assign hK rfl) fun a hK => ?_
              refine wpList_nil ?_
              refine wp_cond_split (hK.ev rfl) (fun (hb_11 : (a0 == 6) = true) => ?_) (fun (hb_11 : (a0 == 6) = false) => ?_)
              · rw [ifb_t hb_11] at H
                refine wp_seq ?_
                refine wp_region_lit ?_
                refine sl hK (by decide) rfl rfl (r_move hK rfl) fun a hK => ?_
                refine sl hK (by decide) rfl rfl (r_ibin hK rfl rfl rfl) fun a hK => ?_
                refine sl hK (by decide) rfl rfl (r_assign hK rfl) fun a hK => ?_
                refine wpList_nil ?_
                obtain rfl := Option.some.inj H
                refine wp_ret ?_
                repeat (first | refine ret_then ?_ | refine ret_block ?_ | refine ret_scope ?_)
                exact ret_1 Try.results31 hK (rv_tmp hK rfl) ⟨rfl, hS.bel⟩
              · rw [ifb_f hb_11] at H
                refine wp_skip ?_
                refine wp_seq ?_
                refine wp_region_lit ?_
                refine sl hK (by decide) rfl rfl (r_assign hK rfl) fun a hK => ?_
                refine wpList_nil ?_
                obtain rfl := Option.some.inj H
                refine wp_ret ?_
                repeat (first | refine ret_then ?_ | refine ret_block ?_ | refine ret_scope ?_)
                exact ret_1 Try.results31 hK (rv_tmp hK rfl) ⟨rfl, hS.bel⟩

/-! ### catchment/catchmentref15.part: function 32 -/
set_option maxHeartbeats 4000000 in
set_option maxRecDepth 100000 in
theorem ref15_part.calls (a0 : ByteArray) (a1 : ByteArray) {r : Bool} (H : ref15_part a0 a1 = some r) (w0 : World) : CallsV Try.prog 32 #[.string a0, .string a1] w0 (.bool r) := by
  unfold ref15_part at H
  refine enter (args := [.string a0, .string a1]) Try.func32 rfl Try.ntmps32 rfl fun a hK => ?_
  have hS := St.init (R := fun _ => none) (w := w0) (fun _ _ h => by cases h)
  have hRL := RLe.refl (M := []) w0 (fun _ => none)
  refine wp_seq ?_
  refine wp_region_lit ?_
  refine sl hK (by decide) rfl rfl (r_assign hK rfl) fun a hK => ?_
  refine wpList_nil ?_
  refine wp_seq ?_
  refine wp_seq ?_
  refine wp_region_lit ?_
  refine sl hK (by decide) rfl rfl (r_assign hK rfl) fun a hK => ?_
  refine wpList_nil ?_
  refine wp_block ?_
  refine wp_loop_k (fun k_l0 a w => ∃ (x_6 : Int), ref15_part.l0 a0 a1 k_l0 x_6 = some r ∧ Kn 24 a [(0, .string a0), (1, .string a1), (5, .int .i64 x_6)] ∧ St [] w0 w (fun _ => none) []) (((a1.size : Int) - (IntKind.i64.wrap (0 + (a0.size : Int)))).toNat + 2) ?_ ?_
  · exact ⟨0, H, hK.sub (all_cons rfl (all_cons rfl (all_cons rfl (all_nil)))), hS⟩
  · rintro k_l0 a w ⟨x_6, H, hK, hS⟩
    cases k_l0 with
    | zero => cases H
    | succ k_l0 =>
    rw [ref15_part.l0.eq_2] at H
    refine wp_seq ?_
    refine wp_seq ?_
    refine wp_region_lit ?_
    refine sl hK (by decide) rfl rfl (r_move hK rfl) fun a hK => ?_
    refine sl hK (by decide) rfl rfl (r_move hK rfl) fun a hK => ?_
    refine sl hK (by decide) rfl rfl (r_len_str Try.underlying9 hK rfl) fun a hK => ?_
    refine sl hK (by decide) rfl rfl (r_ibin hK rfl rfl rfl) fun a hK => ?_
    refine sl hK (by decide) rfl rfl (r_move hK rfl) fun a hK => ?_
    refine sl hK (by decide) rfl rfl (r_len_str Try.underlying9 hK rfl) fun a hK => ?_
    refine sl hK (by decide) rfl rfl (r_ibin hK rfl rfl rfl) fun a hK => ?_
    refine wpList_nil ?_
    refine wp_cond_split (hK.ev rfl) (fun (hb_12 : (decide ((IntKind.i64.wrap (x_6 + (a0.size : Int))) ≤ (a1.size : Int))) = true) => ?_) (fun (hb_12 : (decide ((IntKind.i64.wrap (x_6 + (a0.size : Int))) ≤ (a1.size : Int))) = false) => ?_)
    · rw [ifb_t hb_12] at H
      refine wp_skip ?_
      refine wp_seq ?_
      refine wp_block ?_
      refine wp_seq ?_
      refine wp_region_lit ?_
      refine sl hK (by decide) rfl rfl (r_move hK rfl) fun a hK => ?_
      refine sl hK (by decide) rfl rfl (r_move hK rfl) fun a hK => ?_
      refine sl hK (by decide) rfl rfl (r_move hK rfl) fun a hK => ?_
      refine sl hK (by decide) rfl rfl (r_move hK rfl) fun a hK => ?_
      refine sl hK (by decide) rfl rfl (r_len_str Try.underlying9 hK rfl) fun a hK => ?_
      refine sl hK (by decide) rfl rfl (r_ibin hK rfl rfl rfl) fun a hK => ?_
      obtain ⟨y_13, h_14, H⟩ := bind_some H
      refine sl hK (by decide) rfl rfl (r_slice_s (lo := some (.tmp 16)) (hi := some (.tmp 20)) Try.underlying9 h_14 hK rfl ⟨_, rfl⟩ ⟨_, rfl⟩) fun a hK => ?_
      refine sl hK (by decide) rfl rfl (r_move hK rfl) fun a hK => ?_
      refine sl hK (by decide) rfl rfl (r_sbin hK rfl rfl rfl) fun a hK => ?_
      refine wpList_nil ?_
      refine wp_cond_split (hK.ev rfl) (fun (hb_15 : (y_13.toList == a0.toList) = true) => ?_) (fun (hb_15 : (y_13.toList == a0.toList) = false) => ?_)
      · rw [ifb_t hb_15] at H
        refine wp_seq ?_
        refine wp_region_lit ?_
        refine sl hK (by decide) rfl rfl (r_assign hK rfl) fun a hK => ?_
        refine wpList_nil ?_
        obtain rfl := Option.some.inj H
        refine wp_ret ?_
        repeat (first | refine ret_then ?_ | refine ret_block ?_ | refine ret_scope ?_)
        exact ret_1 Try.results32 hK (rv_tmp hK rfl) ⟨rfl, hS.bel⟩
      · rw [ifb_f hb_15] at H
        refine wp_skip ?_
        refine wp_region_lit ?_
        refine sl hK (by decide) rfl rfl (r_move hK rfl) fun a hK => ?_
        refine sl hK (by decide) rfl rfl (r_ibin hK rfl rfl rfl) fun a hK => ?_
        refine sl hK (by decide) rfl rfl (r_assign hK rfl) fun a hK => ?_
        refine wpList_nil ?_
        exact ⟨_, Nat.lt_succ_self _, (IntKind.i64.wrap (x_6 + 1)), H, hK.sub (all_cons rfl (all_cons rfl (all_cons rfl (all_nil)))), hS⟩
    · rw [ifb_f hb_12] at H
      refine wp_exit ?_
      refine wp_seq ?_
      refine wp_region_lit ?_
      refine sl hK (by decide) rfl rfl (r_assign hK rfl) fun a hK => ?_
      refine wpList_nil ?_
      obtain rfl := Option.some.inj H
      refine wp_ret ?_
      repeat (first | refine ret_then ?_ | refine ret_block ?_ | refine ret_scope ?_)
      exact ret_1 Try.results32 hK (rv_tmp hK rfl) ⟨rfl, hS.bel⟩

end Go.Proofs.Ytjklfkiaebipnaa.M
