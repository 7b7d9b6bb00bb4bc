/- Each Go function of the laws answers as its plain Lean function tells, wherever that tells something. Printed by wip/eng/gen.py. -/
import Derived.Test.YtafkcbacdfiniaaWalk1
namespace Go.Proofs.Ytafkcbacdfiniaa.M
open Go Go.Eng Go.Proofs Go.RowKit
set_option linter.unusedVariables false
set_option linter.unusedSimpArgs false

/-! ### slices.Clone[[]catchment/api.Sample,catchment/api.Sample]: function 23 -/
set_option maxHeartbeats 4000000 in
set_option maxRecDepth 100000 in
theorem slices_Clone_api_Sample_api_Sample.calls (a0 : List api_Sample) {w0 : World} {R : Hp} {RA : Hp} {v0_0 : Value} (hRA : RA.sub w0) (hR : R.sub w0) (h0_0 : SlB ty_api_Sample RA R v0_0 a0) {r : List api_Sample} (H : slices_Clone_api_Sample_api_Sample a0 = some r) : Calls Try.prog 23 #[v0_0] w0 (Rets fun v w' => ∃ (R' : Hp) (u0 : Value) (cu0 : List Value), v = u0 ∧ St [] w0 w' R' [.row 29 2 u0 r.length cu0] ∧ RLe [] w0 R R' ∧ Reps ty_api_Sample R' cu0 r) := by
  unfold slices_Clone_api_Sample_api_Sample at H
  rcases SlB.nilcase h0_0 with ⟨hn, hx⟩ | ⟨ad_, m_, c_, hn⟩
  · subst hx
    have H : some ([] : List api_Sample) = some r := by simpa [apd] using H
    refine enter (args := [v0_0]) Try.func23 rfl Try.ntmps23 rfl fun a hK => ?_
    have hS := St.init hR
    have hRL := RLe.refl (M := []) w0 R
    refine wp_seq ?_
    refine wp_region_lit ?_
    refine sl hK (by decide) rfl rfl (r_assign hK rfl) fun a hK => ?_
    refine wpList_nil ?_
    refine wp_seq ?_
    refine wp_seq ?_
    refine wp_region_lit ?_
    refine sl hK (by decide) rfl rfl (r_move hK rfl) fun a hK => ?_
    refine sl hK (by decide) rfl rfl (r_sleqN Try.underlying22 hn hK rfl rfl) fun a hK => ?_
    refine wpList_nil ?_
    refine wp_cond_true (hK.ev rfl) ?_
    refine wp_seq ?_
    refine wp_region_lit ?_
    refine sl hK (by decide) rfl rfl (r_assign hK rfl) fun a hK => ?_
    refine wpList_nil ?_
    have hS := hS.row_nil 29 2
    have hq_11 : Reps ty_api_Sample R [] ([] : List api_Sample) := Reps.nil _ _
    obtain rfl := Option.some.inj H
    refine wp_ret ?_
    repeat (first | refine ret_then ?_ | refine ret_block ?_ | refine ret_scope ?_)
    exact ret_1 Try.results23 hK (rv_tmp hK rfl) ⟨_, rfl, _, _, _, rfl, hS, hRL, hq_11⟩
  · refine enter (args := [v0_0]) Try.func23 rfl Try.ntmps23 rfl fun a hK => ?_
    have hS := St.init hR
    have hRL := RLe.refl (M := []) w0 R
    refine wp_seq ?_
    refine wp_region_lit ?_
    refine sl hK (by decide) rfl rfl (r_assign hK rfl) fun a hK => ?_
    refine wpList_nil ?_
    refine wp_seq ?_
    refine wp_seq ?_
    refine wp_region_lit ?_
    refine sl hK (by decide) rfl rfl (r_move hK rfl) fun a hK => ?_
    refine sl hK (by decide) rfl rfl (r_sleqS Try.underlying22 hn hK rfl rfl) fun a hK => ?_
    refine wpList_nil ?_
    refine wp_cond_false (hK.ev rfl) ?_
    refine wp_skip ?_
    refine wp_seq ?_
    refine wp_region_lit ?_
    refine sl_buildSliceC (zc := [.int .i64 0, .slice none 0 0]) (zs := []) (ps := []) (c := []) Try.underlying22 Try.sizeOf29 Try.zeroValue29 rfl pc_nil rfl rfl (by decide) (by kernel_rfl) rfl hS hK (by decide) rfl fun a w b_1 hS hK => ?_
    refine sl hK (by decide) rfl rfl (r_move hK rfl) fun a hK => ?_
    obtain ⟨y_4, h_5, H⟩ := bind_some H
    have hS := hS.row_lit (size := 2) (m := 0) rfl (by decide)
    have hq_3 : Reps ty_api_Sample R [] ([] : List api_Sample) := (Reps.nil _ _)
    refine sl_append_B elT22 (by decide) rfl (hS.ra hRA nil_not) hq_3 rfl (h0_0.monoR (Hp.le.refl _)) h_5 hS hK (by decide) rfl rfl rfl fun a w v_6 cs_7 hq_8 hS hK => ?_
    refine sl hK (by decide) rfl rfl (r_assign hK rfl) fun a hK => ?_
    refine wpList_nil ?_
    obtain rfl := Option.some.inj H
    refine wp_ret ?_
    repeat (first | refine ret_then ?_ | refine ret_block ?_ | refine ret_scope ?_)
    exact ret_1 Try.results23 hK (rv_tmp hK rfl) ⟨_, rfl, _, _, _, rfl, hS, hRL, hq_8⟩

/-! ### (*catchment/runs.Run).Clone: function 14 -/
set_option maxHeartbeats 4000000 in
set_option maxRecDepth 100000 in
theorem runs_Run_Clone.calls (a0 : runs_Run) {w0 : World} {R : Hp} {RA : Hp} {b0 : Nat} {o0 : Nat} {v0_0 : Value} (hRA : RA.sub w0) (hR : R.sub w0) (hc0 : ∀ j u, ([v0_0] : List Value)[j]? = some u → RA.cell b0 (o0 + j) = some u) (h0_0 : SlB ty_api_Sample RA R v0_0 a0.l) {r : runs_Run} (H : runs_Run_Clone a0 = some r) : Calls Try.prog 14 #[.pointer (some ⟨b0, o0, none⟩)] w0 (Rets fun v w' => ∃ (R' : Hp) (B0 : Nat) (u1 : Value) (cu1 : List Value), v = .pointer (some ⟨B0, 0, none⟩) ∧ St [] w0 w' R' [.cells B0 [u1] 50, .row 29 2 u1 r.l.length cu1] ∧ RLe [] w0 R R' ∧ Reps ty_api_Sample R' cu1 r.l) := by
  unfold runs_Run_Clone at H
  refine enter (args := [.pointer (some ⟨b0, o0, none⟩)]) Try.func14 rfl Try.ntmps14 rfl fun a hK => ?_
  have hS := St.init hR
  have hRL := RLe.refl (M := []) w0 R
  refine wp_seq ?_
  refine wp_region_lit ?_
  refine sl hK (by decide) rfl rfl (r_assign hK rfl) fun a hK => ?_
  refine wpList_nil ?_
  refine wp_seq ?_
  refine wp_region_lit ?_
  refine sl hK (by decide) rfl rfl (r_move hK rfl) fun a hK => ?_
  refine sl hK (by decide) rfl rfl (r_nilCheck hK rfl) fun a hK => ?_
  refine sl hK (by decide) rfl rfl (r_fieldAddr Try.underlying50 rfl Try.sizeOf22 hK rfl) fun a hK => ?_
  refine sl hK (by decide) rfl rfl (r_load Try.isAgg22 hK rfl ((hS.ra hRA nil_not).cell (hc0 0 _ rfl))) fun a hK => ?_
  obtain ⟨y_1, h_2, H⟩ := bind_some H
  refine sl_call Try.call23 hK (by decide) rfl rfl rfl (slices_Clone_api_Sample_api_Sample.calls a0.l (lentOf_sub [] _) hS.sub ((h0_0.monoR (Hp.le.refl _)).monoA (hS.raLe0 hRA nil_not)) h_2) fun a v_ w hv_ hK => ?_
  obtain ⟨R_3, v_6, cs_7, hv_, hr_, hl_4, hq_8⟩ := hv_
  have hv_ := hv_.symm
  subst hv_
  obtain ⟨hS, hl_4⟩ := hS.sp0.back hr_ hl_4
  have hS := hS.un1
  have hRL := hRL.trans hl_4
  have ho_9 := hS.row_one (.head _)
  refine sl hK (by decide) rfl rfl (r_buildC (ps := [(0, v_6)]) (c := [v_6]) Try.underlying50 Try.zeroValue50 places50 hK rfl (pc_cons (cells1 ho_9) pc_nil) rfl rfl) fun a hK => ?_
  refine sl_box hS hK (by decide) rfl rfl (c := [v_6]) rfl fun a w b_10 hS hK => ?_
  refine sl hK (by decide) rfl rfl (r_assign hK rfl) fun a hK => ?_
  refine wpList_nil ?_
  obtain rfl := Option.some.inj H
  refine wp_ret ?_
  repeat (first | refine ret_then ?_ | refine ret_block ?_ | refine ret_scope ?_)
  exact ret_1 Try.results14 hK (rv_tmp hK rfl) ⟨_, rfl, _, _, _, _, rfl, hS, hRL, hq_8⟩

/-! ### (*catchment/catchmentref07.Run).Get: function 16 -/
set_option maxHeartbeats 4000000 in
set_option maxRecDepth 100000 in
theorem ref07_Run_Get.calls (a0 : catchmentref07_Run) (a1 : Int) {w0 : World} {R : Hp} {RA : Hp} {b0 : Nat} {o0 : Nat} {v0_0 : Value} (hRA : RA.sub w0) (hR : R.sub w0) (hc0 : ∀ j u, ([v0_0] : List Value)[j]? = some u → RA.cell b0 (o0 + j) = some u) (h0_0 : SlR ty_api_Sample RA v0_0 a0.L) {r : (List api_Value) × Bool} (H : ref07_Run_Get a0 a1 = some r) : Calls Try.prog 16 #[.pointer (some ⟨b0, o0, none⟩), .int .i64 a1] w0 (Rets fun v w' => ∃ (R' : Hp) (u0 : Value) (cu0 : List Value), v = .tuple #[u0, .bool r.2] ∧ St [] w0 w' R' [.row 44 11 u0 r.1.length cu0] ∧ RLe [] w0 R R' ∧ Reps ty_api_Value R' cu0 r.1) := by
  unfold ref07_Run_Get at H
  refine enter (args := [.pointer (some ⟨b0, o0, none⟩), .int .i64 a1]) Try.func16 rfl Try.ntmps16 rfl fun a hK => ?_
  have hS := St.init hR
  have hRL := RLe.refl (M := []) w0 R
  refine wp_seq ?_
  refine wp_region_lit ?_
  refine sl hK (by decide) rfl rfl (r_assign hK rfl) fun a hK => ?_
  refine sl hK (by decide) rfl rfl (r_assign hK rfl) fun a hK => ?_
  refine wpList_nil ?_
  refine wp_seq ?_
  refine wp_seq ?_
  refine wp_region_lit ?_
  refine sl hK (by decide) rfl rfl (r_assign hK rfl) fun a hK => ?_
  refine wpList_nil ?_
  refine wp_block ?_
  refine wp_loop_k (fun k_l0 a w => ∃ (x_35 : Int), ref07_Run_Get.l0 a0 a1 k_l0 x_35 = some r ∧ Kn 36 a [(0, .pointer (some ⟨b0, o0, none⟩)), (1, .int .i64 a1), (6, .int .i64 x_35)] ∧ St [] w0 w R []) (((a0.L.length : Int) - 0).toNat + 1) ?_ ?_
  · exact ⟨0, H, hK.sub (all_cons rfl (all_cons rfl (all_cons rfl (all_nil)))), hS⟩
  · rintro k_l0 a w ⟨x_35, H, hK, hS⟩
    cases k_l0 with
    | zero => cases H
    | succ k_l0 =>
    rw [ref07_Run_Get.l0.eq_2] at H
    refine wp_seq ?_
    refine wp_seq ?_
    refine wp_region_lit ?_
    refine sl hK (by decide) rfl rfl (r_move hK rfl) fun a hK => ?_
    refine sl hK (by decide) rfl rfl (r_move hK rfl) fun a hK => ?_
    refine sl hK (by decide) rfl rfl (r_nilCheck hK rfl) fun a hK => ?_
    refine sl hK (by decide) rfl rfl (r_fieldAddr Try.underlying41 rfl Try.sizeOf22 hK rfl) fun a hK => ?_
    refine sl hK (by decide) rfl rfl (r_load Try.isAgg22 hK rfl ((hS.ra hRA nil_not).cell (hc0 0 _ rfl))) fun a hK => ?_
    refine sl hK (by decide) rfl rfl (r_len_R Try.underlying22 h0_0 hK rfl) fun a hK => ?_
    refine sl hK (by decide) rfl rfl (r_ibin hK rfl rfl rfl) fun a hK => ?_
    refine wpList_nil ?_
    refine wp_cond_split (hK.ev rfl) (fun (hb_70 : (decide (x_35 < (a0.L.length : Int))) = true) => ?_) (fun (hb_70 : (decide (x_35 < (a0.L.length : Int))) = false) => ?_)
    · rw [ifb_t hb_70] at H
      refine wp_skip ?_
      refine wp_seq ?_
      refine wp_block ?_
      refine wp_seq ?_
      refine wp_region_lit ?_
      refine sl hK (by decide) rfl rfl (r_move hK rfl) fun a hK => ?_
      refine sl hK (by decide) rfl rfl (r_nilCheck hK rfl) fun a hK => ?_
      refine sl hK (by decide) rfl rfl (r_fieldAddr Try.underlying41 rfl Try.sizeOf22 hK rfl) fun a hK => ?_
      refine sl hK (by decide) rfl rfl (r_load Try.isAgg22 hK rfl ((hS.ra hRA nil_not).cell (hc0 0 _ rfl))) fun a hK => ?_
      refine sl hK (by decide) rfl rfl (r_move hK rfl) fun a hK => ?_
      obtain ⟨y_71, h_72, H⟩ := bind_some H
      obtain ⟨b_73, o_74, c_75, cs_76, hv_77, hr_78, hc_79, h_720, h_721⟩ := h0_0.ix h_72
      obtain ⟨v_80, rfl, hs_81⟩ := hr_78
      refine sl hK (by decide) rfl rfl (r_indexAddr_R Try.underlying22 Try.sizeOf29 hv_77 h_720 h_721 hK rfl rfl) fun a hK => ?_
      refine sl hK (by decide) rfl rfl (r_fieldAddr Try.underlying29 rfl Try.sizeOf3 hK rfl) fun a hK => ?_
      refine sl hK (by decide) rfl rfl (r_load Try.isAgg3 hK rfl ((hS.ra hRA nil_not).cell (hc_79 0 _ rfl))) fun a hK => ?_
      refine sl hK (by decide) rfl rfl (r_move hK rfl) fun a hK => ?_
      refine sl hK (by decide) rfl rfl (r_ibin hK rfl rfl rfl) fun a hK => ?_
      refine wpList_nil ?_
      refine wp_cond_split (hK.ev rfl) (fun (hb_82 : (y_71.Time == a1) = true) => ?_) (fun (hb_82 : (y_71.Time == a1) = false) => ?_)
      · rw [ifb_t hb_82] at H
        refine wp_seq ?_
        refine wp_region_lit ?_
        refine sl_buildSliceC (zc := [.int .i64 0, .int .i64 0, .string (⟨#[]⟩ : ByteArray), .int .i64 0, .int .i64 0, .int .i64 0, .int .i64 0, .int .i64 0, .int .i64 0, .int .i64 0, .int .i64 0]) (zs := []) (ps := []) (c := []) Try.underlying27 Try.sizeOf44 Try.zeroValue44 rfl pc_nil rfl rfl (by decide) (by kernel_rfl) rfl hS hK (by decide) rfl fun a w b_83 hS hK => ?_
        refine sl hK (by decide) rfl rfl (r_move hK rfl) fun a hK => ?_
        refine sl hK (by decide) rfl rfl (r_nilCheck hK rfl) fun a hK => ?_
        refine sl hK (by decide) rfl rfl (r_fieldAddr Try.underlying41 rfl Try.sizeOf22 hK rfl) fun a hK => ?_
        refine sl hK (by decide) rfl rfl (r_load Try.isAgg22 hK rfl ((hS.ra hRA nil_not).cell (hc0 0 _ rfl))) fun a hK => ?_
        refine sl hK (by decide) rfl rfl (r_move hK rfl) fun a hK => ?_
        obtain ⟨y_84, h_85, H⟩ := bind_some H
        obtain ⟨b_86, o_87, c_88, cs_89, hv_90, hr_91, hc_92, h_850, h_851⟩ := h0_0.ix h_85
        obtain ⟨v_93, rfl, hs_94⟩ := hr_91
        refine sl hK (by decide) rfl rfl (r_indexAddr_R Try.underlying22 Try.sizeOf29 hv_90 h_850 h_851 hK rfl rfl) fun a hK => ?_
        refine sl hK (by decide) rfl rfl (r_fieldAddr Try.underlying29 rfl Try.sizeOf27 hK rfl) fun a hK => ?_
        refine sl hK (by decide) rfl rfl (r_load Try.isAgg27 hK rfl ((hS.ra hRA nil_not).cell (hc_92 1 _ rfl))) fun a hK => ?_
        obtain ⟨y_97, h_98, H⟩ := bind_some H
        have hS := hS.row_lit (size := 11) (m := 0) rfl (by decide)
        have hq_96 : Reps ty_api_Value R [] ([] : List api_Value) := (Reps.nil _ _)
        refine sl_append_A elT27 (by decide) rfl (fun _ _ _ _ h => h) (hS.ra hRA nil_not) hq_96 rfl hs_94 h_98 hS hK (by decide) rfl rfl rfl fun a w v_99 cs_100 hq_101 hS hK => ?_
        refine sl hK (by decide) rfl rfl (r_assign hK rfl) fun a hK => ?_
        refine sl hK (by decide) rfl rfl (r_assign hK rfl) fun a hK => ?_
        refine wpList_nil ?_
        obtain rfl := Option.some.inj H
        refine wp_ret ?_
        repeat (first | refine ret_then ?_ | refine ret_block ?_ | refine ret_scope ?_)
        exact ret_2 Try.results16 hK (rv_tmp hK rfl) (rv_tmp hK rfl) ⟨_, rfl, _, _, _, rfl, hS, hRL, hq_101⟩
      · rw [ifb_f hb_82] at H
        refine wp_skip ?_
        refine wp_region_lit ?_
        refine sl hK (by decide) rfl rfl (r_move hK rfl) fun a hK => ?_
        refine sl hK (by decide) rfl rfl (r_ibin hK rfl rfl rfl) fun a hK => ?_
        refine sl hK (by decide) rfl rfl (r_assign hK rfl) fun a hK => ?_
        refine wpList_nil ?_
        exact ⟨_, Nat.lt_succ_self _, (IntKind.i64.wrap (x_35 + 1)), H, hK.sub (all_cons rfl (all_cons rfl (all_cons rfl (all_nil)))), hS⟩
    · rw [ifb_f hb_70] at H
      refine wp_exit ?_
      refine wp_seq ?_
      refine wp_region_lit ?_
      refine sl hK (by decide) rfl rfl (r_assign hK rfl) fun a hK => ?_
      refine sl hK (by decide) rfl rfl (r_assign hK rfl) fun a hK => ?_
      refine wpList_nil ?_
      have hS := hS.row_nil 44 11
      have hq_104 : Reps ty_api_Value R [] ([] : List api_Value) := Reps.nil _ _
      obtain rfl := Option.some.inj H
      refine wp_ret ?_
      repeat (first | refine ret_then ?_ | refine ret_block ?_ | refine ret_scope ?_)
      exact ret_2 Try.results16 hK (rv_tmp hK rfl) (rv_tmp hK rfl) ⟨_, rfl, _, _, _, rfl, hS, hRL, hq_104⟩

/-! ### (*catchment/catchmentref07.Run).Add: function 15 -/
set_option maxHeartbeats 4000000 in
set_option maxRecDepth 100000 in
theorem ref07_Run_Add.calls (a0 : catchmentref07_Run) (a1 : Int) (a2 : List api_Value) {w0 : World} {R : Hp} {RA : Hp} {M : List Own} {b0 : Nat} {v0_0 : Value} {cs0_0 : List Value} {v2_0 : Value} (hRA : RA.sub w0) (hRM : ∀ b, blks M b → RA b = none) (hS0 : St M w0 w0 R [.cells b0 [v0_0] 41, .row 29 2 v0_0 a0.L.length cs0_0]) (h0_0 : Reps ty_api_Sample R cs0_0 a0.L) (h2_0 : SlR ty_api_Value RA v2_0 a2) {r : Bool × catchmentref07_Run} (H : ref07_Run_Add a0 a1 a2 = some r) : Calls Try.prog 15 #[.pointer (some ⟨b0, 0, none⟩), .int .i64 a1, v2_0] w0 (Rets fun v w' => ∃ (R' : Hp) (u0 : Value) (cu0 : List Value), v = .bool r.1 ∧ St M w0 w' R' [.cells b0 [u0] 41, .row 29 2 u0 r.2.L.length cu0] ∧ RLe M w0 R R' ∧ Reps ty_api_Sample R' cu0 r.2.L) := by
  unfold ref07_Run_Add at H
  refine enter (args := [.pointer (some ⟨b0, 0, none⟩), .int .i64 a1, v2_0]) Try.func15 rfl Try.ntmps15 rfl fun a hK => ?_
  have hS := hS0
  have hRL := RLe.refl (M := M) w0 R
  refine wp_seq ?_
  refine wp_region_lit ?_
  refine sl hK (by decide) rfl rfl (r_assign hK rfl) fun a hK => ?_
  refine wpList_nil ?_
  refine wp_seq ?_
  refine wp_region_lit ?_
  refine sl hK (by decide) rfl rfl (r_move hK rfl) fun a hK => ?_
  refine sl hK (by decide) rfl rfl (r_move hK rfl) fun a hK => ?_
  obtain ⟨y_1, h_2, H⟩ := bind_some H
  refine sl_call Try.call16 hK (by decide) rfl rfl rfl (ref07_Run_Get.calls a0 a1 (lentOf_sub [] _) hS.sub (hS.lend_box0 (.head _)) (hS.lend_row0 (.tail _ (.head _)) h0_0 rfl rfl) h_2) fun a v_ w hv_ hK => ?_
  obtain ⟨R_3, v_6, cs_7, hv_, hr_, hl_4, hq_8⟩ := hv_
  have hv_ := hv_.symm
  subst hv_
  obtain ⟨hS, hl_4⟩ := hS.sp0.back hr_ hl_4
  have hS := hS.un1
  have hRL := hRL.trans hl_4
  refine sl hK (by decide) rfl rfl (r_move hK rfl) fun a hK => ?_
  refine sl hK (by decide) rfl rfl (r_extract hK rfl rfl) fun a hK => ?_
  refine sl hK (by decide) rfl rfl (r_extract hK rfl rfl) fun a hK => ?_
  refine sl hK (by decide) rfl rfl (r_assign hK rfl) fun a hK => ?_
  refine sl hK (by decide) rfl rfl (r_assign hK rfl) fun a hK => ?_
  refine wpList_nil ?_
  refine wp_seq ?_
  refine wp_seq ?_
  refine wp_region_lit ?_
  refine sl hK (by decide) rfl rfl (r_move hK rfl) fun a hK => ?_
  refine wpList_nil ?_
  refine wp_cond_split (hK.ev rfl) (fun (hb_9 : y_1.2 = true) => ?_) (fun (hb_9 : y_1.2 = false) => ?_)
  · rw [ifb_t hb_9] at H
    refine wp_seq ?_
    refine wp_region_lit ?_
    refine sl hK (by decide) rfl rfl (r_assign hK rfl) fun a hK => ?_
    refine wpList_nil ?_
    obtain rfl := Option.some.inj H
    refine wp_ret ?_
    repeat (first | refine ret_then ?_ | refine ret_block ?_ | refine ret_scope ?_)
    exact ret_1 Try.results15 hK (rv_tmp hK rfl) ⟨_, rfl, _, _, _, rfl, (hS.pk2.pk2.trunc 2), hRL, (h0_0.mono hl_4.le)⟩
  · rw [ifb_f hb_9] at H
    refine wp_skip ?_
    refine wp_seq ?_
    refine wp_region_lit ?_
    refine sl hK (by decide) rfl rfl (r_move hK rfl) fun a hK => ?_
    refine sl_buildSliceC (zc := [.int .i64 0, .int .i64 0, .string (⟨#[]⟩ : ByteArray), .int .i64 0, .int .i64 0, .int .i64 0, .int .i64 0, .int .i64 0, .int .i64 0, .int .i64 0, .int .i64 0]) (zs := []) (ps := []) (c := []) Try.underlying27 Try.sizeOf44 Try.zeroValue44 rfl pc_nil rfl rfl (by decide) (by kernel_rfl) rfl hS hK (by decide) rfl fun a w b_10 hS hK => ?_
    refine sl hK (by decide) rfl rfl (r_move hK rfl) fun a hK => ?_
    obtain ⟨y_13, h_14, H⟩ := bind_some H
    have hS := hS.row_lit (size := 11) (m := 0) rfl (by decide)
    have hq_12 : Reps ty_api_Value R_3 [] ([] : List api_Value) := (Reps.nil _ _)
    refine sl_append_A elT27 (by decide) rfl (fun _ _ _ _ h => h) (hS.ra hRA hRM) hq_12 rfl h2_0 h_14 hS hK (by decide) rfl rfl rfl fun a w v_15 cs_16 hq_17 hS hK => ?_
    have ho_19 := hS.row_one (.head _)
    refine sl hK (by decide) rfl rfl (r_buildC (ps := [(0, .int .i64 a1), (1, v_15)]) (c := [.int .i64 a1, v_15]) Try.underlying29 Try.zeroValue29 places29 hK rfl (pc_cons rfl (pc_cons (cells1 ho_19) pc_nil)) rfl rfl) fun a hK => ?_
    refine sl_alloc Try.zeroValue29 hS hK (by decide) rfl rfl fun a w b_20 hS hK => ?_
    refine sl_storeA (vs := [.int .i64 a1, v_15]) (c' := [.int .i64 a1, v_15]) Try.sizeOf29 hS hK rfl rfl rfl rfl (all_cons rfl (all_cons (hS.row_one (.tail _ (.head _))) (all_nil))) (Nat.le_of_ble_eq_true rfl) rfl fun a w hS hK => ?_
    refine wpList_nil ?_
    refine wp_seq ?_
    refine wp_region_lit ?_
    refine sl hK (by decide) rfl rfl (r_assign hK rfl) fun a hK => ?_
    refine wpList_nil ?_
    refine wp_seq ?_
    refine wp_region_lit ?_
    refine sl hK (by decide) rfl rfl (r_assign hK rfl) fun a hK => ?_
    refine wpList_nil ?_
    refine wp_seq ?_
    refine wp_seq ?_
    refine wp_region_lit ?_
    refine sl hK (by decide) rfl rfl (r_assign hK rfl) fun a hK => ?_
    refine wpList_nil ?_
    refine wp_block ?_
    refine wp_loop_k (fun k_l0 a w => ∃ (x_118 : List api_Sample) (x_122 : Bool) (x_123 : Int) (R_124 : Hp) (v_115 : Value) (v_119 : Value) (cs_120 : List Value), ref07_Run_Add.l0 a0 a1 y_13 k_l0 x_118 x_122 x_123 = some r ∧ RLe M w0 R_3 R_124 ∧ SlR ty_api_Value R_124 v_115 y_13 ∧ Reps ty_api_Sample R_124 cs_120 x_118 ∧ Kn 72 a [(0, .pointer (some ⟨b0, 0, none⟩)), (1, .int .i64 a1), (9, .pointer (some ⟨b_20, 0, none⟩)), (10, v_119), (11, .bool x_122), (12, .int .i64 x_123)] ∧ St M w0 w R_124 [.row 29 2 v0_0 a0.L.length cs0_0, .cells b0 [v0_0] 41, .cells b_20 [.int .i64 a1, v_115] 29, .row 29 2 v_119 x_118.length cs_120]) (((a0.L.length : Int) - 0).toNat + 1) ?_ ?_
    · have hS := hS.pk1
      obtain ⟨R_191, hS, hl_193, hs_192⟩ := hS.fz_row hq_17 rfl rfl
      have hRL := hRL.trans hl_193
      have hS := hS.row_nil 29 2
      have hq_195 : Reps ty_api_Sample R_191 [] ([] : List api_Sample) := Reps.nil _ _
      have hS := hS.pk1
      have hS := hS.pk3
      have hS := hS.pk4
      exact ⟨[], false, 0, _, v_15, _, _, H, hl_193, hs_192, hq_195, hK.sub (all_cons rfl (all_cons rfl (all_cons rfl (all_cons rfl (all_cons rfl (all_cons rfl (all_nil))))))), hS.trunc 4⟩
    · rintro k_l0 a w ⟨x_118, x_122, x_123, R_124, v_115, v_119, cs_120, H, hl_125, hs_116, hq_121, hK, hS⟩
      cases k_l0 with
      | zero => cases H
      | succ k_l0 =>
      rw [ref07_Run_Add.l0.eq_2] at H
      have hRL := hRL.trans hl_125
      refine wp_seq ?_
      refine wp_seq ?_
      refine wp_region_lit ?_
      refine sl hK (by decide) rfl rfl (r_move hK rfl) fun a hK => ?_
      refine sl hK (by decide) rfl rfl (r_move hK rfl) fun a hK => ?_
      refine sl hK (by decide) rfl rfl (r_nilCheck hK rfl) fun a hK => ?_
      refine sl hK (by decide) rfl rfl (r_fieldAddr Try.underlying41 rfl Try.sizeOf22 hK rfl) fun a hK => ?_
      refine sl hK (by decide) rfl rfl (r_load Try.isAgg22 hK rfl (hS.cell (.tail _ (.head _)) rfl)) fun a hK => ?_
      refine sl hK (by decide) rfl rfl (r_len_O Try.underlying22 hS (.head _) hK rfl) fun a hK => ?_
      refine sl hK (by decide) rfl rfl (r_ibin hK rfl rfl rfl) fun a hK => ?_
      refine wpList_nil ?_
      refine wp_cond_split (hK.ev rfl) (fun (hb_196 : (decide (x_123 < (a0.L.length : Int))) = true) => ?_) (fun (hb_196 : (decide (x_123 < (a0.L.length : Int))) = false) => ?_)
      · rw [ifb_t hb_196] at H
        refine wp_skip ?_
        refine wp_seq ?_
        refine wp_block ?_
        refine wp_seq ?_
        refine wp_seq ?_
        refine wp_mid (fun a w => ∃ (x_208 : Bool), ref07_Run_Add.j1 (ref07_Run_Add.l0 a0 a1 y_13 k_l0) a0 a1 y_13 x_118 x_122 x_123 x_208 = some r ∧ Kn 72 a [(0, .pointer (some ⟨b0, 0, none⟩)), (1, .int .i64 a1), (9, .pointer (some ⟨b_20, 0, none⟩)), (10, v_119), (11, .bool x_122), (12, .int .i64 x_123), (47, .bool x_208)] ∧ St M w0 w R_124 [.row 29 2 v0_0 a0.L.length cs0_0, .cells b0 [v0_0] 41, .cells b_20 [.int .i64 a1, v_115] 29, .row 29 2 v_119 x_118.length cs_120]) ?_ ?_
        · refine wp_region_lit ?_
          refine sl hK (by decide) rfl rfl (r_move hK rfl) fun a hK => ?_
          refine sl hK (by decide) rfl rfl (r_nilCheck hK rfl) fun a hK => ?_
          refine sl hK (by decide) rfl rfl (r_fieldAddr Try.underlying41 rfl Try.sizeOf22 hK rfl) fun a hK => ?_
          refine sl hK (by decide) rfl rfl (r_load Try.isAgg22 hK rfl (hS.cell (.tail _ (.head _)) rfl)) fun a hK => ?_
          refine sl hK (by decide) rfl rfl (r_move hK rfl) fun a hK => ?_
          obtain ⟨y_210, h_211, H⟩ := bind_some H
          obtain ⟨b_213, c_214, cs_215, hv_212, hr_216, hc_217, h_2110, h_2111⟩ := hS.row_ix (.head _) (h0_0.mono (hl_4.le.trans hl_125.le)) rfl rfl h_211
          obtain ⟨v_218, rfl, hs_219⟩ := hr_216
          refine sl hK (by decide) rfl rfl (r_indexAddr_R Try.underlying22 Try.sizeOf29 hv_212 h_2110 h_2111 hK rfl rfl) fun a hK => ?_
          refine sl hK (by decide) rfl rfl (r_fieldAddr Try.underlying29 rfl Try.sizeOf3 hK rfl) fun a hK => ?_
          refine sl hK (by decide) rfl rfl (r_load Try.isAgg3 hK rfl (by have h_ := hS.row_cell (.head _) hv_212 (hc_217 0 _ rfl); simpa [Nat.add_assoc] using h_)) fun a hK => ?_
          refine sl hK (by decide) rfl rfl (r_move hK rfl) fun a hK => ?_
          refine sl hK (by decide) rfl rfl (r_ibin hK rfl rfl rfl) fun a hK => ?_
          refine sl hK (by decide) rfl rfl (r_move hK rfl) fun a hK => ?_
          rcases or_b (decide (y_210.Time > a1)) with hb_220 | hb_220
          · rw [ifb_t hb_220] at H
            refine sl hK (by decide) (wtt hb_220) rfl (r_move hK rfl) fun a hK => ?_
            refine sl hK (by decide) (wtt hb_220) rfl (r_un hK rfl (u_not _)) fun a hK => ?_
            refine sl hK (by decide) rfl rfl (r_pick_t hb_220 hK rfl rfl) fun a hK => ?_
            refine wpList_nil ?_
            have hS := hS.pk3
            have hS := hS.pk3
            have hS := hS.pk3
            have hS := hS.pk3
            exact ⟨(!x_122), H, hK.sub (all_cons rfl (all_cons rfl (all_cons rfl (all_cons rfl (all_cons rfl (all_cons rfl (all_cons rfl (all_nil)))))))), hS⟩
          · rw [ifb_f hb_220] at H
            refine sl_skip hK (by decide) (wtf hb_220) rfl fun a hK => ?_
            refine sl_skip hK (by decide) (wtf hb_220) rfl fun a hK => ?_
            refine sl hK (by decide) rfl rfl (r_pick_f hb_220 hK rfl rfl) fun a hK => ?_
            refine wpList_nil ?_
            have hS := hS.pk3
            have hS := hS.pk3
            have hS := hS.pk3
            have hS := hS.pk3
            exact ⟨false, H, hK.sub (all_cons rfl (all_cons rfl (all_cons rfl (all_cons rfl (all_cons rfl (all_cons rfl (all_cons rfl (all_nil)))))))), hS⟩
        · rintro a w ⟨x_208, H, hK, hS⟩
          unfold ref07_Run_Add.j1 at H
          refine wp_mid (fun a w => ∃ (x_230 : List api_Sample) (x_234 : Bool) (v_231 : Value) (cs_232 : List Value), ref07_Run_Add.j2 (ref07_Run_Add.l0 a0 a1 y_13 k_l0) a0 x_123 x_230 x_234 = some r ∧ Reps ty_api_Sample R_124 cs_232 x_230 ∧ Kn 72 a [(0, .pointer (some ⟨b0, 0, none⟩)), (1, .int .i64 a1), (9, .pointer (some ⟨b_20, 0, none⟩)), (10, v_231), (11, .bool x_234), (12, .int .i64 x_123)] ∧ St M w0 w R_124 [.row 29 2 v0_0 a0.L.length cs0_0, .cells b0 [v0_0] 41, .cells b_20 [.int .i64 a1, v_115] 29, .row 29 2 v_231 x_230.length cs_232]) ?_ ?_
          · refine wp_cond_split (hK.ev rfl) (fun (hb_236 : x_208 = true) => ?_) (fun (hb_236 : x_208 = false) => ?_)
            · rw [ifb_t hb_236] at H
              refine wp_seq ?_
              refine wp_region_lit ?_
              refine sl hK (by decide) rfl rfl (r_move hK rfl) fun a hK => ?_
              refine sl hK (by decide) rfl rfl (r_loadA (cs := [.int .i64 a1, v_115]) Try.isAgg29 Try.sizeOf29 rfl hK rfl (hS.cells_of (m := 2) (.tail _ (.tail _ (.head _))) rfl)) fun a hK => ?_
              refine sl_buildSliceF (zc := [.int .i64 0, .slice none 0 0]) (ps := [(0, .agg #[.int .i64 a1, v_115])]) (c := [.int .i64 a1, v_115]) [[.int .i64 a1, v_115]] Try.underlying22 Try.sizeOf29 Try.zeroValue29 rfl (pc_cons rfl pc_nil) rfl rfl (Nat.le_of_ble_eq_true rfl) rfl (all_cons rfl (all_nil)) rfl hS hK (by decide) rfl fun a w b_237 hS hK => ?_
              obtain ⟨y_238, h_239, H⟩ := bind_some H
              have hS := hS.pk4
              refine sl_append_L (ty := ty_api_Sample) (ys := [(⟨a1, y_13⟩ : api_Sample)]) elT22 (by decide) rfl hq_121 rfl (Reps.cons (show Ty.rep ty_api_Sample _ [.int .i64 a1, v_115] (⟨a1, y_13⟩ : api_Sample) from ⟨_, rfl, hs_116⟩) (Reps.nil _ _)) rfl h_239 hS hK (by decide) rfl rfl rfl fun a w v_240 cs_241 hq_242 hS hK => ?_
              refine sl hK (by decide) rfl rfl (r_assign hK rfl) fun a hK => ?_
              refine wpList_nil ?_
              refine wp_region_lit ?_
              refine sl hK (by decide) rfl rfl (r_assign hK rfl) fun a hK => ?_
              refine wpList_nil ?_
              have hS := hS.pk3
              have hS := hS.pk3
              have hS := hS.pk3
              exact ⟨y_238, true, _, _, H, hq_242, hK.sub (all_cons rfl (all_cons rfl (all_cons rfl (all_cons rfl (all_cons rfl (all_cons rfl (all_nil))))))), hS⟩
            · rw [ifb_f hb_236] at H
              refine wp_skip ?_
              have hS := hS.pk3
              have hS := hS.pk3
              have hS := hS.pk3
              have hS := hS.pk3
              exact ⟨x_118, x_122, _, _, H, hq_121, hK.sub (all_cons rfl (all_cons rfl (all_cons rfl (all_cons rfl (all_cons rfl (all_cons rfl (all_nil))))))), hS⟩
          · rintro a w ⟨x_230, x_234, v_231, cs_232, H, hq_233, hK, hS⟩
            unfold ref07_Run_Add.j2 at H
            refine wp_region_lit ?_
            refine sl hK (by decide) rfl rfl (r_move hK rfl) fun a hK => ?_
            refine sl hK (by decide) rfl rfl (r_move hK rfl) fun a hK => ?_
            refine sl hK (by decide) rfl rfl (r_nilCheck hK rfl) fun a hK => ?_
            refine sl hK (by decide) rfl rfl (r_fieldAddr Try.underlying41 rfl Try.sizeOf22 hK rfl) fun a hK => ?_
            refine sl hK (by decide) rfl rfl (r_load Try.isAgg22 hK rfl (hS.cell (.tail _ (.head _)) rfl)) fun a hK => ?_
            refine sl hK (by decide) rfl rfl (r_move hK rfl) fun a hK => ?_
            obtain ⟨y_244, h_245, H⟩ := bind_some H
            obtain ⟨b_247, c_248, cs_249, hv_246, hr_250, hc_251, h_2450, h_2451⟩ := hS.row_ix (.head _) (h0_0.mono (hl_4.le.trans hl_125.le)) rfl rfl h_245
            obtain ⟨v_252, rfl, hs_253⟩ := hr_250
            refine sl hK (by decide) rfl rfl (r_indexAddr_R Try.underlying22 Try.sizeOf29 hv_246 h_2450 h_2451 hK rfl rfl) fun a hK => ?_
            refine sl hK (by decide) rfl rfl (r_loadA (cs := [.int .i64 y_244.Time, v_252]) Try.isAgg29 Try.sizeOf29 rfl hK rfl (fun j v hv => by have := hS.row_cell (.head _) hv_246 (hc_251 j v hv); simpa [Nat.add_assoc] using this)) fun a hK => ?_
            refine sl_buildSliceF (zc := [.int .i64 0, .slice none 0 0]) (ps := [(0, .agg #[.int .i64 y_244.Time, v_252])]) (c := [.int .i64 y_244.Time, v_252]) [[.int .i64 y_244.Time, v_252]] Try.underlying22 Try.sizeOf29 Try.zeroValue29 rfl (pc_cons rfl pc_nil) rfl rfl (Nat.le_of_ble_eq_true rfl) rfl (all_cons rfl (all_nil)) rfl hS hK (by decide) rfl fun a w b_254 hS hK => ?_
            obtain ⟨y_255, h_256, H⟩ := bind_some H
            have hS := hS.pk4
            refine sl_append_L (ty := ty_api_Sample) (ys := [y_244]) elT22 (by decide) rfl hq_233 rfl (Reps.cons (show Ty.rep ty_api_Sample _ [.int .i64 y_244.Time, v_252] y_244 from ⟨_, rfl, hs_253⟩) (Reps.nil _ _)) rfl h_256 hS hK (by decide) rfl rfl rfl fun a w v_257 cs_258 hq_259 hS hK => ?_
            refine sl hK (by decide) rfl rfl (r_assign hK rfl) fun a hK => ?_
            refine wpList_nil ?_
            refine wp_region_lit ?_
            refine sl hK (by decide) rfl rfl (r_move hK rfl) fun a hK => ?_
            refine sl hK (by decide) rfl rfl (r_ibin hK rfl rfl rfl) fun a hK => ?_
            refine sl hK (by decide) rfl rfl (r_assign hK rfl) fun a hK => ?_
            refine wpList_nil ?_
            have hS := hS.pk3
            have hS := hS.pk3
            have hS := hS.pk3
            exact ⟨_, Nat.lt_succ_self _, y_255, x_234, (IntKind.i64.wrap (x_123 + 1)), _, v_115, _, _, H, hl_125, hs_116, hq_259, hK.sub (all_cons rfl (all_cons rfl (all_cons rfl (all_cons rfl (all_cons rfl (all_cons rfl (all_nil))))))), hS⟩
      · rw [ifb_f hb_196] at H
        refine wp_exit ?_
        refine wp_seq ?_
        refine wp_seq ?_
        refine wp_region_lit ?_
        refine sl hK (by decide) rfl rfl (r_move hK rfl) fun a hK => ?_
        refine sl hK (by decide) rfl rfl (r_un hK rfl (u_not _)) fun a hK => ?_
        refine wpList_nil ?_
        refine wp_cond_split (hK.ev rfl) (fun (hb_261 : (!x_122) = true) => ?_) (fun (hb_261 : (!x_122) = false) => ?_)
        · rw [ifb_t hb_261] at H
          refine wp_region_lit ?_
          refine sl hK (by decide) rfl rfl (r_move hK rfl) fun a hK => ?_
          refine sl hK (by decide) rfl rfl (r_loadA (cs := [.int .i64 a1, v_115]) Try.isAgg29 Try.sizeOf29 rfl hK rfl (hS.cells_of (m := 2) (.tail _ (.tail _ (.head _))) rfl)) fun a hK => ?_
          refine sl_buildSliceF (zc := [.int .i64 0, .slice none 0 0]) (ps := [(0, .agg #[.int .i64 a1, v_115])]) (c := [.int .i64 a1, v_115]) [[.int .i64 a1, v_115]] Try.underlying22 Try.sizeOf29 Try.zeroValue29 rfl (pc_cons rfl pc_nil) rfl rfl (Nat.le_of_ble_eq_true rfl) rfl (all_cons rfl (all_nil)) rfl hS hK (by decide) rfl fun a w b_262 hS hK => ?_
          obtain ⟨y_263, h_264, H⟩ := bind_some H
          have hS := hS.pk4
          refine sl_append_L (ty := ty_api_Sample) (ys := [(⟨a1, y_13⟩ : api_Sample)]) elT22 (by decide) rfl hq_121 rfl (Reps.cons (show Ty.rep ty_api_Sample _ [.int .i64 a1, v_115] (⟨a1, y_13⟩ : api_Sample) from ⟨_, rfl, hs_116⟩) (Reps.nil _ _)) rfl h_264 hS hK (by decide) rfl rfl rfl fun a w v_265 cs_266 hq_267 hS hK => ?_
          refine sl hK (by decide) rfl rfl (r_assign hK rfl) fun a hK => ?_
          refine wpList_nil ?_
          refine wp_seq ?_
          refine wp_region_lit ?_
          refine sl hK (by decide) rfl rfl (r_move hK rfl) fun a hK => ?_
          refine sl hK (by decide) rfl rfl (r_move hK rfl) fun a hK => ?_
          refine sl hK (by decide) rfl rfl (r_nilCheck hK rfl) fun a hK => ?_
          refine sl hK (by decide) rfl rfl (r_fieldAddr Try.underlying41 rfl Try.sizeOf22 hK rfl) fun a hK => ?_
          have hS := hS.pk2
          refine sl_store1 (c' := [v_265]) Try.sizeOf22 hS hK rfl rfl rfl (hS.row_one (.tail _ (.head _))) (Nat.le_of_ble_eq_true rfl) rfl fun a w hS hK => ?_
          refine wpList_nil ?_
          refine wp_seq ?_
          refine wp_region_lit ?_
          refine sl hK (by decide) rfl rfl (r_assign hK rfl) fun a hK => ?_
          refine wpList_nil ?_
          obtain rfl := Option.some.inj H
          refine wp_ret ?_
          repeat (first | refine ret_then ?_ | refine ret_block ?_ | refine ret_scope ?_)
          exact ret_1 Try.results15 hK (rv_tmp hK rfl) ⟨_, rfl, _, _, _, rfl, (hS.trunc 2), hRL, hq_267⟩
        · rw [ifb_f hb_261] at H
          refine wp_skip ?_
          refine wp_seq ?_
          refine wp_region_lit ?_
          refine sl hK (by decide) rfl rfl (r_move hK rfl) fun a hK => ?_
          refine sl hK (by decide) rfl rfl (r_move hK rfl) fun a hK => ?_
          refine sl hK (by decide) rfl rfl (r_nilCheck hK rfl) fun a hK => ?_
          refine sl hK (by decide) rfl rfl (r_fieldAddr Try.underlying41 rfl Try.sizeOf22 hK rfl) fun a hK => ?_
          have hS := hS.pk1
          refine sl_store1 (c' := [v_119]) Try.sizeOf22 hS hK rfl rfl rfl (hS.row_one (.tail _ (.tail _ (.tail _ (.head _))))) (Nat.le_of_ble_eq_true rfl) rfl fun a w hS hK => ?_
          refine wpList_nil ?_
          refine wp_seq ?_
          refine wp_region_lit ?_
          refine sl hK (by decide) rfl rfl (r_assign hK rfl) fun a hK => ?_
          refine wpList_nil ?_
          obtain rfl := Option.some.inj H
          refine wp_ret ?_
          repeat (first | refine ret_then ?_ | refine ret_block ?_ | refine ret_scope ?_)
          exact ret_1 Try.results15 hK (rv_tmp hK rfl) ⟨_, rfl, _, _, _, rfl, (hS.pk3.pk1.trunc 2), hRL, hq_121⟩

/-! ### (*catchment/catchmentref07.Run).Range: function 17 -/
set_option maxHeartbeats 4000000 in
set_option maxRecDepth 100000 in
theorem ref07_Run_Range.calls (a0 : catchmentref07_Run) (a1 : Int) (a2 : Int) {w0 : World} {R : Hp} {M : List Own} {b0 : Nat} {v0_0 : Value} {cs0_0 : List Value} (hS0 : St M w0 w0 R [.cells b0 [v0_0] 41, .row 29 2 v0_0 a0.L.length cs0_0]) (h0_0 : Reps ty_api_Sample R cs0_0 a0.L) {r : (List api_Sample) × catchmentref07_Run} (H : ref07_Run_Range a0 a1 a2 = some r) : Calls Try.prog 17 #[.pointer (some ⟨b0, 0, none⟩), .int .i64 a1, .int .i64 a2] w0 (Rets fun v w' => ∃ (R' : Hp) (u0 : Value) (cu0 : List Value) (u1 : Value) (cu1 : List Value), v = u0 ∧ St M w0 w' R' [.row 29 2 u0 r.1.length cu0, .cells b0 [u1] 41, .row 29 2 u1 r.2.L.length cu1] ∧ RLe M w0 R R' ∧ Reps ty_api_Sample R' cu0 r.1 ∧ Reps ty_api_Sample R' cu1 r.2.L) := by
  unfold ref07_Run_Range at H
  refine enter (args := [.pointer (some ⟨b0, 0, none⟩), .int .i64 a1, .int .i64 a2]) Try.func17 rfl Try.ntmps17 rfl fun a hK => ?_
  have hS := hS0
  have hRL := RLe.refl (M := M) w0 R
  refine wp_seq ?_
  refine wp_region_lit ?_
  refine sl hK (by decide) rfl rfl (r_assign hK rfl) fun a hK => ?_
  refine wpList_nil ?_
  refine wp_seq ?_
  refine wp_region_lit ?_
  refine sl hK (by decide) rfl rfl (r_assign hK rfl) fun a hK => ?_
  refine wpList_nil ?_
  refine wp_seq ?_
  refine wp_seq ?_
  refine wp_region_lit ?_
  refine sl hK (by decide) rfl rfl (r_assign hK rfl) fun a hK => ?_
  refine wpList_nil ?_
  refine wp_block ?_
  refine wp_loop_k (fun k_l0 a w => ∃ (x_96 : List api_Sample) (x_100 : Int) (v_97 : Value) (cs_98 : List Value), ref07_Run_Range.l0 a0 a1 a2 k_l0 x_96 x_100 = some r ∧ Reps ty_api_Sample R cs_98 x_96 ∧ Kn 51 a [(0, .pointer (some ⟨b0, 0, none⟩)), (1, .int .i64 a1), (2, .int .i64 a2), (7, v_97), (8, .int .i64 x_100)] ∧ St M w0 w R [.row 29 2 v0_0 a0.L.length cs0_0, .cells b0 [v0_0] 41, .row 29 2 v_97 x_96.length cs_98]) (((a0.L.length : Int) - 0).toNat + 1) ?_ ?_
  · have hS := hS.row_nil 29 2
    have hq_190 : Reps ty_api_Sample R [] ([] : List api_Sample) := Reps.nil _ _
    have hS := hS.pk1
    have hS := hS.pk2
    exact ⟨[], 0, _, _, H, hq_190, hK.sub (all_cons rfl (all_cons rfl (all_cons rfl (all_cons rfl (all_cons rfl (all_nil)))))), hS⟩
  · rintro k_l0 a w ⟨x_96, x_100, v_97, cs_98, H, hq_99, hK, hS⟩
    cases k_l0 with
    | zero => cases H
    | succ k_l0 =>
    rw [ref07_Run_Range.l0.eq_2] at H
    refine wp_seq ?_
    refine wp_seq ?_
    refine wp_region_lit ?_
    refine sl hK (by decide) rfl rfl (r_move hK rfl) fun a hK => ?_
    refine sl hK (by decide) rfl rfl (r_move hK rfl) fun a hK => ?_
    refine sl hK (by decide) rfl rfl (r_nilCheck hK rfl) fun a hK => ?_
    refine sl hK (by decide) rfl rfl (r_fieldAddr Try.underlying41 rfl Try.sizeOf22 hK rfl) fun a hK => ?_
    refine sl hK (by decide) rfl rfl (r_load Try.isAgg22 hK rfl (hS.cell (.tail _ (.head _)) rfl)) fun a hK => ?_
    refine sl hK (by decide) rfl rfl (r_len_O Try.underlying22 hS (.head _) hK rfl) fun a hK => ?_
    refine sl hK (by decide) rfl rfl (r_ibin hK rfl rfl rfl) fun a hK => ?_
    refine wpList_nil ?_
    refine wp_cond_split (hK.ev rfl) (fun (hb_191 : (decide (x_100 < (a0.L.length : Int))) = true) => ?_) (fun (hb_191 : (decide (x_100 < (a0.L.length : Int))) = false) => ?_)
    · rw [ifb_t hb_191] at H
      refine wp_skip ?_
      refine wp_seq ?_
      refine wp_block ?_
      refine wp_seq ?_
      refine wp_mid (fun a w => ∃ (x_213 : Bool), ref07_Run_Range.j1 (ref07_Run_Range.l0 a0 a1 a2 k_l0) a0 x_96 x_100 x_213 = some r ∧ Kn 51 a [(0, .pointer (some ⟨b0, 0, none⟩)), (1, .int .i64 a1), (2, .int .i64 a2), (7, v_97), (8, .int .i64 x_100), (39, .bool x_213)] ∧ St M w0 w R [.row 29 2 v0_0 a0.L.length cs0_0, .cells b0 [v0_0] 41, .row 29 2 v_97 x_96.length cs_98]) ?_ ?_
      · refine wp_region_lit ?_
        refine sl hK (by decide) rfl rfl (r_move hK rfl) fun a hK => ?_
        refine sl hK (by decide) rfl rfl (r_nilCheck hK rfl) fun a hK => ?_
        refine sl hK (by decide) rfl rfl (r_fieldAddr Try.underlying41 rfl Try.sizeOf22 hK rfl) fun a hK => ?_
        refine sl hK (by decide) rfl rfl (r_load Try.isAgg22 hK rfl (hS.cell (.tail _ (.head _)) rfl)) fun a hK => ?_
        refine sl hK (by decide) rfl rfl (r_move hK rfl) fun a hK => ?_
        obtain ⟨y_215, h_216, H⟩ := bind_some H
        obtain ⟨b_218, c_219, cs_220, hv_217, hr_221, hc_222, h_2160, h_2161⟩ := hS.row_ix (.head _) h0_0 rfl rfl h_216
        obtain ⟨v_223, rfl, hs_224⟩ := hr_221
        refine sl hK (by decide) rfl rfl (r_indexAddr_R Try.underlying22 Try.sizeOf29 hv_217 h_2160 h_2161 hK rfl rfl) fun a hK => ?_
        refine sl hK (by decide) rfl rfl (r_fieldAddr Try.underlying29 rfl Try.sizeOf3 hK rfl) fun a hK => ?_
        refine sl hK (by decide) rfl rfl (r_load Try.isAgg3 hK rfl (by have h_ := hS.row_cell (.head _) hv_217 (hc_222 0 _ rfl); simpa [Nat.add_assoc] using h_)) fun a hK => ?_
        refine sl hK (by decide) rfl rfl (r_move hK rfl) fun a hK => ?_
        refine sl hK (by decide) rfl rfl (r_ibin hK rfl rfl rfl) fun a hK => ?_
        refine sl hK (by decide) rfl rfl (r_move hK rfl) fun a hK => ?_
        rcases or_b (decide (y_215.Time ≥ a1)) with hb_225 | hb_225
        · rw [ifb_t hb_225] at H
          refine sl hK (by decide) (wtt hb_225) rfl (r_move hK rfl) fun a hK => ?_
          refine sl hK (by decide) (wtt hb_225) rfl (r_nilCheck hK rfl) fun a hK => ?_
          refine sl hK (by decide) (wtt hb_225) rfl (r_fieldAddr Try.underlying41 rfl Try.sizeOf22 hK rfl) fun a hK => ?_
          refine sl hK (by decide) (wtt hb_225) rfl (r_load Try.isAgg22 hK rfl (hS.cell (.tail _ (.head _)) rfl)) fun a hK => ?_
          refine sl hK (by decide) (wtt hb_225) rfl (r_move hK rfl) fun a hK => ?_
          obtain ⟨y_226, h_227, H⟩ := bind_some H
          obtain ⟨b_229, c_230, cs_231, hv_228, hr_232, hc_233, h_2270, h_2271⟩ := hS.row_ix (.head _) h0_0 rfl rfl h_227
          obtain ⟨v_234, rfl, hs_235⟩ := hr_232
          refine sl hK (by decide) (wtt hb_225) rfl (r_indexAddr_R Try.underlying22 Try.sizeOf29 hv_228 h_2270 h_2271 hK rfl rfl) fun a hK => ?_
          refine sl hK (by decide) (wtt hb_225) rfl (r_fieldAddr Try.underlying29 rfl Try.sizeOf3 hK rfl) fun a hK => ?_
          refine sl hK (by decide) (wtt hb_225) rfl (r_load Try.isAgg3 hK rfl (by have h_ := hS.row_cell (.head _) hv_228 (hc_233 0 _ rfl); simpa [Nat.add_assoc] using h_)) fun a hK => ?_
          refine sl hK (by decide) (wtt hb_225) rfl (r_move hK rfl) fun a hK => ?_
          refine sl hK (by decide) (wtt hb_225) rfl (r_ibin hK rfl rfl rfl) fun a hK => ?_
          refine sl hK (by decide) rfl rfl (r_pick_t hb_225 hK rfl rfl) fun a hK => ?_
          refine wpList_nil ?_
          have hS := hS.pk2
          have hS := hS.pk2
          have hS := hS.pk2
          exact ⟨(decide (y_226.Time ≤ a2)), H, hK.sub (all_cons rfl (all_cons rfl (all_cons rfl (all_cons rfl (all_cons rfl (all_cons rfl (all_nil))))))), hS⟩
        · rw [ifb_f hb_225] at H
          refine sl_skip hK (by decide) (wtf hb_225) rfl fun a hK => ?_
          refine sl_skip hK (by decide) (wtf hb_225) rfl fun a hK => ?_
          refine sl_skip hK (by decide) (wtf hb_225) rfl fun a hK => ?_
          refine sl_skip hK (by decide) (wtf hb_225) rfl fun a hK => ?_
          refine sl_skip hK (by decide) (wtf hb_225) rfl fun a hK => ?_
          refine sl_skip hK (by decide) (wtf hb_225) rfl fun a hK => ?_
          refine sl_skip hK (by decide) (wtf hb_225) rfl fun a hK => ?_
          refine sl_skip hK (by decide) (wtf hb_225) rfl fun a hK => ?_
          refine sl_skip hK (by decide) (wtf hb_225) rfl fun a hK => ?_
          refine sl_skip hK (by decide) (wtf hb_225) rfl fun a hK => ?_
          refine sl hK (by decide) rfl rfl (r_pick_f hb_225 hK rfl rfl) fun a hK => ?_
          refine wpList_nil ?_
          have hS := hS.pk2
          have hS := hS.pk2
          have hS := hS.pk2
          exact ⟨false, H, hK.sub (all_cons rfl (all_cons rfl (all_cons rfl (all_cons rfl (all_cons rfl (all_cons rfl (all_nil))))))), hS⟩
      · rintro a w ⟨x_213, H, hK, hS⟩
        unfold ref07_Run_Range.j1 at H
        refine wp_mid (fun a w => ∃ (x_255 : List api_Sample) (v_256 : Value) (cs_257 : List Value), ref07_Run_Range.j2 (ref07_Run_Range.l0 a0 a1 a2 k_l0) a0 x_100 x_255 = some r ∧ Reps ty_api_Sample R cs_257 x_255 ∧ Kn 51 a [(0, .pointer (some ⟨b0, 0, none⟩)), (1, .int .i64 a1), (2, .int .i64 a2), (7, v_256), (8, .int .i64 x_100)] ∧ St M w0 w R [.row 29 2 v0_0 a0.L.length cs0_0, .cells b0 [v0_0] 41, .row 29 2 v_256 x_255.length cs_257]) ?_ ?_
        · refine wp_cond_split (hK.ev rfl) (fun (hb_260 : x_213 = true) => ?_) (fun (hb_260 : x_213 = false) => ?_)
          · rw [ifb_t hb_260] at H
            refine wp_region_lit ?_
            refine sl hK (by decide) rfl rfl (r_move hK rfl) fun a hK => ?_
            refine sl hK (by decide) rfl rfl (r_move hK rfl) fun a hK => ?_
            refine sl hK (by decide) rfl rfl (r_nilCheck hK rfl) fun a hK => ?_
            refine sl hK (by decide) rfl rfl (r_fieldAddr Try.underlying41 rfl Try.sizeOf22 hK rfl) fun a hK => ?_
            refine sl hK (by decide) rfl rfl (r_load Try.isAgg22 hK rfl (hS.cell (.tail _ (.head _)) rfl)) fun a hK => ?_
            refine sl hK (by decide) rfl rfl (r_move hK rfl) fun a hK => ?_
            obtain ⟨y_261, h_262, H⟩ := bind_some H
            obtain ⟨b_264, c_265, cs_266, hv_263, hr_267, hc_268, h_2620, h_2621⟩ := hS.row_ix (.head _) h0_0 rfl rfl h_262
            obtain ⟨v_269, rfl, hs_270⟩ := hr_267
            refine sl hK (by decide) rfl rfl (r_indexAddr_R Try.underlying22 Try.sizeOf29 hv_263 h_2620 h_2621 hK rfl rfl) fun a hK => ?_
            refine sl hK (by decide) rfl rfl (r_loadA (cs := [.int .i64 y_261.Time, v_269]) Try.isAgg29 Try.sizeOf29 rfl hK rfl (fun j v hv => by have := hS.row_cell (.head _) hv_263 (hc_268 j v hv); simpa [Nat.add_assoc] using this)) fun a hK => ?_
            refine sl_buildSliceF (zc := [.int .i64 0, .slice none 0 0]) (ps := [(0, .agg #[.int .i64 y_261.Time, v_269])]) (c := [.int .i64 y_261.Time, v_269]) [[.int .i64 y_261.Time, v_269]] Try.underlying22 Try.sizeOf29 Try.zeroValue29 rfl (pc_cons rfl pc_nil) rfl rfl (Nat.le_of_ble_eq_true rfl) rfl (all_cons rfl (all_nil)) rfl hS hK (by decide) rfl fun a w b_271 hS hK => ?_
            obtain ⟨y_272, h_273, H⟩ := bind_some H
            have hS := hS.pk3
            refine sl_append_L (ty := ty_api_Sample) (ys := [y_261]) elT22 (by decide) rfl hq_99 rfl (Reps.cons (show Ty.rep ty_api_Sample _ [.int .i64 y_261.Time, v_269] y_261 from ⟨_, rfl, hs_270⟩) (Reps.nil _ _)) rfl h_273 hS hK (by decide) rfl rfl rfl fun a w v_274 cs_275 hq_276 hS hK => ?_
            refine sl hK (by decide) rfl rfl (r_assign hK rfl) fun a hK => ?_
            refine wpList_nil ?_
            have hS := hS.pk2
            have hS := hS.pk2
            exact ⟨y_272, _, _, H, hq_276, hK.sub (all_cons rfl (all_cons rfl (all_cons rfl (all_cons rfl (all_cons rfl (all_nil)))))), hS⟩
          · rw [ifb_f hb_260] at H
            refine wp_skip ?_
            have hS := hS.pk2
            have hS := hS.pk2
            have hS := hS.pk2
            exact ⟨x_96, _, _, H, hq_99, hK.sub (all_cons rfl (all_cons rfl (all_cons rfl (all_cons rfl (all_cons rfl (all_nil)))))), hS⟩
        · rintro a w ⟨x_255, v_256, cs_257, H, hq_258, hK, hS⟩
          unfold ref07_Run_Range.j2 at H
          refine wp_region_lit ?_
          refine sl hK (by decide) rfl rfl (r_move hK rfl) fun a hK => ?_
          refine sl hK (by decide) rfl rfl (r_ibin hK rfl rfl rfl) fun a hK => ?_
          refine sl hK (by decide) rfl rfl (r_assign hK rfl) fun a hK => ?_
          refine wpList_nil ?_
          have hS := hS.pk2
          have hS := hS.pk2
          have hS := hS.pk2
          exact ⟨_, Nat.lt_succ_self _, x_255, (IntKind.i64.wrap (x_100 + 1)), _, _, H, hq_258, hK.sub (all_cons rfl (all_cons rfl (all_cons rfl (all_cons rfl (all_cons rfl (all_nil)))))), hS⟩
    · rw [ifb_f hb_191] at H
      refine wp_exit ?_
      refine wp_seq ?_
      refine wp_region_lit ?_
      refine sl hK (by decide) rfl rfl (r_move hK rfl) fun a hK => ?_
      refine sl hK (by decide) rfl rfl (r_assign hK rfl) fun a hK => ?_
      refine wpList_nil ?_
      obtain rfl := Option.some.inj H
      refine wp_ret ?_
      repeat (first | refine ret_then ?_ | refine ret_block ?_ | refine ret_scope ?_)
      exact ret_1 Try.results17 hK (rv_tmp hK rfl) ⟨_, rfl, _, _, _, _, _, rfl, hS.pk1.pk2, hRL, hq_99, h0_0⟩

/-! ### catchment/catchmentlaw07.RunsPlays: function 5 -/
set_option maxHeartbeats 4000000 in
set_option maxRecDepth 100000 in
theorem law07_RunsPlays.calls (a0 : List api_Sample) (a1 : List Int) (a2 : List Int) {w0 : World} {RA : Hp} {v0_0 : Value} {v1_0 : Value} {v2_0 : Value} (hRA : RA.sub w0) (h0_0 : SlR ty_api_Sample RA v0_0 a0) (h1_0 : SlR (tyInt .i64) RA v1_0 a1) (h2_0 : SlR (tyInt .i64) RA v2_0 a2) (H : law07_RunsPlays a0 a1 a2 = some true) : CallsV Try.prog 5 #[v0_0, v1_0, v2_0] w0 (.bool true) := by
  unfold law07_RunsPlays at H
  refine enter (args := [v0_0, v1_0, v2_0]) Try.func5 rfl Try.ntmps5 rfl fun a hK => ?_
  have hS := St.init (R := fun _ => none) (w := w0) (fun _ _ h => by cases h)
  have hRL := RLe.refl (M := []) w0 (fun _ => none)
  refine wp_seq ?_
  refine wp_region_lit ?_
  refine sl hK (by decide) rfl rfl (r_assign hK rfl) fun a hK => ?_
  refine wpList_nil ?_
  refine wp_seq ?_
  refine wp_region_lit ?_
  obtain ⟨y_1, h_2, H⟩ := bind_some H
  refine sl_callV Try.call6 hS hK (by decide) rfl rfl rfl (law07_shown.calls h_2 _) fun a w hS hK => ?_
  refine sl hK (by decide) rfl rfl (r_assign hK rfl) fun a hK => ?_
  refine wpList_nil ?_
  refine wp_seq ?_
  refine wp_region_lit ?_
  obtain ⟨y_3, h_4, H⟩ := bind_some H
  refine sl_call Try.call7 hK (by decide) rfl rfl rfl (runs_New.calls hS.sub h_4) fun a v_ w hv_ hK => ?_
  obtain ⟨R_5, b_7, v_9, cs_10, hv_, hr_, hl_6, hq_11⟩ := hv_
  have hv_ := hv_.symm
  subst hv_
  obtain ⟨hS, hl_6⟩ := hS.sp0.back hr_ hl_6
  have hS := hS.un2
  have hRL := hRL.trans hl_6
  refine sl hK (by decide) rfl rfl (r_assign hK rfl) fun a hK => ?_
  refine wpList_nil ?_
  refine wp_seq ?_
  refine wp_region_lit ?_
  refine sl hK (by decide) rfl rfl (r_buildC (ps := []) (c := [.slice none 0 0]) Try.underlying41 Try.zeroValue41 places41 hK rfl pc_nil rfl rfl) fun a hK => ?_
  refine sl_box hS hK (by decide) rfl rfl (c := [.slice none 0 0]) rfl fun a w b_12 hS hK => ?_
  refine sl hK (by decide) rfl rfl (r_assign hK rfl) fun a hK => ?_
  refine wpList_nil ?_
  refine wp_seq ?_
  refine wp_seq ?_
  refine wp_mid (fun a w => ∃ (x_14 : Bool), law07_RunsPlays.j0 a0 a1 a2 y_3 x_14 = some true ∧ Kn 271 a [(0, v0_0), (1, v1_0), (2, v2_0), (8, .pointer (some ⟨b_7, 0, none⟩)), (9, .pointer (some ⟨b_12, 0, none⟩)), (36, .bool x_14)] ∧ St [] w0 w R_5 [.row 29 2 v_9 y_3.l.length cs_10, .cells b_7 [v_9] 50, .cells b_12 [.slice none 0 0] 41]) ?_ ?_
  · refine wp_region_lit ?_
    refine sl hK (by decide) rfl rfl (r_move hK rfl) fun a hK => ?_
    refine sl hK (by decide) rfl rfl (r_un hK rfl (u_not _)) fun a hK => ?_
    refine sl hK (by decide) rfl rfl (r_move hK rfl) fun a hK => ?_
    rcases or_b (!y_1) with hb_16 | hb_16
    · rw [ifb_t hb_16] at H
      refine sl_skip hK (by decide) (wft hb_16) rfl fun a hK => ?_
      refine sl_skip hK (by decide) (wft hb_16) rfl fun a hK => ?_
      refine sl hK (by decide) rfl rfl (r_pick_t hb_16 hK rfl rfl) fun a hK => ?_
      refine wpList_nil ?_
      have hS := hS.pk1
      have hS := hS.pk2
      exact ⟨true, H, hK.sub (all_cons rfl (all_cons rfl (all_cons rfl (all_cons rfl (all_cons rfl (all_cons rfl (all_nil))))))), hS⟩
    · rw [ifb_f hb_16] at H
      refine sl hK (by decide) (wff hb_16) rfl (r_move hK rfl) fun a hK => ?_
      refine sl hK (by decide) (wff hb_16) rfl (r_peq Try.underlying24 hK rfl rfl) fun a hK => ?_
      refine sl hK (by decide) rfl rfl (r_pick_f hb_16 hK rfl rfl) fun a hK => ?_
      refine wpList_nil ?_
      have hS := hS.pk1
      have hS := hS.pk2
      exact ⟨false, H, hK.sub (all_cons rfl (all_cons rfl (all_cons rfl (all_cons rfl (all_cons rfl (all_cons rfl (all_nil))))))), hS⟩
  · rintro a w ⟨x_14, H, hK, hS⟩
    unfold law07_RunsPlays.j0 at H
    refine wp_cond_split (hK.ev rfl) (fun (hb_17 : x_14 = true) => ?_) (fun (hb_17 : x_14 = false) => ?_)
    · rw [ifb_t hb_17] at H
      refine wp_seq ?_
      refine wp_region_lit ?_
      refine sl hK (by decide) rfl rfl (r_assign hK rfl) fun a hK => ?_
      refine wpList_nil ?_
      exact absurd (Option.some.inj H) (by decide)
    · rw [ifb_f hb_17] at H
      refine wp_skip ?_
      refine wp_seq ?_
      refine wp_seq ?_
      refine wp_region_lit ?_
      refine sl hK (by decide) rfl rfl (r_assign hK rfl) fun a hK => ?_
      refine wpList_nil ?_
      refine wp_block ?_
      refine wp_loop_k (fun k_l1 a w => ∃ (x_797 : List api_Sample) (x_802 : List api_Sample) (x_806 : Int) (R_807 : Hp) (v_798 : Value) (cs_799 : List Value) (v_803 : Value) (cs_804 : List Value) (b_795 : Nat), law07_RunsPlays.l1 a0 a1 a2 k_l1 x_797 x_802 x_806 = some true ∧ RLe [] w0 R_5 R_807 ∧ Reps ty_api_Sample R_807 cs_799 x_797 ∧ Reps ty_api_Sample R_807 cs_804 x_802 ∧ Kn 271 a [(0, v0_0), (1, v1_0), (2, v2_0), (8, .pointer (some ⟨b_795, 0, none⟩)), (9, .pointer (some ⟨b_12, 0, none⟩)), (10, .int .i64 x_806)] ∧ St [] w0 w R_807 [.row 29 2 v_798 x_797.length cs_799, .cells b_795 [v_798] 50, .row 29 2 v_803 x_802.length cs_804, .cells b_12 [v_803] 41]) (((a0.length : Int) - 0).toNat + 1) ?_ ?_
      · have hS := hS.row_nil 29 2
        have hq_1583 : Reps ty_api_Sample R_5 [] ([] : List api_Sample) := Reps.nil _ _
        have hS := hS.pk3
        have hS := hS.pk1
        have hS := hS.pk3
        have hS := hS.pk3
        exact ⟨y_3.l, [], 0, _, _, _, _, _, _, H, (RLe.refl _ _), hq_11, hq_1583, hK.sub (all_cons rfl (all_cons rfl (all_cons rfl (all_cons rfl (all_cons rfl (all_cons rfl (all_nil))))))), hS⟩
      · rintro k_l1 a w ⟨x_797, x_802, x_806, R_807, v_798, cs_799, v_803, cs_804, b_795, H, hl_808, hq_800, hq_805, hK, hS⟩
        cases k_l1 with
        | zero => cases H
        | succ k_l1 =>
        rw [law07_RunsPlays.l1.eq_2] at H
        have hRL := hRL.trans hl_808
        refine wp_seq ?_
        refine wp_seq ?_
        refine wp_mid (fun a w => ∃ (x_1585 : Bool), law07_RunsPlays.j2 (law07_RunsPlays.l1 a0 a1 a2 k_l1) a0 a1 a2 x_797 x_802 x_806 x_1585 = some true ∧ Kn 271 a [(0, v0_0), (1, v1_0), (2, v2_0), (8, .pointer (some ⟨b_795, 0, none⟩)), (9, .pointer (some ⟨b_12, 0, none⟩)), (10, .int .i64 x_806), (44, .bool x_1585)] ∧ St [] w0 w R_807 [.row 29 2 v_798 x_797.length cs_799, .cells b_795 [v_798] 50, .row 29 2 v_803 x_802.length cs_804, .cells b_12 [v_803] 41]) ?_ ?_
        · refine wp_region_lit ?_
          refine sl hK (by decide) rfl rfl (r_move hK rfl) fun a hK => ?_
          refine sl hK (by decide) rfl rfl (r_move hK rfl) fun a hK => ?_
          refine sl hK (by decide) rfl rfl (r_len_R Try.underlying22 h0_0 hK rfl) fun a hK => ?_
          refine sl hK (by decide) rfl rfl (r_ibin hK rfl rfl rfl) fun a hK => ?_
          refine sl hK (by decide) rfl rfl (r_move hK rfl) fun a hK => ?_
          rcases or_b (decide (x_806 < (a0.length : Int))) with hb_1587 | hb_1587
          · rw [ifb_t hb_1587] at H
            refine sl hK (by decide) (wtt hb_1587) rfl (r_move hK rfl) fun a hK => ?_
            refine sl hK (by decide) (wtt hb_1587) rfl (r_ibin hK rfl rfl rfl) fun a hK => ?_
            refine sl hK (by decide) rfl rfl (r_pick_t hb_1587 hK rfl rfl) fun a hK => ?_
            refine wpList_nil ?_
            have hS := hS.pk3
            have hS := hS.pk3
            have hS := hS.pk3
            have hS := hS.pk3
            exact ⟨(decide (x_806 < 150)), H, hK.sub (all_cons rfl (all_cons rfl (all_cons rfl (all_cons rfl (all_cons rfl (all_cons rfl (all_cons rfl (all_nil)))))))), hS⟩
          · rw [ifb_f hb_1587] at H
            refine sl_skip hK (by decide) (wtf hb_1587) rfl fun a hK => ?_
            refine sl_skip hK (by decide) (wtf hb_1587) rfl fun a hK => ?_
            refine sl hK (by decide) rfl rfl (r_pick_f hb_1587 hK rfl rfl) fun a hK => ?_
            refine wpList_nil ?_
            have hS := hS.pk3
            have hS := hS.pk3
            have hS := hS.pk3
            have hS := hS.pk3
            exact ⟨false, H, hK.sub (all_cons rfl (all_cons rfl (all_cons rfl (all_cons rfl (all_cons rfl (all_cons rfl (all_cons rfl (all_nil)))))))), hS⟩
        · rintro a w ⟨x_1585, H, hK, hS⟩
          unfold law07_RunsPlays.j2 at H
          refine wp_cond_split (hK.ev rfl) (fun (hb_1588 : x_1585 = true) => ?_) (fun (hb_1588 : x_1585 = false) => ?_)
          · rw [ifb_t hb_1588] at H
            refine wp_skip ?_
            refine wp_seq ?_
            refine wp_block ?_
            refine wp_seq ?_
            refine wp_region_lit ?_
            refine sl_buildSliceC (zc := [.int .i64 0, .int .i64 0, .string (⟨#[]⟩ : ByteArray), .int .i64 0, .int .i64 0, .int .i64 0, .int .i64 0, .int .i64 0, .int .i64 0, .int .i64 0, .int .i64 0]) (zs := []) (ps := []) (c := []) Try.underlying27 Try.sizeOf44 Try.zeroValue44 rfl pc_nil rfl rfl (by decide) (by kernel_rfl) rfl hS hK (by decide) rfl fun a w b_1589 hS hK => ?_
            refine sl hK (by decide) rfl rfl (r_move hK rfl) fun a hK => ?_
            refine sl hK (by decide) rfl rfl (r_move hK rfl) fun a hK => ?_
            obtain ⟨y_1590, h_1591, H⟩ := bind_some H
            obtain ⟨b_1592, o_1593, c_1594, cs_1595, hv_1596, hr_1597, hc_1598, h_15910, h_15911⟩ := h0_0.ix h_1591
            obtain ⟨v_1599, rfl, hs_1600⟩ := hr_1597
            refine sl hK (by decide) rfl rfl (r_indexAddr_R Try.underlying22 Try.sizeOf29 hv_1596 h_15910 h_15911 hK rfl rfl) fun a hK => ?_
            refine sl hK (by decide) rfl rfl (r_fieldAddr Try.underlying29 rfl Try.sizeOf27 hK rfl) fun a hK => ?_
            refine sl hK (by decide) rfl rfl (r_load Try.isAgg27 hK rfl ((hS.ra hRA nil_not).cell (hc_1598 1 _ rfl))) fun a hK => ?_
            obtain ⟨y_1603, h_1604, H⟩ := bind_some H
            have hS := hS.row_lit (size := 11) (m := 0) rfl (by decide)
            have hq_1602 : Reps ty_api_Value R_807 [] ([] : List api_Value) := (Reps.nil _ _)
            refine sl_append_A elT27 (by decide) rfl (fun _ _ _ _ h => h) (hS.ra hRA nil_not) hq_1602 rfl hs_1600 h_1604 hS hK (by decide) rfl rfl rfl fun a w v_1605 cs_1606 hq_1607 hS hK => ?_
            refine sl hK (by decide) rfl rfl (r_assign hK rfl) fun a hK => ?_
            refine wpList_nil ?_
            refine wp_seq ?_
            refine wp_seq ?_
            refine wp_region_lit ?_
            refine sl hK (by decide) rfl rfl (r_move hK rfl) fun a hK => ?_
            refine sl hK (by decide) rfl rfl (r_rem hK rfl rfl (by decide)) fun a hK => ?_
            refine sl hK (by decide) rfl rfl (r_ibin hK rfl rfl rfl) fun a hK => ?_
            refine wpList_nil ?_
            refine wp_mid (fun a w => ∃ (x_1648 : List api_Sample) (R_1652 : Hp) (v_1649 : Value) (cs_1650 : List Value) (b_1646 : Nat), law07_RunsPlays.j3 (law07_RunsPlays.l1 a0 a1 a2 k_l1) a0 a1 a2 x_802 x_806 y_1603 x_1648 = some true ∧ RLe [] w0 R_807 R_1652 ∧ Reps ty_api_Sample R_1652 cs_1650 x_1648 ∧ Kn 271 a [(0, v0_0), (1, v1_0), (2, v2_0), (8, .pointer (some ⟨b_1646, 0, none⟩)), (9, .pointer (some ⟨b_12, 0, none⟩)), (10, .int .i64 x_806), (11, v_1605)] ∧ St [] w0 w R_1652 [.row 29 2 v_1649 x_1648.length cs_1650, .cells b_1646 [v_1649] 50, .row 29 2 v_803 x_802.length cs_804, .cells b_12 [v_803] 41, .row 44 11 v_1605 y_1603.length cs_1606]) ?_ ?_
            · refine wp_cond_split (hK.ev rfl) (fun (hb_1654 : ((x_806.tmod 6) == 5) = true) => ?_) (fun (hb_1654 : ((x_806.tmod 6) == 5) = false) => ?_)
              · rw [ifb_t hb_1654] at H
                refine wp_seq ?_
                refine wp_region_lit ?_
                refine sl hK (by decide) rfl rfl (r_move hK rfl) fun a hK => ?_
                refine sl hK (by decide) rfl rfl (r_assign hK rfl) fun a hK => ?_
                refine wpList_nil ?_
                refine wp_seq ?_
                refine wp_region_lit ?_
                refine sl hK (by decide) rfl rfl (r_move hK rfl) fun a hK => ?_
                obtain ⟨y_1655, h_1656, H⟩ := bind_some H
                refine sl_call Try.call14 hK (by decide) rfl rfl rfl (runs_Run_Clone.calls (⟨x_797⟩ : runs_Run) (lentOf_sub [] _) hS.sub (hS.lend_box0 (.tail _ (.tail _ (.head _)))) (hS.lend_rowB0 (.tail _ (.head _)) hq_800 rfl rfl) h_1656) fun a v_ w hv_ hK => ?_
                obtain ⟨R_1657, b_1659, v_1661, cs_1662, hv_, hr_, hl_1658, hq_1663⟩ := hv_
                have hv_ := hv_.symm
                subst hv_
                obtain ⟨hS, hl_1658⟩ := hS.sp0.back hr_ hl_1658
                have hS := hS.un2
                have hRL := hRL.trans hl_1658
                refine sl hK (by decide) rfl rfl (r_assign hK rfl) fun a hK => ?_
                refine wpList_nil ?_
                refine wp_seq ?_
                refine wp_seq ?_
                refine wp_region_lit ?_
                refine sl hK (by decide) rfl rfl (r_move hK rfl) fun a hK => ?_
                refine sl hK (by decide) rfl rfl (r_peq Try.underlying24 hK rfl rfl) fun a hK => ?_
                refine wpList_nil ?_
                refine wp_cond_false (hK.ev rfl) ?_
                refine wp_skip ?_
                refine wp_seq ?_
                refine wp_region_lit ?_
                refine sl hK (by decide) rfl rfl (r_move hK rfl) fun a hK => ?_
                refine sl hK (by decide) rfl rfl (r_move hK rfl) fun a hK => ?_
                refine sl hK (by decide) rfl rfl (r_move hK rfl) fun a hK => ?_
                obtain ⟨y_1664, h_1665, H⟩ := bind_some H
                obtain ⟨b_1666, o_1667, c_1668, cs_1669, hv_1670, hr_1671, hc_1672, h_16650, h_16651⟩ := h0_0.ix h_1665
                obtain ⟨v_1673, rfl, hs_1674⟩ := hr_1671
                refine sl hK (by decide) rfl rfl (r_indexAddr_R Try.underlying22 Try.sizeOf29 hv_1670 h_16650 h_16651 hK rfl rfl) fun a hK => ?_
                refine sl hK (by decide) rfl rfl (r_fieldAddr Try.underlying29 rfl Try.sizeOf3 hK rfl) fun a hK => ?_
                refine sl hK (by decide) rfl rfl (r_load Try.isAgg3 hK rfl ((hS.ra hRA nil_not).cell (hc_1672 0 _ rfl))) fun a hK => ?_
                obtain ⟨y_1675, h_1676, H⟩ := bind_some H
                have hS := hS.pk3
                have hS := hS.pk4
                have hS1 := hS.sp2
                refine sl_call Try.call8 hK (by decide) rfl rfl rfl (runs_Run_Add.calls (⟨x_797⟩ : runs_Run) y_1664.Time ([] : List api_Value) (lentOf_sub _ _) lentOf_not hS1.lend (hq_800.mono hl_1658.le) (SlR.nil ty_api_Value _) h_1676) fun a v_ w hv_ hK => ?_
                obtain ⟨R_1677, v_1680, cs_1681, hv_, hr_, hl_1678, hq_1682⟩ := hv_
                have hv_ := hv_.symm
                subst hv_
                obtain ⟨hS, hl_1678⟩ := hS1.back hr_ hl_1678
                have hS := hS.un2
                have hRL := hRL.trans hl_1678
                refine wpList_nil ?_
                refine wp_region_lit ?_
                refine sl hK (by decide) rfl rfl (r_move hK rfl) fun a hK => ?_
                obtain ⟨y_1683, h_1684, H⟩ := bind_some H
                have hS := hS.pk1
                have hS := hS.pk1
                have hS1 := hS.sp2
                refine sl_call Try.call8 hK (by decide) rfl rfl rfl (runs_Run_Add.calls y_1675.2 99 ([] : List api_Value) (lentOf_sub _ _) lentOf_not hS1.lend hq_1682 (SlR.nil ty_api_Value _) h_1684) fun a v_ w hv_ hK => ?_
                obtain ⟨R_1685, v_1688, cs_1689, hv_, hr_, hl_1686, hq_1690⟩ := hv_
                have hv_ := hv_.symm
                subst hv_
                obtain ⟨hS, hl_1686⟩ := hS1.back hr_ hl_1686
                have hS := hS.un2
                have hRL := hRL.trans hl_1686
                refine wpList_nil ?_
                have hS := hS.pk4
                have hS := hS.pk6
                have hS := hS.pk6
                have hS := hS.pk5
                have hS := hS.pk6
                exact ⟨y_1655.l, _, _, _, _, H, (hl_1658.trans (hl_1678.trans hl_1686)), (hq_1663.mono (hl_1678.le.trans hl_1686.le)), hK.sub (all_cons rfl (all_cons rfl (all_cons rfl (all_cons rfl (all_cons rfl (all_cons rfl (all_cons rfl (all_nil)))))))), hS.trunc 5⟩
              · rw [ifb_f hb_1654] at H
                refine wp_skip ?_
                have hS := hS.pk4
                have hS := hS.pk4
                have hS := hS.pk4
                have hS := hS.pk4
                exact ⟨x_797, _, _, _, _, H, (RLe.refl _ _), hq_800, hK.sub (all_cons rfl (all_cons rfl (all_cons rfl (all_cons rfl (all_cons rfl (all_cons rfl (all_cons rfl (all_nil)))))))), hS⟩
            · rintro a w ⟨x_1648, R_1652, v_1649, cs_1650, b_1646, H, hl_1653, hq_1651, hK, hS⟩
              unfold law07_RunsPlays.j3 at H
              have hRL := hRL.trans hl_1653
              refine wp_seq ?_
              refine wp_region_lit ?_
              refine sl hK (by decide) rfl rfl (r_move hK rfl) fun a hK => ?_
              refine sl hK (by decide) rfl rfl (r_move hK rfl) fun a hK => ?_
              refine sl hK (by decide) rfl rfl (r_move hK rfl) fun a hK => ?_
              obtain ⟨y_1691, h_1692, H⟩ := bind_some H
              obtain ⟨b_1693, o_1694, c_1695, cs_1696, hv_1697, hr_1698, hc_1699, h_16920, h_16921⟩ := h0_0.ix h_1692
              obtain ⟨v_1700, rfl, hs_1701⟩ := hr_1698
              refine sl hK (by decide) rfl rfl (r_indexAddr_R Try.underlying22 Try.sizeOf29 hv_1697 h_16920 h_16921 hK rfl rfl) fun a hK => ?_
              refine sl hK (by decide) rfl rfl (r_fieldAddr Try.underlying29 rfl Try.sizeOf3 hK rfl) fun a hK => ?_
              refine sl hK (by decide) rfl rfl (r_load Try.isAgg3 hK rfl ((hS.ra hRA nil_not).cell (hc_1699 0 _ rfl))) fun a hK => ?_
              refine sl hK (by decide) rfl rfl (r_move hK rfl) fun a hK => ?_
              obtain ⟨y_1702, h_1703, H⟩ := bind_some H
              have hS := hS.pk1
              have hS1 := hS.sp2
              refine sl_call Try.call8 hK (by decide) rfl rfl rfl (runs_Run_Add.calls (⟨x_1648⟩ : runs_Run) y_1691.Time y_1603 (lentOf_sub _ _) lentOf_not hS1.lend hq_1651 (hS1.lend_row (.tail _ (.tail _ (.head _))) (hq_1607.mono hl_1653.le) rfl rfl) h_1703) fun a v_ w hv_ hK => ?_
              obtain ⟨R_1704, v_1707, cs_1708, hv_, hr_, hl_1705, hq_1709⟩ := hv_
              have hv_ := hv_.symm
              subst hv_
              obtain ⟨hS, hl_1705⟩ := hS1.back hr_ hl_1705
              have hS := hS.un2
              have hRL := hRL.trans hl_1705
              refine sl hK (by decide) rfl rfl (r_assign hK rfl) fun a hK => ?_
              refine wpList_nil ?_
              refine wp_seq ?_
              refine parT_region (C := fun w => St [] w0 w R_1704 [.cells b_1646 [v_1707] 50, .row 29 2 v_1707 y_1702.2.l.length cs_1708, .row 29 2 v_803 x_802.length cs_804, .cells b_12 [v_803] 41, .row 44 11 v_1605 y_1603.length cs_1606]) 11 [(0, true), (1, true), (2, true), (3, true), (4, true), (5, true), (6, true), (7, true), (8, true), (9, true), (10, true)] mixed (by kernel_rfl) hS (fun w hS => hS) fun w hS => ?_
              refine sp (k := 0) rfl hK (by decide) rfl rfl (fun w hS => r_move hK rfl) fun a hK => ?_
              refine sp (k := 1) rfl hK (by decide) rfl rfl (fun w hS => r_move hK rfl) fun a hK => ?_
              refine sp (k := 2) rfl hK (by decide) rfl rfl (fun w hS => r_move hK rfl) fun a hK => ?_
              obtain ⟨y_1740, h_1741, H⟩ := bind_some H
              obtain ⟨b_1742, o_1743, c_1744, cs_1745, hv_1746, hr_1747, hc_1748, h_17410, h_17411⟩ := h0_0.ix h_1741
              obtain ⟨v_1749, rfl, hs_1750⟩ := hr_1747
              refine sp (k := 3) rfl hK (by decide) rfl rfl (fun w hS => r_indexAddr_R Try.underlying22 Try.sizeOf29 hv_1746 h_17410 h_17411 hK rfl rfl) fun a hK => ?_
              refine sp (k := 4) rfl hK (by decide) rfl rfl (fun w hS => r_fieldAddr Try.underlying29 rfl Try.sizeOf3 hK rfl) fun a hK => ?_
              refine sp (k := 5) rfl hK (by decide) rfl rfl (fun w hS => r_load Try.isAgg3 hK rfl ((hS.ra hRA nil_not).cell (hc_1748 0 _ rfl))) fun a hK => ?_
              refine sp (k := 6) rfl hK (by decide) rfl rfl (fun w hS => r_move hK rfl) fun a hK => ?_
              refine sp (k := 7) rfl hK (by decide) rfl rfl (fun w hS => r_move hK rfl) fun a hK => ?_
              obtain ⟨y_1751, h_1752, H⟩ := bind_some H
              obtain ⟨b_1753, o_1754, c_1755, cs_1756, hv_1757, hr_1758, hc_1759, h_17520, h_17521⟩ := h0_0.ix h_1752
              obtain ⟨v_1760, rfl, hs_1761⟩ := hr_1758
              refine sp (k := 8) rfl hK (by decide) rfl rfl (fun w hS => r_indexAddr_R Try.underlying22 Try.sizeOf29 hv_1757 h_17520 h_17521 hK rfl rfl) fun a hK => ?_
              refine sp (k := 9) rfl hK (by decide) rfl rfl (fun w hS => r_fieldAddr Try.underlying29 rfl Try.sizeOf27 hK rfl) fun a hK => ?_
              refine sp (k := 10) rfl hK (by decide) rfl rfl (fun w hS => r_load Try.isAgg27 hK rfl ((hS.ra hRA nil_not).cell (hc_1759 1 _ rfl))) fun a hK => ?_
              refine thenL_nil ?_
              obtain ⟨y_1762, h_1763, H⟩ := bind_some H
              have hS := hS.pk2
              have hS := hS.pk3
              have hS1 := hS.sp2
              refine sl_call Try.call15 hK (by decide) rfl rfl rfl (ref07_Run_Add.calls (⟨x_802⟩ : catchmentref07_Run) y_1740.Time y_1751.Vals (lentOf_sub _ _) lentOf_not hS1.lend (hq_805.mono (hl_1653.le.trans hl_1705.le)) (hs_1761.mono (hS1.raLe hRA nil_not)) h_1763) fun a v_ w hv_ hK => ?_
              obtain ⟨R_1764, v_1767, cs_1768, hv_, hr_, hl_1765, hq_1769⟩ := hv_
              have hv_ := hv_.symm
              subst hv_
              obtain ⟨hS, hl_1765⟩ := hS1.back hr_ hl_1765
              have hS := hS.un2
              have hRL := hRL.trans hl_1765
              refine sl hK (by decide) rfl rfl (r_assign hK rfl) fun a hK => ?_
              refine wpList_nil (NoP_nil ?_)
              refine wp_seq ?_
              refine wp_seq ?_
              refine wp_region_lit ?_
              refine sl hK (by decide) rfl rfl (r_assign hK rfl) fun a hK => ?_
              refine wpList_nil ?_
              refine wp_block ?_
              refine wp_loop_k (fun k_l4 a w => ∃ (x_1784 : List api_Value) (x_1788 : Int) (v_1785 : Value) (cs_1786 : List Value), law07_RunsPlays.l4 (law07_RunsPlays.l1 a0 a1 a2 k_l1) a0 a1 a2 x_806 y_1603 y_1702 y_1762 k_l4 x_1784 x_1788 = some true ∧ Reps ty_api_Value R_1764 cs_1786 x_1784 ∧ Kn 271 a [(0, v0_0), (1, v1_0), (2, v2_0), (8, .pointer (some ⟨b_1646, 0, none⟩)), (9, .pointer (some ⟨b_12, 0, none⟩)), (10, .int .i64 x_806), (11, v_1785), (13, .bool y_1702.1), (14, .bool y_1762.1), (15, .int .i64 x_1788)] ∧ St [] w0 w R_1764 [.row 29 2 v_1707 y_1702.2.l.length cs_1708, .cells b_1646 [v_1707] 50, .row 29 2 v_1767 y_1762.2.L.length cs_1768, .cells b_12 [v_1767] 41, .row 44 11 v_1785 x_1784.length cs_1786]) (((y_1603.length : Int) - 0).toNat + 1) ?_ ?_
              · have hS := hS.pk4
                have hS := hS.pk1
                have hS := hS.pk2
                have hS := hS.pk3
                have hS := hS.pk4
                exact ⟨y_1603, 0, _, _, H, (hq_1607.mono (hl_1653.le.trans (hl_1705.le.trans hl_1765.le))), hK.sub (all_cons rfl (all_cons rfl (all_cons rfl (all_cons rfl (all_cons rfl (all_cons rfl (all_cons rfl (all_cons rfl (all_cons rfl (all_cons rfl (all_nil))))))))))), hS⟩
              · rintro k_l4 a w ⟨x_1784, x_1788, v_1785, cs_1786, H, hq_1787, hK, hS⟩
                cases k_l4 with
                | zero => cases H
                | succ k_l4 =>
                rw [law07_RunsPlays.l4.eq_2] at H
                refine wp_seq ?_
                refine wp_seq ?_
                refine wp_region_lit ?_
                refine sl hK (by decide) rfl rfl (r_move hK rfl) fun a hK => ?_
                refine sl hK (by decide) rfl rfl (r_move hK rfl) fun a hK => ?_
                refine sl hK (by decide) rfl rfl (r_len_O Try.underlying27 hS (.tail _ (.tail _ (.tail _ (.tail _ (.head _))))) hK rfl) fun a hK => ?_
                refine sl hK (by decide) rfl rfl (r_ibin hK rfl rfl rfl) fun a hK => ?_
                refine wpList_nil ?_
                refine wp_cond_split (hK.ev rfl) (fun (hb_1802 : (decide (x_1788 < (x_1784.length : Int))) = true) => ?_) (fun (hb_1802 : (decide (x_1788 < (x_1784.length : Int))) = false) => ?_)
                · rw [ifb_t hb_1802] at H
                  refine wp_skip ?_
                  refine wp_seq ?_
                  refine wp_block ?_
                  refine wp_region_lit ?_
                  refine sl hK (by decide) rfl rfl (r_move hK rfl) fun a hK => ?_
                  refine sl hK (by decide) rfl rfl (r_move hK rfl) fun a hK => ?_
                  refine sl hK (by decide) rfl rfl (r_buildC (ps := []) (c := [.int .i64 0, .int .i64 0, .string (⟨#[]⟩ : ByteArray), .int .i64 0, .int .i64 0, .int .i64 0, .int .i64 0, .int .i64 0, .int .i64 0, .int .i64 0, .int .i64 0]) Try.underlying44 Try.zeroValue44 places44 hK rfl pc_nil rfl rfl) fun a hK => ?_
                  obtain ⟨y_1803, h_1804, H⟩ := bind_some H
                  obtain ⟨b_1806, c_1807, cs_1808, hv_1805, hr_1809, hc_1810, h_18040, h_18041⟩ := hS.row_ix (.tail _ (.tail _ (.tail _ (.tail _ (.head _))))) hq_1787 rfl rfl h_1804
                  subst hr_1809
                  refine sl hK (by decide) rfl rfl (r_indexAddr_R Try.underlying27 Try.sizeOf44 hv_1805 h_18040 h_18041 hK rfl rfl) fun a hK => ?_
                  have hS := hS.pk4
                  refine sl_store_rowA (es := [.int .i64 y_1803.Kind, .int .i64 y_1803.N, .string y_1803.S, .int .i64 y_1803.H.a0, .int .i64 y_1803.H.a1, .int .i64 y_1803.H.a2, .int .i64 y_1803.H.a3, .int .i64 y_1803.H.a4, .int .i64 y_1803.H.a5, .int .i64 y_1803.H.a6, .int .i64 y_1803.H.a7]) (vs := [.int .i64 0, .int .i64 0, .string (⟨#[]⟩ : ByteArray), .int .i64 0, .int .i64 0, .int .i64 0, .int .i64 0, .int .i64 0, .int .i64 0, .int .i64 0, .int .i64 0]) (ps := 0) Try.sizeOf44 hv_1805 h_1804 rfl rfl hc_1810 rfl (Nat.le_of_ble_eq_true rfl) (Nat.le_of_ble_eq_true rfl) (show Ty.rep ty_api_Value _ (spl [.int .i64 y_1803.Kind, .int .i64 y_1803.N, .string y_1803.S, .int .i64 y_1803.H.a0, .int .i64 y_1803.H.a1, .int .i64 y_1803.H.a2, .int .i64 y_1803.H.a3, .int .i64 y_1803.H.a4, .int .i64 y_1803.H.a5, .int .i64 y_1803.H.a6, .int .i64 y_1803.H.a7] 0 [.int .i64 0, .int .i64 0, .string (⟨#[]⟩ : ByteArray), .int .i64 0, .int .i64 0, .int .i64 0, .int .i64 0, .int .i64 0, .int .i64 0, .int .i64 0, .int .i64 0]) (⟨0, 0, (⟨#[]⟩ : ByteArray), (⟨0, 0, 0, 0, 0, 0, 0, 0⟩ : Arr8)⟩ : api_Value) from rfl) hq_1787 rfl hS hK rfl rfl rfl (all_cons rfl (all_cons rfl (all_cons rfl (all_cons rfl (all_cons rfl (all_cons rfl (all_cons rfl (all_cons rfl (all_cons rfl (all_cons rfl (all_cons rfl (all_nil)))))))))))) fun a w cs_1811 hq_1812 hS hK => ?_
                  refine wpList_nil ?_
                  refine wp_region_lit ?_
                  refine sl hK (by decide) rfl rfl (r_move hK rfl) fun a hK => ?_
                  refine sl hK (by decide) rfl rfl (r_ibin hK rfl rfl rfl) fun a hK => ?_
                  refine sl hK (by decide) rfl rfl (r_assign hK rfl) fun a hK => ?_
                  refine wpList_nil ?_
                  have hS := hS.pk4
                  have hS := hS.pk4
                  have hS := hS.pk4
                  have hS := hS.pk4
                  exact ⟨_, Nat.lt_succ_self _, (upd x_1784 x_1788 (⟨0, 0, (⟨#[]⟩ : ByteArray), (⟨0, 0, 0, 0, 0, 0, 0, 0⟩ : Arr8)⟩ : api_Value)), (IntKind.i64.wrap (x_1788 + 1)), _, _, H, hq_1812, hK.sub (all_cons rfl (all_cons rfl (all_cons rfl (all_cons rfl (all_cons rfl (all_cons rfl (all_cons rfl (all_cons rfl (all_cons rfl (all_cons rfl (all_nil))))))))))), hS⟩
                · rw [ifb_f hb_1802] at H
                  refine wp_exit ?_
                  refine wp_seq ?_
                  refine wp_region_lit ?_
                  refine sl hK (by decide) rfl rfl (r_move hK rfl) fun a hK => ?_
                  refine sl hK (by decide) rfl rfl (r_move hK rfl) fun a hK => ?_
                  refine sl hK (by decide) rfl rfl (r_move hK rfl) fun a hK => ?_
                  obtain ⟨y_1814, h_1815, H⟩ := bind_some H
                  obtain ⟨b_1816, o_1817, c_1818, cs_1819, hv_1820, hr_1821, hc_1822, h_18150, h_18151⟩ := h0_0.ix h_1815
                  obtain ⟨v_1823, rfl, hs_1824⟩ := hr_1821
                  refine sl hK (by decide) rfl rfl (r_indexAddr_R Try.underlying22 Try.sizeOf29 hv_1820 h_18150 h_18151 hK rfl rfl) fun a hK => ?_
                  refine sl hK (by decide) rfl rfl (r_fieldAddr Try.underlying29 rfl Try.sizeOf3 hK rfl) fun a hK => ?_
                  refine sl hK (by decide) rfl rfl (r_load Try.isAgg3 hK rfl ((hS.ra hRA nil_not).cell (hc_1822 0 _ rfl))) fun a hK => ?_
                  obtain ⟨y_1825, h_1826, H⟩ := bind_some H
                  refine sl_call Try.call12 hK (by decide) rfl rfl rfl (runs_Run_Get.calls y_1702.2 y_1814.Time (lentOf_sub [] _) hS.sub (hS.lend_box0 (.tail _ (.head _))) (hS.lend_row0 (.head _) (hq_1709.mono hl_1765.le) rfl rfl) h_1826) fun a v_ w hv_ hK => ?_
                  obtain ⟨R_1827, v_1830, cs_1831, hv_, hr_, hl_1828, hq_1832⟩ := hv_
                  have hv_ := hv_.symm
                  subst hv_
                  obtain ⟨hS, hl_1828⟩ := hS.sp0.back hr_ hl_1828
                  have hS := hS.un1
                  have hRL := hRL.trans hl_1828
                  refine sl hK (by decide) rfl rfl (r_move hK rfl) fun a hK => ?_
                  refine sl hK (by decide) rfl rfl (r_extract hK rfl rfl) fun a hK => ?_
                  refine sl hK (by decide) rfl rfl (r_extract hK rfl rfl) fun a hK => ?_
                  refine sl hK (by decide) rfl rfl (r_assign hK rfl) fun a hK => ?_
                  refine sl hK (by decide) rfl rfl (r_assign hK rfl) fun a hK => ?_
                  refine wpList_nil ?_
                  refine wp_seq ?_
                  refine wp_region_lit ?_
                  refine sl hK (by decide) rfl rfl (r_move hK rfl) fun a hK => ?_
                  refine sl hK (by decide) rfl rfl (r_move hK rfl) fun a hK => ?_
                  refine sl hK (by decide) rfl rfl (r_move hK rfl) fun a hK => ?_
                  obtain ⟨y_1833, h_1834, H⟩ := bind_some H
                  obtain ⟨b_1835, o_1836, c_1837, cs_1838, hv_1839, hr_1840, hc_1841, h_18340, h_18341⟩ := h0_0.ix h_1834
                  obtain ⟨v_1842, rfl, hs_1843⟩ := hr_1840
                  refine sl hK (by decide) rfl rfl (r_indexAddr_R Try.underlying22 Try.sizeOf29 hv_1839 h_18340 h_18341 hK rfl rfl) fun a hK => ?_
                  refine sl hK (by decide) rfl rfl (r_fieldAddr Try.underlying29 rfl Try.sizeOf3 hK rfl) fun a hK => ?_
                  refine sl hK (by decide) rfl rfl (r_load Try.isAgg3 hK rfl ((hS.ra hRA nil_not).cell (hc_1841 0 _ rfl))) fun a hK => ?_
                  obtain ⟨y_1844, h_1845, H⟩ := bind_some H
                  refine sl_call Try.call16 hK (by decide) rfl rfl rfl (ref07_Run_Get.calls y_1762.2 y_1833.Time (lentOf_sub [] _) hS.sub (hS.lend_box0 (.tail _ (.tail _ (.tail _ (.tail _ (.head _)))))) (hS.lend_row0 (.tail _ (.tail _ (.tail _ (.head _)))) (hq_1769.mono hl_1828.le) rfl rfl) h_1845) fun a v_ w hv_ hK => ?_
                  obtain ⟨R_1846, v_1849, cs_1850, hv_, hr_, hl_1847, hq_1851⟩ := hv_
                  have hv_ := hv_.symm
                  subst hv_
                  obtain ⟨hS, hl_1847⟩ := hS.sp0.back hr_ hl_1847
                  have hS := hS.un1
                  have hRL := hRL.trans hl_1847
                  refine sl hK (by decide) rfl rfl (r_move hK rfl) fun a hK => ?_
                  refine sl hK (by decide) rfl rfl (r_extract hK rfl rfl) fun a hK => ?_
                  refine sl hK (by decide) rfl rfl (r_extract hK rfl rfl) fun a hK => ?_
                  refine sl hK (by decide) rfl rfl (r_assign hK rfl) fun a hK => ?_
                  refine sl hK (by decide) rfl rfl (r_assign hK rfl) fun a hK => ?_
                  refine wpList_nil ?_
                  refine wp_seq ?_
                  refine wp_region_lit ?_
                  refine sl hK (by decide) rfl rfl (r_move hK rfl) fun a hK => ?_
                  refine sl hK (by decide) rfl rfl (r_move hK rfl) fun a hK => ?_
                  obtain ⟨y_1852, h_1853, H⟩ := bind_some H
                  refine sl_callV Try.call13 hS hK (by decide) rfl rfl rfl (law07_vals.calls y_1825.1 y_1844.1 (lentOf_sub [] _) (hS.lend_row0 (.tail _ (.head _)) (hq_1832.mono hl_1847.le) rfl rfl) (hS.lend_row0 (.head _) hq_1851 rfl rfl) h_1853) fun a w hS hK => ?_
                  refine sl hK (by decide) rfl rfl (r_assign hK rfl) fun a hK => ?_
                  refine wpList_nil ?_
                  refine wp_seq ?_
                  refine wp_seq ?_
                  refine wp_mid (fun a w => ∃ (x_1864 : Bool), law07_RunsPlays.j5 (law07_RunsPlays.l1 a0 a1 a2 k_l1) a0 a1 a2 x_806 y_1702 y_1762 y_1825 x_1864 = some true ∧ Kn 271 a [(0, v0_0), (1, v1_0), (2, v2_0), (8, .pointer (some ⟨b_1646, 0, none⟩)), (9, .pointer (some ⟨b_12, 0, none⟩)), (10, .int .i64 x_806), (16, v_1830), (145, .bool x_1864)] ∧ St [] w0 w R_1846 [.row 29 2 v_1707 y_1702.2.l.length cs_1708, .cells b_1646 [v_1707] 50, .row 29 2 v_1767 y_1762.2.L.length cs_1768, .cells b_12 [v_1767] 41, .row 44 11 v_1830 y_1825.1.length cs_1831]) ?_ ?_
                  · refine parT_region (C := fun w => St [] w0 w R_1846 [.row 44 11 v_1849 y_1844.1.length cs_1850, .row 44 11 v_1830 y_1825.1.length cs_1831, .row 29 2 v_1707 y_1702.2.l.length cs_1708, .cells b_1646 [v_1707] 50, .row 29 2 v_1767 y_1762.2.L.length cs_1768, .cells b_12 [v_1767] 41, .row 44 11 v_1785 x_1784.length cs_1786]) 20 [(0, true), (1, true), (2, true), (3, true), (4, true), (5, true), (6, true), (7, true), (8, true), (9, true), (10, true), (11, true), (12, true), (13, true), (15, true), (16, true), (17, true), (18, true), (19, true), (14, false)] mixed (by kernel_rfl) hS (fun w hS => hS) fun w hS => ?_
                    refine sp (k := 0) rfl hK (by decide) rfl rfl (fun w hS => r_move hK rfl) fun a hK => ?_
                    refine sp (k := 1) rfl hK (by decide) rfl rfl (fun w hS => r_move hK rfl) fun a hK => ?_
                    refine sp (k := 2) rfl hK (by decide) rfl rfl (fun w hS => r_bne Try.underlying4 hK rfl rfl) fun a hK => ?_
                    refine sp (k := 3) rfl hK (by decide) rfl rfl (fun w hS => r_move hK rfl) fun a hK => ?_
                    rcases or_b (!(y_1702.1 == y_1762.1)) with hb_1871 | hb_1871
                    · rw [ifb_t hb_1871] at H
                      refine sp_skip (k := 4) rfl hK (by decide) (wft hb_1871) rfl fun a hK => ?_
                      refine sp_skip (k := 5) rfl hK (by decide) (wft hb_1871) rfl fun a hK => ?_
                      refine sp (k := 6) rfl hK (by decide) rfl rfl (fun w hS => r_pick_t hb_1871 hK rfl rfl) fun a hK => ?_
                      refine sp (k := 7) rfl hK (by decide) rfl rfl (fun w hS => r_move hK rfl) fun a hK => ?_
                      refine sp_skip (k := 8) rfl hK (by decide) rfl rfl fun a hK => ?_
                      refine sp_skip (k := 9) rfl hK (by decide) rfl rfl fun a hK => ?_
                      refine sp_skip (k := 10) rfl hK (by decide) rfl rfl fun a hK => ?_
                      refine sp (k := 11) rfl hK (by decide) rfl rfl (fun w hS => r_pick hK rfl rfl rfl) fun a hK => ?_
                      refine sp (k := 12) rfl hK (by decide) rfl rfl (fun w hS => r_move hK rfl) fun a hK => ?_
                      refine sp_skip (k := 13) rfl hK (by decide) rfl rfl fun a hK => ?_
                      refine sp_skip (k := 15) rfl hK (by decide) rfl rfl fun a hK => ?_
                      refine sp_skip (k := 16) rfl hK (by decide) rfl rfl fun a hK => ?_
                      refine sp_skip (k := 17) rfl hK (by decide) rfl rfl fun a hK => ?_
                      refine sp_skip (k := 18) rfl hK (by decide) rfl rfl fun a hK => ?_
                      refine sp_skip (k := 19) rfl hK (by decide) rfl rfl fun a hK => ?_
                      refine spw (k := 14) rfl rfl hS ?_
                      refine sl_skip hK (by decide) rfl rfl fun a hK => ?_
                      refine parK_nil hS ?_
                      refine thenL_nil ?_
                      refine sl_skip hK (by decide) rfl rfl fun a hK => ?_
                      refine sl hK (by decide) rfl rfl (r_pick hK rfl rfl rfl) fun a hK => ?_
                      refine wpList_nil (NoP_nil ?_)
                      have hS := hS.pk1
                      have hS := hS.pk5
                      have hS := hS.pk5
                      have hS := hS.pk5
                      have hS := hS.pk5
                      exact ⟨true, H, hK.sub (all_cons rfl (all_cons rfl (all_cons rfl (all_cons rfl (all_cons rfl (all_cons rfl (all_cons rfl (all_cons rfl (all_nil))))))))), hS.trunc 5⟩
                    · rw [ifb_f hb_1871] at H
                      refine sp (k := 4) rfl hK (by decide) (wff hb_1871) rfl (fun w hS => r_move hK rfl) fun a hK => ?_
                      refine sp (k := 5) rfl hK (by decide) (wff hb_1871) rfl (fun w hS => r_un hK rfl (u_not _)) fun a hK => ?_
                      refine sp (k := 6) rfl hK (by decide) rfl rfl (fun w hS => r_pick_f hb_1871 hK rfl rfl) fun a hK => ?_
                      refine sp (k := 7) rfl hK (by decide) rfl rfl (fun w hS => r_move hK rfl) fun a hK => ?_
                      rcases or_b (!y_1852) with hb_1872 | hb_1872
                      · rw [ifb_t hb_1872] at H
                        refine sp_skip (k := 8) rfl hK (by decide) (wft hb_1872) rfl fun a hK => ?_
                        refine sp_skip (k := 9) rfl hK (by decide) (wft hb_1872) rfl fun a hK => ?_
                        refine sp_skip (k := 10) rfl hK (by decide) (wft hb_1872) rfl fun a hK => ?_
                        refine sp (k := 11) rfl hK (by decide) rfl rfl (fun w hS => r_pick_t hb_1872 hK rfl rfl) fun a hK => ?_
                        refine sp (k := 12) rfl hK (by decide) rfl rfl (fun w hS => r_move hK rfl) fun a hK => ?_
                        refine sp_skip (k := 13) rfl hK (by decide) rfl rfl fun a hK => ?_
                        refine sp_skip (k := 15) rfl hK (by decide) rfl rfl fun a hK => ?_
                        refine sp_skip (k := 16) rfl hK (by decide) rfl rfl fun a hK => ?_
                        refine sp_skip (k := 17) rfl hK (by decide) rfl rfl fun a hK => ?_
                        refine sp_skip (k := 18) rfl hK (by decide) rfl rfl fun a hK => ?_
                        refine sp_skip (k := 19) rfl hK (by decide) rfl rfl fun a hK => ?_
                        refine spw (k := 14) rfl rfl hS ?_
                        refine sl_skip hK (by decide) rfl rfl fun a hK => ?_
                        refine parK_nil hS ?_
                        refine thenL_nil ?_
                        refine sl_skip hK (by decide) rfl rfl fun a hK => ?_
                        refine sl hK (by decide) rfl rfl (r_pick hK rfl rfl rfl) fun a hK => ?_
                        refine wpList_nil (NoP_nil ?_)
                        have hS := hS.pk1
                        have hS := hS.pk5
                        have hS := hS.pk5
                        have hS := hS.pk5
                        have hS := hS.pk5
                        exact ⟨true, H, hK.sub (all_cons rfl (all_cons rfl (all_cons rfl (all_cons rfl (all_cons rfl (all_cons rfl (all_cons rfl (all_cons rfl (all_nil))))))))), hS.trunc 5⟩
                      · rw [ifb_f hb_1872] at H
                        refine sp (k := 8) rfl hK (by decide) (wff hb_1872) rfl (fun w hS => r_move hK rfl) fun a hK => ?_
                        refine sp (k := 9) rfl hK (by decide) (wff hb_1872) rfl (fun w hS => r_move hK rfl) fun a hK => ?_
                        refine sp (k := 10) rfl hK (by decide) (wff hb_1872) rfl (fun w hS => r_bne Try.underlying4 hK rfl rfl) fun a hK => ?_
                        refine sp (k := 11) rfl hK (by decide) rfl rfl (fun w hS => r_pick_f hb_1872 hK rfl rfl) fun a hK => ?_
                        refine sp (k := 12) rfl hK (by decide) rfl rfl (fun w hS => r_move hK rfl) fun a hK => ?_
                        rcases or_b (!(y_1825.2 == y_1844.2)) with hb_1873 | hb_1873
                        · rw [ifb_t hb_1873] at H
                          refine sp_skip (k := 13) rfl hK (by decide) (wft hb_1873) rfl fun a hK => ?_
                          refine sp_skip (k := 15) rfl hK (by decide) (wft hb_1873) rfl fun a hK => ?_
                          refine sp_skip (k := 16) rfl hK (by decide) (wft hb_1873) rfl fun a hK => ?_
                          refine sp_skip (k := 17) rfl hK (by decide) (wft hb_1873) rfl fun a hK => ?_
                          refine sp_skip (k := 18) rfl hK (by decide) (wft hb_1873) rfl fun a hK => ?_
                          refine sp_skip (k := 19) rfl hK (by decide) (wft hb_1873) rfl fun a hK => ?_
                          refine spw (k := 14) rfl rfl hS ?_
                          refine sl_skip hK (by decide) (wft hb_1873) rfl fun a hK => ?_
                          refine parK_nil hS ?_
                          refine thenL_nil ?_
                          refine sl_skip hK (by decide) (wft hb_1873) rfl fun a hK => ?_
                          refine sl hK (by decide) rfl rfl (r_pick_t hb_1873 hK rfl rfl) fun a hK => ?_
                          refine wpList_nil (NoP_nil ?_)
                          have hS := hS.pk1
                          have hS := hS.pk5
                          have hS := hS.pk5
                          have hS := hS.pk5
                          have hS := hS.pk5
                          exact ⟨true, H, hK.sub (all_cons rfl (all_cons rfl (all_cons rfl (all_cons rfl (all_cons rfl (all_cons rfl (all_cons rfl (all_cons rfl (all_nil))))))))), hS.trunc 5⟩
                        · rw [ifb_f hb_1873] at H
                          refine sp (k := 13) rfl hK (by decide) (wff hb_1873) rfl (fun w hS => r_move hK rfl) fun a hK => ?_
                          refine sp (k := 15) rfl hK (by decide) (wff hb_1873) rfl (fun w hS => r_move hK rfl) fun a hK => ?_
                          refine sp (k := 16) rfl hK (by decide) (wff hb_1873) rfl (fun w hS => r_nilCheck hK rfl) fun a hK => ?_
                          refine sp (k := 17) rfl hK (by decide) (wff hb_1873) rfl (fun w hS => r_fieldAddr Try.underlying41 rfl Try.sizeOf22 hK rfl) fun a hK => ?_
                          refine sp (k := 18) rfl hK (by decide) (wff hb_1873) rfl (fun w hS => r_load Try.isAgg22 hK rfl (hS.cell (.tail _ (.tail _ (.tail _ (.tail _ (.tail _ (.head _)))))) rfl)) fun a hK => ?_
                          refine sp (k := 19) rfl hK (by decide) (wff hb_1873) rfl (fun w hS => r_len_O Try.underlying22 hS (.tail _ (.tail _ (.tail _ (.tail _ (.head _))))) hK rfl) fun a hK => ?_
                          refine spw (k := 14) rfl rfl hS ?_
                          obtain ⟨y_1874, h_1875, H⟩ := bind_some H
                          refine sl_callV Try.call11 hS hK (by decide) (wff hb_1873) rfl rfl (runs_Run_Len.calls y_1702.2 (lentOf_sub [] _) (hS.lend_box0 (.tail _ (.tail _ (.tail _ (.head _))))) (hS.lend_row0 (.tail _ (.tail _ (.head _))) (hq_1709.mono (hl_1765.le.trans (hl_1828.le.trans hl_1847.le))) rfl rfl) h_1875) fun a w hS hK => ?_
                          refine parK_nil hS ?_
                          refine thenL_nil ?_
                          refine sl hK (by decide) (wff hb_1873) rfl (r_ibin hK rfl rfl rfl) fun a hK => ?_
                          refine sl hK (by decide) rfl rfl (r_pick_f hb_1873 hK rfl rfl) fun a hK => ?_
                          refine wpList_nil (NoP_nil ?_)
                          have hS := hS.pk1
                          have hS := hS.pk5
                          have hS := hS.pk5
                          have hS := hS.pk5
                          have hS := hS.pk5
                          exact ⟨(y_1874 != (y_1762.2.L.length : Int)), H, hK.sub (all_cons rfl (all_cons rfl (all_cons rfl (all_cons rfl (all_cons rfl (all_cons rfl (all_cons rfl (all_cons rfl (all_nil))))))))), hS.trunc 5⟩
                  · rintro a w ⟨x_1864, H, hK, hS⟩
                    unfold law07_RunsPlays.j5 at H
                    refine wp_cond_split (hK.ev rfl) (fun (hb_1876 : x_1864 = true) => ?_) (fun (hb_1876 : x_1864 = false) => ?_)
                    · rw [ifb_t hb_1876] at H
                      refine wp_seq ?_
                      refine wp_region_lit ?_
                      refine sl hK (by decide) rfl rfl (r_assign hK rfl) fun a hK => ?_
                      refine wpList_nil ?_
                      exact absurd (Option.some.inj H) (by decide)
                    · rw [ifb_f hb_1876] at H
                      refine wp_skip ?_
                      refine wp_seq ?_
                      refine wp_seq ?_
                      refine wp_region_lit ?_
                      refine sl hK (by decide) rfl rfl (r_assign hK rfl) fun a hK => ?_
                      refine wpList_nil ?_
                      refine wp_block ?_
                      refine wp_loop_k (fun k_l6 a w => ∃ (x_1891 : List api_Value) (x_1895 : Int) (v_1892 : Value) (cs_1893 : List Value), law07_RunsPlays.l6 (law07_RunsPlays.l1 a0 a1 a2 k_l1) a0 a1 a2 x_806 y_1702 y_1762 y_1825 k_l6 x_1891 x_1895 = some true ∧ Reps ty_api_Value R_1846 cs_1893 x_1891 ∧ Kn 271 a [(0, v0_0), (1, v1_0), (2, v2_0), (8, .pointer (some ⟨b_1646, 0, none⟩)), (9, .pointer (some ⟨b_12, 0, none⟩)), (10, .int .i64 x_806), (16, v_1892), (21, .int .i64 x_1895)] ∧ St [] w0 w R_1846 [.row 29 2 v_1707 y_1702.2.l.length cs_1708, .cells b_1646 [v_1707] 50, .row 29 2 v_1767 y_1762.2.L.length cs_1768, .cells b_12 [v_1767] 41, .row 44 11 v_1892 x_1891.length cs_1893]) (((y_1825.1.length : Int) - 0).toNat + 1) ?_ ?_
                      · have hS := hS.pk4
                        have hS := hS.pk4
                        have hS := hS.pk4
                        have hS := hS.pk4
                        have hS := hS.pk4
                        exact ⟨y_1825.1, 0, _, _, H, (hq_1832.mono hl_1847.le), hK.sub (all_cons rfl (all_cons rfl (all_cons rfl (all_cons rfl (all_cons rfl (all_cons rfl (all_cons rfl (all_cons rfl (all_nil))))))))), hS⟩
                      · rintro k_l6 a w ⟨x_1891, x_1895, v_1892, cs_1893, H, hq_1894, hK, hS⟩
                        cases k_l6 with
                        | zero => cases H
                        | succ k_l6 =>
                        rw [law07_RunsPlays.l6.eq_2] at H
                        refine wp_seq ?_
                        refine wp_seq ?_
                        refine wp_region_lit ?_
                        refine sl hK (by decide) rfl rfl (r_move hK rfl) fun a hK => ?_
                        refine sl hK (by decide) rfl rfl (r_move hK rfl) fun a hK => ?_
                        refine sl hK (by decide) rfl rfl (r_len_O Try.underlying27 hS (.tail _ (.tail _ (.tail _ (.tail _ (.head _))))) hK rfl) fun a hK => ?_
                        refine sl hK (by decide) rfl rfl (r_ibin hK rfl rfl rfl) fun a hK => ?_
                        refine wpList_nil ?_
                        refine wp_cond_split (hK.ev rfl) (fun (hb_1909 : (decide (x_1895 < (x_1891.length : Int))) = true) => ?_) (fun (hb_1909 : (decide (x_1895 < (x_1891.length : Int))) = false) => ?_)
                        · rw [ifb_t hb_1909] at H
                          refine wp_skip ?_
                          refine wp_seq ?_
                          refine wp_block ?_
                          refine wp_region_lit ?_
                          refine sl hK (by decide) rfl rfl (r_move hK rfl) fun a hK => ?_
                          refine sl hK (by decide) rfl rfl (r_move hK rfl) fun a hK => ?_
                          refine sl hK (by decide) rfl rfl (r_buildC (ps := [(0, .int .i64 9)]) (c := [.int .i64 9, .int .i64 0, .string (⟨#[]⟩ : ByteArray), .int .i64 0, .int .i64 0, .int .i64 0, .int .i64 0, .int .i64 0, .int .i64 0, .int .i64 0, .int .i64 0]) Try.underlying44 Try.zeroValue44 places44 hK rfl (pc_cons rfl pc_nil) rfl rfl) fun a hK => ?_
                          obtain ⟨y_1910, h_1911, H⟩ := bind_some H
                          obtain ⟨b_1913, c_1914, cs_1915, hv_1912, hr_1916, hc_1917, h_19110, h_19111⟩ := hS.row_ix (.tail _ (.tail _ (.tail _ (.tail _ (.head _))))) hq_1894 rfl rfl h_1911
                          subst hr_1916
                          refine sl hK (by decide) rfl rfl (r_indexAddr_R Try.underlying27 Try.sizeOf44 hv_1912 h_19110 h_19111 hK rfl rfl) fun a hK => ?_
                          have hS := hS.pk4
                          refine sl_store_rowA (es := [.int .i64 y_1910.Kind, .int .i64 y_1910.N, .string y_1910.S, .int .i64 y_1910.H.a0, .int .i64 y_1910.H.a1, .int .i64 y_1910.H.a2, .int .i64 y_1910.H.a3, .int .i64 y_1910.H.a4, .int .i64 y_1910.H.a5, .int .i64 y_1910.H.a6, .int .i64 y_1910.H.a7]) (vs := [.int .i64 9, .int .i64 0, .string (⟨#[]⟩ : ByteArray), .int .i64 0, .int .i64 0, .int .i64 0, .int .i64 0, .int .i64 0, .int .i64 0, .int .i64 0, .int .i64 0]) (ps := 0) Try.sizeOf44 hv_1912 h_1911 rfl rfl hc_1917 rfl (Nat.le_of_ble_eq_true rfl) (Nat.le_of_ble_eq_true rfl) (show Ty.rep ty_api_Value _ (spl [.int .i64 y_1910.Kind, .int .i64 y_1910.N, .string y_1910.S, .int .i64 y_1910.H.a0, .int .i64 y_1910.H.a1, .int .i64 y_1910.H.a2, .int .i64 y_1910.H.a3, .int .i64 y_1910.H.a4, .int .i64 y_1910.H.a5, .int .i64 y_1910.H.a6, .int .i64 y_1910.H.a7] 0 [.int .i64 9, .int .i64 0, .string (⟨#[]⟩ : ByteArray), .int .i64 0, .int .i64 0, .int .i64 0, .int .i64 0, .int .i64 0, .int .i64 0, .int .i64 0, .int .i64 0]) (⟨9, 0, (⟨#[]⟩ : ByteArray), (⟨0, 0, 0, 0, 0, 0, 0, 0⟩ : Arr8)⟩ : api_Value) from rfl) hq_1894 rfl hS hK rfl rfl rfl (all_cons rfl (all_cons rfl (all_cons rfl (all_cons rfl (all_cons rfl (all_cons rfl (all_cons rfl (all_cons rfl (all_cons rfl (all_cons rfl (all_cons rfl (all_nil)))))))))))) fun a w cs_1918 hq_1919 hS hK => ?_
                          refine wpList_nil ?_
                          refine wp_region_lit ?_
                          refine sl hK (by decide) rfl rfl (r_move hK rfl) fun a hK => ?_
                          refine sl hK (by decide) rfl rfl (r_ibin hK rfl rfl rfl) fun a hK => ?_
                          refine sl hK (by decide) rfl rfl (r_assign hK rfl) fun a hK => ?_
                          refine wpList_nil ?_
                          have hS := hS.pk4
                          have hS := hS.pk4
                          have hS := hS.pk4
                          have hS := hS.pk4
                          exact ⟨_, Nat.lt_succ_self _, (upd x_1891 x_1895 (⟨9, 0, (⟨#[]⟩ : ByteArray), (⟨0, 0, 0, 0, 0, 0, 0, 0⟩ : Arr8)⟩ : api_Value)), (IntKind.i64.wrap (x_1895 + 1)), _, _, H, hq_1919, hK.sub (all_cons rfl (all_cons rfl (all_cons rfl (all_cons rfl (all_cons rfl (all_cons rfl (all_cons rfl (all_cons rfl (all_nil))))))))), hS⟩
                        · rw [ifb_f hb_1909] at H
                          refine wp_exit ?_
                          refine wp_seq ?_
                          refine wp_mid (fun a w => ∃ (x_1922 : Bool), law07_RunsPlays.j7 (law07_RunsPlays.l1 a0 a1 a2 k_l1) a0 a1 a2 x_806 y_1702 y_1762 x_1922 = some true ∧ Kn 271 a [(0, v0_0), (1, v1_0), (2, v2_0), (8, .pointer (some ⟨b_1646, 0, none⟩)), (9, .pointer (some ⟨b_12, 0, none⟩)), (10, .int .i64 x_806), (165, .bool x_1922)] ∧ St [] w0 w R_1846 [.row 29 2 v_1707 y_1702.2.l.length cs_1708, .cells b_1646 [v_1707] 50, .row 29 2 v_1767 y_1762.2.L.length cs_1768, .cells b_12 [v_1767] 41]) ?_ ?_
                          · refine wp_region_lit ?_
                            refine sl hK (by decide) rfl rfl (r_move hK rfl) fun a hK => ?_
                            refine sl hK (by decide) rfl rfl (r_move hK rfl) fun a hK => ?_
                            refine sl hK (by decide) rfl rfl (r_len_R Try.underlying38 h1_0 hK rfl) fun a hK => ?_
                            refine sl hK (by decide) rfl rfl (r_ibin hK rfl rfl rfl) fun a hK => ?_
                            refine sl hK (by decide) rfl rfl (r_move hK rfl) fun a hK => ?_
                            rcases or_b (decide (x_806 < (a1.length : Int))) with hb_1924 | hb_1924
                            · rw [ifb_t hb_1924] at H
                              refine sl hK (by decide) (wtt hb_1924) rfl (r_move hK rfl) fun a hK => ?_
                              refine sl hK (by decide) (wtt hb_1924) rfl (r_move hK rfl) fun a hK => ?_
                              refine sl hK (by decide) (wtt hb_1924) rfl (r_len_R Try.underlying38 h2_0 hK rfl) fun a hK => ?_
                              refine sl hK (by decide) (wtt hb_1924) rfl (r_ibin hK rfl rfl rfl) fun a hK => ?_
                              refine sl hK (by decide) rfl rfl (r_pick_t hb_1924 hK rfl rfl) fun a hK => ?_
                              refine wpList_nil ?_
                              have hS := hS.pk3
                              have hS := hS.pk3
                              have hS := hS.pk3
                              have hS := hS.pk3
                              exact ⟨(decide (x_806 < (a2.length : Int))), H, hK.sub (all_cons rfl (all_cons rfl (all_cons rfl (all_cons rfl (all_cons rfl (all_cons rfl (all_cons rfl (all_nil)))))))), hS.trunc 4⟩
                            · rw [ifb_f hb_1924] at H
                              refine sl_skip hK (by decide) (wtf hb_1924) rfl fun a hK => ?_
                              refine sl_skip hK (by decide) (wtf hb_1924) rfl fun a hK => ?_
                              refine sl_skip hK (by decide) (wtf hb_1924) rfl fun a hK => ?_
                              refine sl_skip hK (by decide) (wtf hb_1924) rfl fun a hK => ?_
                              refine sl hK (by decide) rfl rfl (r_pick_f hb_1924 hK rfl rfl) fun a hK => ?_
                              refine wpList_nil ?_
                              have hS := hS.pk3
                              have hS := hS.pk3
                              have hS := hS.pk3
                              have hS := hS.pk3
                              exact ⟨false, H, hK.sub (all_cons rfl (all_cons rfl (all_cons rfl (all_cons rfl (all_cons rfl (all_cons rfl (all_cons rfl (all_nil)))))))), hS.trunc 4⟩
                          · rintro a w ⟨x_1922, H, hK, hS⟩
                            unfold law07_RunsPlays.j7 at H
                            refine wp_mid (fun a w => ∃ (x_2138 : List api_Sample) (R_2142 : Hp) (v_2139 : Value) (cs_2140 : List Value), law07_RunsPlays.j8 (law07_RunsPlays.l1 a0 a1 a2 k_l1) a0 x_806 y_1702 x_2138 = some true ∧ RLe [] w0 R_1846 R_2142 ∧ Reps ty_api_Sample R_2142 cs_2140 x_2138 ∧ Kn 271 a [(0, v0_0), (1, v1_0), (2, v2_0), (8, .pointer (some ⟨b_1646, 0, none⟩)), (9, .pointer (some ⟨b_12, 0, none⟩)), (10, .int .i64 x_806)] ∧ St [] w0 w R_2142 [.row 29 2 v_1707 y_1702.2.l.length cs_1708, .cells b_1646 [v_1707] 50, .row 29 2 v_2139 x_2138.length cs_2140, .cells b_12 [v_2139] 41]) ?_ ?_
                            · refine wp_cond_split (hK.ev rfl) (fun (hb_2144 : x_1922 = true) => ?_) (fun (hb_2144 : x_1922 = false) => ?_)
                              · rw [ifb_t hb_2144] at H
                                refine wp_seq ?_
                                refine parT_region (C := fun w => St [] w0 w R_1846 [.row 29 2 v_1707 y_1702.2.l.length cs_1708, .cells b_1646 [v_1707] 50, .row 29 2 v_1767 y_1762.2.L.length cs_1768, .cells b_12 [v_1767] 41]) 9 [(0, true), (1, true), (2, true), (3, true), (4, true), (5, true), (6, true), (7, true), (8, true)] mixed (by kernel_rfl) hS (fun w hS => hS) fun w hS => ?_
                                refine sp (k := 0) rfl hK (by decide) rfl rfl (fun w hS => r_move hK rfl) fun a hK => ?_
                                refine sp (k := 1) rfl hK (by decide) rfl rfl (fun w hS => r_move hK rfl) fun a hK => ?_
                                refine sp (k := 2) rfl hK (by decide) rfl rfl (fun w hS => r_move hK rfl) fun a hK => ?_
                                obtain ⟨y_2172, h_2173, H⟩ := bind_some H
                                obtain ⟨b_2174, o_2175, c_2176, cs_2177, hv_2178, hr_2179, hc_2180, h_21730, h_21731⟩ := h1_0.ix h_2173
                                subst hr_2179
                                refine sp (k := 3) rfl hK (by decide) rfl rfl (fun w hS => r_indexAddr_R Try.underlying38 Try.sizeOf3 hv_2178 h_21730 h_21731 hK rfl rfl) fun a hK => ?_
                                refine sp (k := 4) rfl hK (by decide) rfl rfl (fun w hS => r_load Try.isAgg3 hK rfl ((hS.ra hRA nil_not).cell (hc_2180 0 _ rfl))) fun a hK => ?_
                                refine sp (k := 5) rfl hK (by decide) rfl rfl (fun w hS => r_move hK rfl) fun a hK => ?_
                                refine sp (k := 6) rfl hK (by decide) rfl rfl (fun w hS => r_move hK rfl) fun a hK => ?_
                                obtain ⟨y_2181, h_2182, H⟩ := bind_some H
                                obtain ⟨b_2183, o_2184, c_2185, cs_2186, hv_2187, hr_2188, hc_2189, h_21820, h_21821⟩ := h2_0.ix h_2182
                                subst hr_2188
                                refine sp (k := 7) rfl hK (by decide) rfl rfl (fun w hS => r_indexAddr_R Try.underlying38 Try.sizeOf3 hv_2187 h_21820 h_21821 hK rfl rfl) fun a hK => ?_
                                refine sp (k := 8) rfl hK (by decide) rfl rfl (fun w hS => r_load Try.isAgg3 hK rfl ((hS.ra hRA nil_not).cell (hc_2189 0 _ rfl))) fun a hK => ?_
                                refine thenL_nil ?_
                                obtain ⟨y_2190, h_2191, H⟩ := bind_some H
                                refine sl_call Try.call10 hK (by decide) rfl rfl rfl (runs_Run_Range.calls y_1702.2 y_2172 y_2181 (lentOf_sub [] _) hS.sub (hS.lend_box0 (.tail _ (.head _))) (hS.lend_row0 (.head _) (hq_1709.mono (hl_1765.le.trans (hl_1828.le.trans hl_1847.le))) rfl rfl) h_2191) fun a v_ w hv_ hK => ?_
                                obtain ⟨R_2192, v_2195, cs_2196, hv_, hr_, hl_2193, hq_2197, hap_2198⟩ := hv_
                                have hv_ := hv_.symm
                                subst hv_
                                obtain ⟨hS, hl_2193⟩ := hS.sp0.back hr_ hl_2193
                                have hS := hS.un1
                                have hRL := hRL.trans hl_2193
                                refine sl hK (by decide) rfl rfl (r_assign hK rfl) fun a hK => ?_
                                refine wpList_nil (NoP_nil ?_)
                                refine wp_seq ?_
                                refine parT_region (C := fun w => St [] w0 w R_2192 [.row 29 2 v_2195 y_2190.length cs_2196, .row 29 2 v_1707 y_1702.2.l.length cs_1708, .cells b_1646 [v_1707] 50]) 11 [(0, true), (1, true), (2, true), (3, true), (4, true), (5, true), (6, true), (7, true), (8, true), (9, true), (10, false)] mixed (by kernel_rfl) hS (fun w hS => (hS.trunc 3)) fun w hS => ?_
                                refine sp (k := 0) rfl hK (by decide) rfl rfl (fun w hS => r_move hK rfl) fun a hK => ?_
                                refine sp (k := 1) rfl hK (by decide) rfl rfl (fun w hS => r_move hK rfl) fun a hK => ?_
                                refine sp (k := 2) rfl hK (by decide) rfl rfl (fun w hS => r_move hK rfl) fun a hK => ?_
                                refine sp (k := 3) rfl hK (by decide) rfl rfl (fun w hS => r_move hK rfl) fun a hK => ?_
                                obtain ⟨y_2236, h_2237, H⟩ := bind_some H
                                obtain ⟨b_2238, o_2239, c_2240, cs_2241, hv_2242, hr_2243, hc_2244, h_22370, h_22371⟩ := h1_0.ix h_2237
                                subst hr_2243
                                refine sp (k := 4) rfl hK (by decide) rfl rfl (fun w hS => r_indexAddr_R Try.underlying38 Try.sizeOf3 hv_2242 h_22370 h_22371 hK rfl rfl) fun a hK => ?_
                                refine sp (k := 5) rfl hK (by decide) rfl rfl (fun w hS => r_load Try.isAgg3 hK rfl ((hS.ra hRA nil_not).cell (hc_2244 0 _ rfl))) fun a hK => ?_
                                refine sp (k := 6) rfl hK (by decide) rfl rfl (fun w hS => r_move hK rfl) fun a hK => ?_
                                refine sp (k := 7) rfl hK (by decide) rfl rfl (fun w hS => r_move hK rfl) fun a hK => ?_
                                obtain ⟨y_2245, h_2246, H⟩ := bind_some H
                                obtain ⟨b_2247, o_2248, c_2249, cs_2250, hv_2251, hr_2252, hc_2253, h_22460, h_22461⟩ := h2_0.ix h_2246
                                subst hr_2252
                                refine sp (k := 8) rfl hK (by decide) rfl rfl (fun w hS => r_indexAddr_R Try.underlying38 Try.sizeOf3 hv_2251 h_22460 h_22461 hK rfl rfl) fun a hK => ?_
                                refine sp (k := 9) rfl hK (by decide) rfl rfl (fun w hS => r_load Try.isAgg3 hK rfl ((hS.ra hRA nil_not).cell (hc_2253 0 _ rfl))) fun a hK => ?_
                                refine spw (k := 10) rfl rfl (hS.trunc 3) ?_
                                obtain ⟨y_2254, h_2255, H⟩ := bind_some H
                                have hS := hS.pk3
                                have hS := hS.pk4
                                have hS1 := hS.sp2
                                refine sl_call Try.call17 hK (by decide) rfl rfl rfl (ref07_Run_Range.calls y_1762.2 y_2236 y_2245 (hS1.lend.lower hl_2193.le) (hq_1769.mono (hl_1828.le.trans hl_1847.le)) h_2255) fun a v_ w hv_ hK => ?_
                                obtain ⟨R_2256, v_2259, cs_2260, v_2263, cs_2264, hv_, hr_, hl_2257, hq_2261, hq_2265⟩ := hv_
                                have hv_ := hv_.symm
                                subst hv_
                                obtain ⟨R_2266, hS, hl_2267, hl_2268, hl_2269, hd_2270⟩ := hS1.backF hl_2193 hr_ hl_2257
                                have hS := hS.un3
                                have hRL := hRL.trans hl_2267
                                refine parK_nil ((hS.pk5.pk5.pk5.trunc 3).lower hl_2267.le) ?_
                                refine thenL_nil ?_
                                obtain ⟨y_2271, h_2272, H⟩ := bind_some H
                                refine sl_callV Try.call9 hS hK (by decide) rfl rfl rfl (law07_same.calls y_2190 y_2254.1 (lentOf_sub [] _) (hS.lend_row0 (.tail _ (.tail _ (.tail _ (.head _)))) (hq_2197.mono hl_2267.le) rfl rfl) (hS.lend_row0 (.head _) (hq_2261.mono hl_2269.le) rfl rfl) h_2272) fun a w hS hK => ?_
                                refine sl hK (by decide) rfl rfl (r_assign hK rfl) fun a hK => ?_
                                refine wpList_nil (NoP_nil ?_)
                                refine wp_seq ?_
                                refine wp_seq ?_
                                refine wp_region_lit ?_
                                refine sl hK (by decide) rfl rfl (r_move hK rfl) fun a hK => ?_
                                refine sl hK (by decide) rfl rfl (r_un hK rfl (u_not _)) fun a hK => ?_
                                refine wpList_nil ?_
                                refine wp_cond_split (hK.ev rfl) (fun (hb_2273 : (!y_2271) = true) => ?_) (fun (hb_2273 : (!y_2271) = false) => ?_)
                                · rw [ifb_t hb_2273] at H
                                  refine wp_seq ?_
                                  refine wp_region_lit ?_
                                  refine sl hK (by decide) rfl rfl (r_assign hK rfl) fun a hK => ?_
                                  refine wpList_nil ?_
                                  exact absurd (Option.some.inj H) (by decide)
                                · rw [ifb_f hb_2273] at H
                                  refine wp_skip ?_
                                  refine wp_seq ?_
                                  refine wp_mid (fun a w => ∃ (x_2285 : Bool), law07_RunsPlays.j9 (law07_RunsPlays.l1 a0 a1 a2 k_l1) a0 x_806 y_1702 y_2190 y_2254 x_2285 = some true ∧ Kn 271 a [(0, v0_0), (1, v1_0), (2, v2_0), (8, .pointer (some ⟨b_1646, 0, none⟩)), (9, .pointer (some ⟨b_12, 0, none⟩)), (10, .int .i64 x_806), (22, v_2195), (200, .bool x_2285)] ∧ St [] w0 w R_2266 [.row 29 2 v_1707 y_1702.2.l.length cs_1708, .cells b_1646 [v_1707] 50, .row 29 2 v_2263 y_2254.2.L.length cs_2264, .cells b_12 [v_2263] 41, .row 29 2 v_2195 y_2190.length cs_2196]) ?_ ?_
                                  · refine wp_region_lit ?_
                                    refine sl hK (by decide) rfl rfl (r_move hK rfl) fun a hK => ?_
                                    refine sl hK (by decide) rfl rfl (r_len_O Try.underlying22 hS (.tail _ (.tail _ (.tail _ (.head _)))) hK rfl) fun a hK => ?_
                                    refine sl hK (by decide) rfl rfl (r_ibin hK rfl rfl rfl) fun a hK => ?_
                                    refine sl hK (by decide) rfl rfl (r_move hK rfl) fun a hK => ?_
                                    rcases or_b (decide ((y_2190.length : Int) > 0)) with hb_2287 | hb_2287
                                    · rw [ifb_t hb_2287] at H
                                      refine sl hK (by decide) (wtt hb_2287) rfl (r_move hK rfl) fun a hK => ?_
                                      obtain ⟨y_2288, h_2289, H⟩ := bind_some H
                                      obtain ⟨b_2291, c_2292, cs_2293, hv_2290, hr_2294, hc_2295, h_22890, h_22891⟩ := hS.row_ix (.tail _ (.tail _ (.tail _ (.head _)))) (hq_2197.mono hl_2267.le) rfl rfl h_2289
                                      obtain ⟨v_2296, rfl, hs_2297⟩ := hr_2294
                                      refine sl hK (by decide) (wtt hb_2287) rfl (r_indexAddr_R Try.underlying22 Try.sizeOf29 hv_2290 h_22890 h_22891 hK rfl rfl) fun a hK => ?_
                                      refine sl hK (by decide) (wtt hb_2287) rfl (r_fieldAddr Try.underlying29 rfl Try.sizeOf27 hK rfl) fun a hK => ?_
                                      refine sl hK (by decide) (wtt hb_2287) rfl (r_load Try.isAgg27 hK rfl (by have h_ := hS.row_cell (.tail _ (.tail _ (.tail _ (.head _)))) hv_2290 (hc_2295 1 _ rfl); simpa [Nat.add_assoc] using h_)) fun a hK => ?_
                                      refine sl hK (by decide) (wtt hb_2287) rfl (r_len_R Try.underlying27 hs_2297 hK rfl) fun a hK => ?_
                                      refine sl hK (by decide) (wtt hb_2287) rfl (r_ibin hK rfl rfl rfl) fun a hK => ?_
                                      refine sl hK (by decide) rfl rfl (r_pick_t hb_2287 hK rfl rfl) fun a hK => ?_
                                      refine wpList_nil ?_
                                      have hS := hS.pk3
                                      have hS := hS.pk2
                                      have hS := hS.pk3
                                      have hS := hS.pk5
                                      have hS := hS.pk5
                                      exact ⟨(decide ((y_2288.Vals.length : Int) > 0)), H, hK.sub (all_cons rfl (all_cons rfl (all_cons rfl (all_cons rfl (all_cons rfl (all_cons rfl (all_cons rfl (all_cons rfl (all_nil))))))))), hS.trunc 5⟩
                                    · rw [ifb_f hb_2287] at H
                                      refine sl_skip hK (by decide) (wtf hb_2287) rfl fun a hK => ?_
                                      refine sl_skip hK (by decide) (wtf hb_2287) rfl fun a hK => ?_
                                      refine sl_skip hK (by decide) (wtf hb_2287) rfl fun a hK => ?_
                                      refine sl_skip hK (by decide) (wtf hb_2287) rfl fun a hK => ?_
                                      refine sl_skip hK (by decide) (wtf hb_2287) rfl fun a hK => ?_
                                      refine sl_skip hK (by decide) (wtf hb_2287) rfl fun a hK => ?_
                                      refine sl hK (by decide) rfl rfl (r_pick_f hb_2287 hK rfl rfl) fun a hK => ?_
                                      refine wpList_nil ?_
                                      have hS := hS.pk3
                                      have hS := hS.pk2
                                      have hS := hS.pk3
                                      have hS := hS.pk5
                                      have hS := hS.pk5
                                      exact ⟨false, H, hK.sub (all_cons rfl (all_cons rfl (all_cons rfl (all_cons rfl (all_cons rfl (all_cons rfl (all_cons rfl (all_cons rfl (all_nil))))))))), hS.trunc 5⟩
                                  · rintro a w ⟨x_2285, H, hK, hS⟩
                                    unfold law07_RunsPlays.j9 at H
                                    refine wp_mid (fun a w => ∃ (R_2326 : Hp), law07_RunsPlays.j10 (law07_RunsPlays.l1 a0 a1 a2 k_l1) a0 x_806 y_1702 y_2254 = some true ∧ RLe [] w0 R_2256 R_2326 ∧ Kn 271 a [(0, v0_0), (1, v1_0), (2, v2_0), (8, .pointer (some ⟨b_1646, 0, none⟩)), (9, .pointer (some ⟨b_12, 0, none⟩)), (10, .int .i64 x_806)] ∧ St [] w0 w R_2326 [.row 29 2 v_1707 y_1702.2.l.length cs_1708, .cells b_1646 [v_1707] 50, .row 29 2 v_2263 y_2254.2.L.length cs_2264, .cells b_12 [v_2263] 41]) ?_ ?_
                                    · refine wp_cond_split (hK.ev rfl) (fun (hb_2328 : x_2285 = true) => ?_) (fun (hb_2328 : x_2285 = false) => ?_)
                                      · rw [ifb_t hb_2328] at H
                                        refine wp_region_lit ?_
                                        refine sl hK (by decide) rfl rfl (r_move hK rfl) fun a hK => ?_
                                        obtain ⟨y_2329, h_2330, H⟩ := bind_some H
                                        obtain ⟨b_2332, c_2333, cs_2334, hv_2331, hr_2335, hc_2336, h_23300, h_23301⟩ := hS.row_ix (.tail _ (.tail _ (.tail _ (.tail _ (.head _))))) (hq_2197.mono hl_2267.le) rfl rfl h_2330
                                        obtain ⟨v_2337, rfl, hs_2338⟩ := hr_2335
                                        refine sl hK (by decide) rfl rfl (r_indexAddr_R Try.underlying22 Try.sizeOf29 hv_2331 h_23300 h_23301 hK rfl rfl) fun a hK => ?_
                                        refine sl hK (by decide) rfl rfl (r_fieldAddr Try.underlying29 rfl Try.sizeOf27 hK rfl) fun a hK => ?_
                                        refine sl hK (by decide) rfl rfl (r_load Try.isAgg27 hK rfl (by have h_ := hS.row_cell (.tail _ (.tail _ (.tail _ (.tail _ (.head _))))) hv_2331 (hc_2336 1 _ rfl); simpa [Nat.add_assoc] using h_)) fun a hK => ?_
                                        refine sl hK (by decide) rfl rfl (r_buildC (ps := [(0, .int .i64 9)]) (c := [.int .i64 9, .int .i64 0, .string (⟨#[]⟩ : ByteArray), .int .i64 0, .int .i64 0, .int .i64 0, .int .i64 0, .int .i64 0, .int .i64 0, .int .i64 0, .int .i64 0]) Try.underlying44 Try.zeroValue44 places44 hK rfl (pc_cons rfl pc_nil) rfl rfl) fun a hK => ?_
                                        obtain ⟨y_2339, h_2340, H⟩ := bind_some H
                                        obtain ⟨b_2341, o_2342, c_2343, cs_2344, hv_2345, hr_2346, hc_2347, h_23400, h_23401⟩ := hs_2338.ix h_2340
                                        subst hr_2346
                                        refine sl hK (by decide) rfl rfl (r_indexAddr_R Try.underlying27 Try.sizeOf44 hv_2345 h_23400 h_23401 hK rfl rfl) fun a hK => ?_
                                        have hS := hS.pk4
                                        obtain ⟨l_2348, t_2349, hR_2350, hS⟩ := hS.thaw hl_2269 (Apart.frame hap_2198 hl_2267.le hd_2270) (hc_2336 1 _ rfl) hv_2345
                                        have hlt_ : o_2342 + (0 : Int).toNat * 11 + 0 + 10 < l_2348.length := (cell_len ((hc_2347) 10 _ rfl) hR_2350).1
                                        refine sl_storeA (vs := [.int .i64 9, .int .i64 0, .string (⟨#[]⟩ : ByteArray), .int .i64 0, .int .i64 0, .int .i64 0, .int .i64 0, .int .i64 0, .int .i64 0, .int .i64 0, .int .i64 0]) (c' := spl l_2348 (o_2342 + (0 : Int).toNat * 11 + 0) [.int .i64 9, .int .i64 0, .string (⟨#[]⟩ : ByteArray), .int .i64 0, .int .i64 0, .int .i64 0, .int .i64 0, .int .i64 0, .int .i64 0, .int .i64 0, .int .i64 0]) Try.sizeOf44 hS hK rfl rfl rfl rfl (all_cons rfl (all_cons rfl (all_cons rfl (all_cons rfl (all_cons rfl (all_cons rfl (all_cons rfl (all_cons rfl (all_cons rfl (all_cons rfl (all_cons rfl (all_nil)))))))))))) (by omega) rfl fun a w hS hK => ?_
                                        obtain ⟨R_2351, hS, hl_2352, hap_2354, _, _⟩ := hS.refreeze0 hl_2269 (Apart.frame hap_2198 hl_2267.le hd_2270) hR_2350 (apart_base (Apart.frame hap_2198 hl_2267.le hd_2270) (hc_2336 1 _ rfl) hv_2345)
                                        have hRL := (hl_6.trans (hl_808.trans (hl_1653.trans (hl_1705.trans (hl_1765.trans (hl_1828.trans (hl_1847.trans hl_2268))))))).trans hl_2352
                                        refine wpList_nil ?_
                                        have hS := hS.pk4
                                        have hS := hS.pk4
                                        have hS := hS.pk4
                                        have hS := hS.pk4
                                        exact ⟨_, H, hl_2352, hK.sub (all_cons rfl (all_cons rfl (all_cons rfl (all_cons rfl (all_cons rfl (all_cons rfl (all_nil))))))), hS.trunc 4⟩
                                      · rw [ifb_f hb_2328] at H
                                        refine wp_skip ?_
                                        have hS := hS.pk3
                                        have hS := hS.pk3
                                        have hS := hS.pk3
                                        have hS := hS.pk3
                                        exact ⟨_, H, hl_2269, hK.sub (all_cons rfl (all_cons rfl (all_cons rfl (all_cons rfl (all_cons rfl (all_cons rfl (all_nil))))))), hS.trunc 4⟩
                                    · rintro a w ⟨R_2326, H, hl_2327, hK, hS⟩
                                      unfold law07_RunsPlays.j10 at H
                                      have hRL := (hl_6.trans (hl_808.trans (hl_1653.trans (hl_1705.trans (hl_1765.trans (hl_1828.trans (hl_1847.trans hl_2268))))))).trans hl_2327
                                      have hS := hS.pk3
                                      have hS := hS.pk3
                                      have hS := hS.pk3
                                      have hS := hS.pk3
                                      exact ⟨y_2254.2.L, _, _, _, H, (hl_2268.trans hl_2327), (hq_2265.mono hl_2327.le), hK.sub (all_cons rfl (all_cons rfl (all_cons rfl (all_cons rfl (all_cons rfl (all_cons rfl (all_nil))))))), hS⟩
                              · rw [ifb_f hb_2144] at H
                                refine wp_skip ?_
                                have hS := hS.pk3
                                have hS := hS.pk3
                                have hS := hS.pk3
                                have hS := hS.pk3
                                exact ⟨y_1762.2.L, _, _, _, H, (RLe.refl _ _), (hq_1769.mono (hl_1828.le.trans hl_1847.le)), hK.sub (all_cons rfl (all_cons rfl (all_cons rfl (all_cons rfl (all_cons rfl (all_cons rfl (all_nil))))))), hS⟩
                            · rintro a w ⟨x_2138, R_2142, v_2139, cs_2140, H, hl_2143, hq_2141, hK, hS⟩
                              unfold law07_RunsPlays.j8 at H
                              have hRL := hRL.trans hl_2143
                              refine wp_region_lit ?_
                              refine sl hK (by decide) rfl rfl (r_move hK rfl) fun a hK => ?_
                              refine sl hK (by decide) rfl rfl (r_ibin hK rfl rfl rfl) fun a hK => ?_
                              refine sl hK (by decide) rfl rfl (r_assign hK rfl) fun a hK => ?_
                              refine wpList_nil ?_
                              have hS := hS.pk3
                              have hS := hS.pk3
                              have hS := hS.pk3
                              have hS := hS.pk3
                              exact ⟨_, Nat.lt_succ_self _, y_1702.2.l, x_2138, (IntKind.i64.wrap (x_806 + 1)), _, _, _, _, _, _, H, (hl_808.trans (hl_1653.trans (hl_1705.trans (hl_1765.trans (hl_1828.trans (hl_1847.trans hl_2143)))))), (hq_1709.mono (hl_1765.le.trans (hl_1828.le.trans (hl_1847.le.trans hl_2143.le)))), hq_2141, hK.sub (all_cons rfl (all_cons rfl (all_cons rfl (all_cons rfl (all_cons rfl (all_cons rfl (all_nil))))))), hS⟩
          · rw [ifb_f hb_1588] at H
            refine wp_exit ?_
            refine wp_seq ?_
            refine wp_region_lit ?_
            refine sl hK (by decide) rfl rfl (r_move hK rfl) fun a hK => ?_
            obtain ⟨y_2356, h_2357, H⟩ := bind_some H
            refine sl_callV Try.call18 hS hK (by decide) rfl rfl rfl (runs_Run_Span.calls (⟨x_797⟩ : runs_Run) (lentOf_sub [] _) (hS.lend_box0 (.tail _ (.head _))) (hS.lend_row0 (.head _) hq_800 rfl rfl) h_2357) fun a w hS hK => ?_
            refine sl hK (by decide) rfl rfl (r_move hK rfl) fun a hK => ?_
            refine sl hK (by decide) rfl rfl (r_extract hK rfl rfl) fun a hK => ?_
            refine sl hK (by decide) rfl rfl (r_extract hK rfl rfl) fun a hK => ?_
            refine sl hK (by decide) rfl rfl (r_extract hK rfl rfl) fun a hK => ?_
            refine sl hK (by decide) rfl rfl (r_assign hK rfl) fun a hK => ?_
            refine sl hK (by decide) rfl rfl (r_assign hK rfl) fun a hK => ?_
            refine sl hK (by decide) rfl rfl (r_assign hK rfl) fun a hK => ?_
            refine wpList_nil ?_
            refine wp_seq ?_
            refine parT_region (C := fun w => St [] w0 w R_807 [.row 29 2 v_798 x_797.length cs_799, .cells b_795 [v_798] 50, .row 29 2 v_803 x_802.length cs_804, .cells b_12 [v_803] 41]) 6 [(0, true), (2, true), (3, true), (4, true), (5, true), (1, false)] mixed (by kernel_rfl) hS (fun w hS => hS) fun w hS => ?_
            refine sp (k := 0) rfl hK (by decide) rfl rfl (fun w hS => r_move hK rfl) fun a hK => ?_
            refine sp (k := 2) rfl hK (by decide) rfl rfl (fun w hS => r_move hK rfl) fun a hK => ?_
            refine sp (k := 3) rfl hK (by decide) rfl rfl (fun w hS => r_nilCheck hK rfl) fun a hK => ?_
            refine sp (k := 4) rfl hK (by decide) rfl rfl (fun w hS => r_fieldAddr Try.underlying41 rfl Try.sizeOf22 hK rfl) fun a hK => ?_
            refine sp (k := 5) rfl hK (by decide) rfl rfl (fun w hS => r_load Try.isAgg22 hK rfl (hS.cell (.tail _ (.tail _ (.tail _ (.head _)))) rfl)) fun a hK => ?_
            refine spw (k := 1) rfl rfl hS ?_
            obtain ⟨y_2369, h_2370, H⟩ := bind_some H
            refine sl_call Try.call10 hK (by decide) rfl rfl rfl (runs_Run_Range.calls (⟨x_797⟩ : runs_Run) (-9223372036854775808) 9223372036854775807 (lentOf_sub [] _) hS.sub (hS.lend_box0 (.tail _ (.head _))) (hS.lend_row0 (.head _) hq_800 rfl rfl) h_2370) fun a v_ w hv_ hK => ?_
            obtain ⟨R_2371, v_2374, cs_2375, hv_, hr_, hl_2372, hq_2376, hap_2377⟩ := hv_
            have hv_ := hv_.symm
            subst hv_
            obtain ⟨hS, hl_2372⟩ := hS.sp0.back hr_ hl_2372
            have hS := hS.un1
            have hRL := hRL.trans hl_2372
            refine parK_nil ((hS.pk4.pk4.pk4.pk4.trunc 4).lower hl_2372.le) ?_
            refine thenL_nil ?_
            obtain ⟨y_2378, h_2379, H⟩ := bind_some H
            refine sl_callV Try.call9 hS hK (by decide) rfl rfl rfl (law07_same.calls y_2369 x_802 (lentOf_sub [] _) (hS.lend_row0 (.head _) hq_2376 rfl rfl) (hS.lend_row0 (.tail _ (.tail _ (.tail _ (.head _)))) (hq_805.mono hl_2372.le) rfl rfl) h_2379) fun a w hS hK => ?_
            refine sl hK (by decide) rfl rfl (r_assign hK rfl) fun a hK => ?_
            refine wpList_nil (NoP_nil ?_)
            refine wp_seq ?_
            refine wp_seq ?_
            refine wp_region_lit ?_
            refine sl hK (by decide) rfl rfl (r_move hK rfl) fun a hK => ?_
            refine sl hK (by decide) rfl rfl (r_nilCheck hK rfl) fun a hK => ?_
            refine sl hK (by decide) rfl rfl (r_fieldAddr Try.underlying41 rfl Try.sizeOf22 hK rfl) fun a hK => ?_
            refine sl hK (by decide) rfl rfl (r_load Try.isAgg22 hK rfl (hS.cell (.tail _ (.tail _ (.tail _ (.tail _ (.head _))))) rfl)) fun a hK => ?_
            refine sl hK (by decide) rfl rfl (r_len_O Try.underlying22 hS (.tail _ (.tail _ (.tail _ (.head _)))) hK rfl) fun a hK => ?_
            refine sl hK (by decide) rfl rfl (r_ibin hK rfl rfl rfl) fun a hK => ?_
            refine wpList_nil ?_
            refine wp_cond_split (hK.ev rfl) (fun (hb_2380 : ((x_802.length : Int) == 0) = true) => ?_) (fun (hb_2380 : ((x_802.length : Int) == 0) = false) => ?_)
            · rw [ifb_t hb_2380] at H
              refine wp_seq ?_
              refine wp_mid (fun a w => ∃ (x_2384 : Bool), law07_RunsPlays.j11 x_2384 = some true ∧ Kn 271 a [(6, .bool x_2384)] ∧ St [] w0 w R_2371 []) ?_ ?_
              · refine wp_region_lit ?_
                refine sl hK (by decide) rfl rfl (r_move hK rfl) fun a hK => ?_
                refine sl hK (by decide) rfl rfl (r_un hK rfl (u_not _)) fun a hK => ?_
                refine sl hK (by decide) rfl rfl (r_move hK rfl) fun a hK => ?_
                rcases or_b (!y_2356.2.2) with hb_2386 | hb_2386
                · rw [ifb_t hb_2386] at H
                  refine sl hK (by decide) (wtt hb_2386) rfl (r_move hK rfl) fun a hK => ?_
                  refine sl hK (by decide) (wtt hb_2386) rfl (r_ibin hK rfl rfl rfl) fun a hK => ?_
                  refine sl hK (by decide) rfl rfl (r_pick_t hb_2386 hK rfl rfl) fun a hK => ?_
                  refine sl hK (by decide) rfl rfl (r_move hK rfl) fun a hK => ?_
                  rcases or_b (y_2356.1 == 0) with hb_2387 | hb_2387
                  · rw [ifb_t hb_2387] at H
                    refine sl hK (by decide) (wtt hb_2387) rfl (r_move hK rfl) fun a hK => ?_
                    refine sl hK (by decide) (wtt hb_2387) rfl (r_ibin hK rfl rfl rfl) fun a hK => ?_
                    refine sl hK (by decide) rfl rfl (r_pick_t hb_2387 hK rfl rfl) fun a hK => ?_
                    refine sl hK (by decide) rfl rfl (r_move hK rfl) fun a hK => ?_
                    rcases or_b (y_2356.2.1 == 0) with hb_2388 | hb_2388
                    · rw [ifb_t hb_2388] at H
                      refine sl hK (by decide) (wtt hb_2388) rfl (r_move hK rfl) fun a hK => ?_
                      refine sl hK (by decide) rfl rfl (r_pick_t hb_2388 hK rfl rfl) fun a hK => ?_
                      refine sl hK (by decide) rfl rfl (r_assign hK rfl) fun a hK => ?_
                      refine wpList_nil ?_
                      exact ⟨y_2378, H, hK.sub (all_cons rfl (all_nil)), hS.trunc 0⟩
                    · rw [ifb_f hb_2388] at H
                      refine sl_skip hK (by decide) (wtf hb_2388) rfl fun a hK => ?_
                      refine sl hK (by decide) rfl rfl (r_pick_f hb_2388 hK rfl rfl) fun a hK => ?_
                      refine sl hK (by decide) rfl rfl (r_assign hK rfl) fun a hK => ?_
                      refine wpList_nil ?_
                      exact ⟨false, H, hK.sub (all_cons rfl (all_nil)), hS.trunc 0⟩
                  · rw [ifb_f hb_2387] at H
                    refine sl_skip hK (by decide) (wtf hb_2387) rfl fun a hK => ?_
                    refine sl_skip hK (by decide) (wtf hb_2387) rfl fun a hK => ?_
                    refine sl hK (by decide) rfl rfl (r_pick_f hb_2387 hK rfl rfl) fun a hK => ?_
                    refine sl hK (by decide) rfl rfl (r_move hK rfl) fun a hK => ?_
                    refine sl_skip hK (by decide) rfl rfl fun a hK => ?_
                    refine sl hK (by decide) rfl rfl (r_pick hK rfl rfl rfl) fun a hK => ?_
                    refine sl hK (by decide) rfl rfl (r_assign hK rfl) fun a hK => ?_
                    refine wpList_nil ?_
                    exact ⟨false, H, hK.sub (all_cons rfl (all_nil)), hS.trunc 0⟩
                · rw [ifb_f hb_2386] at H
                  refine sl_skip hK (by decide) (wtf hb_2386) rfl fun a hK => ?_
                  refine sl_skip hK (by decide) (wtf hb_2386) rfl fun a hK => ?_
                  refine sl hK (by decide) rfl rfl (r_pick_f hb_2386 hK rfl rfl) fun a hK => ?_
                  refine sl hK (by decide) rfl rfl (r_move hK rfl) fun a hK => ?_
                  refine sl_skip hK (by decide) rfl rfl fun a hK => ?_
                  refine sl_skip hK (by decide) rfl rfl fun a hK => ?_
                  refine sl hK (by decide) rfl rfl (r_pick hK rfl rfl rfl) fun a hK => ?_
                  refine sl hK (by decide) rfl rfl (r_move hK rfl) fun a hK => ?_
                  refine sl_skip hK (by decide) rfl rfl fun a hK => ?_
                  refine sl hK (by decide) rfl rfl (r_pick hK rfl rfl rfl) fun a hK => ?_
                  refine sl hK (by decide) rfl rfl (r_assign hK rfl) fun a hK => ?_
                  refine wpList_nil ?_
                  exact ⟨false, H, hK.sub (all_cons rfl (all_nil)), hS.trunc 0⟩
              · rintro a w ⟨x_2384, H, hK, hS⟩
                unfold law07_RunsPlays.j11 at H
                have hr_ := Option.some.inj H
                refine wp_ret ?_
                repeat (first | refine ret_then ?_ | refine ret_block ?_ | refine ret_scope ?_)
                exact ret_1 Try.results5 hK (rv_tmp hK rfl) ⟨congrArg (fun b => Ending.returned (Value.bool b)) hr_, hS.bel⟩
            · rw [ifb_f hb_2380] at H
              refine wp_skip ?_
              refine wp_seq ?_
              refine par_region (C := fun w => St [] w0 w R_2371 [.row 29 2 v_2374 y_2369.length cs_2375, .row 29 2 v_798 x_797.length cs_799, .cells b_795 [v_798] 50, .row 29 2 v_803 x_802.length cs_804, .cells b_12 [v_803] 41]) [(0, true), (1, true), (2, true), (3, true), (4, true), (5, true), (6, true), (7, true), (8, true), (9, true), (10, true), (11, true), (12, true), (13, true), (14, true), (15, true), (16, true), (17, true), (18, true), (19, true), (20, true), (21, true), (22, true), (23, true), (24, true), (25, true), (26, true), (27, true), (28, true), (29, true), (30, true), (31, true), (32, true)] mixed (by kernel_rfl) hS (fun w hS => hS) fun w hS => ?_
              refine sp (k := 0) rfl hK (by decide) rfl rfl (fun w hS => r_move hK rfl) fun a hK => ?_
              refine sp (k := 1) rfl hK (by decide) rfl rfl (fun w hS => r_move hK rfl) fun a hK => ?_
              rcases or_b y_2356.2.2 with hb_2412 | hb_2412
              · rw [ifb_t hb_2412] at H
                refine sp (k := 2) rfl hK (by decide) (wtt hb_2412) rfl (fun w hS => r_move hK rfl) fun a hK => ?_
                refine sp (k := 3) rfl hK (by decide) (wtt hb_2412) rfl (fun w hS => r_move hK rfl) fun a hK => ?_
                refine sp (k := 4) rfl hK (by decide) (wtt hb_2412) rfl (fun w hS => r_nilCheck hK rfl) fun a hK => ?_
                refine sp (k := 5) rfl hK (by decide) (wtt hb_2412) rfl (fun w hS => r_fieldAddr Try.underlying41 rfl Try.sizeOf22 hK rfl) fun a hK => ?_
                refine sp (k := 6) rfl hK (by decide) (wtt hb_2412) rfl (fun w hS => r_load Try.isAgg22 hK rfl (hS.cell (.tail _ (.tail _ (.tail _ (.tail _ (.head _))))) rfl)) fun a hK => ?_
                obtain ⟨y_2413, h_2414, H⟩ := bind_some H
                obtain ⟨b_2416, c_2417, cs_2418, hv_2415, hr_2419, hc_2420, h_24140, h_24141⟩ := hS.row_ix (.tail _ (.tail _ (.tail _ (.head _)))) (hq_805.mono hl_2372.le) rfl rfl h_2414
                obtain ⟨v_2421, rfl, hs_2422⟩ := hr_2419
                refine sp (k := 7) rfl hK (by decide) (wtt hb_2412) rfl (fun w hS => r_indexAddr_R Try.underlying22 Try.sizeOf29 hv_2415 h_24140 h_24141 hK rfl rfl) fun a hK => ?_
                refine sp (k := 8) rfl hK (by decide) (wtt hb_2412) rfl (fun w hS => r_fieldAddr Try.underlying29 rfl Try.sizeOf3 hK rfl) fun a hK => ?_
                refine sp (k := 9) rfl hK (by decide) (wtt hb_2412) rfl (fun w hS => r_load Try.isAgg3 hK rfl (by have h_ := hS.row_cell (.tail _ (.tail _ (.tail _ (.head _)))) hv_2415 (hc_2420 0 _ rfl); simpa [Nat.add_assoc] using h_)) fun a hK => ?_
                refine sp (k := 10) rfl hK (by decide) (wtt hb_2412) rfl (fun w hS => r_ibin hK rfl rfl rfl) fun a hK => ?_
                refine sp (k := 11) rfl hK (by decide) rfl rfl (fun w hS => r_pick_t hb_2412 hK rfl rfl) fun a hK => ?_
                refine sp (k := 12) rfl hK (by decide) rfl rfl (fun w hS => r_move hK rfl) fun a hK => ?_
                rcases or_b (y_2356.1 == y_2413.Time) with hb_2423 | hb_2423
                · rw [ifb_t hb_2423] at H
                  refine sp (k := 13) rfl hK (by decide) (wtt hb_2423) rfl (fun w hS => r_move hK rfl) fun a hK => ?_
                  refine sp (k := 14) rfl hK (by decide) (wtt hb_2423) rfl (fun w hS => r_move hK rfl) fun a hK => ?_
                  refine sp (k := 15) rfl hK (by decide) (wtt hb_2423) rfl (fun w hS => r_nilCheck hK rfl) fun a hK => ?_
                  refine sp (k := 16) rfl hK (by decide) (wtt hb_2423) rfl (fun w hS => r_fieldAddr Try.underlying41 rfl Try.sizeOf22 hK rfl) fun a hK => ?_
                  refine sp (k := 17) rfl hK (by decide) (wtt hb_2423) rfl (fun w hS => r_load Try.isAgg22 hK rfl (hS.cell (.tail _ (.tail _ (.tail _ (.tail _ (.head _))))) rfl)) fun a hK => ?_
                  refine sp (k := 18) rfl hK (by decide) (wtt hb_2423) rfl (fun w hS => r_move hK rfl) fun a hK => ?_
                  refine sp (k := 19) rfl hK (by decide) (wtt hb_2423) rfl (fun w hS => r_nilCheck hK rfl) fun a hK => ?_
                  refine sp (k := 20) rfl hK (by decide) (wtt hb_2423) rfl (fun w hS => r_fieldAddr Try.underlying41 rfl Try.sizeOf22 hK rfl) fun a hK => ?_
                  refine sp (k := 21) rfl hK (by decide) (wtt hb_2423) rfl (fun w hS => r_load Try.isAgg22 hK rfl (hS.cell (.tail _ (.tail _ (.tail _ (.tail _ (.head _))))) rfl)) fun a hK => ?_
                  refine sp (k := 22) rfl hK (by decide) (wtt hb_2423) rfl (fun w hS => r_len_O Try.underlying22 hS (.tail _ (.tail _ (.tail _ (.head _)))) hK rfl) fun a hK => ?_
                  refine sp (k := 23) rfl hK (by decide) (wtt hb_2423) rfl (fun w hS => r_ibin hK rfl rfl rfl) fun a hK => ?_
                  obtain ⟨y_2424, h_2425, H⟩ := bind_some H
                  obtain ⟨b_2427, c_2428, cs_2429, hv_2426, hr_2430, hc_2431, h_24250, h_24251⟩ := hS.row_ix (.tail _ (.tail _ (.tail _ (.head _)))) (hq_805.mono hl_2372.le) rfl rfl h_2425
                  obtain ⟨v_2432, rfl, hs_2433⟩ := hr_2430
                  refine sp (k := 24) rfl hK (by decide) (wtt hb_2423) rfl (fun w hS => r_indexAddr_R Try.underlying22 Try.sizeOf29 hv_2426 h_24250 h_24251 hK rfl rfl) fun a hK => ?_
                  refine sp (k := 25) rfl hK (by decide) (wtt hb_2423) rfl (fun w hS => r_fieldAddr Try.underlying29 rfl Try.sizeOf3 hK rfl) fun a hK => ?_
                  refine sp (k := 26) rfl hK (by decide) (wtt hb_2423) rfl (fun w hS => r_load Try.isAgg3 hK rfl (by have h_ := hS.row_cell (.tail _ (.tail _ (.tail _ (.head _)))) hv_2426 (hc_2431 0 _ rfl); simpa [Nat.add_assoc] using h_)) fun a hK => ?_
                  refine sp (k := 27) rfl hK (by decide) (wtt hb_2423) rfl (fun w hS => r_ibin hK rfl rfl rfl) fun a hK => ?_
                  refine sp (k := 28) rfl hK (by decide) rfl rfl (fun w hS => r_pick_t hb_2423 hK rfl rfl) fun a hK => ?_
                  refine sp (k := 29) rfl hK (by decide) rfl rfl (fun w hS => r_move hK rfl) fun a hK => ?_
                  rcases or_b (y_2356.2.1 == y_2424.Time) with hb_2434 | hb_2434
                  · rw [ifb_t hb_2434] at H
                    refine sp (k := 30) rfl hK (by decide) (wtt hb_2434) rfl (fun w hS => r_move hK rfl) fun a hK => ?_
                    refine sp (k := 31) rfl hK (by decide) rfl rfl (fun w hS => r_pick_t hb_2434 hK rfl rfl) fun a hK => ?_
                    refine sp (k := 32) rfl hK (by decide) rfl rfl (fun w hS => r_assign hK rfl) fun a hK => ?_
                    refine wpPar_nil (NoP_nil ?_)
                    have hr_ := Option.some.inj H
                    refine wp_ret ?_
                    repeat (first | refine ret_then ?_ | refine ret_block ?_ | refine ret_scope ?_)
                    exact ret_1 Try.results5 hK (rv_tmp hK rfl) ⟨congrArg (fun b => Ending.returned (Value.bool b)) hr_, hS.bel⟩
                  · rw [ifb_f hb_2434] at H
                    refine sp_skip (k := 30) rfl hK (by decide) (wtf hb_2434) rfl fun a hK => ?_
                    refine sp (k := 31) rfl hK (by decide) rfl rfl (fun w hS => r_pick_f hb_2434 hK rfl rfl) fun a hK => ?_
                    refine sp (k := 32) rfl hK (by decide) rfl rfl (fun w hS => r_assign hK rfl) fun a hK => ?_
                    refine wpPar_nil (NoP_nil ?_)
                    exact absurd (Option.some.inj H) (by decide)
                · rw [ifb_f hb_2423] at H
                  refine sp_skip (k := 13) rfl hK (by decide) (wtf hb_2423) rfl fun a hK => ?_
                  refine sp_skip (k := 14) rfl hK (by decide) (wtf hb_2423) rfl fun a hK => ?_
                  refine sp_skip (k := 15) rfl hK (by decide) (wtf hb_2423) rfl fun a hK => ?_
                  refine sp_skip (k := 16) rfl hK (by decide) (wtf hb_2423) rfl fun a hK => ?_
                  refine sp_skip (k := 17) rfl hK (by decide) (wtf hb_2423) rfl fun a hK => ?_
                  refine sp_skip (k := 18) rfl hK (by decide) (wtf hb_2423) rfl fun a hK => ?_
                  refine sp_skip (k := 19) rfl hK (by decide) (wtf hb_2423) rfl fun a hK => ?_
                  refine sp_skip (k := 20) rfl hK (by decide) (wtf hb_2423) rfl fun a hK => ?_
                  refine sp_skip (k := 21) rfl hK (by decide) (wtf hb_2423) rfl fun a hK => ?_
                  refine sp_skip (k := 22) rfl hK (by decide) (wtf hb_2423) rfl fun a hK => ?_
                  refine sp_skip (k := 23) rfl hK (by decide) (wtf hb_2423) rfl fun a hK => ?_
                  refine sp_skip (k := 24) rfl hK (by decide) (wtf hb_2423) rfl fun a hK => ?_
                  refine sp_skip (k := 25) rfl hK (by decide) (wtf hb_2423) rfl fun a hK => ?_
                  refine sp_skip (k := 26) rfl hK (by decide) (wtf hb_2423) rfl fun a hK => ?_
                  refine sp_skip (k := 27) rfl hK (by decide) (wtf hb_2423) rfl fun a hK => ?_
                  refine sp (k := 28) rfl hK (by decide) rfl rfl (fun w hS => r_pick_f hb_2423 hK rfl rfl) fun a hK => ?_
                  refine sp (k := 29) rfl hK (by decide) rfl rfl (fun w hS => r_move hK rfl) fun a hK => ?_
                  refine sp_skip (k := 30) rfl hK (by decide) rfl rfl fun a hK => ?_
                  refine sp (k := 31) rfl hK (by decide) rfl rfl (fun w hS => r_pick hK rfl rfl rfl) fun a hK => ?_
                  refine sp (k := 32) rfl hK (by decide) rfl rfl (fun w hS => r_assign hK rfl) fun a hK => ?_
                  refine wpPar_nil (NoP_nil ?_)
                  exact absurd (Option.some.inj H) (by decide)
              · rw [ifb_f hb_2412] at H
                refine sp_skip (k := 2) rfl hK (by decide) (wtf hb_2412) rfl fun a hK => ?_
                refine sp_skip (k := 3) rfl hK (by decide) (wtf hb_2412) rfl fun a hK => ?_
                refine sp_skip (k := 4) rfl hK (by decide) (wtf hb_2412) rfl fun a hK => ?_
                refine sp_skip (k := 5) rfl hK (by decide) (wtf hb_2412) rfl fun a hK => ?_
                refine sp_skip (k := 6) rfl hK (by decide) (wtf hb_2412) rfl fun a hK => ?_
                refine sp_skip (k := 7) rfl hK (by decide) (wtf hb_2412) rfl fun a hK => ?_
                refine sp_skip (k := 8) rfl hK (by decide) (wtf hb_2412) rfl fun a hK => ?_
                refine sp_skip (k := 9) rfl hK (by decide) (wtf hb_2412) rfl fun a hK => ?_
                refine sp_skip (k := 10) rfl hK (by decide) (wtf hb_2412) rfl fun a hK => ?_
                refine sp (k := 11) rfl hK (by decide) rfl rfl (fun w hS => r_pick_f hb_2412 hK rfl rfl) fun a hK => ?_
                refine sp (k := 12) rfl hK (by decide) rfl rfl (fun w hS => r_move hK rfl) fun a hK => ?_
                refine sp_skip (k := 13) rfl hK (by decide) rfl rfl fun a hK => ?_
                refine sp_skip (k := 14) rfl hK (by decide) rfl rfl fun a hK => ?_
                refine sp_skip (k := 15) rfl hK (by decide) rfl rfl fun a hK => ?_
                refine sp_skip (k := 16) rfl hK (by decide) rfl rfl fun a hK => ?_
                refine sp_skip (k := 17) rfl hK (by decide) rfl rfl fun a hK => ?_
                refine sp_skip (k := 18) rfl hK (by decide) rfl rfl fun a hK => ?_
                refine sp_skip (k := 19) rfl hK (by decide) rfl rfl fun a hK => ?_
                refine sp_skip (k := 20) rfl hK (by decide) rfl rfl fun a hK => ?_
                refine sp_skip (k := 21) rfl hK (by decide) rfl rfl fun a hK => ?_
                refine sp_skip (k := 22) rfl hK (by decide) rfl rfl fun a hK => ?_
                refine sp_skip (k := 23) rfl hK (by decide) rfl rfl fun a hK => ?_
                refine sp_skip (k := 24) rfl hK (by decide) rfl rfl fun a hK => ?_
                refine sp_skip (k := 25) rfl hK (by decide) rfl rfl fun a hK => ?_
                refine sp_skip (k := 26) rfl hK (by decide) rfl rfl fun a hK => ?_
                refine sp_skip (k := 27) rfl hK (by decide) rfl rfl fun a hK => ?_
                refine sp (k := 28) rfl hK (by decide) rfl rfl (fun w hS => r_pick hK rfl rfl rfl) fun a hK => ?_
                refine sp (k := 29) rfl hK (by decide) rfl rfl (fun w hS => r_move hK rfl) fun a hK => ?_
                refine sp_skip (k := 30) rfl hK (by decide) rfl rfl fun a hK => ?_
                refine sp (k := 31) rfl hK (by decide) rfl rfl (fun w hS => r_pick hK rfl rfl rfl) fun a hK => ?_
                refine sp (k := 32) rfl hK (by decide) rfl rfl (fun w hS => r_assign hK rfl) fun a hK => ?_
                refine wpPar_nil (NoP_nil ?_)
                exact absurd (Option.some.inj H) (by decide)

end Go.Proofs.Ytafkcbacdfiniaa.M
