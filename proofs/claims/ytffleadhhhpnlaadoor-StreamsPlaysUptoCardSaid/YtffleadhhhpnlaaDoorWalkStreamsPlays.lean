/- Each Go function of the laws answers as its plain Lean function tells, wherever that tells something. Printed by wip/eng/gen.py. -/
import Derived.Test.YtffleadhhhpnlaaDoorWalk1
namespace Go.Proofs.YtffleadhhhpnlaaDoor.M
open Go Go.Eng Go.Proofs Go.RowKit
set_option linter.unusedVariables false
set_option linter.unusedSimpArgs false

/-! ### slices.Clone[[]catchment/streams.stream,catchment/streams.stream]: function 24 -/
set_option maxHeartbeats 4000000 in
set_option maxRecDepth 100000 in
theorem slices_Clone_streams_stream_streams_stream.calls (a0 : List streams_stream) {w0 : World} {R : Hp} {RA : Hp} {v0_0 : Value} (hRA : RA.sub w0) (hR : R.sub w0) (h0_0 : SlB ty_streams_stream RA R v0_0 a0) {r : List streams_stream} (H : slices_Clone_streams_stream_streams_stream a0 = some r) : Calls Tryd.prog 24 #[v0_0] w0 (Rets fun v w' => ∃ (R' : Hp) (u0 : Value) (cu0 : List Value), v = u0 ∧ St [] w0 w' R' [.row 60 2 u0 r.length cu0] ∧ RLe [] w0 R R' ∧ Reps ty_streams_stream R' cu0 r) := by
  unfold slices_Clone_streams_stream_streams_stream at H
  rcases SlB.nilcase h0_0 with ⟨hn, hx⟩ | ⟨ad_, m_, c_, hn⟩
  · subst hx
    have H : some ([] : List streams_stream) = some r := by simpa [apd] using H
    refine enter (args := [v0_0]) Tryd.func24 rfl Tryd.ntmps24 rfl fun a hK => ?_
    have hS := St.init hR
    have hRL := RLe.refl (M := []) w0 R
    refine wp_seq ?_
    refine wp_region_lit ?_
    refine sl hK (by decide) rfl rfl (r_assign hK rfl) fun a hK => ?_
    refine wpList_nil ?_
    refine wp_seq ?_
    refine wp_seq ?_
    refine wp_region_lit ?_
    refine sl hK (by decide) rfl rfl (r_move hK rfl) fun a hK => ?_
    refine sl hK (by decide) rfl rfl (r_sleqN Tryd.underlying54 hn hK rfl rfl) fun a hK => ?_
    refine wpList_nil ?_
    refine wp_cond_true (hK.ev rfl) ?_
    refine wp_seq ?_
    refine wp_region_lit ?_
    refine sl hK (by decide) rfl rfl (r_assign hK rfl) fun a hK => ?_
    refine wpList_nil ?_
    have hS := hS.row_nil 60 2
    have hq_11 : Reps ty_streams_stream R [] ([] : List streams_stream) := Reps.nil _ _
    obtain rfl := Option.some.inj H
    refine wp_ret ?_
    repeat (first | refine ret_then ?_ | refine ret_block ?_ | refine ret_scope ?_)
    exact ret_1 Tryd.results24 hK (rv_tmp hK rfl) ⟨_, rfl, _, _, _, rfl, hS, hRL, hq_11⟩
  · refine enter (args := [v0_0]) Tryd.func24 rfl Tryd.ntmps24 rfl fun a hK => ?_
    have hS := St.init hR
    have hRL := RLe.refl (M := []) w0 R
    refine wp_seq ?_
    refine wp_region_lit ?_
    refine sl hK (by decide) rfl rfl (r_assign hK rfl) fun a hK => ?_
    refine wpList_nil ?_
    refine wp_seq ?_
    refine wp_seq ?_
    refine wp_region_lit ?_
    refine sl hK (by decide) rfl rfl (r_move hK rfl) fun a hK => ?_
    refine sl hK (by decide) rfl rfl (r_sleqS Tryd.underlying54 hn hK rfl rfl) fun a hK => ?_
    refine wpList_nil ?_
    refine wp_cond_false (hK.ev rfl) ?_
    refine wp_skip ?_
    refine wp_seq ?_
    refine wp_region_lit ?_
    refine sl_buildSliceC (zc := [.string (⟨#[]⟩ : ByteArray), .slice none 0 0]) (zs := []) (ps := []) (c := []) Tryd.underlying54 Tryd.sizeOf60 Tryd.zeroValue60 rfl pc_nil rfl rfl (by decide) (by kernel_rfl) rfl hS hK (by decide) rfl fun a w b_1 hS hK => ?_
    refine sl hK (by decide) rfl rfl (r_move hK rfl) fun a hK => ?_
    obtain ⟨y_4, h_5, H⟩ := bind_some H
    have hS := hS.row_lit (size := 2) (m := 0) rfl (by decide)
    have hq_3 : Reps ty_streams_stream R [] ([] : List streams_stream) := (Reps.nil _ _)
    refine sl_append_B elT54 (by decide) rfl (hS.ra hRA nil_not) hq_3 rfl (h0_0.monoR (Hp.le.refl _)) h_5 hS hK (by decide) rfl rfl rfl fun a w v_6 cs_7 hq_8 hS hK => ?_
    refine sl hK (by decide) rfl rfl (r_assign hK rfl) fun a hK => ?_
    refine wpList_nil ?_
    obtain rfl := Option.some.inj H
    refine wp_ret ?_
    repeat (first | refine ret_then ?_ | refine ret_block ?_ | refine ret_scope ?_)
    exact ret_1 Tryd.results24 hK (rv_tmp hK rfl) ⟨_, rfl, _, _, _, rfl, hS, hRL, hq_8⟩

/-! ### maps.Clone[map[string]int,string,int]: function 25 -/
set_option maxHeartbeats 4000000 in
set_option maxRecDepth 100000 in
theorem maps_Clone_map_string_int_string_int.calls (a0 : List (ByteArray × Int)) {w0 : World} {R : Hp} {RA : Hp} {mb0_0 : Nat} (hRA : RA.sub w0) (hR : R.sub w0) (h0_0 : MpR RA mb0_0 (kvs Value.string (Value.int .i64) a0)) {r : List (ByteArray × Int)} (H : maps_Clone_map_string_int_string_int a0 = some r) : Calls Tryd.prog 25 #[.map (some mb0_0)] w0 (Rets fun v w' => ∃ (R' : Hp) (B0 : Nat), v = .map (some B0) ∧ St [] w0 w' R' [.mp B0 (kvs Value.string (Value.int .i64) r)] ∧ RLe [] w0 R R') := by
  unfold maps_Clone_map_string_int_string_int at H
  refine enter (args := [.map (some mb0_0)]) Tryd.func25 rfl Tryd.ntmps25 rfl fun a hK => ?_
  have hS := St.init hR
  have hRL := RLe.refl (M := []) w0 R
  refine wp_seq ?_
  refine wp_region_lit ?_
  refine sl hK (by decide) rfl rfl (r_assign hK rfl) fun a hK => ?_
  refine wpList_nil ?_
  refine wp_seq ?_
  refine wp_seq ?_
  refine wp_region_lit ?_
  refine sl hK (by decide) rfl rfl (r_move hK rfl) fun a hK => ?_
  refine sl hK (by decide) rfl rfl (r_meq Tryd.underlying53 hK rfl rfl) fun a hK => ?_
  refine wpList_nil ?_
  refine wp_cond_false (hK.ev rfl) ?_
  refine wp_skip ?_
  refine wp_seq ?_
  refine wp_region_lit ?_
  refine sl hK (by decide) rfl rfl (r_move hK rfl) fun a hK => ?_
  refine sl hK (by decide) rfl rfl (r_mkifaceM Tryd.underlying53 hK rfl) fun a hK => ?_
  refine sl_mapsClone Tryd.func30 (by kernel_rfl) (by kernel_rfl) (by kernel_rfl) (by kernel_rfl) h0_0 (hS.ra hRA nil_not) hS hK (by decide) rfl rfl rfl fun a w mb_1 hS hK => ?_
  refine sl hK (by decide) rfl rfl (r_tassertM Tryd.underlying53 hK rfl) fun a hK => ?_
  refine sl hK (by decide) rfl rfl (r_assign hK rfl) fun a hK => ?_
  refine wpList_nil ?_
  obtain rfl := Option.some.inj H
  refine wp_ret ?_
  repeat (first | refine ret_then ?_ | refine ret_block ?_ | refine ret_scope ?_)
  exact ret_1 Tryd.results25 hK (rv_tmp hK rfl) ⟨_, rfl, _, _, rfl, hS, hRL⟩

/-! ### (*catchment/streams.Dict).Clone: function 14 -/
set_option maxHeartbeats 4000000 in
set_option maxRecDepth 100000 in
theorem streams_Dict_Clone.calls (a0 : streams_Dict) {w0 : World} {R : Hp} {RA : Hp} {b0 : Nat} {o0 : Nat} {v0_0 : Value} {mb0_1 : Nat} (hRA : RA.sub w0) (hR : R.sub w0) (hc0 : ∀ j u, ([.int .i64 a0.most, v0_0, .map (some mb0_1)] : List Value)[j]? = some u → RA.cell b0 (o0 + j) = some u) (h0_0 : SlB ty_streams_stream RA R v0_0 a0.l) (h0_1 : MpR RA mb0_1 (kvs Value.string (Value.int .i64) a0.ids)) {r : streams_Dict} (H : streams_Dict_Clone a0 = some r) : Calls Tryd.prog 14 #[.pointer (some ⟨b0, o0, none⟩)] w0 (Rets fun v w' => ∃ (R' : Hp) (B0 : Nat) (u1 : Value) (cu1 : List Value) (B2 : Nat), v = .pointer (some ⟨B0, 0, none⟩) ∧ St [] w0 w' R' [.cells B0 [.int .i64 r.most, u1, .map (some B2)] 56, .row 60 2 u1 r.l.length cu1, .mp B2 (kvs Value.string (Value.int .i64) r.ids)] ∧ RLe [] w0 R R' ∧ Reps ty_streams_stream R' cu1 r.l) := by
  unfold streams_Dict_Clone at H
  refine enter (args := [.pointer (some ⟨b0, o0, none⟩)]) Tryd.func14 rfl Tryd.ntmps14 rfl fun a hK => ?_
  have hS := St.init hR
  have hRL := RLe.refl (M := []) w0 R
  refine wp_seq ?_
  refine wp_region_lit ?_
  refine sl hK (by decide) rfl rfl (r_assign hK rfl) fun a hK => ?_
  refine wpList_nil ?_
  refine wp_seq ?_
  refine parT_region (C := fun w => St [] w0 w R []) 14 [(0, true), (1, true), (2, true), (3, true), (4, true), (5, true), (6, true), (7, true), (9, true), (10, true), (11, true), (12, true), (8, false), (13, false)] mixed (by kernel_rfl) hS (fun w hS => hS) fun w hS => ?_
  refine sp (k := 0) rfl hK (by decide) rfl rfl (fun w hS => r_move hK rfl) fun a hK => ?_
  refine sp (k := 1) rfl hK (by decide) rfl rfl (fun w hS => r_nilCheck hK rfl) fun a hK => ?_
  refine sp (k := 2) rfl hK (by decide) rfl rfl (fun w hS => r_fieldAddr Tryd.underlying56 rfl Tryd.sizeOf3 hK rfl) fun a hK => ?_
  refine sp (k := 3) rfl hK (by decide) rfl rfl (fun w hS => r_load Tryd.isAgg3 hK rfl ((hS.ra hRA nil_not).cell (hc0 0 _ rfl))) fun a hK => ?_
  refine sp (k := 4) rfl hK (by decide) rfl rfl (fun w hS => r_move hK rfl) fun a hK => ?_
  refine sp (k := 5) rfl hK (by decide) rfl rfl (fun w hS => r_nilCheck hK rfl) fun a hK => ?_
  refine sp (k := 6) rfl hK (by decide) rfl rfl (fun w hS => r_fieldAddr Tryd.underlying56 rfl Tryd.sizeOf54 hK rfl) fun a hK => ?_
  refine sp (k := 7) rfl hK (by decide) rfl rfl (fun w hS => r_load Tryd.isAgg54 hK rfl ((hS.ra hRA nil_not).cell (hc0 1 _ rfl))) fun a hK => ?_
  refine sp (k := 9) rfl hK (by decide) rfl rfl (fun w hS => r_move hK rfl) fun a hK => ?_
  refine sp (k := 10) rfl hK (by decide) rfl rfl (fun w hS => r_nilCheck hK rfl) fun a hK => ?_
  refine sp (k := 11) rfl hK (by decide) rfl rfl (fun w hS => r_fieldAddr Tryd.underlying56 rfl Tryd.sizeOf53 hK rfl) fun a hK => ?_
  refine sp (k := 12) rfl hK (by decide) rfl rfl (fun w hS => r_load Tryd.isAgg53 hK rfl ((hS.ra hRA nil_not).cell (hc0 2 _ rfl))) fun a hK => ?_
  refine spw (k := 8) rfl rfl hS ?_
  obtain ⟨y_16, h_17, H⟩ := bind_some H
  refine sl_call Tryd.call24 hK (by decide) rfl rfl rfl (slices_Clone_streams_stream_streams_stream.calls a0.l (lentOf_sub [] _) hS.sub ((h0_0.monoR (Hp.le.refl _)).monoA (hS.raLe0 hRA nil_not)) h_17) fun a v_ w hv_ hK => ?_
  obtain ⟨R_18, v_21, cs_22, hv_, hr_, hl_19, hq_23⟩ := hv_
  have hv_ := hv_.symm
  subst hv_
  obtain ⟨hS, hl_19⟩ := hS.sp0.back hr_ hl_19
  have hS := hS.un1
  have hRL := hRL.trans hl_19
  refine parK_nil ((hS.trunc 0).lower hl_19.le) ?_
  refine spw (k := 13) rfl rfl ((hS.trunc 0).lower hl_19.le) ?_
  obtain ⟨y_24, h_25, H⟩ := bind_some H
  refine sl_call Tryd.call25 hK (by decide) rfl rfl rfl (maps_Clone_map_string_int_string_int.calls a0.ids (lentOf_sub [] _) hS.sub (h0_1.mono (hS.raLe0 hRA nil_not)) h_25) fun a v_ w hv_ hK => ?_
  obtain ⟨R_26, mb_28, hv_, hr_, hl_27⟩ := hv_
  have hv_ := hv_.symm
  subst hv_
  obtain ⟨hS, hl_27⟩ := hS.sp0.back hr_ hl_27
  have hS := hS.un1
  have hRL := hRL.trans hl_27
  refine parK_nil ((hS.trunc 0).lower (hl_19.le.trans hl_27.le)) ?_
  refine thenL_nil ?_
  have ho_29 := hS.row_one (.tail _ (.head _))
  refine sl hK (by decide) rfl rfl (r_buildC (ps := [(0, .int .i64 a0.most), (1, v_21), (2, .map (some mb_28))]) (c := [.int .i64 a0.most, v_21, .map (some mb_28)]) Tryd.underlying56 Tryd.zeroValue56 places56 hK rfl (pc_cons rfl (pc_cons (cells1 ho_29) (pc_cons rfl pc_nil))) rfl rfl) fun a hK => ?_
  refine sl_box hS hK (by decide) rfl rfl (c := [.int .i64 a0.most, v_21, .map (some mb_28)]) rfl fun a w b_30 hS hK => ?_
  refine sl hK (by decide) rfl rfl (r_assign hK rfl) fun a hK => ?_
  refine wpList_nil (NoP_nil ?_)
  obtain rfl := Option.some.inj H
  refine wp_ret ?_
  repeat (first | refine ret_then ?_ | refine ret_block ?_ | refine ret_scope ?_)
  exact ret_1 Tryd.results14 hK (rv_tmp hK rfl) ⟨_, rfl, _, _, _, _, _, rfl, hS.pk1.pk2.pk2, hRL, (hq_23.mono hl_27.le)⟩

/-! ### (*catchment/catchmentref06.Dict).Find: function 15 -/
set_option maxHeartbeats 4000000 in
set_option maxRecDepth 100000 in
theorem ref06_Dict_Find.calls (a0 : catchmentref06_Dict) (a1 : ByteArray) (a2 : List api_Value) {w0 : World} {RA : Hp} {b0 : Nat} {o0 : Nat} {v0_0 : Value} {v2_0 : Value} (hRA : RA.sub w0) (hc0 : ∀ j u, ([.int .i64 a0.Most, v0_0] : List Value)[j]? = some u → RA.cell b0 (o0 + j) = some u) (h0_0 : SlR ty_catchmentref06_Stream RA v0_0 a0.L) (h2_0 : SlR ty_api_Value RA v2_0 a2) {r : Int × Bool} (H : ref06_Dict_Find a0 a1 a2 = some r) : CallsV Tryd.prog 15 #[.pointer (some ⟨b0, o0, none⟩), .string a1, v2_0] w0 (.tuple #[.int .i64 r.1, .bool r.2]) := by
  unfold ref06_Dict_Find at H
  refine enter (args := [.pointer (some ⟨b0, o0, none⟩), .string a1, v2_0]) Tryd.func15 rfl Tryd.ntmps15 rfl fun a hK => ?_
  have hS := St.init (R := fun _ => none) (w := w0) (fun _ _ h => by cases h)
  have hRL := RLe.refl (M := []) w0 (fun _ => none)
  refine wp_seq ?_
  refine wp_region_lit ?_
  refine sl hK (by decide) rfl rfl (r_assign hK rfl) fun a hK => ?_
  refine sl hK (by decide) rfl rfl (r_assign hK rfl) fun a hK => ?_
  refine wpList_nil ?_
  refine wp_seq ?_
  refine wp_seq ?_
  refine wp_region_lit ?_
  refine sl hK (by decide) rfl rfl (r_assign hK rfl) fun a hK => ?_
  refine wpList_nil ?_
  refine wp_block ?_
  refine wp_loop_k (fun k_l0 a w => ∃ (x_246 : Int), ref06_Dict_Find.l0 a0 a1 a2 k_l0 x_246 = some r ∧ Kn 71 a [(0, .pointer (some ⟨b0, o0, none⟩)), (1, .string a1), (2, v2_0), (8, .int .i64 x_246)] ∧ St [] w0 w (fun _ => none) []) (((a0.L.length : Int) - 0).toNat + 1) ?_ ?_
  · exact ⟨0, H, hK.sub (all_cons rfl (all_cons rfl (all_cons rfl (all_cons rfl (all_nil))))), hS⟩
  · rintro k_l0 a w ⟨x_246, H, hK, hS⟩
    cases k_l0 with
    | zero => cases H
    | succ k_l0 =>
    rw [ref06_Dict_Find.l0.eq_2] at H
    refine wp_seq ?_
    refine wp_seq ?_
    refine wp_region_lit ?_
    refine sl hK (by decide) rfl rfl (r_move hK rfl) fun a hK => ?_
    refine sl hK (by decide) rfl rfl (r_move hK rfl) fun a hK => ?_
    refine sl hK (by decide) rfl rfl (r_nilCheck hK rfl) fun a hK => ?_
    refine sl hK (by decide) rfl rfl (r_fieldAddr Tryd.underlying46 rfl Tryd.sizeOf44 hK rfl) fun a hK => ?_
    refine sl hK (by decide) rfl rfl (r_load Tryd.isAgg44 hK rfl ((hS.ra hRA nil_not).cell (hc0 1 _ rfl))) fun a hK => ?_
    refine sl hK (by decide) rfl rfl (r_len_R Tryd.underlying44 h0_0 hK rfl) fun a hK => ?_
    refine sl hK (by decide) rfl rfl (r_ibin hK rfl rfl rfl) fun a hK => ?_
    refine wpList_nil ?_
    refine wp_cond_split (hK.ev rfl) (fun (hb_492 : (decide (x_246 < (a0.L.length : Int))) = true) => ?_) (fun (hb_492 : (decide (x_246 < (a0.L.length : Int))) = false) => ?_)
    · rw [ifb_t hb_492] at H
      refine wp_skip ?_
      refine wp_seq ?_
      refine wp_block ?_
      refine wp_seq ?_
      refine wp_mid (fun a w => ∃ (x_516 : Bool), ref06_Dict_Find.j1 (ref06_Dict_Find.l0 a0 a1 a2 k_l0) a0 a2 x_246 x_516 = some r ∧ Kn 71 a [(0, .pointer (some ⟨b0, o0, none⟩)), (1, .string a1), (2, v2_0), (8, .int .i64 x_246), (9, .bool x_516)] ∧ St [] w0 w (fun _ => none) []) ?_ ?_
      · refine wp_region_lit ?_
        refine sl hK (by decide) rfl rfl (r_move hK rfl) fun a hK => ?_
        refine sl hK (by decide) rfl rfl (r_nilCheck hK rfl) fun a hK => ?_
        refine sl hK (by decide) rfl rfl (r_fieldAddr Tryd.underlying46 rfl Tryd.sizeOf44 hK rfl) fun a hK => ?_
        refine sl hK (by decide) rfl rfl (r_load Tryd.isAgg44 hK rfl ((hS.ra hRA nil_not).cell (hc0 1 _ rfl))) fun a hK => ?_
        refine sl hK (by decide) rfl rfl (r_move hK rfl) fun a hK => ?_
        obtain ⟨y_518, h_519, H⟩ := bind_some H
        obtain ⟨b_520, o_521, c_522, cs_523, hv_524, hr_525, hc_526, h_5190, h_5191⟩ := h0_0.ix h_519
        obtain ⟨v_527, rfl, hs_528⟩ := hr_525
        refine sl hK (by decide) rfl rfl (r_indexAddr_R Tryd.underlying44 Tryd.sizeOf51 hv_524 h_5190 h_5191 hK rfl rfl) fun a hK => ?_
        refine sl hK (by decide) rfl rfl (r_fieldAddr Tryd.underlying51 rfl Tryd.sizeOf9 hK rfl) fun a hK => ?_
        refine sl hK (by decide) rfl rfl (r_load Tryd.isAgg9 hK rfl ((hS.ra hRA nil_not).cell (hc_526 0 _ rfl))) fun a hK => ?_
        refine sl hK (by decide) rfl rfl (r_move hK rfl) fun a hK => ?_
        refine sl hK (by decide) rfl rfl (r_sbin hK rfl rfl rfl) fun a hK => ?_
        refine sl hK (by decide) rfl rfl (r_move hK rfl) fun a hK => ?_
        rcases or_b (y_518.Name.toList == a1.toList) with hb_529 | hb_529
        · rw [ifb_t hb_529] at H
          refine sl hK (by decide) (wtt hb_529) rfl (r_move hK rfl) fun a hK => ?_
          refine sl hK (by decide) (wtt hb_529) rfl (r_nilCheck hK rfl) fun a hK => ?_
          refine sl hK (by decide) (wtt hb_529) rfl (r_fieldAddr Tryd.underlying46 rfl Tryd.sizeOf44 hK rfl) fun a hK => ?_
          refine sl hK (by decide) (wtt hb_529) rfl (r_load Tryd.isAgg44 hK rfl ((hS.ra hRA nil_not).cell (hc0 1 _ rfl))) fun a hK => ?_
          refine sl hK (by decide) (wtt hb_529) rfl (r_move hK rfl) fun a hK => ?_
          obtain ⟨y_530, h_531, H⟩ := bind_some H
          obtain ⟨b_532, o_533, c_534, cs_535, hv_536, hr_537, hc_538, h_5310, h_5311⟩ := h0_0.ix h_531
          obtain ⟨v_539, rfl, hs_540⟩ := hr_537
          refine sl hK (by decide) (wtt hb_529) rfl (r_indexAddr_R Tryd.underlying44 Tryd.sizeOf51 hv_536 h_5310 h_5311 hK rfl rfl) fun a hK => ?_
          refine sl hK (by decide) (wtt hb_529) rfl (r_fieldAddr Tryd.underlying51 rfl Tryd.sizeOf30 hK rfl) fun a hK => ?_
          refine sl hK (by decide) (wtt hb_529) rfl (r_load Tryd.isAgg30 hK rfl ((hS.ra hRA nil_not).cell (hc_538 1 _ rfl))) fun a hK => ?_
          refine sl hK (by decide) (wtt hb_529) rfl (r_len_R Tryd.underlying30 hs_540 hK rfl) fun a hK => ?_
          refine sl hK (by decide) (wtt hb_529) rfl (r_move hK rfl) fun a hK => ?_
          refine sl hK (by decide) (wtt hb_529) rfl (r_len_R Tryd.underlying30 h2_0 hK rfl) fun a hK => ?_
          refine sl hK (by decide) (wtt hb_529) rfl (r_ibin hK rfl rfl rfl) fun a hK => ?_
          refine sl hK (by decide) rfl rfl (r_pick_t hb_529 hK rfl rfl) fun a hK => ?_
          refine sl hK (by decide) rfl rfl (r_assign hK rfl) fun a hK => ?_
          refine wpList_nil ?_
          exact ⟨((y_530.Keys.length : Int) == (a2.length : Int)), H, hK.sub (all_cons rfl (all_cons rfl (all_cons rfl (all_cons rfl (all_cons rfl (all_nil)))))), hS⟩
        · rw [ifb_f hb_529] at H
          refine sl_skip hK (by decide) (wtf hb_529) rfl fun a hK => ?_
          refine sl_skip hK (by decide) (wtf hb_529) rfl fun a hK => ?_
          refine sl_skip hK (by decide) (wtf hb_529) rfl fun a hK => ?_
          refine sl_skip hK (by decide) (wtf hb_529) rfl fun a hK => ?_
          refine sl_skip hK (by decide) (wtf hb_529) rfl fun a hK => ?_
          refine sl_skip hK (by decide) (wtf hb_529) rfl fun a hK => ?_
          refine sl_skip hK (by decide) (wtf hb_529) rfl fun a hK => ?_
          refine sl_skip hK (by decide) (wtf hb_529) rfl fun a hK => ?_
          refine sl_skip hK (by decide) (wtf hb_529) rfl fun a hK => ?_
          refine sl_skip hK (by decide) (wtf hb_529) rfl fun a hK => ?_
          refine sl_skip hK (by decide) (wtf hb_529) rfl fun a hK => ?_
          refine sl_skip hK (by decide) (wtf hb_529) rfl fun a hK => ?_
          refine sl hK (by decide) rfl rfl (r_pick_f hb_529 hK rfl rfl) fun a hK => ?_
          refine sl hK (by decide) rfl rfl (r_assign hK rfl) fun a hK => ?_
          refine wpList_nil ?_
          exact ⟨false, H, hK.sub (all_cons rfl (all_cons rfl (all_cons rfl (all_cons rfl (all_cons rfl (all_nil)))))), hS⟩
      · rintro a w ⟨x_516, H, hK, hS⟩
        unfold ref06_Dict_Find.j1 at H
        refine wp_seq ?_
        refine wp_seq ?_
        refine wp_region_lit ?_
        refine sl hK (by decide) rfl rfl (r_assign hK rfl) fun a hK => ?_
        refine wpList_nil ?_
        refine wp_block ?_
        refine wp_loop_k (fun k_l2 a w => ∃ (x_605 : Bool) (x_606 : Int), ref06_Dict_Find.l2 (ref06_Dict_Find.l0 a0 a1 a2 k_l0) a0 a2 x_246 k_l2 x_605 x_606 = some r ∧ Kn 71 a [(0, .pointer (some ⟨b0, o0, none⟩)), (1, .string a1), (2, v2_0), (8, .int .i64 x_246), (9, .bool x_605), (10, .int .i64 x_606)] ∧ St [] w0 w (fun _ => none) []) (((a2.length : Int) - 0).toNat + 1) ?_ ?_
        · exact ⟨x_516, 0, H, hK.sub (all_cons rfl (all_cons rfl (all_cons rfl (all_cons rfl (all_cons rfl (all_cons rfl (all_nil))))))), hS⟩
        · rintro k_l2 a w ⟨x_605, x_606, H, hK, hS⟩
          cases k_l2 with
          | zero => cases H
          | succ k_l2 =>
          rw [ref06_Dict_Find.l2.eq_2] at H
          refine wp_seq ?_
          refine wp_seq ?_
          refine wp_mid (fun a w => ∃ (x_673 : Bool), ref06_Dict_Find.j3 (ref06_Dict_Find.l0 a0 a1 a2 k_l0) (ref06_Dict_Find.l2 (ref06_Dict_Find.l0 a0 a1 a2 k_l0) a0 a2 x_246 k_l2) a0 a2 x_246 x_605 x_606 x_673 = some r ∧ Kn 71 a [(0, .pointer (some ⟨b0, o0, none⟩)), (1, .string a1), (2, v2_0), (8, .int .i64 x_246), (9, .bool x_605), (10, .int .i64 x_606), (50, .bool x_673)] ∧ St [] w0 w (fun _ => none) []) ?_ ?_
          · refine wp_region_lit ?_
            refine sl hK (by decide) rfl rfl (r_move hK rfl) fun a hK => ?_
            refine sl hK (by decide) rfl rfl (r_move hK rfl) fun a hK => ?_
            refine sl hK (by decide) rfl rfl (r_len_R Tryd.underlying30 h2_0 hK rfl) fun a hK => ?_
            refine sl hK (by decide) rfl rfl (r_ibin hK rfl rfl rfl) fun a hK => ?_
            refine sl hK (by decide) rfl rfl (r_move hK rfl) fun a hK => ?_
            rcases or_b (decide (x_606 < (a2.length : Int))) with hb_675 | hb_675
            · rw [ifb_t hb_675] at H
              refine sl hK (by decide) (wtt hb_675) rfl (r_move hK rfl) fun a hK => ?_
              refine sl hK (by decide) rfl rfl (r_pick_t hb_675 hK rfl rfl) fun a hK => ?_
              refine wpList_nil ?_
              exact ⟨x_605, H, hK.sub (all_cons rfl (all_cons rfl (all_cons rfl (all_cons rfl (all_cons rfl (all_cons rfl (all_cons rfl (all_nil)))))))), hS⟩
            · rw [ifb_f hb_675] at H
              refine sl_skip hK (by decide) (wtf hb_675) rfl fun a hK => ?_
              refine sl hK (by decide) rfl rfl (r_pick_f hb_675 hK rfl rfl) fun a hK => ?_
              refine wpList_nil ?_
              exact ⟨false, H, hK.sub (all_cons rfl (all_cons rfl (all_cons rfl (all_cons rfl (all_cons rfl (all_cons rfl (all_cons rfl (all_nil)))))))), hS⟩
          · rintro a w ⟨x_673, H, hK, hS⟩
            unfold ref06_Dict_Find.j3 at H
            refine wp_cond_split (hK.ev rfl) (fun (hb_676 : x_673 = true) => ?_) (fun (hb_676 : x_673 = false) => ?_)
            · rw [ifb_t hb_676] at H
              refine wp_skip ?_
              refine wp_seq ?_
              refine wp_block ?_
              refine par_region (C := fun w => St [] w0 w (fun _ => none) []) [(0, true), (1, true), (2, true), (3, true), (4, true), (5, true), (6, true), (7, true), (8, true), (9, true), (10, true), (11, true), (12, true), (13, true), (14, true), (15, true), (16, true)] mixed (by kernel_rfl) hS (fun w hS => hS) fun w hS => ?_
              refine sp (k := 0) rfl hK (by decide) rfl rfl (fun w hS => r_move hK rfl) fun a hK => ?_
              refine sp (k := 1) rfl hK (by decide) rfl rfl (fun w hS => r_nilCheck hK rfl) fun a hK => ?_
              refine sp (k := 2) rfl hK (by decide) rfl rfl (fun w hS => r_fieldAddr Tryd.underlying46 rfl Tryd.sizeOf44 hK rfl) fun a hK => ?_
              refine sp (k := 3) rfl hK (by decide) rfl rfl (fun w hS => r_load Tryd.isAgg44 hK rfl ((hS.ra hRA nil_not).cell (hc0 1 _ rfl))) fun a hK => ?_
              refine sp (k := 4) rfl hK (by decide) rfl rfl (fun w hS => r_move hK rfl) fun a hK => ?_
              obtain ⟨y_706, h_707, H⟩ := bind_some H
              obtain ⟨b_708, o_709, c_710, cs_711, hv_712, hr_713, hc_714, h_7070, h_7071⟩ := h0_0.ix h_707
              obtain ⟨v_715, rfl, hs_716⟩ := hr_713
              refine sp (k := 5) rfl hK (by decide) rfl rfl (fun w hS => r_indexAddr_R Tryd.underlying44 Tryd.sizeOf51 hv_712 h_7070 h_7071 hK rfl rfl) fun a hK => ?_
              refine sp (k := 6) rfl hK (by decide) rfl rfl (fun w hS => r_fieldAddr Tryd.underlying51 rfl Tryd.sizeOf30 hK rfl) fun a hK => ?_
              refine sp (k := 7) rfl hK (by decide) rfl rfl (fun w hS => r_load Tryd.isAgg30 hK rfl ((hS.ra hRA nil_not).cell (hc_714 1 _ rfl))) fun a hK => ?_
              refine sp (k := 8) rfl hK (by decide) rfl rfl (fun w hS => r_move hK rfl) fun a hK => ?_
              obtain ⟨y_717, h_718, H⟩ := bind_some H
              obtain ⟨b_719, o_720, c_721, cs_722, hv_723, hr_724, hc_725, h_7180, h_7181⟩ := hs_716.ix h_718
              subst hr_724
              refine sp (k := 9) rfl hK (by decide) rfl rfl (fun w hS => r_indexAddr_R Tryd.underlying30 Tryd.sizeOf50 hv_723 h_7180 h_7181 hK rfl rfl) fun a hK => ?_
              refine sp (k := 10) rfl hK (by decide) rfl rfl (fun w hS => r_loadA (cs := [.int .i64 y_717.Kind, .int .i64 y_717.N, .string y_717.S, .int .i64 y_717.H.a0, .int .i64 y_717.H.a1, .int .i64 y_717.H.a2, .int .i64 y_717.H.a3, .int .i64 y_717.H.a4, .int .i64 y_717.H.a5, .int .i64 y_717.H.a6, .int .i64 y_717.H.a7]) Tryd.isAgg50 Tryd.sizeOf50 rfl hK rfl (fun j v hv => (hS.ra hRA nil_not).cell (hc_725 j v hv))) fun a hK => ?_
              refine sp (k := 11) rfl hK (by decide) rfl rfl (fun w hS => r_move hK rfl) fun a hK => ?_
              refine sp (k := 12) rfl hK (by decide) rfl rfl (fun w hS => r_move hK rfl) fun a hK => ?_
              obtain ⟨y_726, h_727, H⟩ := bind_some H
              obtain ⟨b_728, o_729, c_730, cs_731, hv_732, hr_733, hc_734, h_7270, h_7271⟩ := h2_0.ix h_727
              subst hr_733
              refine sp (k := 13) rfl hK (by decide) rfl rfl (fun w hS => r_indexAddr_R Tryd.underlying30 Tryd.sizeOf50 hv_732 h_7270 h_7271 hK rfl rfl) fun a hK => ?_
              refine sp (k := 14) rfl hK (by decide) rfl rfl (fun w hS => r_loadA (cs := [.int .i64 y_726.Kind, .int .i64 y_726.N, .string y_726.S, .int .i64 y_726.H.a0, .int .i64 y_726.H.a1, .int .i64 y_726.H.a2, .int .i64 y_726.H.a3, .int .i64 y_726.H.a4, .int .i64 y_726.H.a5, .int .i64 y_726.H.a6, .int .i64 y_726.H.a7]) Tryd.isAgg50 Tryd.sizeOf50 rfl hK rfl (fun j v hv => (hS.ra hRA nil_not).cell (hc_734 j v hv))) fun a hK => ?_
              refine sp (k := 15) rfl hK (by decide) rfl rfl (fun w hS => r_seq (by kernel_rfl) (eqs50 y_717 y_726) hK rfl rfl) fun a hK => ?_
              refine sp (k := 16) rfl hK (by decide) rfl rfl (fun w hS => r_assign hK rfl) fun a hK => ?_
              refine wpPar_nil (NoP_nil ?_)
              refine wp_region_lit ?_
              refine sl hK (by decide) rfl rfl (r_move hK rfl) fun a hK => ?_
              refine sl hK (by decide) rfl rfl (r_ibin hK rfl rfl rfl) fun a hK => ?_
              refine sl hK (by decide) rfl rfl (r_assign hK rfl) fun a hK => ?_
              refine wpList_nil ?_
              exact ⟨_, Nat.lt_succ_self _, (decide (y_717 = y_726)), (IntKind.i64.wrap (x_606 + 1)), H, hK.sub (all_cons rfl (all_cons rfl (all_cons rfl (all_cons rfl (all_cons rfl (all_cons rfl (all_nil))))))), hS⟩
            · rw [ifb_f hb_676] at H
              refine wp_exit ?_
              refine wp_seq ?_
              refine wp_region_lit ?_
              refine sl hK (by decide) rfl rfl (r_move hK rfl) fun a hK => ?_
              refine wpList_nil ?_
              refine wp_cond_split (hK.ev rfl) (fun (hb_735 : x_605 = true) => ?_) (fun (hb_735 : x_605 = false) => ?_)
              · rw [ifb_t hb_735] at H
                refine wp_seq ?_
                refine wp_region_lit ?_
                refine sl hK (by decide) rfl rfl (r_move hK rfl) fun a hK => ?_
                refine sl hK (by decide) rfl rfl (r_assign hK rfl) fun a hK => ?_
                refine sl hK (by decide) rfl rfl (r_assign hK rfl) fun a hK => ?_
                refine wpList_nil ?_
                obtain rfl := Option.some.inj H
                refine wp_ret ?_
                repeat (first | refine ret_then ?_ | refine ret_block ?_ | refine ret_scope ?_)
                exact ret_2 Tryd.results15 hK (rv_tmp hK rfl) (rv_tmp hK rfl) ⟨rfl, hS.bel⟩
              · rw [ifb_f hb_735] at H
                refine wp_skip ?_
                refine wp_region_lit ?_
                refine sl hK (by decide) rfl rfl (r_move hK rfl) fun a hK => ?_
                refine sl hK (by decide) rfl rfl (r_ibin hK rfl rfl rfl) fun a hK => ?_
                refine sl hK (by decide) rfl rfl (r_assign hK rfl) fun a hK => ?_
                refine wpList_nil ?_
                exact ⟨_, Nat.lt_succ_self _, (IntKind.i64.wrap (x_246 + 1)), H, hK.sub (all_cons rfl (all_cons rfl (all_cons rfl (all_cons rfl (all_nil))))), hS⟩
    · rw [ifb_f hb_492] at H
      refine wp_exit ?_
      refine wp_seq ?_
      refine wp_region_lit ?_
      refine sl hK (by decide) rfl rfl (r_assign hK rfl) fun a hK => ?_
      refine sl hK (by decide) rfl rfl (r_assign hK rfl) fun a hK => ?_
      refine wpList_nil ?_
      obtain rfl := Option.some.inj H
      refine wp_ret ?_
      repeat (first | refine ret_then ?_ | refine ret_block ?_ | refine ret_scope ?_)
      exact ret_2 Tryd.results15 hK (rv_tmp hK rfl) (rv_tmp hK rfl) ⟨rfl, hS.bel⟩

/-! ### catchment/catchmentref01.Valid: function 26 -/
set_option maxHeartbeats 4000000 in
set_option maxRecDepth 100000 in
theorem ref01_Valid.calls (a0 : api_Value) {r : Bool} (H : ref01_Valid a0 = some r) (w0 : World) : CallsV Tryd.prog 26 #[.agg #[.int .i64 a0.Kind, .int .i64 a0.N, .string a0.S, .int .i64 a0.H.a0, .int .i64 a0.H.a1, .int .i64 a0.H.a2, .int .i64 a0.H.a3, .int .i64 a0.H.a4, .int .i64 a0.H.a5, .int .i64 a0.H.a6, .int .i64 a0.H.a7]] w0 (.bool r) := by
  unfold ref01_Valid at H
  refine enter (args := [.agg #[.int .i64 a0.Kind, .int .i64 a0.N, .string a0.S, .int .i64 a0.H.a0, .int .i64 a0.H.a1, .int .i64 a0.H.a2, .int .i64 a0.H.a3, .int .i64 a0.H.a4, .int .i64 a0.H.a5, .int .i64 a0.H.a6, .int .i64 a0.H.a7]]) Tryd.func26 rfl Tryd.ntmps26 rfl fun a hK => ?_
  have hS := St.init (R := fun _ => none) (w := w0) (fun _ _ h => by cases h)
  have hRL := RLe.refl (M := []) w0 (fun _ => none)
  refine wp_seq ?_
  refine wp_region_lit ?_
  refine sl_box hS hK (by decide) rfl rfl (c := [.int .i64 a0.Kind, .int .i64 a0.N, .string a0.S, .int .i64 a0.H.a0, .int .i64 a0.H.a1, .int .i64 a0.H.a2, .int .i64 a0.H.a3, .int .i64 a0.H.a4, .int .i64 a0.H.a5, .int .i64 a0.H.a6, .int .i64 a0.H.a7]) rfl fun a w b_1 hS hK => ?_
  refine sl hK (by decide) rfl rfl (r_assign hK rfl) fun a hK => ?_
  refine wpList_nil ?_
  refine wp_seq ?_
  refine wp_region_lit ?_
  refine sl hK (by decide) rfl rfl (r_fieldAddr Tryd.underlying50 rfl Tryd.sizeOf48 hK rfl) fun a hK => ?_
  refine sl hK (by decide) rfl rfl (r_loadA (cs := [.int .i64 a0.H.a0, .int .i64 a0.H.a1, .int .i64 a0.H.a2, .int .i64 a0.H.a3, .int .i64 a0.H.a4, .int .i64 a0.H.a5, .int .i64 a0.H.a6, .int .i64 a0.H.a7]) Tryd.isAgg48 Tryd.sizeOf48 rfl hK rfl (hS.cells_of (m := 8) (.head _) rfl)) fun a hK => ?_
  refine sl hK (by decide) rfl rfl (r_buildAC (ps := []) (c := [.int .i64 0, .int .i64 0, .int .i64 0, .int .i64 0, .int .i64 0, .int .i64 0, .int .i64 0, .int .i64 0]) Tryd.underlying48 Tryd.zeroValue48 Tryd.sizeOf3 hK rfl pc_nil rfl rfl) fun a hK => ?_
  refine sl hK (by decide) rfl rfl (r_seq (by kernel_rfl) (eqs48 a0.H (⟨0, 0, 0, 0, 0, 0, 0, 0⟩ : Arr8)) hK rfl rfl) fun a hK => ?_
  refine sl hK (by decide) rfl rfl (r_assign hK rfl) fun a hK => ?_
  refine wpList_nil ?_
  refine wp_seq ?_
  refine wp_seq ?_
  refine wp_region_lit ?_
  refine sl hK (by decide) rfl rfl (r_fieldAddr Tryd.underlying50 rfl Tryd.sizeOf3 hK rfl) fun a hK => ?_
  refine sl hK (by decide) rfl rfl (r_load Tryd.isAgg3 hK rfl (hS.cell (.head _) rfl)) fun a hK => ?_
  refine wpList_nil ?_
  refine wp_block ?_
  refine wp_seq ?_
  refine wp_region_lit ?_
  refine sl hK (by decide) rfl rfl (r_ibin hK rfl rfl rfl) fun a hK => ?_
  refine sl hK (by decide) rfl rfl (r_assign hK rfl) fun a hK => ?_
  refine wpList_nil ?_
  refine wp_cond_split (hK.ev rfl) (fun (hb_2 : (a0.Kind == 1) = true) => ?_) (fun (hb_2 : (a0.Kind == 1) = false) => ?_)
  · rw [ifb_t hb_2] at H
    refine wp_seq ?_
    refine wp_region_lit ?_
    refine sl hK (by decide) rfl rfl (r_fieldAddr Tryd.underlying50 rfl Tryd.sizeOf9 hK rfl) fun a hK => ?_
    refine sl hK (by decide) rfl rfl (r_load Tryd.isAgg9 hK rfl (hS.cell (.head _) rfl)) fun a hK => ?_
    refine sl hK (by decide) rfl rfl (r_sbin hK rfl rfl rfl) fun a hK => ?_
    refine sl hK (by decide) rfl rfl (r_move hK rfl) fun a hK => ?_
    rcases or_b (a0.S.toList == (⟨#[]⟩ : ByteArray).toList) with hb_3 | hb_3
    · rw [ifb_t hb_3] at H
      refine sl hK (by decide) (wtt hb_3) rfl (r_move hK rfl) fun a hK => ?_
      refine sl hK (by decide) rfl rfl (r_pick_t hb_3 hK rfl rfl) fun a hK => ?_
      refine sl hK (by decide) rfl rfl (r_assign hK rfl) fun a hK => ?_
      refine wpList_nil ?_
      obtain rfl := Option.some.inj H
      refine wp_ret ?_
      repeat (first | refine ret_then ?_ | refine ret_block ?_ | refine ret_scope ?_)
      exact ret_1 Tryd.results26 hK (rv_tmp hK rfl) ⟨rfl, hS.bel⟩
    · rw [ifb_f hb_3] at H
      refine sl_skip hK (by decide) (wtf hb_3) rfl fun a hK => ?_
      refine sl hK (by decide) rfl rfl (r_pick_f hb_3 hK rfl rfl) fun a hK => ?_
      refine sl hK (by decide) rfl rfl (r_assign hK rfl) fun a hK => ?_
      refine wpList_nil ?_
      obtain rfl := Option.some.inj H
      refine wp_ret ?_
      repeat (first | refine ret_then ?_ | refine ret_block ?_ | refine ret_scope ?_)
      exact ret_1 Tryd.results26 hK (rv_tmp hK rfl) ⟨rfl, hS.bel⟩
  · rw [ifb_f hb_2] at H
    refine wp_seq ?_
    refine wp_region_lit ?_
    refine sl hK (by decide) rfl rfl (r_ibin hK rfl rfl rfl) fun a hK => ?_
    refine sl hK (by decide) rfl rfl (r_assign hK rfl) fun a hK => ?_
    refine wpList_nil ?_
    refine wp_cond_split (hK.ev rfl) (fun (hb_4 : (a0.Kind == 2) = true) => ?_) (fun (hb_4 : (a0.Kind == 2) = false) => ?_)
    · rw [ifb_t hb_4] at H
      refine wp_seq ?_
      refine wp_region_lit ?_
      refine sl hK (by decide) rfl rfl (r_fieldAddr Tryd.underlying50 rfl Tryd.sizeOf3 hK rfl) fun a hK => ?_
      refine sl hK (by decide) rfl rfl (r_load Tryd.isAgg3 hK rfl (hS.cell (.head _) rfl)) fun a hK => ?_
      refine sl hK (by decide) rfl rfl (r_ibin hK rfl rfl rfl) fun a hK => ?_
      refine sl hK (by decide) rfl rfl (r_move hK rfl) fun a hK => ?_
      rcases or_b (a0.N == 0) with hb_5 | hb_5
      · rw [ifb_t hb_5] at H
        refine sl hK (by decide) (wtt hb_5) rfl (r_move hK rfl) fun a hK => ?_
        refine sl hK (by decide) rfl rfl (r_pick_t hb_5 hK rfl rfl) fun a hK => ?_
        refine sl hK (by decide) rfl rfl (r_move hK rfl) fun a hK => ?_
        rcases or_b (decide (a0.H = (⟨0, 0, 0, 0, 0, 0, 0, 0⟩ : Arr8))) with hb_6 | hb_6
        · rw [ifb_t hb_6] at H
          refine sl hK (by decide) (wtt hb_6) rfl (r_fieldAddr Tryd.underlying50 rfl Tryd.sizeOf9 hK rfl) fun a hK => ?_
          refine sl hK (by decide) (wtt hb_6) rfl (r_load Tryd.isAgg9 hK rfl (hS.cell (.head _) rfl)) fun a hK => ?_
          refine sl hK (by decide) (wtt hb_6) rfl (r_len_str Tryd.underlying9 hK rfl) fun a hK => ?_
          refine sl hK (by decide) (wtt hb_6) rfl (r_ibin hK rfl rfl rfl) fun a hK => ?_
          refine sl hK (by decide) rfl rfl (r_pick_t hb_6 hK rfl rfl) fun a hK => ?_
          refine sl hK (by decide) rfl rfl (r_assign hK rfl) fun a hK => ?_
          refine wpList_nil ?_
          obtain rfl := Option.some.inj H
          refine wp_ret ?_
          repeat (first | refine ret_then ?_ | refine ret_block ?_ | refine ret_scope ?_)
          exact ret_1 Tryd.results26 hK (rv_tmp hK rfl) ⟨rfl, hS.bel⟩
        · rw [ifb_f hb_6] at H
          refine sl_skip hK (by decide) (wtf hb_6) rfl fun a hK => ?_
          refine sl_skip hK (by decide) (wtf hb_6) rfl fun a hK => ?_
          refine sl_skip hK (by decide) (wtf hb_6) rfl fun a hK => ?_
          refine sl_skip hK (by decide) (wtf hb_6) rfl fun a hK => ?_
          refine sl hK (by decide) rfl rfl (r_pick_f hb_6 hK rfl rfl) fun a hK => ?_
          refine sl hK (by decide) rfl rfl (r_assign hK rfl) fun a hK => ?_
          refine wpList_nil ?_
          obtain rfl := Option.some.inj H
          refine wp_ret ?_
          repeat (first | refine ret_then ?_ | refine ret_block ?_ | refine ret_scope ?_)
          exact ret_1 Tryd.results26 hK (rv_tmp hK rfl) ⟨rfl, hS.bel⟩
      · rw [ifb_f hb_5] at H
        refine sl_skip hK (by decide) (wtf hb_5) rfl fun a hK => ?_
        refine sl hK (by decide) rfl rfl (r_pick_f hb_5 hK rfl rfl) fun a hK => ?_
        refine sl hK (by decide) rfl rfl (r_move hK rfl) fun a hK => ?_
        refine sl_skip hK (by decide) rfl rfl fun a hK => ?_
        refine sl_skip hK (by decide) rfl rfl fun a hK => ?_
        refine sl_skip hK (by decide) rfl rfl fun a hK => ?_
        refine sl_skip hK (by decide) rfl rfl fun a hK => ?_
        refine sl hK (by decide) rfl rfl (r_pick hK rfl rfl rfl) fun a hK => ?_
        refine sl hK (by decide) rfl rfl (r_assign hK rfl) fun a hK => ?_
        refine wpList_nil ?_
        obtain rfl := Option.some.inj H
        refine wp_ret ?_
        repeat (first | refine ret_then ?_ | refine ret_block ?_ | refine ret_scope ?_)
        exact ret_1 Tryd.results26 hK (rv_tmp hK rfl) ⟨rfl, hS.bel⟩
    · rw [ifb_f hb_4] at H
      refine wp_seq ?_
      refine wp_region_lit ?_
      refine sl hK (by decide) rfl rfl (r_ibin hK rfl rfl rfl) fun a hK => ?_
      refine sl hK (by decide) rfl rfl (r_assign hK rfl) fun a hK => ?_
      refine wpList_nil ?_
      refine wp_cond_split (hK.ev rfl) (fun (hb_7 : (a0.Kind == 3) = true) => ?_) (fun (hb_7 : (a0.Kind == 3) = false) => ?_)
      · rw [ifb_t hb_7] at H
        refine wp_seq ?_
        refine wp_region_lit ?_
        refine sl hK (by decide) rfl rfl (r_fieldAddr Tryd.underlying50 rfl Tryd.sizeOf3 hK rfl) fun a hK => ?_
        refine sl hK (by decide) rfl rfl (r_load Tryd.isAgg3 hK rfl (hS.cell (.head _) rfl)) fun a hK => ?_
        refine sl hK (by decide) rfl rfl (r_ibin hK rfl rfl rfl) fun a hK => ?_
        refine sl hK (by decide) rfl rfl (r_move hK rfl) fun a hK => ?_
        rcases or_b (a0.N == 0) with hb_8 | hb_8
        · rw [ifb_t hb_8] at H
          refine sl_skip hK (by decide) (wft hb_8) rfl fun a hK => ?_
          refine sl_skip hK (by decide) (wft hb_8) rfl fun a hK => ?_
          refine sl_skip hK (by decide) (wft hb_8) rfl fun a hK => ?_
          refine sl hK (by decide) rfl rfl (r_pick_t hb_8 hK rfl rfl) fun a hK => ?_
          refine sl hK (by decide) rfl rfl (r_move hK rfl) fun a hK => ?_
          refine sl hK (by decide) rfl rfl (r_fieldAddr Tryd.underlying50 rfl Tryd.sizeOf9 hK rfl) fun a hK => ?_
          refine sl hK (by decide) rfl rfl (r_load Tryd.isAgg9 hK rfl (hS.cell (.head _) rfl)) fun a hK => ?_
          refine sl hK (by decide) rfl rfl (r_sbin hK rfl rfl rfl) fun a hK => ?_
          refine sl hK (by decide) rfl rfl (r_pick hK rfl rfl rfl) fun a hK => ?_
          refine sl hK (by decide) rfl rfl (r_move hK rfl) fun a hK => ?_
          rcases or_b (a0.S.toList == (⟨#[]⟩ : ByteArray).toList) with hb_9 | hb_9
          · rw [ifb_t hb_9] at H
            refine sl hK (by decide) (wtt hb_9) rfl (r_move hK rfl) fun a hK => ?_
            refine sl hK (by decide) rfl rfl (r_pick_t hb_9 hK rfl rfl) fun a hK => ?_
            refine sl hK (by decide) rfl rfl (r_assign hK rfl) fun a hK => ?_
            refine wpList_nil ?_
            obtain rfl := Option.some.inj H
            refine wp_ret ?_
            repeat (first | refine ret_then ?_ | refine ret_block ?_ | refine ret_scope ?_)
            exact ret_1 Tryd.results26 hK (rv_tmp hK rfl) ⟨rfl, hS.bel⟩
          · rw [ifb_f hb_9] at H
            refine sl_skip hK (by decide) (wtf hb_9) rfl fun a hK => ?_
            refine sl hK (by decide) rfl rfl (r_pick_f hb_9 hK rfl rfl) fun a hK => ?_
            refine sl hK (by decide) rfl rfl (r_assign hK rfl) fun a hK => ?_
            refine wpList_nil ?_
            obtain rfl := Option.some.inj H
            refine wp_ret ?_
            repeat (first | refine ret_then ?_ | refine ret_block ?_ | refine ret_scope ?_)
            exact ret_1 Tryd.results26 hK (rv_tmp hK rfl) ⟨rfl, hS.bel⟩
        · rw [ifb_f hb_8] at H
          refine sl hK (by decide) (wff hb_8) rfl (r_fieldAddr Tryd.underlying50 rfl Tryd.sizeOf3 hK rfl) fun a hK => ?_
          refine sl hK (by decide) (wff hb_8) rfl (r_load Tryd.isAgg3 hK rfl (hS.cell (.head _) rfl)) fun a hK => ?_
          refine sl hK (by decide) (wff hb_8) rfl (r_ibin hK rfl rfl rfl) fun a hK => ?_
          refine sl hK (by decide) rfl rfl (r_pick_f hb_8 hK rfl rfl) fun a hK => ?_
          refine sl hK (by decide) rfl rfl (r_move hK rfl) fun a hK => ?_
          rcases or_b (a0.N == 1) with hb_10 | hb_10
          · rw [ifb_t hb_10] at H
            refine sl hK (by decide) (wtt hb_10) rfl (r_fieldAddr Tryd.underlying50 rfl Tryd.sizeOf9 hK rfl) fun a hK => ?_
            refine sl hK (by decide) (wtt hb_10) rfl (r_load Tryd.isAgg9 hK rfl (hS.cell (.head _) rfl)) fun a hK => ?_
            refine sl hK (by decide) (wtt hb_10) rfl (r_sbin hK rfl rfl rfl) fun a hK => ?_
            refine sl hK (by decide) rfl rfl (r_pick_t hb_10 hK rfl rfl) fun a hK => ?_
            refine sl hK (by decide) rfl rfl (r_move hK rfl) fun a hK => ?_
            rcases or_b (a0.S.toList == (⟨#[]⟩ : ByteArray).toList) with hb_11 | hb_11
            · rw [ifb_t hb_11] at H
              refine sl hK (by decide) (wtt hb_11) rfl (r_move hK rfl) fun a hK => ?_
              refine sl hK (by decide) rfl rfl (r_pick_t hb_11 hK rfl rfl) fun a hK => ?_
              refine sl hK (by decide) rfl rfl (r_assign hK rfl) fun a hK => ?_
              refine wpList_nil ?_
              obtain rfl := Option.some.inj H
              refine wp_ret ?_
              repeat (first | refine ret_then ?_ | refine ret_block ?_ | refine ret_scope ?_)
              exact ret_1 Tryd.results26 hK (rv_tmp hK rfl) ⟨rfl, hS.bel⟩
            · rw [ifb_f hb_11] at H
              refine sl_skip hK (by decide) (wtf hb_11) rfl fun a hK => ?_
              refine sl hK (by decide) rfl rfl (r_pick_f hb_11 hK rfl rfl) fun a hK => ?_
              refine sl hK (by decide) rfl rfl (r_assign hK rfl) fun a hK => ?_
              refine wpList_nil ?_
              obtain rfl := Option.some.inj H
              refine wp_ret ?_
              repeat (first | refine ret_then ?_ | refine ret_block ?_ | refine ret_scope ?_)
              exact ret_1 Tryd.results26 hK (rv_tmp hK rfl) ⟨rfl, hS.bel⟩
          · rw [ifb_f hb_10] at H
            refine sl_skip hK (by decide) (wtf hb_10) rfl fun a hK => ?_
            refine sl_skip hK (by decide) (wtf hb_10) rfl fun a hK => ?_
            refine sl_skip hK (by decide) (wtf hb_10) rfl fun a hK => ?_
            refine sl hK (by decide) rfl rfl (r_pick_f hb_10 hK rfl rfl) fun a hK => ?_
            refine sl hK (by decide) rfl rfl (r_move hK rfl) fun a hK => ?_
            refine sl_skip hK (by decide) rfl rfl fun a hK => ?_
            refine sl hK (by decide) rfl rfl (r_pick hK rfl rfl rfl) fun a hK => ?_
            refine sl hK (by decide) rfl rfl (r_assign hK rfl) fun a hK => ?_
            refine wpList_nil ?_
            obtain rfl := Option.some.inj H
            refine wp_ret ?_
            repeat (first | refine ret_then ?_ | refine ret_block ?_ | refine ret_scope ?_)
            exact ret_1 Tryd.results26 hK (rv_tmp hK rfl) ⟨rfl, hS.bel⟩
      · rw [ifb_f hb_7] at H
        refine wp_seq ?_
        refine wp_region_lit ?_
        refine sl hK (by decide) rfl rfl (r_ibin hK rfl rfl rfl) fun a hK => ?_
        refine sl hK (by decide) rfl rfl (r_assign hK rfl) fun a hK => ?_
        refine wpList_nil ?_
        refine wp_cond_split (hK.ev rfl) (fun (hb_12 : (a0.Kind == 4) = true) => ?_) (fun (hb_12 : (a0.Kind == 4) = false) => ?_)
        · rw [ifb_t hb_12] at H
          refine wp_seq ?_
          refine wp_region_lit ?_
          refine sl hK (by decide) rfl rfl (r_fieldAddr Tryd.underlying50 rfl Tryd.sizeOf3 hK rfl) fun a hK => ?_
          refine sl hK (by decide) rfl rfl (r_load Tryd.isAgg3 hK rfl (hS.cell (.head _) rfl)) fun a hK => ?_
          refine sl hK (by decide) rfl rfl (r_ibin hK rfl rfl rfl) fun a hK => ?_
          refine sl hK (by decide) rfl rfl (r_move hK rfl) fun a hK => ?_
          rcases or_b (a0.N == 0) with hb_13 | hb_13
          · rw [ifb_t hb_13] at H
            refine sl hK (by decide) (wtt hb_13) rfl (r_fieldAddr Tryd.underlying50 rfl Tryd.sizeOf9 hK rfl) fun a hK => ?_
            refine sl hK (by decide) (wtt hb_13) rfl (r_load Tryd.isAgg9 hK rfl (hS.cell (.head _) rfl)) fun a hK => ?_
            refine sl hK (by decide) (wtt hb_13) rfl (r_sbin hK rfl rfl rfl) fun a hK => ?_
            refine sl hK (by decide) rfl rfl (r_pick_t hb_13 hK rfl rfl) fun a hK => ?_
            refine sl hK (by decide) rfl rfl (r_assign hK rfl) fun a hK => ?_
            refine wpList_nil ?_
            obtain rfl := Option.some.inj H
            refine wp_ret ?_
            repeat (first | refine ret_then ?_ | refine ret_block ?_ | refine ret_scope ?_)
            exact ret_1 Tryd.results26 hK (rv_tmp hK rfl) ⟨rfl, hS.bel⟩
          · rw [ifb_f hb_13] at H
            refine sl_skip hK (by decide) (wtf hb_13) rfl fun a hK => ?_
            refine sl_skip hK (by decide) (wtf hb_13) rfl fun a hK => ?_
            refine sl_skip hK (by decide) (wtf hb_13) rfl fun a hK => ?_
            refine sl hK (by decide) rfl rfl (r_pick_f hb_13 hK rfl rfl) fun a hK => ?_
            refine sl hK (by decide) rfl rfl (r_assign hK rfl) fun a hK => ?_
            refine wpList_nil ?_
            obtain rfl := Option.some.inj H
            refine wp_ret ?_
            repeat (first | refine ret_then ?_ | refine ret_block ?_ | refine ret_scope ?_)
            exact ret_1 Tryd.results26 hK (rv_tmp hK rfl) ⟨rfl, hS.bel⟩
        · rw [ifb_f hb_12] at H
          refine wp_skip ?_
          refine wp_seq ?_
          refine wp_region_lit ?_
          refine sl hK (by decide) rfl rfl (r_assign hK rfl) fun a hK => ?_
          refine wpList_nil ?_
          obtain rfl := Option.some.inj H
          refine wp_ret ?_
          repeat (first | refine ret_then ?_ | refine ret_block ?_ | refine ret_scope ?_)
          exact ret_1 Tryd.results26 hK (rv_tmp hK rfl) ⟨rfl, hS.bel⟩

/-! ### (*catchment/catchmentref06.Dict).Add: function 16 -/
set_option maxHeartbeats 4000000 in
set_option maxRecDepth 100000 in
theorem ref06_Dict_Add.calls (a0 : catchmentref06_Dict) (a1 : ByteArray) (a2 : List api_Value) {w0 : World} {R : Hp} {RA : Hp} {M : List Own} {b0 : Nat} {v0_0 : Value} {cs0_0 : List Value} {v2_0 : Value} (hRA : RA.sub w0) (hRM : ∀ b, blks M b → RA b = none) (hS0 : St M w0 w0 R [.cells b0 [.int .i64 a0.Most, v0_0] 46, .row 51 2 v0_0 a0.L.length cs0_0]) (h0_0 : Reps ty_catchmentref06_Stream R cs0_0 a0.L) (h2_0 : SlR ty_api_Value RA v2_0 a2) {r : Int × Int × catchmentref06_Dict} (H : ref06_Dict_Add a0 a1 a2 = some r) : Calls Tryd.prog 16 #[.pointer (some ⟨b0, 0, none⟩), .string a1, v2_0] w0 (Rets fun v w' => ∃ (R' : Hp) (u0 : Value) (cu0 : List Value), v = .tuple #[.int .i64 r.1, .int .i64 r.2.1] ∧ St M w0 w' R' [.cells b0 [.int .i64 r.2.2.Most, u0] 46, .row 51 2 u0 r.2.2.L.length cu0] ∧ RLe M w0 R R' ∧ Reps ty_catchmentref06_Stream R' cu0 r.2.2.L) := by
  unfold ref06_Dict_Add at H
  refine enter (args := [.pointer (some ⟨b0, 0, none⟩), .string a1, v2_0]) Tryd.func16 rfl Tryd.ntmps16 rfl fun a hK => ?_
  have hS := hS0
  have hRL := RLe.refl (M := M) w0 R
  refine wp_seq ?_
  refine wp_region_lit ?_
  refine sl hK (by decide) rfl rfl (r_assign hK rfl) fun a hK => ?_
  refine sl hK (by decide) rfl rfl (r_assign hK rfl) fun a hK => ?_
  refine wpList_nil ?_
  refine wp_seq ?_
  refine wp_seq ?_
  refine wp_region_lit ?_
  refine sl hK (by decide) rfl rfl (r_assign hK rfl) fun a hK => ?_
  refine wpList_nil ?_
  refine wp_block ?_
  refine wp_loop_k (fun k_l0 a w => ∃ (x_15 : Int), ref06_Dict_Add.l0 a0 a1 a2 k_l0 x_15 = some r ∧ Kn 62 a [(0, .pointer (some ⟨b0, 0, none⟩)), (1, .string a1), (2, v2_0), (8, .int .i64 x_15)] ∧ St M w0 w R [.row 51 2 v0_0 a0.L.length cs0_0, .cells b0 [.int .i64 a0.Most, v0_0] 46]) (((a2.length : Int) - 0).toNat + 1) ?_ ?_
  · have hS := hS.pk1
    exact ⟨0, H, hK.sub (all_cons rfl (all_cons rfl (all_cons rfl (all_cons rfl (all_nil))))), hS⟩
  · rintro k_l0 a w ⟨x_15, H, hK, hS⟩
    cases k_l0 with
    | zero => cases H
    | succ k_l0 =>
    rw [ref06_Dict_Add.l0.eq_2] at H
    refine wp_seq ?_
    refine wp_seq ?_
    refine wp_region_lit ?_
    refine sl hK (by decide) rfl rfl (r_move hK rfl) fun a hK => ?_
    refine sl hK (by decide) rfl rfl (r_move hK rfl) fun a hK => ?_
    refine sl hK (by decide) rfl rfl (r_len_R Tryd.underlying30 h2_0 hK rfl) fun a hK => ?_
    refine sl hK (by decide) rfl rfl (r_ibin hK rfl rfl rfl) fun a hK => ?_
    refine wpList_nil ?_
    refine wp_cond_split (hK.ev rfl) (fun (hb_30 : (decide (x_15 < (a2.length : Int))) = true) => ?_) (fun (hb_30 : (decide (x_15 < (a2.length : Int))) = false) => ?_)
    · rw [ifb_t hb_30] at H
      refine wp_skip ?_
      refine wp_seq ?_
      refine wp_block ?_
      refine wp_seq ?_
      refine wp_region_lit ?_
      refine sl hK (by decide) rfl rfl (r_move hK rfl) fun a hK => ?_
      refine sl hK (by decide) rfl rfl (r_move hK rfl) fun a hK => ?_
      obtain ⟨y_31, h_32, H⟩ := bind_some H
      obtain ⟨b_33, o_34, c_35, cs_36, hv_37, hr_38, hc_39, h_320, h_321⟩ := h2_0.ix h_32
      subst hr_38
      refine sl hK (by decide) rfl rfl (r_indexAddr_R Tryd.underlying30 Tryd.sizeOf50 hv_37 h_320 h_321 hK rfl rfl) fun a hK => ?_
      refine sl hK (by decide) rfl rfl (r_loadA (cs := [.int .i64 y_31.Kind, .int .i64 y_31.N, .string y_31.S, .int .i64 y_31.H.a0, .int .i64 y_31.H.a1, .int .i64 y_31.H.a2, .int .i64 y_31.H.a3, .int .i64 y_31.H.a4, .int .i64 y_31.H.a5, .int .i64 y_31.H.a6, .int .i64 y_31.H.a7]) Tryd.isAgg50 Tryd.sizeOf50 rfl hK rfl (fun j v hv => (hS.ra hRA hRM).cell (hc_39 j v hv))) fun a hK => ?_
      obtain ⟨y_40, h_41, H⟩ := bind_some H
      refine sl_callV Tryd.call26 hS hK (by decide) rfl rfl rfl (ref01_Valid.calls y_31 h_41 _) fun a w hS hK => ?_
      refine sl hK (by decide) rfl rfl (r_un hK rfl (u_not _)) fun a hK => ?_
      refine wpList_nil ?_
      refine wp_cond_split (hK.ev rfl) (fun (hb_42 : (!y_40) = true) => ?_) (fun (hb_42 : (!y_40) = false) => ?_)
      · rw [ifb_t hb_42] at H
        refine wp_seq ?_
        refine wp_region_lit ?_
        refine sl hK (by decide) rfl rfl (r_assign hK rfl) fun a hK => ?_
        refine sl hK (by decide) rfl rfl (r_assign hK rfl) fun a hK => ?_
        refine wpList_nil ?_
        obtain rfl := Option.some.inj H
        refine wp_ret ?_
        repeat (first | refine ret_then ?_ | refine ret_block ?_ | refine ret_scope ?_)
        exact ret_2 Tryd.results16 hK (rv_tmp hK rfl) (rv_tmp hK rfl) ⟨_, rfl, _, _, _, rfl, hS.pk1, hRL, h0_0⟩
      · rw [ifb_f hb_42] at H
        refine wp_skip ?_
        refine wp_region_lit ?_
        refine sl hK (by decide) rfl rfl (r_move hK rfl) fun a hK => ?_
        refine sl hK (by decide) rfl rfl (r_ibin hK rfl rfl rfl) fun a hK => ?_
        refine sl hK (by decide) rfl rfl (r_assign hK rfl) fun a hK => ?_
        refine wpList_nil ?_
        have hS := hS.pk1
        have hS := hS.pk1
        exact ⟨_, Nat.lt_succ_self _, (IntKind.i64.wrap (x_15 + 1)), H, hK.sub (all_cons rfl (all_cons rfl (all_cons rfl (all_cons rfl (all_nil))))), hS⟩
    · rw [ifb_f hb_30] at H
      refine wp_exit ?_
      refine wp_seq ?_
      refine wp_region_lit ?_
      refine sl hK (by decide) rfl rfl (r_move hK rfl) fun a hK => ?_
      refine sl hK (by decide) rfl rfl (r_move hK rfl) fun a hK => ?_
      refine sl hK (by decide) rfl rfl (r_move hK rfl) fun a hK => ?_
      obtain ⟨y_43, h_44, H⟩ := bind_some H
      refine sl_callV Tryd.call15 hS hK (by decide) rfl rfl rfl (ref06_Dict_Find.calls a0 a1 a2 (lentOf_sub [] _) (hS.lend_box0 (.tail _ (.head _))) (hS.lend_row0 (.head _) h0_0 rfl rfl) (h2_0.mono (hS.raLe0 hRA hRM)) h_44) fun a w hS hK => ?_
      refine sl hK (by decide) rfl rfl (r_move hK rfl) fun a hK => ?_
      refine sl hK (by decide) rfl rfl (r_extract hK rfl rfl) fun a hK => ?_
      refine sl hK (by decide) rfl rfl (r_extract hK rfl rfl) fun a hK => ?_
      refine sl hK (by decide) rfl rfl (r_assign hK rfl) fun a hK => ?_
      refine sl hK (by decide) rfl rfl (r_assign hK rfl) fun a hK => ?_
      refine wpList_nil ?_
      refine wp_seq ?_
      refine wp_seq ?_
      refine wp_region_lit ?_
      refine sl hK (by decide) rfl rfl (r_move hK rfl) fun a hK => ?_
      refine wpList_nil ?_
      refine wp_cond_split (hK.ev rfl) (fun (hb_45 : y_43.2 = true) => ?_) (fun (hb_45 : y_43.2 = false) => ?_)
      · rw [ifb_t hb_45] at H
        refine wp_seq ?_
        refine wp_region_lit ?_
        refine sl hK (by decide) rfl rfl (r_move hK rfl) fun a hK => ?_
        refine sl hK (by decide) rfl rfl (r_assign hK rfl) fun a hK => ?_
        refine sl hK (by decide) rfl rfl (r_assign hK rfl) fun a hK => ?_
        refine wpList_nil ?_
        obtain rfl := Option.some.inj H
        refine wp_ret ?_
        repeat (first | refine ret_then ?_ | refine ret_block ?_ | refine ret_scope ?_)
        exact ret_2 Tryd.results16 hK (rv_tmp hK rfl) (rv_tmp hK rfl) ⟨_, rfl, _, _, _, rfl, hS.pk1, hRL, h0_0⟩
      · rw [ifb_f hb_45] at H
        refine wp_skip ?_
        refine wp_seq ?_
        refine wp_seq ?_
        refine par_region (C := fun w => St M w0 w R [.row 51 2 v0_0 a0.L.length cs0_0, .cells b0 [.int .i64 a0.Most, v0_0] 46]) [(0, true), (1, true), (2, true), (3, true), (4, true), (5, true), (6, true), (7, true), (8, true), (9, true)] mixed (by kernel_rfl) hS (fun w hS => hS) fun w hS => ?_
        refine sp (k := 0) rfl hK (by decide) rfl rfl (fun w hS => r_move hK rfl) fun a hK => ?_
        refine sp (k := 1) rfl hK (by decide) rfl rfl (fun w hS => r_nilCheck hK rfl) fun a hK => ?_
        refine sp (k := 2) rfl hK (by decide) rfl rfl (fun w hS => r_fieldAddr Tryd.underlying46 rfl Tryd.sizeOf44 hK rfl) fun a hK => ?_
        refine sp (k := 3) rfl hK (by decide) rfl rfl (fun w hS => r_load Tryd.isAgg44 hK rfl (hS.cell (.tail _ (.head _)) rfl)) fun a hK => ?_
        refine sp (k := 4) rfl hK (by decide) rfl rfl (fun w hS => r_len_O Tryd.underlying44 hS (.head _) hK rfl) fun a hK => ?_
        refine sp (k := 5) rfl hK (by decide) rfl rfl (fun w hS => r_move hK rfl) fun a hK => ?_
        refine sp (k := 6) rfl hK (by decide) rfl rfl (fun w hS => r_nilCheck hK rfl) fun a hK => ?_
        refine sp (k := 7) rfl hK (by decide) rfl rfl (fun w hS => r_fieldAddr Tryd.underlying46 rfl Tryd.sizeOf3 hK rfl) fun a hK => ?_
        refine sp (k := 8) rfl hK (by decide) rfl rfl (fun w hS => r_load Tryd.isAgg3 hK rfl (hS.cell (.tail _ (.head _)) rfl)) fun a hK => ?_
        refine sp (k := 9) rfl hK (by decide) rfl rfl (fun w hS => r_ibin hK rfl rfl rfl) fun a hK => ?_
        refine wpPar_nil (NoP_nil ?_)
        refine wp_cond_split (hK.ev rfl) (fun (hb_46 : (decide ((a0.L.length : Int) ≥ a0.Most)) = true) => ?_) (fun (hb_46 : (decide ((a0.L.length : Int) ≥ a0.Most)) = false) => ?_)
        · rw [ifb_t hb_46] at H
          refine wp_seq ?_
          refine wp_region_lit ?_
          refine sl hK (by decide) rfl rfl (r_assign hK rfl) fun a hK => ?_
          refine sl hK (by decide) rfl rfl (r_assign hK rfl) fun a hK => ?_
          refine wpList_nil ?_
          obtain rfl := Option.some.inj H
          refine wp_ret ?_
          repeat (first | refine ret_then ?_ | refine ret_block ?_ | refine ret_scope ?_)
          exact ret_2 Tryd.results16 hK (rv_tmp hK rfl) (rv_tmp hK rfl) ⟨_, rfl, _, _, _, rfl, hS.pk1, hRL, h0_0⟩
        · rw [ifb_f hb_46] at H
          refine wp_skip ?_
          refine wp_seq ?_
          refine parT_region (C := fun w => St M w0 w R [.cells b0 [.int .i64 a0.Most, v0_0] 46]) 12 [(0, true), (1, true), (2, true), (3, true), (4, true), (5, true), (7, true), (6, false), (8, false), (9, true), (10, false), (11, false)] mixed (by kernel_rfl) hS (fun w hS => (hS.pk1.trunc 1)) fun w hS => ?_
          refine sp (k := 0) rfl hK (by decide) rfl rfl (fun w hS => r_move hK rfl) fun a hK => ?_
          refine sp (k := 1) rfl hK (by decide) rfl rfl (fun w hS => r_move hK rfl) fun a hK => ?_
          refine sp (k := 2) rfl hK (by decide) rfl rfl (fun w hS => r_nilCheck hK rfl) fun a hK => ?_
          refine sp (k := 3) rfl hK (by decide) rfl rfl (fun w hS => r_fieldAddr Tryd.underlying46 rfl Tryd.sizeOf44 hK rfl) fun a hK => ?_
          refine sp (k := 4) rfl hK (by decide) rfl rfl (fun w hS => r_load Tryd.isAgg44 hK rfl (hS.cell (.head _) rfl)) fun a hK => ?_
          refine sp (k := 5) rfl hK (by decide) rfl rfl (fun w hS => r_move hK rfl) fun a hK => ?_
          refine sp (k := 7) rfl hK (by decide) rfl rfl (fun w hS => r_move hK rfl) fun a hK => ?_
          refine spw (k := 6) rfl rfl (hS.pk1.trunc 1) ?_
          refine sl_buildSliceC (zc := [.int .i64 0, .int .i64 0, .string (⟨#[]⟩ : ByteArray), .int .i64 0, .int .i64 0, .int .i64 0, .int .i64 0, .int .i64 0, .int .i64 0, .int .i64 0, .int .i64 0]) (zs := []) (ps := []) (c := []) Tryd.underlying30 Tryd.sizeOf50 Tryd.zeroValue50 rfl pc_nil rfl rfl (by decide) (by kernel_rfl) rfl hS hK (by decide) rfl fun a w b_67 hS hK => ?_
          refine parK_nil (hS.pk2.trunc 1) ?_
          refine spw (k := 8) rfl rfl (hS.pk2.trunc 1) ?_
          obtain ⟨y_70, h_71, H⟩ := bind_some H
          have hS := hS.row_lit (size := 11) (m := 0) rfl (by decide)
          have hq_69 : Reps ty_api_Value R [] ([] : List api_Value) := (Reps.nil _ _)
          refine sl_append_A elT30 (by decide) rfl (fun _ _ _ _ h => h) (hS.ra hRA hRM) hq_69 rfl h2_0 h_71 hS hK (by decide) rfl rfl rfl fun a w v_72 cs_73 hq_74 hS hK => ?_
          refine parK_nil (hS.pk2.trunc 1) ?_
          have ho_76 := hS.row_one (.head _)
          refine sp (k := 9) rfl hK (by decide) rfl rfl (fun w hS => r_buildC (ps := [(0, .string a1), (1, v_72)]) (c := [.string a1, v_72]) Tryd.underlying51 Tryd.zeroValue51 places51 hK rfl (pc_cons rfl (pc_cons (cells1 ho_76) pc_nil)) rfl rfl) fun a hK => ?_
          refine spw (k := 10) rfl rfl (hS.pk2.trunc 1) ?_
          refine sl_buildSliceF (zc := [.string (⟨#[]⟩ : ByteArray), .slice none 0 0]) (ps := [(0, .agg #[.string a1, v_72])]) (c := [.string a1, v_72]) [[.string a1, v_72]] Tryd.underlying44 Tryd.sizeOf51 Tryd.zeroValue51 rfl (pc_cons rfl pc_nil) rfl rfl (Nat.le_of_ble_eq_true rfl) rfl (all_cons rfl (all_nil)) rfl hS hK (by decide) rfl fun a w b_77 hS hK => ?_
          refine parK_nil (hS.pk3.trunc 1) ?_
          refine spw (k := 11) rfl rfl (hS.pk3.trunc 1) ?_
          have hS := hS.pk2
          have hS := hS.pk2
          obtain ⟨R_78, hS, hl_80, hs_79⟩ := hS.fz_row hq_74 rfl rfl
          have hRL := hRL.trans hl_80
          obtain ⟨y_81, h_82, H⟩ := bind_some H
          refine sl_append_L (ty := ty_catchmentref06_Stream) (ys := [(⟨a1, y_70⟩ : catchmentref06_Stream)]) elT44 (by decide) rfl (h0_0.mono hl_80.le) rfl (Reps.cons (show Ty.rep ty_catchmentref06_Stream _ [.string a1, v_72] (⟨a1, y_70⟩ : catchmentref06_Stream) from ⟨_, rfl, hs_79⟩) (Reps.nil _ _)) rfl h_82 hS hK (by decide) rfl rfl rfl fun a w v_83 cs_84 hq_85 hS hK => ?_
          refine parK_nil ((hS.pk1.trunc 1).lower hl_80.le) ?_
          refine thenL_nil ?_
          refine sl hK (by decide) rfl rfl (r_nilCheck hK rfl) fun a hK => ?_
          refine sl hK (by decide) rfl rfl (r_fieldAddr Tryd.underlying46 rfl Tryd.sizeOf44 hK rfl) fun a hK => ?_
          have hS := hS.pk1
          refine sl_store1 (c' := [.int .i64 a0.Most, v_83]) Tryd.sizeOf44 hS hK rfl rfl rfl (hS.row_one (.tail _ (.head _))) (Nat.le_of_ble_eq_true rfl) rfl fun a w hS hK => ?_
          refine wpList_nil (NoP_nil ?_)
          refine wp_seq ?_
          refine wp_region_lit ?_
          refine sl hK (by decide) rfl rfl (r_move hK rfl) fun a hK => ?_
          refine sl hK (by decide) rfl rfl (r_nilCheck hK rfl) fun a hK => ?_
          refine sl hK (by decide) rfl rfl (r_fieldAddr Tryd.underlying46 rfl Tryd.sizeOf44 hK rfl) fun a hK => ?_
          refine sl hK (by decide) rfl rfl (r_load Tryd.isAgg44 hK rfl (hS.cell (.head _) rfl)) fun a hK => ?_
          refine sl hK (by decide) rfl rfl (r_len_O Tryd.underlying44 hS (.tail _ (.head _)) hK rfl) fun a hK => ?_
          refine sl hK (by decide) rfl rfl (r_ibin hK rfl rfl rfl) fun a hK => ?_
          refine sl hK (by decide) rfl rfl (r_assign hK rfl) fun a hK => ?_
          refine sl hK (by decide) rfl rfl (r_assign hK rfl) fun a hK => ?_
          refine wpList_nil ?_
          obtain rfl := Option.some.inj H
          refine wp_ret ?_
          repeat (first | refine ret_then ?_ | refine ret_block ?_ | refine ret_scope ?_)
          exact ret_2 Tryd.results16 hK (rv_tmp hK rfl) (rv_tmp hK rfl) ⟨_, rfl, _, _, _, rfl, hS, hRL, hq_85⟩

/-! ### (*catchment/catchmentref06.Dict).Of: function 17 -/
set_option maxHeartbeats 4000000 in
set_option maxRecDepth 100000 in
theorem ref06_Dict_Of.calls (a0 : catchmentref06_Dict) (a1 : ByteArray) {w0 : World} {R : Hp} {RA : Hp} {b0 : Nat} {o0 : Nat} {v0_0 : Value} (hRA : RA.sub w0) (hR : R.sub w0) (hc0 : ∀ j u, ([.int .i64 a0.Most, v0_0] : List Value)[j]? = some u → RA.cell b0 (o0 + j) = some u) (h0_0 : SlR ty_catchmentref06_Stream RA v0_0 a0.L) {r : List Int} (H : ref06_Dict_Of a0 a1 = some r) : Calls Tryd.prog 17 #[.pointer (some ⟨b0, o0, none⟩), .string a1] w0 (Rets fun v w' => ∃ (R' : Hp) (u0 : Value) (cu0 : List Value), v = u0 ∧ St [] w0 w' R' [.row 3 1 u0 r.length cu0] ∧ RLe [] w0 R R' ∧ Reps (tyInt .i64) R' cu0 r) := by
  unfold ref06_Dict_Of at H
  refine enter (args := [.pointer (some ⟨b0, o0, none⟩), .string a1]) Tryd.func17 rfl Tryd.ntmps17 rfl fun a hK => ?_
  have hS := St.init hR
  have hRL := RLe.refl (M := []) w0 R
  refine wp_seq ?_
  refine wp_region_lit ?_
  refine sl hK (by decide) rfl rfl (r_assign hK rfl) fun a hK => ?_
  refine wpList_nil ?_
  refine wp_seq ?_
  refine wp_region_lit ?_
  refine sl hK (by decide) rfl rfl (r_assign hK rfl) fun a hK => ?_
  refine wpList_nil ?_
  refine wp_seq ?_
  refine wp_seq ?_
  refine wp_region_lit ?_
  refine sl hK (by decide) rfl rfl (r_assign hK rfl) fun a hK => ?_
  refine wpList_nil ?_
  refine wp_block ?_
  refine wp_loop_k (fun k_l0 a w => ∃ (x_43 : List Int) (x_47 : Int) (v_44 : Value) (cs_45 : List Value), ref06_Dict_Of.l0 a0 a1 k_l0 x_43 x_47 = some r ∧ Reps (tyInt .i64) R cs_45 x_43 ∧ Kn 31 a [(0, .pointer (some ⟨b0, o0, none⟩)), (1, .string a1), (5, v_44), (6, .int .i64 x_47)] ∧ St [] w0 w R [.row 3 1 v_44 x_43.length cs_45]) (((a0.L.length : Int) - 0).toNat + 1) ?_ ?_
  · have hS := hS.row_nil 3 1
    have hq_84 : Reps (tyInt .i64) R [] ([] : List Int) := Reps.nil _ _
    exact ⟨[], 0, _, _, H, hq_84, hK.sub (all_cons rfl (all_cons rfl (all_cons rfl (all_cons rfl (all_nil))))), hS⟩
  · rintro k_l0 a w ⟨x_43, x_47, v_44, cs_45, H, hq_46, hK, hS⟩
    cases k_l0 with
    | zero => cases H
    | succ k_l0 =>
    rw [ref06_Dict_Of.l0.eq_2] at H
    refine wp_seq ?_
    refine wp_seq ?_
    refine wp_region_lit ?_
    refine sl hK (by decide) rfl rfl (r_move hK rfl) fun a hK => ?_
    refine sl hK (by decide) rfl rfl (r_move hK rfl) fun a hK => ?_
    refine sl hK (by decide) rfl rfl (r_nilCheck hK rfl) fun a hK => ?_
    refine sl hK (by decide) rfl rfl (r_fieldAddr Tryd.underlying46 rfl Tryd.sizeOf44 hK rfl) fun a hK => ?_
    refine sl hK (by decide) rfl rfl (r_load Tryd.isAgg44 hK rfl ((hS.ra hRA nil_not).cell (hc0 1 _ rfl))) fun a hK => ?_
    refine sl hK (by decide) rfl rfl (r_len_R Tryd.underlying44 h0_0 hK rfl) fun a hK => ?_
    refine sl hK (by decide) rfl rfl (r_ibin hK rfl rfl rfl) fun a hK => ?_
    refine wpList_nil ?_
    refine wp_cond_split (hK.ev rfl) (fun (hb_85 : (decide (x_47 < (a0.L.length : Int))) = true) => ?_) (fun (hb_85 : (decide (x_47 < (a0.L.length : Int))) = false) => ?_)
    · rw [ifb_t hb_85] at H
      refine wp_skip ?_
      refine wp_seq ?_
      refine wp_block ?_
      refine wp_seq ?_
      refine wp_region_lit ?_
      refine sl hK (by decide) rfl rfl (r_move hK rfl) fun a hK => ?_
      refine sl hK (by decide) rfl rfl (r_nilCheck hK rfl) fun a hK => ?_
      refine sl hK (by decide) rfl rfl (r_fieldAddr Tryd.underlying46 rfl Tryd.sizeOf44 hK rfl) fun a hK => ?_
      refine sl hK (by decide) rfl rfl (r_load Tryd.isAgg44 hK rfl ((hS.ra hRA nil_not).cell (hc0 1 _ rfl))) fun a hK => ?_
      refine sl hK (by decide) rfl rfl (r_move hK rfl) fun a hK => ?_
      obtain ⟨y_86, h_87, H⟩ := bind_some H
      obtain ⟨b_88, o_89, c_90, cs_91, hv_92, hr_93, hc_94, h_870, h_871⟩ := h0_0.ix h_87
      obtain ⟨v_95, rfl, hs_96⟩ := hr_93
      refine sl hK (by decide) rfl rfl (r_indexAddr_R Tryd.underlying44 Tryd.sizeOf51 hv_92 h_870 h_871 hK rfl rfl) fun a hK => ?_
      refine sl hK (by decide) rfl rfl (r_fieldAddr Tryd.underlying51 rfl Tryd.sizeOf9 hK rfl) fun a hK => ?_
      refine sl hK (by decide) rfl rfl (r_load Tryd.isAgg9 hK rfl ((hS.ra hRA nil_not).cell (hc_94 0 _ rfl))) fun a hK => ?_
      refine sl hK (by decide) rfl rfl (r_move hK rfl) fun a hK => ?_
      refine sl hK (by decide) rfl rfl (r_sbin hK rfl rfl rfl) fun a hK => ?_
      refine wpList_nil ?_
      refine wp_mid (fun a w => ∃ (x_106 : List Int) (v_107 : Value) (cs_108 : List Value), ref06_Dict_Of.j1 (ref06_Dict_Of.l0 a0 a1 k_l0) a0 x_47 x_106 = some r ∧ Reps (tyInt .i64) R cs_108 x_106 ∧ Kn 31 a [(0, .pointer (some ⟨b0, o0, none⟩)), (1, .string a1), (5, v_107), (6, .int .i64 x_47)] ∧ St [] w0 w R [.row 3 1 v_107 x_106.length cs_108]) ?_ ?_
      · refine wp_cond_split (hK.ev rfl) (fun (hb_111 : (y_86.Name.toList == a1.toList) = true) => ?_) (fun (hb_111 : (y_86.Name.toList == a1.toList) = false) => ?_)
        · rw [ifb_t hb_111] at H
          refine wp_region_lit ?_
          refine sl hK (by decide) rfl rfl (r_move hK rfl) fun a hK => ?_
          refine sl hK (by decide) rfl rfl (r_move hK rfl) fun a hK => ?_
          refine sl_buildSliceF (zc := [.int .i64 0]) (ps := [(0, .int .i64 x_47)]) (c := [.int .i64 x_47]) [[.int .i64 x_47]] Tryd.underlying26 Tryd.sizeOf3 Tryd.zeroValue3 rfl (pc_cons rfl pc_nil) rfl rfl (Nat.le_of_ble_eq_true rfl) rfl (all_cons rfl (all_nil)) rfl hS hK (by decide) rfl fun a w b_112 hS hK => ?_
          obtain ⟨y_113, h_114, H⟩ := bind_some H
          have hS := hS.pk1
          refine sl_append_L (ty := (tyInt .i64)) (ys := [x_47]) elT26 (by decide) rfl hq_46 rfl (Reps.cons (show Ty.rep (tyInt .i64) _ [.int .i64 x_47] x_47 from rfl) (Reps.nil _ _)) rfl h_114 hS hK (by decide) rfl rfl rfl fun a w v_115 cs_116 hq_117 hS hK => ?_
          refine sl hK (by decide) rfl rfl (r_assign hK rfl) fun a hK => ?_
          refine wpList_nil ?_
          exact ⟨y_113, _, _, H, hq_117, hK.sub (all_cons rfl (all_cons rfl (all_cons rfl (all_cons rfl (all_nil))))), hS⟩
        · rw [ifb_f hb_111] at H
          refine wp_skip ?_
          exact ⟨x_43, _, _, H, hq_46, hK.sub (all_cons rfl (all_cons rfl (all_cons rfl (all_cons rfl (all_nil))))), hS⟩
      · rintro a w ⟨x_106, v_107, cs_108, H, hq_109, hK, hS⟩
        unfold ref06_Dict_Of.j1 at H
        refine wp_region_lit ?_
        refine sl hK (by decide) rfl rfl (r_move hK rfl) fun a hK => ?_
        refine sl hK (by decide) rfl rfl (r_ibin hK rfl rfl rfl) fun a hK => ?_
        refine sl hK (by decide) rfl rfl (r_assign hK rfl) fun a hK => ?_
        refine wpList_nil ?_
        exact ⟨_, Nat.lt_succ_self _, x_106, (IntKind.i64.wrap (x_47 + 1)), _, _, H, hq_109, hK.sub (all_cons rfl (all_cons rfl (all_cons rfl (all_cons rfl (all_nil))))), hS⟩
    · rw [ifb_f hb_85] at H
      refine wp_exit ?_
      refine wp_seq ?_
      refine wp_region_lit ?_
      refine sl hK (by decide) rfl rfl (r_move hK rfl) fun a hK => ?_
      refine sl hK (by decide) rfl rfl (r_assign hK rfl) fun a hK => ?_
      refine wpList_nil ?_
      obtain rfl := Option.some.inj H
      refine wp_ret ?_
      repeat (first | refine ret_then ?_ | refine ret_block ?_ | refine ret_scope ?_)
      exact ret_1 Tryd.results17 hK (rv_tmp hK rfl) ⟨_, rfl, _, _, _, rfl, hS, hRL, hq_46⟩

/-! ### catchment/catchmentlaw06.StreamsPlays: function 5 -/
set_option maxHeartbeats 4000000 in
set_option maxRecDepth 100000 in
theorem law06_StreamsPlays.calls (a0 : Int) (a1 : List catchmentlaw06_Stream) {w0 : World} {RA : Hp} {v1_0 : Value} (hRA : RA.sub w0) (h1_0 : SlR ty_catchmentlaw06_Stream RA v1_0 a1) (hG : GF RA) (H : law06_StreamsPlays a0 a1 = some true) : CallsV Tryd.prog 5 #[.int .i64 a0, v1_0] w0 (.bool true) := by
  unfold law06_StreamsPlays at H
  refine enter (args := [.int .i64 a0, v1_0]) Tryd.func5 rfl Tryd.ntmps5 rfl fun a hK => ?_
  have hS := St.init (R := fun _ => none) (w := w0) (fun _ _ h => by cases h)
  have hRL := RLe.refl (M := []) w0 (fun _ => none)
  refine wp_seq ?_
  refine wp_region_lit ?_
  refine sl hK (by decide) rfl rfl (r_assign hK rfl) fun a hK => ?_
  refine wpList_nil ?_
  refine wp_seq ?_
  refine wp_region_lit ?_
  obtain ⟨y_1, h_2, H⟩ := bind_some H
  refine sl_callV Tryd.call6 hS hK (by decide) rfl rfl rfl (law06_shown.calls (lentOf_sub [] _) (GF.mono (hS.raLe0 hRA nil_not) hG) h_2) fun a w hS hK => ?_
  refine sl hK (by decide) rfl rfl (r_assign hK rfl) fun a hK => ?_
  refine wpList_nil ?_
  refine wp_seq ?_
  refine wp_region_lit ?_
  refine sl hK (by decide) rfl rfl (r_move hK rfl) fun a hK => ?_
  obtain ⟨y_3, h_4, H⟩ := bind_some H
  refine sl_call Tryd.call7 hK (by decide) rfl rfl rfl (streams_New.calls a0 hS.sub h_4) fun a v_ w hv_ hK => ?_
  obtain ⟨R_5, b_7, v_9, cs_10, mb_12, hv_, hr_, hl_6, hq_11⟩ := hv_
  have hv_ := hv_.symm
  subst hv_
  obtain ⟨hS, hl_6⟩ := hS.sp0.back hr_ hl_6
  have hS := hS.un3
  have hRL := hRL.trans hl_6
  refine sl hK (by decide) rfl rfl (r_assign hK rfl) fun a hK => ?_
  refine wpList_nil ?_
  refine wp_seq ?_
  refine wp_region_lit ?_
  refine sl hK (by decide) rfl rfl (r_move hK rfl) fun a hK => ?_
  refine sl hK (by decide) rfl rfl (r_buildC (ps := [(0, .int .i64 a0)]) (c := [.int .i64 a0, .slice none 0 0]) Tryd.underlying46 Tryd.zeroValue46 places46 hK rfl (pc_cons rfl pc_nil) rfl rfl) fun a hK => ?_
  refine sl_box hS hK (by decide) rfl rfl (c := [.int .i64 a0, .slice none 0 0]) rfl fun a w b_13 hS hK => ?_
  refine sl hK (by decide) rfl rfl (r_assign hK rfl) fun a hK => ?_
  refine wpList_nil ?_
  refine wp_seq ?_
  refine wp_seq ?_
  refine wp_mid (fun a w => ∃ (x_15 : Bool), law06_StreamsPlays.j0 a0 a1 y_3 x_15 = some true ∧ Kn 260 a [(1, v1_0), (6, .pointer (some ⟨b_7, 0, none⟩)), (7, .pointer (some ⟨b_13, 0, none⟩)), (40, .bool x_15)] ∧ St [] w0 w R_5 [.row 60 2 v_9 y_3.l.length cs_10, .mp mb_12 (kvs Value.string (Value.int .i64) y_3.ids), .cells b_7 [.int .i64 y_3.most, v_9, .map (some mb_12)] 56, .cells b_13 [.int .i64 a0, .slice none 0 0] 46]) ?_ ?_
  · refine wp_region_lit ?_
    refine sl hK (by decide) rfl rfl (r_move hK rfl) fun a hK => ?_
    refine sl hK (by decide) rfl rfl (r_un hK rfl (u_not _)) fun a hK => ?_
    refine sl hK (by decide) rfl rfl (r_move hK rfl) fun a hK => ?_
    rcases or_b (!y_1) with hb_17 | hb_17
    · rw [ifb_t hb_17] at H
      refine sl_skip hK (by decide) (wft hb_17) rfl fun a hK => ?_
      refine sl_skip hK (by decide) (wft hb_17) rfl fun a hK => ?_
      refine sl hK (by decide) rfl rfl (r_pick_t hb_17 hK rfl rfl) fun a hK => ?_
      refine wpList_nil ?_
      have hS := hS.pk1
      have hS := hS.pk3
      have hS := hS.pk3
      exact ⟨true, H, hK.sub (all_cons rfl (all_cons rfl (all_cons rfl (all_cons rfl (all_nil))))), hS⟩
    · rw [ifb_f hb_17] at H
      refine sl hK (by decide) (wff hb_17) rfl (r_move hK rfl) fun a hK => ?_
      refine sl hK (by decide) (wff hb_17) rfl (r_peq Tryd.underlying24 hK rfl rfl) fun a hK => ?_
      refine sl hK (by decide) rfl rfl (r_pick_f hb_17 hK rfl rfl) fun a hK => ?_
      refine wpList_nil ?_
      have hS := hS.pk1
      have hS := hS.pk3
      have hS := hS.pk3
      exact ⟨false, H, hK.sub (all_cons rfl (all_cons rfl (all_cons rfl (all_cons rfl (all_nil))))), hS⟩
  · rintro a w ⟨x_15, H, hK, hS⟩
    unfold law06_StreamsPlays.j0 at H
    refine wp_cond_split (hK.ev rfl) (fun (hb_18 : x_15 = true) => ?_) (fun (hb_18 : x_15 = false) => ?_)
    · rw [ifb_t hb_18] at H
      refine wp_seq ?_
      refine wp_region_lit ?_
      refine sl hK (by decide) rfl rfl (r_assign hK rfl) fun a hK => ?_
      refine wpList_nil ?_
      exact absurd (Option.some.inj H) (by decide)
    · rw [ifb_f hb_18] at H
      refine wp_skip ?_
      refine wp_seq ?_
      refine wp_seq ?_
      refine wp_region_lit ?_
      refine sl hK (by decide) rfl rfl (r_assign hK rfl) fun a hK => ?_
      refine wpList_nil ?_
      refine wp_block ?_
      refine wp_loop_k (fun k_l1 a w => ∃ (x_457 : Int) (x_459 : List streams_stream) (x_464 : List (ByteArray × Int)) (x_465 : Int) (x_467 : List catchmentref06_Stream) (x_471 : Int) (R_472 : Hp) (v_460 : Value) (cs_461 : List Value) (v_468 : Value) (cs_469 : List Value) (b_463 : Nat) (b_456 : Nat), law06_StreamsPlays.l1 a1 k_l1 x_457 x_459 x_464 x_465 x_467 x_471 = some true ∧ RLe [] w0 R_5 R_472 ∧ Reps ty_streams_stream R_472 cs_461 x_459 ∧ Reps ty_catchmentref06_Stream R_472 cs_469 x_467 ∧ Kn 260 a [(1, v1_0), (6, .pointer (some ⟨b_456, 0, none⟩)), (7, .pointer (some ⟨b_13, 0, none⟩)), (8, .int .i64 x_471)] ∧ St [] w0 w R_472 [.row 60 2 v_460 x_459.length cs_461, .mp b_463 (kvs Value.string (Value.int .i64) x_464), .cells b_456 [.int .i64 x_457, v_460, .map (some b_463)] 56, .row 51 2 v_468 x_467.length cs_469, .cells b_13 [.int .i64 x_465, v_468] 46]) (((a1.length : Int) - 0).toNat + 1) ?_ ?_
      · have hS := hS.row_nil 51 2
        have hq_908 : Reps ty_catchmentref06_Stream R_5 [] ([] : List catchmentref06_Stream) := Reps.nil _ _
        have hS := hS.pk4
        have hS := hS.pk1
        have hS := hS.pk4
        have hS := hS.pk4
        have hS := hS.pk4
        exact ⟨y_3.most, y_3.l, y_3.ids, a0, [], 0, _, _, _, _, _, _, _, H, (RLe.refl _ _), hq_11, hq_908, hK.sub (all_cons rfl (all_cons rfl (all_cons rfl (all_cons rfl (all_nil))))), hS⟩
      · rintro k_l1 a w ⟨x_457, x_459, x_464, x_465, x_467, x_471, R_472, v_460, cs_461, v_468, cs_469, b_463, b_456, H, hl_473, hq_462, hq_470, hK, hS⟩
        cases k_l1 with
        | zero => cases H
        | succ k_l1 =>
        rw [law06_StreamsPlays.l1.eq_2] at H
        have hRL := hRL.trans hl_473
        refine wp_seq ?_
        refine wp_seq ?_
        refine wp_mid (fun a w => ∃ (x_910 : Bool), law06_StreamsPlays.j2 (law06_StreamsPlays.l1 a1 k_l1) a1 x_457 x_459 x_464 x_465 x_467 x_471 x_910 = some true ∧ Kn 260 a [(1, v1_0), (6, .pointer (some ⟨b_456, 0, none⟩)), (7, .pointer (some ⟨b_13, 0, none⟩)), (8, .int .i64 x_471), (48, .bool x_910)] ∧ St [] w0 w R_472 [.row 60 2 v_460 x_459.length cs_461, .mp b_463 (kvs Value.string (Value.int .i64) x_464), .cells b_456 [.int .i64 x_457, v_460, .map (some b_463)] 56, .row 51 2 v_468 x_467.length cs_469, .cells b_13 [.int .i64 x_465, v_468] 46]) ?_ ?_
        · refine wp_region_lit ?_
          refine sl hK (by decide) rfl rfl (r_move hK rfl) fun a hK => ?_
          refine sl hK (by decide) rfl rfl (r_move hK rfl) fun a hK => ?_
          refine sl hK (by decide) rfl rfl (r_len_R Tryd.underlying22 h1_0 hK rfl) fun a hK => ?_
          refine sl hK (by decide) rfl rfl (r_ibin hK rfl rfl rfl) fun a hK => ?_
          refine sl hK (by decide) rfl rfl (r_move hK rfl) fun a hK => ?_
          rcases or_b (decide (x_471 < (a1.length : Int))) with hb_912 | hb_912
          · rw [ifb_t hb_912] at H
            refine sl hK (by decide) (wtt hb_912) rfl (r_move hK rfl) fun a hK => ?_
            refine sl hK (by decide) (wtt hb_912) rfl (r_ibin hK rfl rfl rfl) fun a hK => ?_
            refine sl hK (by decide) rfl rfl (r_pick_t hb_912 hK rfl rfl) fun a hK => ?_
            refine wpList_nil ?_
            have hS := hS.pk4
            have hS := hS.pk4
            have hS := hS.pk4
            have hS := hS.pk4
            have hS := hS.pk4
            exact ⟨(decide (x_471 < 100)), H, hK.sub (all_cons rfl (all_cons rfl (all_cons rfl (all_cons rfl (all_cons rfl (all_nil)))))), hS⟩
          · rw [ifb_f hb_912] at H
            refine sl_skip hK (by decide) (wtf hb_912) rfl fun a hK => ?_
            refine sl_skip hK (by decide) (wtf hb_912) rfl fun a hK => ?_
            refine sl hK (by decide) rfl rfl (r_pick_f hb_912 hK rfl rfl) fun a hK => ?_
            refine wpList_nil ?_
            have hS := hS.pk4
            have hS := hS.pk4
            have hS := hS.pk4
            have hS := hS.pk4
            have hS := hS.pk4
            exact ⟨false, H, hK.sub (all_cons rfl (all_cons rfl (all_cons rfl (all_cons rfl (all_cons rfl (all_nil)))))), hS⟩
        · rintro a w ⟨x_910, H, hK, hS⟩
          unfold law06_StreamsPlays.j2 at H
          refine wp_cond_split (hK.ev rfl) (fun (hb_913 : x_910 = true) => ?_) (fun (hb_913 : x_910 = false) => ?_)
          · rw [ifb_t hb_913] at H
            refine wp_skip ?_
            refine wp_seq ?_
            refine wp_block ?_
            refine wp_seq ?_
            refine wp_region_lit ?_
            refine sl_buildSliceC (zc := [.int .i64 0, .int .i64 0, .string (⟨#[]⟩ : ByteArray), .int .i64 0, .int .i64 0, .int .i64 0, .int .i64 0, .int .i64 0, .int .i64 0, .int .i64 0, .int .i64 0]) (zs := []) (ps := []) (c := []) Tryd.underlying30 Tryd.sizeOf50 Tryd.zeroValue50 rfl pc_nil rfl rfl (by decide) (by kernel_rfl) rfl hS hK (by decide) rfl fun a w b_914 hS hK => ?_
            refine sl hK (by decide) rfl rfl (r_move hK rfl) fun a hK => ?_
            refine sl hK (by decide) rfl rfl (r_move hK rfl) fun a hK => ?_
            obtain ⟨y_915, h_916, H⟩ := bind_some H
            obtain ⟨b_917, o_918, c_919, cs_920, hv_921, hr_922, hc_923, h_9160, h_9161⟩ := h1_0.ix h_916
            obtain ⟨v_924, rfl, hs_925⟩ := hr_922
            refine sl hK (by decide) rfl rfl (r_indexAddr_R Tryd.underlying22 Tryd.sizeOf32 hv_921 h_9160 h_9161 hK rfl rfl) fun a hK => ?_
            refine sl hK (by decide) rfl rfl (r_fieldAddr Tryd.underlying32 rfl Tryd.sizeOf30 hK rfl) fun a hK => ?_
            refine sl hK (by decide) rfl rfl (r_load Tryd.isAgg30 hK rfl ((hS.ra hRA nil_not).cell (hc_923 1 _ rfl))) fun a hK => ?_
            obtain ⟨y_928, h_929, H⟩ := bind_some H
            have hS := hS.row_lit (size := 11) (m := 0) rfl (by decide)
            have hq_927 : Reps ty_api_Value R_472 [] ([] : List api_Value) := (Reps.nil _ _)
            refine sl_append_A elT30 (by decide) rfl (fun _ _ _ _ h => h) (hS.ra hRA nil_not) hq_927 rfl hs_925 h_929 hS hK (by decide) rfl rfl rfl fun a w v_930 cs_931 hq_932 hS hK => ?_
            refine sl hK (by decide) rfl rfl (r_assign hK rfl) fun a hK => ?_
            refine wpList_nil ?_
            refine wp_seq ?_
            refine wp_seq ?_
            refine wp_region_lit ?_
            refine sl hK (by decide) rfl rfl (r_move hK rfl) fun a hK => ?_
            refine sl hK (by decide) rfl rfl (r_rem hK rfl rfl (by decide)) fun a hK => ?_
            refine sl hK (by decide) rfl rfl (r_ibin hK rfl rfl rfl) fun a hK => ?_
            refine wpList_nil ?_
            refine wp_mid (fun a w => ∃ (x_955 : Int) (x_957 : List streams_stream) (x_962 : List (ByteArray × Int)) (R_963 : Hp) (v_958 : Value) (cs_959 : List Value) (b_961 : Nat) (b_954 : Nat), law06_StreamsPlays.j3 (law06_StreamsPlays.l1 a1 k_l1) a1 x_465 x_467 x_471 y_928 x_955 x_957 x_962 = some true ∧ RLe [] w0 R_472 R_963 ∧ Reps ty_streams_stream R_963 cs_959 x_957 ∧ Kn 260 a [(1, v1_0), (6, .pointer (some ⟨b_954, 0, none⟩)), (7, .pointer (some ⟨b_13, 0, none⟩)), (8, .int .i64 x_471), (9, v_930)] ∧ St [] w0 w R_963 [.row 60 2 v_958 x_957.length cs_959, .mp b_961 (kvs Value.string (Value.int .i64) x_962), .cells b_954 [.int .i64 x_955, v_958, .map (some b_961)] 56, .row 51 2 v_468 x_467.length cs_469, .cells b_13 [.int .i64 x_465, v_468] 46, .row 50 11 v_930 y_928.length cs_931]) ?_ ?_
            · refine wp_cond_split (hK.ev rfl) (fun (hb_965 : ((x_471.tmod 5) == 4) = true) => ?_) (fun (hb_965 : ((x_471.tmod 5) == 4) = false) => ?_)
              · rw [ifb_t hb_965] at H
                refine wp_seq ?_
                refine wp_region_lit ?_
                refine sl hK (by decide) rfl rfl (r_move hK rfl) fun a hK => ?_
                refine sl hK (by decide) rfl rfl (r_assign hK rfl) fun a hK => ?_
                refine wpList_nil ?_
                refine wp_seq ?_
                refine wp_region_lit ?_
                refine sl hK (by decide) rfl rfl (r_move hK rfl) fun a hK => ?_
                obtain ⟨y_966, h_967, H⟩ := bind_some H
                refine sl_call Tryd.call14 hK (by decide) rfl rfl rfl (streams_Dict_Clone.calls (⟨x_457, x_459, x_464⟩ : streams_Dict) (lentOf_sub [] _) hS.sub (hS.lend_box0 (.tail _ (.tail _ (.tail _ (.head _))))) (hS.lend_rowB0 (.tail _ (.head _)) hq_462 rfl rfl) (hS.lend_map0 (.tail _ (.tail _ (.head _)))) h_967) fun a v_ w hv_ hK => ?_
                obtain ⟨R_968, b_970, v_972, cs_973, mb_975, hv_, hr_, hl_969, hq_974⟩ := hv_
                have hv_ := hv_.symm
                subst hv_
                obtain ⟨hS, hl_969⟩ := hS.sp0.back hr_ hl_969
                have hS := hS.un3
                have hRL := hRL.trans hl_969
                refine sl hK (by decide) rfl rfl (r_assign hK rfl) fun a hK => ?_
                refine wpList_nil ?_
                refine wp_seq ?_
                refine wp_seq ?_
                refine wp_region_lit ?_
                refine sl hK (by decide) rfl rfl (r_move hK rfl) fun a hK => ?_
                refine sl hK (by decide) rfl rfl (r_peq Tryd.underlying24 hK rfl rfl) fun a hK => ?_
                refine wpList_nil ?_
                refine wp_cond_false (hK.ev rfl) ?_
                refine wp_skip ?_
                refine wp_region_lit ?_
                refine sl hK (by decide) rfl rfl (r_move hK rfl) fun a hK => ?_
                obtain ⟨y_976, h_977, H⟩ := bind_some H
                have hS := hS.pk5
                have hS := hS.pk5
                have hS := hS.pk6
                have hS1 := hS.sp3
                refine sl_call Tryd.call8 hK (by decide) rfl rfl rfl (streams_Dict_Add.calls (⟨x_457, x_459, x_464⟩ : streams_Dict) (⟨#[97, 110, 111, 116, 104, 101, 114]⟩ : ByteArray) ([] : List api_Value) (lentOf_sub _ _) lentOf_not hS1.lend (hq_462.mono hl_969.le) (SlR.nil ty_api_Value _) (GF.mono (hS1.raLe hRA nil_not) hG) h_977) fun a v_ w hv_ hK => ?_
                obtain ⟨R_978, v_981, cs_982, mb_984, hv_, hr_, hl_979, hq_983⟩ := hv_
                have hv_ := hv_.symm
                subst hv_
                obtain ⟨hS, hl_979⟩ := hS1.back hr_ hl_979
                have hS := hS.un3
                have hRL := hRL.trans hl_979
                refine wpList_nil ?_
                have hS := hS.pk6
                have hS := hS.pk8
                have hS := hS.pk8
                have hS := hS.pk6
                have hS := hS.pk8
                have hS := hS.pk8
                exact ⟨y_966.most, y_966.l, y_966.ids, _, _, _, _, _, H, (hl_969.trans hl_979), (hq_974.mono hl_979.le), hK.sub (all_cons rfl (all_cons rfl (all_cons rfl (all_cons rfl (all_cons rfl (all_nil)))))), hS.trunc 6⟩
              · rw [ifb_f hb_965] at H
                refine wp_skip ?_
                have hS := hS.pk5
                have hS := hS.pk5
                have hS := hS.pk5
                have hS := hS.pk5
                have hS := hS.pk5
                exact ⟨x_457, x_459, x_464, _, _, _, _, _, H, (RLe.refl _ _), hq_462, hK.sub (all_cons rfl (all_cons rfl (all_cons rfl (all_cons rfl (all_cons rfl (all_nil)))))), hS⟩
            · rintro a w ⟨x_955, x_957, x_962, R_963, v_958, cs_959, b_961, b_954, H, hl_964, hq_960, hK, hS⟩
              unfold law06_StreamsPlays.j3 at H
              have hRL := hRL.trans hl_964
              refine wp_seq ?_
              refine wp_region_lit ?_
              refine sl hK (by decide) rfl rfl (r_move hK rfl) fun a hK => ?_
              refine sl hK (by decide) rfl rfl (r_move hK rfl) fun a hK => ?_
              refine sl hK (by decide) rfl rfl (r_move hK rfl) fun a hK => ?_
              obtain ⟨y_985, h_986, H⟩ := bind_some H
              obtain ⟨b_987, o_988, c_989, cs_990, hv_991, hr_992, hc_993, h_9860, h_9861⟩ := h1_0.ix h_986
              obtain ⟨v_994, rfl, hs_995⟩ := hr_992
              refine sl hK (by decide) rfl rfl (r_indexAddr_R Tryd.underlying22 Tryd.sizeOf32 hv_991 h_9860 h_9861 hK rfl rfl) fun a hK => ?_
              refine sl hK (by decide) rfl rfl (r_fieldAddr Tryd.underlying32 rfl Tryd.sizeOf9 hK rfl) fun a hK => ?_
              refine sl hK (by decide) rfl rfl (r_load Tryd.isAgg9 hK rfl ((hS.ra hRA nil_not).cell (hc_993 0 _ rfl))) fun a hK => ?_
              refine sl hK (by decide) rfl rfl (r_move hK rfl) fun a hK => ?_
              obtain ⟨y_996, h_997, H⟩ := bind_some H
              refine sl_callV Tryd.call9 hS hK (by decide) rfl rfl rfl (streams_Dict_Find.calls (⟨x_955, x_957, x_962⟩ : streams_Dict) y_985.Name y_928 (lentOf_sub [] _) (hS.lend_box0 (.tail _ (.tail _ (.head _)))) (hS.lend_row0 (.head _) hq_960 rfl rfl) (hS.lend_map0 (.tail _ (.head _))) (hS.lend_row0 (.tail _ (.tail _ (.tail _ (.tail _ (.tail _ (.head _)))))) (hq_932.mono hl_964.le) rfl rfl) (GF.mono (hS.raLe0 hRA nil_not) hG) h_997) fun a w hS hK => ?_
              refine sl hK (by decide) rfl rfl (r_move hK rfl) fun a hK => ?_
              refine sl hK (by decide) rfl rfl (r_extract hK rfl rfl) fun a hK => ?_
              refine sl hK (by decide) rfl rfl (r_extract hK rfl rfl) fun a hK => ?_
              refine sl hK (by decide) rfl rfl (r_assign hK rfl) fun a hK => ?_
              refine sl hK (by decide) rfl rfl (r_assign hK rfl) fun a hK => ?_
              refine wpList_nil ?_
              refine wp_seq ?_
              refine parT_region (C := fun w => St [] w0 w R_963 [.row 60 2 v_958 x_957.length cs_959, .mp b_961 (kvs Value.string (Value.int .i64) x_962), .cells b_954 [.int .i64 x_955, v_958, .map (some b_961)] 56, .row 51 2 v_468 x_467.length cs_469, .cells b_13 [.int .i64 x_465, v_468] 46, .row 50 11 v_930 y_928.length cs_931]) 16 [(0, true), (1, true), (2, true), (3, true), (4, true), (5, true), (6, true), (7, true), (8, true), (9, true), (10, true), (11, false), (12, true), (13, true), (14, true), (15, true)] mixed (by kernel_rfl) hS (fun w hS => hS) fun w hS => ?_
              refine sp (k := 0) rfl hK (by decide) rfl rfl (fun w hS => r_move hK rfl) fun a hK => ?_
              refine sp (k := 1) rfl hK (by decide) rfl rfl (fun w hS => r_move hK rfl) fun a hK => ?_
              refine sp (k := 2) rfl hK (by decide) rfl rfl (fun w hS => r_move hK rfl) fun a hK => ?_
              obtain ⟨y_1022, h_1023, H⟩ := bind_some H
              obtain ⟨b_1024, o_1025, c_1026, cs_1027, hv_1028, hr_1029, hc_1030, h_10230, h_10231⟩ := h1_0.ix h_1023
              obtain ⟨v_1031, rfl, hs_1032⟩ := hr_1029
              refine sp (k := 3) rfl hK (by decide) rfl rfl (fun w hS => r_indexAddr_R Tryd.underlying22 Tryd.sizeOf32 hv_1028 h_10230 h_10231 hK rfl rfl) fun a hK => ?_
              refine sp (k := 4) rfl hK (by decide) rfl rfl (fun w hS => r_fieldAddr Tryd.underlying32 rfl Tryd.sizeOf9 hK rfl) fun a hK => ?_
              refine sp (k := 5) rfl hK (by decide) rfl rfl (fun w hS => r_load Tryd.isAgg9 hK rfl ((hS.ra hRA nil_not).cell (hc_1030 0 _ rfl))) fun a hK => ?_
              refine sp (k := 6) rfl hK (by decide) rfl rfl (fun w hS => r_move hK rfl) fun a hK => ?_
              refine sp (k := 7) rfl hK (by decide) rfl rfl (fun w hS => r_move hK rfl) fun a hK => ?_
              obtain ⟨y_1033, h_1034, H⟩ := bind_some H
              obtain ⟨b_1035, o_1036, c_1037, cs_1038, hv_1039, hr_1040, hc_1041, h_10340, h_10341⟩ := h1_0.ix h_1034
              obtain ⟨v_1042, rfl, hs_1043⟩ := hr_1040
              refine sp (k := 8) rfl hK (by decide) rfl rfl (fun w hS => r_indexAddr_R Tryd.underlying22 Tryd.sizeOf32 hv_1039 h_10340 h_10341 hK rfl rfl) fun a hK => ?_
              refine sp (k := 9) rfl hK (by decide) rfl rfl (fun w hS => r_fieldAddr Tryd.underlying32 rfl Tryd.sizeOf30 hK rfl) fun a hK => ?_
              refine sp (k := 10) rfl hK (by decide) rfl rfl (fun w hS => r_load Tryd.isAgg30 hK rfl ((hS.ra hRA nil_not).cell (hc_1041 1 _ rfl))) fun a hK => ?_
              refine spw (k := 11) rfl rfl hS ?_
              obtain ⟨y_1044, h_1045, H⟩ := bind_some H
              refine sl_callV Tryd.call15 hS hK (by decide) rfl rfl rfl (ref06_Dict_Find.calls (⟨x_465, x_467⟩ : catchmentref06_Dict) y_1022.Name y_1033.Keys (lentOf_sub [] _) (hS.lend_box0 (.tail _ (.tail _ (.tail _ (.tail _ (.head _)))))) (hS.lend_row0 (.tail _ (.tail _ (.tail _ (.head _)))) (hq_470.mono hl_964.le) rfl rfl) (hs_1043.mono (hS.raLe0 hRA nil_not)) h_1045) fun a w hS hK => ?_
              refine parK_nil hS ?_
              refine sp (k := 12) rfl hK (by decide) rfl rfl (fun w hS => r_move hK rfl) fun a hK => ?_
              refine sp (k := 13) rfl hK (by decide) rfl rfl (fun w hS => r_extract hK rfl rfl) fun a hK => ?_
              refine sp (k := 14) rfl hK (by decide) rfl rfl (fun w hS => r_extract hK rfl rfl) fun a hK => ?_
              refine sp (k := 15) rfl hK (by decide) rfl rfl (fun w hS => r_assign hK rfl) fun a hK => ?_
              refine thenL_nil ?_
              refine sl hK (by decide) rfl rfl (r_assign hK rfl) fun a hK => ?_
              refine wpList_nil (NoP_nil ?_)
              refine wp_seq ?_
              refine wp_region_lit ?_
              refine sl hK (by decide) rfl rfl (r_move hK rfl) fun a hK => ?_
              refine sl hK (by decide) rfl rfl (r_move hK rfl) fun a hK => ?_
              refine sl hK (by decide) rfl rfl (r_move hK rfl) fun a hK => ?_
              obtain ⟨y_1046, h_1047, H⟩ := bind_some H
              obtain ⟨b_1048, o_1049, c_1050, cs_1051, hv_1052, hr_1053, hc_1054, h_10470, h_10471⟩ := h1_0.ix h_1047
              obtain ⟨v_1055, rfl, hs_1056⟩ := hr_1053
              refine sl hK (by decide) rfl rfl (r_indexAddr_R Tryd.underlying22 Tryd.sizeOf32 hv_1052 h_10470 h_10471 hK rfl rfl) fun a hK => ?_
              refine sl hK (by decide) rfl rfl (r_fieldAddr Tryd.underlying32 rfl Tryd.sizeOf9 hK rfl) fun a hK => ?_
              refine sl hK (by decide) rfl rfl (r_load Tryd.isAgg9 hK rfl ((hS.ra hRA nil_not).cell (hc_1054 0 _ rfl))) fun a hK => ?_
              refine sl hK (by decide) rfl rfl (r_move hK rfl) fun a hK => ?_
              obtain ⟨y_1057, h_1058, H⟩ := bind_some H
              have hS := hS.pk1
              have hS := hS.pk1
              have hS := hS.pk2
              have hS1 := hS.sp3
              refine sl_call Tryd.call8 hK (by decide) rfl rfl rfl (streams_Dict_Add.calls (⟨x_955, x_957, x_962⟩ : streams_Dict) y_1046.Name y_928 (lentOf_sub _ _) lentOf_not hS1.lend hq_960 (hS1.lend_row (.tail _ (.tail _ (.head _))) (hq_932.mono hl_964.le) rfl rfl) (GF.mono (hS1.raLe hRA nil_not) hG) h_1058) fun a v_ w hv_ hK => ?_
              obtain ⟨R_1059, v_1062, cs_1063, mb_1065, hv_, hr_, hl_1060, hq_1064⟩ := hv_
              have hv_ := hv_.symm
              subst hv_
              obtain ⟨hS, hl_1060⟩ := hS1.back hr_ hl_1060
              have hS := hS.un3
              have hRL := hRL.trans hl_1060
              refine sl hK (by decide) rfl rfl (r_move hK rfl) fun a hK => ?_
              refine sl hK (by decide) rfl rfl (r_extract hK rfl rfl) fun a hK => ?_
              refine sl hK (by decide) rfl rfl (r_extract hK rfl rfl) fun a hK => ?_
              refine sl hK (by decide) rfl rfl (r_assign hK rfl) fun a hK => ?_
              refine sl hK (by decide) rfl rfl (r_assign hK rfl) fun a hK => ?_
              refine wpList_nil ?_
              refine wp_seq ?_
              refine parT_region (C := fun w => St [] w0 w R_1059 [.cells b_954 [.int .i64 y_1057.2.2.most, v_1062, .map (some mb_1065)] 56, .row 60 2 v_1062 y_1057.2.2.l.length cs_1063, .mp mb_1065 (kvs Value.string (Value.int .i64) y_1057.2.2.ids), .row 50 11 v_930 y_928.length cs_931]) 16 [(0, true), (1, true), (2, true), (3, true), (4, true), (5, true), (6, true), (7, true), (8, true), (9, true), (10, true), (11, false), (12, true), (13, true), (14, true), (15, true)] mixed (by kernel_rfl) hS (fun w hS => (hS.pk5.pk3.pk3.pk3.trunc 4)) fun w hS => ?_
              refine sp (k := 0) rfl hK (by decide) rfl rfl (fun w hS => r_move hK rfl) fun a hK => ?_
              refine sp (k := 1) rfl hK (by decide) rfl rfl (fun w hS => r_move hK rfl) fun a hK => ?_
              refine sp (k := 2) rfl hK (by decide) rfl rfl (fun w hS => r_move hK rfl) fun a hK => ?_
              obtain ⟨y_1096, h_1097, H⟩ := bind_some H
              obtain ⟨b_1098, o_1099, c_1100, cs_1101, hv_1102, hr_1103, hc_1104, h_10970, h_10971⟩ := h1_0.ix h_1097
              obtain ⟨v_1105, rfl, hs_1106⟩ := hr_1103
              refine sp (k := 3) rfl hK (by decide) rfl rfl (fun w hS => r_indexAddr_R Tryd.underlying22 Tryd.sizeOf32 hv_1102 h_10970 h_10971 hK rfl rfl) fun a hK => ?_
              refine sp (k := 4) rfl hK (by decide) rfl rfl (fun w hS => r_fieldAddr Tryd.underlying32 rfl Tryd.sizeOf9 hK rfl) fun a hK => ?_
              refine sp (k := 5) rfl hK (by decide) rfl rfl (fun w hS => r_load Tryd.isAgg9 hK rfl ((hS.ra hRA nil_not).cell (hc_1104 0 _ rfl))) fun a hK => ?_
              refine sp (k := 6) rfl hK (by decide) rfl rfl (fun w hS => r_move hK rfl) fun a hK => ?_
              refine sp (k := 7) rfl hK (by decide) rfl rfl (fun w hS => r_move hK rfl) fun a hK => ?_
              obtain ⟨y_1107, h_1108, H⟩ := bind_some H
              obtain ⟨b_1109, o_1110, c_1111, cs_1112, hv_1113, hr_1114, hc_1115, h_11080, h_11081⟩ := h1_0.ix h_1108
              obtain ⟨v_1116, rfl, hs_1117⟩ := hr_1114
              refine sp (k := 8) rfl hK (by decide) rfl rfl (fun w hS => r_indexAddr_R Tryd.underlying22 Tryd.sizeOf32 hv_1113 h_11080 h_11081 hK rfl rfl) fun a hK => ?_
              refine sp (k := 9) rfl hK (by decide) rfl rfl (fun w hS => r_fieldAddr Tryd.underlying32 rfl Tryd.sizeOf30 hK rfl) fun a hK => ?_
              refine sp (k := 10) rfl hK (by decide) rfl rfl (fun w hS => r_load Tryd.isAgg30 hK rfl ((hS.ra hRA nil_not).cell (hc_1115 1 _ rfl))) fun a hK => ?_
              refine spw (k := 11) rfl rfl (hS.pk5.pk3.pk3.pk3.trunc 4) ?_
              obtain ⟨y_1118, h_1119, H⟩ := bind_some H
              have hS := hS.pk3
              have hS := hS.pk4
              have hS1 := hS.sp2
              refine sl_call Tryd.call16 hK (by decide) rfl rfl rfl (ref06_Dict_Add.calls (⟨x_465, x_467⟩ : catchmentref06_Dict) y_1096.Name y_1107.Keys (lentOf_sub _ _) lentOf_not hS1.lend (hq_470.mono (hl_964.le.trans hl_1060.le)) (hs_1117.mono (hS1.raLe hRA nil_not)) h_1119) fun a v_ w hv_ hK => ?_
              obtain ⟨R_1120, v_1123, cs_1124, hv_, hr_, hl_1121, hq_1125⟩ := hv_
              have hv_ := hv_.symm
              subst hv_
              obtain ⟨hS, hl_1121⟩ := hS1.back hr_ hl_1121
              have hS := hS.un2
              have hRL := hRL.trans hl_1121
              refine parK_nil ((hS.pk5.pk5.pk5.pk5.trunc 4).lower hl_1121.le) ?_
              refine sp (k := 12) rfl hK (by decide) rfl rfl (fun w hS => r_move hK rfl) fun a hK => ?_
              refine sp (k := 13) rfl hK (by decide) rfl rfl (fun w hS => r_extract hK rfl rfl) fun a hK => ?_
              refine sp (k := 14) rfl hK (by decide) rfl rfl (fun w hS => r_extract hK rfl rfl) fun a hK => ?_
              refine sp (k := 15) rfl hK (by decide) rfl rfl (fun w hS => r_assign hK rfl) fun a hK => ?_
              refine thenL_nil ?_
              refine sl hK (by decide) rfl rfl (r_assign hK rfl) fun a hK => ?_
              refine wpList_nil (NoP_nil ?_)
              refine wp_seq ?_
              refine wp_seq ?_
              refine wp_region_lit ?_
              refine sl hK (by decide) rfl rfl (r_assign hK rfl) fun a hK => ?_
              refine wpList_nil ?_
              refine wp_block ?_
              refine wp_loop_k (fun k_l4 a w => ∃ (x_1140 : List api_Value) (x_1144 : Int) (v_1141 : Value) (cs_1142 : List Value), law06_StreamsPlays.l4 (law06_StreamsPlays.l1 a1 k_l1) a1 x_471 y_928 y_996 y_1044 y_1057 y_1118 k_l4 x_1140 x_1144 = some true ∧ Reps ty_api_Value R_1120 cs_1142 x_1140 ∧ Kn 260 a [(1, v1_0), (6, .pointer (some ⟨b_954, 0, none⟩)), (7, .pointer (some ⟨b_13, 0, none⟩)), (8, .int .i64 x_471), (9, v_1141), (11, .int .i64 y_996.1), (12, .bool y_996.2), (13, .int .i64 y_1044.1), (14, .bool y_1044.2), (15, .int .i64 y_1057.1), (16, .int .i64 y_1057.2.1), (17, .int .i64 y_1118.1), (18, .int .i64 y_1118.2.1), (19, .int .i64 x_1144)] ∧ St [] w0 w R_1120 [.row 60 2 v_1062 y_1057.2.2.l.length cs_1063, .mp mb_1065 (kvs Value.string (Value.int .i64) y_1057.2.2.ids), .cells b_954 [.int .i64 y_1057.2.2.most, v_1062, .map (some mb_1065)] 56, .row 51 2 v_1123 y_1118.2.2.L.length cs_1124, .cells b_13 [.int .i64 y_1118.2.2.Most, v_1123] 46, .row 50 11 v_1141 x_1140.length cs_1142]) (((y_928.length : Int) - 0).toNat + 1) ?_ ?_
              · have hS := hS.pk5
                have hS := hS.pk1
                have hS := hS.pk2
                have hS := hS.pk3
                have hS := hS.pk5
                have hS := hS.pk5
                exact ⟨y_928, 0, _, _, H, (hq_932.mono (hl_964.le.trans (hl_1060.le.trans hl_1121.le))), hK.sub (all_cons rfl (all_cons rfl (all_cons rfl (all_cons rfl (all_cons rfl (all_cons rfl (all_cons rfl (all_cons rfl (all_cons rfl (all_cons rfl (all_cons rfl (all_cons rfl (all_cons rfl (all_cons rfl (all_nil))))))))))))))), hS⟩
              · rintro k_l4 a w ⟨x_1140, x_1144, v_1141, cs_1142, H, hq_1143, hK, hS⟩
                cases k_l4 with
                | zero => cases H
                | succ k_l4 =>
                rw [law06_StreamsPlays.l4.eq_2] at H
                refine wp_seq ?_
                refine wp_seq ?_
                refine wp_region_lit ?_
                refine sl hK (by decide) rfl rfl (r_move hK rfl) fun a hK => ?_
                refine sl hK (by decide) rfl rfl (r_move hK rfl) fun a hK => ?_
                refine sl hK (by decide) rfl rfl (r_len_O Tryd.underlying30 hS (.tail _ (.tail _ (.tail _ (.tail _ (.tail _ (.head _)))))) hK rfl) fun a hK => ?_
                refine sl hK (by decide) rfl rfl (r_ibin hK rfl rfl rfl) fun a hK => ?_
                refine wpList_nil ?_
                refine wp_cond_split (hK.ev rfl) (fun (hb_1158 : (decide (x_1144 < (x_1140.length : Int))) = true) => ?_) (fun (hb_1158 : (decide (x_1144 < (x_1140.length : Int))) = false) => ?_)
                · rw [ifb_t hb_1158] at H
                  refine wp_skip ?_
                  refine wp_seq ?_
                  refine wp_block ?_
                  refine wp_region_lit ?_
                  refine sl hK (by decide) rfl rfl (r_move hK rfl) fun a hK => ?_
                  refine sl hK (by decide) rfl rfl (r_move hK rfl) fun a hK => ?_
                  refine sl hK (by decide) rfl rfl (r_buildC (ps := [(0, .int .i64 3)]) (c := [.int .i64 3, .int .i64 0, .string (⟨#[]⟩ : ByteArray), .int .i64 0, .int .i64 0, .int .i64 0, .int .i64 0, .int .i64 0, .int .i64 0, .int .i64 0, .int .i64 0]) Tryd.underlying50 Tryd.zeroValue50 places50 hK rfl (pc_cons rfl pc_nil) rfl rfl) fun a hK => ?_
                  obtain ⟨y_1159, h_1160, H⟩ := bind_some H
                  obtain ⟨b_1162, c_1163, cs_1164, hv_1161, hr_1165, hc_1166, h_11600, h_11601⟩ := hS.row_ix (.tail _ (.tail _ (.tail _ (.tail _ (.tail _ (.head _)))))) hq_1143 rfl rfl h_1160
                  subst hr_1165
                  refine sl hK (by decide) rfl rfl (r_indexAddr_R Tryd.underlying30 Tryd.sizeOf50 hv_1161 h_11600 h_11601 hK rfl rfl) fun a hK => ?_
                  have hS := hS.pk5
                  refine sl_store_rowA (es := [.int .i64 y_1159.Kind, .int .i64 y_1159.N, .string y_1159.S, .int .i64 y_1159.H.a0, .int .i64 y_1159.H.a1, .int .i64 y_1159.H.a2, .int .i64 y_1159.H.a3, .int .i64 y_1159.H.a4, .int .i64 y_1159.H.a5, .int .i64 y_1159.H.a6, .int .i64 y_1159.H.a7]) (vs := [.int .i64 3, .int .i64 0, .string (⟨#[]⟩ : ByteArray), .int .i64 0, .int .i64 0, .int .i64 0, .int .i64 0, .int .i64 0, .int .i64 0, .int .i64 0, .int .i64 0]) (ps := 0) Tryd.sizeOf50 hv_1161 h_1160 rfl rfl hc_1166 rfl (Nat.le_of_ble_eq_true rfl) (Nat.le_of_ble_eq_true rfl) (show Ty.rep ty_api_Value _ (spl [.int .i64 y_1159.Kind, .int .i64 y_1159.N, .string y_1159.S, .int .i64 y_1159.H.a0, .int .i64 y_1159.H.a1, .int .i64 y_1159.H.a2, .int .i64 y_1159.H.a3, .int .i64 y_1159.H.a4, .int .i64 y_1159.H.a5, .int .i64 y_1159.H.a6, .int .i64 y_1159.H.a7] 0 [.int .i64 3, .int .i64 0, .string (⟨#[]⟩ : ByteArray), .int .i64 0, .int .i64 0, .int .i64 0, .int .i64 0, .int .i64 0, .int .i64 0, .int .i64 0, .int .i64 0]) (⟨3, 0, (⟨#[]⟩ : ByteArray), (⟨0, 0, 0, 0, 0, 0, 0, 0⟩ : Arr8)⟩ : api_Value) from rfl) hq_1143 rfl hS hK rfl rfl rfl (all_cons rfl (all_cons rfl (all_cons rfl (all_cons rfl (all_cons rfl (all_cons rfl (all_cons rfl (all_cons rfl (all_cons rfl (all_cons rfl (all_cons rfl (all_nil)))))))))))) fun a w cs_1167 hq_1168 hS hK => ?_
                  refine wpList_nil ?_
                  refine wp_region_lit ?_
                  refine sl hK (by decide) rfl rfl (r_move hK rfl) fun a hK => ?_
                  refine sl hK (by decide) rfl rfl (r_ibin hK rfl rfl rfl) fun a hK => ?_
                  refine sl hK (by decide) rfl rfl (r_assign hK rfl) fun a hK => ?_
                  refine wpList_nil ?_
                  have hS := hS.pk5
                  have hS := hS.pk5
                  have hS := hS.pk5
                  have hS := hS.pk5
                  have hS := hS.pk5
                  exact ⟨_, Nat.lt_succ_self _, (upd x_1140 x_1144 (⟨3, 0, (⟨#[]⟩ : ByteArray), (⟨0, 0, 0, 0, 0, 0, 0, 0⟩ : Arr8)⟩ : api_Value)), (IntKind.i64.wrap (x_1144 + 1)), _, _, H, hq_1168, hK.sub (all_cons rfl (all_cons rfl (all_cons rfl (all_cons rfl (all_cons rfl (all_cons rfl (all_cons rfl (all_cons rfl (all_cons rfl (all_cons rfl (all_cons rfl (all_cons rfl (all_cons rfl (all_cons rfl (all_nil))))))))))))))), hS⟩
                · rw [ifb_f hb_1158] at H
                  refine wp_exit ?_
                  refine wp_seq ?_
                  refine wp_seq ?_
                  refine wp_mid (fun a w => ∃ (x_1182 : Bool), law06_StreamsPlays.j5 (law06_StreamsPlays.l1 a1 k_l1) a1 x_471 y_1057 y_1118 x_1182 = some true ∧ Kn 260 a [(1, v1_0), (6, .pointer (some ⟨b_954, 0, none⟩)), (7, .pointer (some ⟨b_13, 0, none⟩)), (8, .int .i64 x_471), (157, .bool x_1182)] ∧ St [] w0 w R_1120 [.row 60 2 v_1062 y_1057.2.2.l.length cs_1063, .mp mb_1065 (kvs Value.string (Value.int .i64) y_1057.2.2.ids), .cells b_954 [.int .i64 y_1057.2.2.most, v_1062, .map (some mb_1065)] 56, .row 51 2 v_1123 y_1118.2.2.L.length cs_1124, .cells b_13 [.int .i64 y_1118.2.2.Most, v_1123] 46]) ?_ ?_
                  · refine parT_region (C := fun w => St [] w0 w R_1120 [.row 60 2 v_1062 y_1057.2.2.l.length cs_1063, .mp mb_1065 (kvs Value.string (Value.int .i64) y_1057.2.2.ids), .cells b_954 [.int .i64 y_1057.2.2.most, v_1062, .map (some mb_1065)] 56, .row 51 2 v_1123 y_1118.2.2.L.length cs_1124, .cells b_13 [.int .i64 y_1118.2.2.Most, v_1123] 46, .row 50 11 v_1141 x_1140.length cs_1142]) 26 [(0, true), (1, true), (2, true), (3, true), (4, true), (5, true), (6, true), (7, true), (8, true), (9, true), (10, true), (11, true), (12, true), (13, true), (14, true), (15, true), (16, true), (17, true), (18, true), (19, true), (21, true), (22, true), (23, true), (24, true), (25, true), (20, false)] mixed (by kernel_rfl) hS (fun w hS => hS) fun w hS => ?_
                    refine sp (k := 0) rfl hK (by decide) rfl rfl (fun w hS => r_move hK rfl) fun a hK => ?_
                    refine sp (k := 1) rfl hK (by decide) rfl rfl (fun w hS => r_move hK rfl) fun a hK => ?_
                    refine sp (k := 2) rfl hK (by decide) rfl rfl (fun w hS => r_ibin hK rfl rfl rfl) fun a hK => ?_
                    refine sp (k := 3) rfl hK (by decide) rfl rfl (fun w hS => r_move hK rfl) fun a hK => ?_
                    rcases or_b (y_1057.1 != y_1118.1) with hb_1190 | hb_1190
                    · rw [ifb_t hb_1190] at H
                      refine sp_skip (k := 4) rfl hK (by decide) (wft hb_1190) rfl fun a hK => ?_
                      refine sp_skip (k := 5) rfl hK (by decide) (wft hb_1190) rfl fun a hK => ?_
                      refine sp_skip (k := 6) rfl hK (by decide) (wft hb_1190) rfl fun a hK => ?_
                      refine sp (k := 7) rfl hK (by decide) rfl rfl (fun w hS => r_pick_t hb_1190 hK rfl rfl) fun a hK => ?_
                      refine sp (k := 8) rfl hK (by decide) rfl rfl (fun w hS => r_move hK rfl) fun a hK => ?_
                      refine sp_skip (k := 9) rfl hK (by decide) rfl rfl fun a hK => ?_
                      refine sp_skip (k := 10) rfl hK (by decide) rfl rfl fun a hK => ?_
                      refine sp_skip (k := 11) rfl hK (by decide) rfl rfl fun a hK => ?_
                      refine sp (k := 12) rfl hK (by decide) rfl rfl (fun w hS => r_pick hK rfl rfl rfl) fun a hK => ?_
                      refine sp (k := 13) rfl hK (by decide) rfl rfl (fun w hS => r_move hK rfl) fun a hK => ?_
                      refine sp_skip (k := 14) rfl hK (by decide) rfl rfl fun a hK => ?_
                      refine sp_skip (k := 15) rfl hK (by decide) rfl rfl fun a hK => ?_
                      refine sp_skip (k := 16) rfl hK (by decide) rfl rfl fun a hK => ?_
                      refine sp (k := 17) rfl hK (by decide) rfl rfl (fun w hS => r_pick hK rfl rfl rfl) fun a hK => ?_
                      refine sp (k := 18) rfl hK (by decide) rfl rfl (fun w hS => r_move hK rfl) fun a hK => ?_
                      refine sp_skip (k := 19) rfl hK (by decide) rfl rfl fun a hK => ?_
                      refine sp_skip (k := 21) rfl hK (by decide) rfl rfl fun a hK => ?_
                      refine sp_skip (k := 22) rfl hK (by decide) rfl rfl fun a hK => ?_
                      refine sp_skip (k := 23) rfl hK (by decide) rfl rfl fun a hK => ?_
                      refine sp_skip (k := 24) rfl hK (by decide) rfl rfl fun a hK => ?_
                      refine sp_skip (k := 25) rfl hK (by decide) rfl rfl fun a hK => ?_
                      refine spw (k := 20) rfl rfl hS ?_
                      refine sl_skip hK (by decide) rfl rfl fun a hK => ?_
                      refine parK_nil hS ?_
                      refine thenL_nil ?_
                      refine sl_skip hK (by decide) rfl rfl fun a hK => ?_
                      refine sl hK (by decide) rfl rfl (r_pick hK rfl rfl rfl) fun a hK => ?_
                      refine wpList_nil (NoP_nil ?_)
                      have hS := hS.pk4
                      have hS := hS.pk4
                      have hS := hS.pk4
                      have hS := hS.pk4
                      have hS := hS.pk4
                      exact ⟨true, H, hK.sub (all_cons rfl (all_cons rfl (all_cons rfl (all_cons rfl (all_cons rfl (all_nil)))))), hS.trunc 5⟩
                    · rw [ifb_f hb_1190] at H
                      refine sp (k := 4) rfl hK (by decide) (wff hb_1190) rfl (fun w hS => r_move hK rfl) fun a hK => ?_
                      refine sp (k := 5) rfl hK (by decide) (wff hb_1190) rfl (fun w hS => r_move hK rfl) fun a hK => ?_
                      refine sp (k := 6) rfl hK (by decide) (wff hb_1190) rfl (fun w hS => r_ibin hK rfl rfl rfl) fun a hK => ?_
                      refine sp (k := 7) rfl hK (by decide) rfl rfl (fun w hS => r_pick_f hb_1190 hK rfl rfl) fun a hK => ?_
                      refine sp (k := 8) rfl hK (by decide) rfl rfl (fun w hS => r_move hK rfl) fun a hK => ?_
                      rcases or_b (y_1057.2.1 != y_1118.2.1) with hb_1191 | hb_1191
                      · rw [ifb_t hb_1191] at H
                        refine sp_skip (k := 9) rfl hK (by decide) (wft hb_1191) rfl fun a hK => ?_
                        refine sp_skip (k := 10) rfl hK (by decide) (wft hb_1191) rfl fun a hK => ?_
                        refine sp_skip (k := 11) rfl hK (by decide) (wft hb_1191) rfl fun a hK => ?_
                        refine sp (k := 12) rfl hK (by decide) rfl rfl (fun w hS => r_pick_t hb_1191 hK rfl rfl) fun a hK => ?_
                        refine sp (k := 13) rfl hK (by decide) rfl rfl (fun w hS => r_move hK rfl) fun a hK => ?_
                        refine sp_skip (k := 14) rfl hK (by decide) rfl rfl fun a hK => ?_
                        refine sp_skip (k := 15) rfl hK (by decide) rfl rfl fun a hK => ?_
                        refine sp_skip (k := 16) rfl hK (by decide) rfl rfl fun a hK => ?_
                        refine sp (k := 17) rfl hK (by decide) rfl rfl (fun w hS => r_pick hK rfl rfl rfl) fun a hK => ?_
                        refine sp (k := 18) rfl hK (by decide) rfl rfl (fun w hS => r_move hK rfl) fun a hK => ?_
                        refine sp_skip (k := 19) rfl hK (by decide) rfl rfl fun a hK => ?_
                        refine sp_skip (k := 21) rfl hK (by decide) rfl rfl fun a hK => ?_
                        refine sp_skip (k := 22) rfl hK (by decide) rfl rfl fun a hK => ?_
                        refine sp_skip (k := 23) rfl hK (by decide) rfl rfl fun a hK => ?_
                        refine sp_skip (k := 24) rfl hK (by decide) rfl rfl fun a hK => ?_
                        refine sp_skip (k := 25) rfl hK (by decide) rfl rfl fun a hK => ?_
                        refine spw (k := 20) rfl rfl hS ?_
                        refine sl_skip hK (by decide) rfl rfl fun a hK => ?_
                        refine parK_nil hS ?_
                        refine thenL_nil ?_
                        refine sl_skip hK (by decide) rfl rfl fun a hK => ?_
                        refine sl hK (by decide) rfl rfl (r_pick hK rfl rfl rfl) fun a hK => ?_
                        refine wpList_nil (NoP_nil ?_)
                        have hS := hS.pk4
                        have hS := hS.pk4
                        have hS := hS.pk4
                        have hS := hS.pk4
                        have hS := hS.pk4
                        exact ⟨true, H, hK.sub (all_cons rfl (all_cons rfl (all_cons rfl (all_cons rfl (all_cons rfl (all_nil)))))), hS.trunc 5⟩
                      · rw [ifb_f hb_1191] at H
                        refine sp (k := 9) rfl hK (by decide) (wff hb_1191) rfl (fun w hS => r_move hK rfl) fun a hK => ?_
                        refine sp (k := 10) rfl hK (by decide) (wff hb_1191) rfl (fun w hS => r_move hK rfl) fun a hK => ?_
                        refine sp (k := 11) rfl hK (by decide) (wff hb_1191) rfl (fun w hS => r_ibin hK rfl rfl rfl) fun a hK => ?_
                        refine sp (k := 12) rfl hK (by decide) rfl rfl (fun w hS => r_pick_f hb_1191 hK rfl rfl) fun a hK => ?_
                        refine sp (k := 13) rfl hK (by decide) rfl rfl (fun w hS => r_move hK rfl) fun a hK => ?_
                        rcases or_b (y_996.1 != y_1044.1) with hb_1192 | hb_1192
                        · rw [ifb_t hb_1192] at H
                          refine sp_skip (k := 14) rfl hK (by decide) (wft hb_1192) rfl fun a hK => ?_
                          refine sp_skip (k := 15) rfl hK (by decide) (wft hb_1192) rfl fun a hK => ?_
                          refine sp_skip (k := 16) rfl hK (by decide) (wft hb_1192) rfl fun a hK => ?_
                          refine sp (k := 17) rfl hK (by decide) rfl rfl (fun w hS => r_pick_t hb_1192 hK rfl rfl) fun a hK => ?_
                          refine sp (k := 18) rfl hK (by decide) rfl rfl (fun w hS => r_move hK rfl) fun a hK => ?_
                          refine sp_skip (k := 19) rfl hK (by decide) rfl rfl fun a hK => ?_
                          refine sp_skip (k := 21) rfl hK (by decide) rfl rfl fun a hK => ?_
                          refine sp_skip (k := 22) rfl hK (by decide) rfl rfl fun a hK => ?_
                          refine sp_skip (k := 23) rfl hK (by decide) rfl rfl fun a hK => ?_
                          refine sp_skip (k := 24) rfl hK (by decide) rfl rfl fun a hK => ?_
                          refine sp_skip (k := 25) rfl hK (by decide) rfl rfl fun a hK => ?_
                          refine spw (k := 20) rfl rfl hS ?_
                          refine sl_skip hK (by decide) rfl rfl fun a hK => ?_
                          refine parK_nil hS ?_
                          refine thenL_nil ?_
                          refine sl_skip hK (by decide) rfl rfl fun a hK => ?_
                          refine sl hK (by decide) rfl rfl (r_pick hK rfl rfl rfl) fun a hK => ?_
                          refine wpList_nil (NoP_nil ?_)
                          have hS := hS.pk4
                          have hS := hS.pk4
                          have hS := hS.pk4
                          have hS := hS.pk4
                          have hS := hS.pk4
                          exact ⟨true, H, hK.sub (all_cons rfl (all_cons rfl (all_cons rfl (all_cons rfl (all_cons rfl (all_nil)))))), hS.trunc 5⟩
                        · rw [ifb_f hb_1192] at H
                          refine sp (k := 14) rfl hK (by decide) (wff hb_1192) rfl (fun w hS => r_move hK rfl) fun a hK => ?_
                          refine sp (k := 15) rfl hK (by decide) (wff hb_1192) rfl (fun w hS => r_move hK rfl) fun a hK => ?_
                          refine sp (k := 16) rfl hK (by decide) (wff hb_1192) rfl (fun w hS => r_bne Tryd.underlying4 hK rfl rfl) fun a hK => ?_
                          refine sp (k := 17) rfl hK (by decide) rfl rfl (fun w hS => r_pick_f hb_1192 hK rfl rfl) fun a hK => ?_
                          refine sp (k := 18) rfl hK (by decide) rfl rfl (fun w hS => r_move hK rfl) fun a hK => ?_
                          rcases or_b (!(y_996.2 == y_1044.2)) with hb_1193 | hb_1193
                          · rw [ifb_t hb_1193] at H
                            refine sp_skip (k := 19) rfl hK (by decide) (wft hb_1193) rfl fun a hK => ?_
                            refine sp_skip (k := 21) rfl hK (by decide) (wft hb_1193) rfl fun a hK => ?_
                            refine sp_skip (k := 22) rfl hK (by decide) (wft hb_1193) rfl fun a hK => ?_
                            refine sp_skip (k := 23) rfl hK (by decide) (wft hb_1193) rfl fun a hK => ?_
                            refine sp_skip (k := 24) rfl hK (by decide) (wft hb_1193) rfl fun a hK => ?_
                            refine sp_skip (k := 25) rfl hK (by decide) (wft hb_1193) rfl fun a hK => ?_
                            refine spw (k := 20) rfl rfl hS ?_
                            refine sl_skip hK (by decide) (wft hb_1193) rfl fun a hK => ?_
                            refine parK_nil hS ?_
                            refine thenL_nil ?_
                            refine sl_skip hK (by decide) (wft hb_1193) rfl fun a hK => ?_
                            refine sl hK (by decide) rfl rfl (r_pick_t hb_1193 hK rfl rfl) fun a hK => ?_
                            refine wpList_nil (NoP_nil ?_)
                            have hS := hS.pk4
                            have hS := hS.pk4
                            have hS := hS.pk4
                            have hS := hS.pk4
                            have hS := hS.pk4
                            exact ⟨true, H, hK.sub (all_cons rfl (all_cons rfl (all_cons rfl (all_cons rfl (all_cons rfl (all_nil)))))), hS.trunc 5⟩
                          · rw [ifb_f hb_1193] at H
                            refine sp (k := 19) rfl hK (by decide) (wff hb_1193) rfl (fun w hS => r_move hK rfl) fun a hK => ?_
                            refine sp (k := 21) rfl hK (by decide) (wff hb_1193) rfl (fun w hS => r_move hK rfl) fun a hK => ?_
                            refine sp (k := 22) rfl hK (by decide) (wff hb_1193) rfl (fun w hS => r_nilCheck hK rfl) fun a hK => ?_
                            refine sp (k := 23) rfl hK (by decide) (wff hb_1193) rfl (fun w hS => r_fieldAddr Tryd.underlying46 rfl Tryd.sizeOf44 hK rfl) fun a hK => ?_
                            refine sp (k := 24) rfl hK (by decide) (wff hb_1193) rfl (fun w hS => r_load Tryd.isAgg44 hK rfl (hS.cell (.tail _ (.tail _ (.tail _ (.tail _ (.head _))))) rfl)) fun a hK => ?_
                            refine sp (k := 25) rfl hK (by decide) (wff hb_1193) rfl (fun w hS => r_len_O Tryd.underlying44 hS (.tail _ (.tail _ (.tail _ (.head _)))) hK rfl) fun a hK => ?_
                            refine spw (k := 20) rfl rfl hS ?_
                            obtain ⟨y_1194, h_1195, H⟩ := bind_some H
                            refine sl_callV Tryd.call11 hS hK (by decide) (wff hb_1193) rfl rfl (streams_Dict_Len.calls y_1057.2.2 (lentOf_sub [] _) (hS.lend_box0 (.tail _ (.tail _ (.head _)))) (hS.lend_row0 (.head _) (hq_1064.mono hl_1121.le) rfl rfl) (hS.lend_map0 (.tail _ (.head _))) h_1195) fun a w hS hK => ?_
                            refine parK_nil hS ?_
                            refine thenL_nil ?_
                            refine sl hK (by decide) (wff hb_1193) rfl (r_ibin hK rfl rfl rfl) fun a hK => ?_
                            refine sl hK (by decide) rfl rfl (r_pick_f hb_1193 hK rfl rfl) fun a hK => ?_
                            refine wpList_nil (NoP_nil ?_)
                            have hS := hS.pk4
                            have hS := hS.pk4
                            have hS := hS.pk4
                            have hS := hS.pk4
                            have hS := hS.pk4
                            exact ⟨(y_1194 != (y_1118.2.2.L.length : Int)), H, hK.sub (all_cons rfl (all_cons rfl (all_cons rfl (all_cons rfl (all_cons rfl (all_nil)))))), hS.trunc 5⟩
                  · rintro a w ⟨x_1182, H, hK, hS⟩
                    unfold law06_StreamsPlays.j5 at H
                    refine wp_cond_split (hK.ev rfl) (fun (hb_1196 : x_1182 = true) => ?_) (fun (hb_1196 : x_1182 = false) => ?_)
                    · rw [ifb_t hb_1196] at H
                      refine wp_seq ?_
                      refine wp_region_lit ?_
                      refine sl hK (by decide) rfl rfl (r_assign hK rfl) fun a hK => ?_
                      refine wpList_nil ?_
                      exact absurd (Option.some.inj H) (by decide)
                    · rw [ifb_f hb_1196] at H
                      refine wp_skip ?_
                      refine wp_seq ?_
                      refine wp_region_lit ?_
                      refine sl hK (by decide) rfl rfl (r_move hK rfl) fun a hK => ?_
                      refine sl hK (by decide) rfl rfl (r_move hK rfl) fun a hK => ?_
                      refine sl hK (by decide) rfl rfl (r_move hK rfl) fun a hK => ?_
                      obtain ⟨y_1197, h_1198, H⟩ := bind_some H
                      obtain ⟨b_1199, o_1200, c_1201, cs_1202, hv_1203, hr_1204, hc_1205, h_11980, h_11981⟩ := h1_0.ix h_1198
                      obtain ⟨v_1206, rfl, hs_1207⟩ := hr_1204
                      refine sl hK (by decide) rfl rfl (r_indexAddr_R Tryd.underlying22 Tryd.sizeOf32 hv_1203 h_11980 h_11981 hK rfl rfl) fun a hK => ?_
                      refine sl hK (by decide) rfl rfl (r_fieldAddr Tryd.underlying32 rfl Tryd.sizeOf9 hK rfl) fun a hK => ?_
                      refine sl hK (by decide) rfl rfl (r_load Tryd.isAgg9 hK rfl ((hS.ra hRA nil_not).cell (hc_1205 0 _ rfl))) fun a hK => ?_
                      obtain ⟨y_1208, h_1209, H⟩ := bind_some H
                      refine sl_call Tryd.call12 hK (by decide) rfl rfl rfl (streams_Dict_Of.calls y_1057.2.2 y_1197.Name (lentOf_sub [] _) hS.sub (hS.lend_box0 (.tail _ (.tail _ (.head _)))) (hS.lend_row0 (.head _) (hq_1064.mono hl_1121.le) rfl rfl) (hS.lend_map0 (.tail _ (.head _))) h_1209) fun a v_ w hv_ hK => ?_
                      obtain ⟨R_1210, v_1213, cs_1214, hv_, hr_, hl_1211, hq_1215⟩ := hv_
                      have hv_ := hv_.symm
                      subst hv_
                      obtain ⟨hS, hl_1211⟩ := hS.sp0.back hr_ hl_1211
                      have hS := hS.un1
                      have hRL := hRL.trans hl_1211
                      refine sl hK (by decide) rfl rfl (r_assign hK rfl) fun a hK => ?_
                      refine wpList_nil ?_
                      refine wp_seq ?_
                      refine wp_region_lit ?_
                      refine sl hK (by decide) rfl rfl (r_move hK rfl) fun a hK => ?_
                      refine sl hK (by decide) rfl rfl (r_move hK rfl) fun a hK => ?_
                      refine sl hK (by decide) rfl rfl (r_move hK rfl) fun a hK => ?_
                      obtain ⟨y_1216, h_1217, H⟩ := bind_some H
                      obtain ⟨b_1218, o_1219, c_1220, cs_1221, hv_1222, hr_1223, hc_1224, h_12170, h_12171⟩ := h1_0.ix h_1217
                      obtain ⟨v_1225, rfl, hs_1226⟩ := hr_1223
                      refine sl hK (by decide) rfl rfl (r_indexAddr_R Tryd.underlying22 Tryd.sizeOf32 hv_1222 h_12170 h_12171 hK rfl rfl) fun a hK => ?_
                      refine sl hK (by decide) rfl rfl (r_fieldAddr Tryd.underlying32 rfl Tryd.sizeOf9 hK rfl) fun a hK => ?_
                      refine sl hK (by decide) rfl rfl (r_load Tryd.isAgg9 hK rfl ((hS.ra hRA nil_not).cell (hc_1224 0 _ rfl))) fun a hK => ?_
                      obtain ⟨y_1227, h_1228, H⟩ := bind_some H
                      refine sl_call Tryd.call17 hK (by decide) rfl rfl rfl (ref06_Dict_Of.calls y_1118.2.2 y_1216.Name (lentOf_sub [] _) hS.sub (hS.lend_box0 (.tail _ (.tail _ (.tail _ (.tail _ (.tail _ (.head _))))))) (hS.lend_row0 (.tail _ (.tail _ (.tail _ (.tail _ (.head _))))) (hq_1125.mono hl_1211.le) rfl rfl) h_1228) fun a v_ w hv_ hK => ?_
                      obtain ⟨R_1229, v_1232, cs_1233, hv_, hr_, hl_1230, hq_1234⟩ := hv_
                      have hv_ := hv_.symm
                      subst hv_
                      obtain ⟨hS, hl_1230⟩ := hS.sp0.back hr_ hl_1230
                      have hS := hS.un1
                      have hRL := hRL.trans hl_1230
                      refine sl hK (by decide) rfl rfl (r_assign hK rfl) fun a hK => ?_
                      refine wpList_nil ?_
                      refine wp_seq ?_
                      refine wp_seq ?_
                      refine wp_region_lit ?_
                      refine sl hK (by decide) rfl rfl (r_move hK rfl) fun a hK => ?_
                      refine sl hK (by decide) rfl rfl (r_len_O Tryd.underlying26 hS (.tail _ (.head _)) hK rfl) fun a hK => ?_
                      refine sl hK (by decide) rfl rfl (r_move hK rfl) fun a hK => ?_
                      refine sl hK (by decide) rfl rfl (r_len_O Tryd.underlying26 hS (.head _) hK rfl) fun a hK => ?_
                      refine sl hK (by decide) rfl rfl (r_ibin hK rfl rfl rfl) fun a hK => ?_
                      refine wpList_nil ?_
                      refine wp_cond_split (hK.ev rfl) (fun (hb_1235 : ((y_1208.length : Int) != (y_1227.length : Int)) = true) => ?_) (fun (hb_1235 : ((y_1208.length : Int) != (y_1227.length : Int)) = false) => ?_)
                      · rw [ifb_t hb_1235] at H
                        refine wp_seq ?_
                        refine wp_region_lit ?_
                        refine sl hK (by decide) rfl rfl (r_assign hK rfl) fun a hK => ?_
                        refine wpList_nil ?_
                        exact absurd (Option.some.inj H) (by decide)
                      · rw [ifb_f hb_1235] at H
                        refine wp_skip ?_
                        refine wp_seq ?_
                        refine wp_region_lit ?_
                        refine sl hK (by decide) rfl rfl (r_assign hK rfl) fun a hK => ?_
                        refine wpList_nil ?_
                        refine wp_block ?_
                        refine wp_loop_k (fun k_l6 a w => ∃ (x_1271 : Int), law06_StreamsPlays.l6 (law06_StreamsPlays.l1 a1 k_l1) a1 x_471 y_1057 y_1118 y_1208 y_1227 k_l6 x_1271 = some true ∧ Kn 260 a [(1, v1_0), (6, .pointer (some ⟨b_954, 0, none⟩)), (7, .pointer (some ⟨b_13, 0, none⟩)), (8, .int .i64 x_471), (20, v_1213), (21, v_1232), (22, .int .i64 x_1271)] ∧ St [] w0 w R_1229 [.row 60 2 v_1062 y_1057.2.2.l.length cs_1063, .mp mb_1065 (kvs Value.string (Value.int .i64) y_1057.2.2.ids), .cells b_954 [.int .i64 y_1057.2.2.most, v_1062, .map (some mb_1065)] 56, .row 51 2 v_1123 y_1118.2.2.L.length cs_1124, .cells b_13 [.int .i64 y_1118.2.2.Most, v_1123] 46, .row 3 1 v_1213 y_1208.length cs_1214, .row 3 1 v_1232 y_1227.length cs_1233]) (((y_1208.length : Int) - 0).toNat + 1) ?_ ?_
                        · have hS := hS.pk1
                          have hS := hS.pk6
                          have hS := hS.pk6
                          have hS := hS.pk6
                          have hS := hS.pk6
                          have hS := hS.pk6
                          exact ⟨0, H, hK.sub (all_cons rfl (all_cons rfl (all_cons rfl (all_cons rfl (all_cons rfl (all_cons rfl (all_cons rfl (all_nil)))))))), hS⟩
                        · rintro k_l6 a w ⟨x_1271, H, hK, hS⟩
                          cases k_l6 with
                          | zero => cases H
                          | succ k_l6 =>
                          rw [law06_StreamsPlays.l6.eq_2] at H
                          refine wp_seq ?_
                          refine wp_seq ?_
                          refine wp_region_lit ?_
                          refine sl hK (by decide) rfl rfl (r_move hK rfl) fun a hK => ?_
                          refine sl hK (by decide) rfl rfl (r_move hK rfl) fun a hK => ?_
                          refine sl hK (by decide) rfl rfl (r_len_O Tryd.underlying26 hS (.tail _ (.tail _ (.tail _ (.tail _ (.tail _ (.head _)))))) hK rfl) fun a hK => ?_
                          refine sl hK (by decide) rfl rfl (r_ibin hK rfl rfl rfl) fun a hK => ?_
                          refine wpList_nil ?_
                          refine wp_cond_split (hK.ev rfl) (fun (hb_1307 : (decide (x_1271 < (y_1208.length : Int))) = true) => ?_) (fun (hb_1307 : (decide (x_1271 < (y_1208.length : Int))) = false) => ?_)
                          · rw [ifb_t hb_1307] at H
                            refine wp_skip ?_
                            refine wp_seq ?_
                            refine wp_block ?_
                            refine wp_seq ?_
                            refine par_region (C := fun w => St [] w0 w R_1229 [.row 60 2 v_1062 y_1057.2.2.l.length cs_1063, .mp mb_1065 (kvs Value.string (Value.int .i64) y_1057.2.2.ids), .cells b_954 [.int .i64 y_1057.2.2.most, v_1062, .map (some mb_1065)] 56, .row 51 2 v_1123 y_1118.2.2.L.length cs_1124, .cells b_13 [.int .i64 y_1118.2.2.Most, v_1123] 46, .row 3 1 v_1213 y_1208.length cs_1214, .row 3 1 v_1232 y_1227.length cs_1233]) [(0, true), (1, true), (2, true), (3, true), (4, true), (5, true), (6, true), (7, true), (8, true)] mixed (by kernel_rfl) hS (fun w hS => hS) fun w hS => ?_
                            refine sp (k := 0) rfl hK (by decide) rfl rfl (fun w hS => r_move hK rfl) fun a hK => ?_
                            refine sp (k := 1) rfl hK (by decide) rfl rfl (fun w hS => r_move hK rfl) fun a hK => ?_
                            obtain ⟨y_1324, h_1325, H⟩ := bind_some H
                            obtain ⟨b_1327, c_1328, cs_1329, hv_1326, hr_1330, hc_1331, h_13250, h_13251⟩ := hS.row_ix (.tail _ (.tail _ (.tail _ (.tail _ (.tail _ (.head _)))))) (hq_1215.mono hl_1230.le) rfl rfl h_1325
                            subst hr_1330
                            refine sp (k := 2) rfl hK (by decide) rfl rfl (fun w hS => r_indexAddr_R Tryd.underlying26 Tryd.sizeOf3 hv_1326 h_13250 h_13251 hK rfl rfl) fun a hK => ?_
                            refine sp (k := 3) rfl hK (by decide) rfl rfl (fun w hS => r_load Tryd.isAgg3 hK rfl (hS.row_cell (.tail _ (.tail _ (.tail _ (.tail _ (.tail _ (.head _)))))) hv_1326 (hc_1331 0 _ rfl))) fun a hK => ?_
                            refine sp (k := 4) rfl hK (by decide) rfl rfl (fun w hS => r_move hK rfl) fun a hK => ?_
                            refine sp (k := 5) rfl hK (by decide) rfl rfl (fun w hS => r_move hK rfl) fun a hK => ?_
                            obtain ⟨y_1332, h_1333, H⟩ := bind_some H
                            obtain ⟨b_1335, c_1336, cs_1337, hv_1334, hr_1338, hc_1339, h_13330, h_13331⟩ := hS.row_ix (.tail _ (.tail _ (.tail _ (.tail _ (.tail _ (.tail _ (.head _))))))) hq_1234 rfl rfl h_1333
                            subst hr_1338
                            refine sp (k := 6) rfl hK (by decide) rfl rfl (fun w hS => r_indexAddr_R Tryd.underlying26 Tryd.sizeOf3 hv_1334 h_13330 h_13331 hK rfl rfl) fun a hK => ?_
                            refine sp (k := 7) rfl hK (by decide) rfl rfl (fun w hS => r_load Tryd.isAgg3 hK rfl (hS.row_cell (.tail _ (.tail _ (.tail _ (.tail _ (.tail _ (.tail _ (.head _))))))) hv_1334 (hc_1339 0 _ rfl))) fun a hK => ?_
                            refine sp (k := 8) rfl hK (by decide) rfl rfl (fun w hS => r_ibin hK rfl rfl rfl) fun a hK => ?_
                            refine wpPar_nil (NoP_nil ?_)
                            refine wp_cond_split (hK.ev rfl) (fun (hb_1340 : (y_1324 != y_1332) = true) => ?_) (fun (hb_1340 : (y_1324 != y_1332) = false) => ?_)
                            · rw [ifb_t hb_1340] at H
                              refine wp_seq ?_
                              refine wp_region_lit ?_
                              refine sl hK (by decide) rfl rfl (r_assign hK rfl) fun a hK => ?_
                              refine wpList_nil ?_
                              exact absurd (Option.some.inj H) (by decide)
                            · rw [ifb_f hb_1340] at H
                              refine wp_skip ?_
                              refine wp_region_lit ?_
                              refine sl hK (by decide) rfl rfl (r_move hK rfl) fun a hK => ?_
                              refine sl hK (by decide) rfl rfl (r_ibin hK rfl rfl rfl) fun a hK => ?_
                              refine sl hK (by decide) rfl rfl (r_assign hK rfl) fun a hK => ?_
                              refine wpList_nil ?_
                              have hS := hS.pk6
                              have hS := hS.pk6
                              have hS := hS.pk6
                              have hS := hS.pk6
                              have hS := hS.pk6
                              have hS := hS.pk6
                              have hS := hS.pk6
                              exact ⟨_, Nat.lt_succ_self _, (IntKind.i64.wrap (x_1271 + 1)), H, hK.sub (all_cons rfl (all_cons rfl (all_cons rfl (all_cons rfl (all_cons rfl (all_cons rfl (all_cons rfl (all_nil)))))))), hS⟩
                          · rw [ifb_f hb_1307] at H
                            refine wp_exit ?_
                            refine wp_region_lit ?_
                            refine sl hK (by decide) rfl rfl (r_move hK rfl) fun a hK => ?_
                            refine sl hK (by decide) rfl rfl (r_ibin hK rfl rfl rfl) fun a hK => ?_
                            refine sl hK (by decide) rfl rfl (r_assign hK rfl) fun a hK => ?_
                            refine wpList_nil ?_
                            have hS := hS.pk4
                            have hS := hS.pk4
                            have hS := hS.pk4
                            have hS := hS.pk4
                            have hS := hS.pk4
                            exact ⟨_, Nat.lt_succ_self _, y_1057.2.2.most, y_1057.2.2.l, y_1057.2.2.ids, y_1118.2.2.Most, y_1118.2.2.L, (IntKind.i64.wrap (x_471 + 1)), _, _, _, _, _, _, _, H, (hl_473.trans (hl_964.trans (hl_1060.trans (hl_1121.trans (hl_1211.trans hl_1230))))), (hq_1064.mono (hl_1121.le.trans (hl_1211.le.trans hl_1230.le))), (hq_1125.mono (hl_1211.le.trans hl_1230.le)), hK.sub (all_cons rfl (all_cons rfl (all_cons rfl (all_cons rfl (all_nil))))), hS.trunc 5⟩
          · rw [ifb_f hb_913] at H
            refine wp_exit ?_
            refine wp_seq ?_
            refine wp_seq ?_
            refine wp_region_lit ?_
            refine sl hK (by decide) rfl rfl (r_assign hK rfl) fun a hK => ?_
            refine wpList_nil ?_
            refine wp_block ?_
            refine wp_loop_k (fun k_l7 a w => ∃ (x_1358 : Int) (R_1359 : Hp), law06_StreamsPlays.l7 x_457 x_459 x_464 x_467 k_l7 x_1358 = some true ∧ RLe [] w0 R_472 R_1359 ∧ Kn 260 a [(6, .pointer (some ⟨b_456, 0, none⟩)), (7, .pointer (some ⟨b_13, 0, none⟩)), (23, .int .i64 x_1358)] ∧ St [] w0 w R_1359 [.row 60 2 v_460 x_459.length cs_461, .mp b_463 (kvs Value.string (Value.int .i64) x_464), .cells b_456 [.int .i64 x_457, v_460, .map (some b_463)] 56, .row 51 2 v_468 x_467.length cs_469, .cells b_13 [.int .i64 x_465, v_468] 46]) (((x_467.length : Int) - (-1)).toNat + 2) ?_ ?_
            · have hS := hS.pk4
              have hS := hS.pk4
              have hS := hS.pk4
              have hS := hS.pk4
              have hS := hS.pk4
              exact ⟨(-1), _, H, (RLe.refl _ _), hK.sub (all_cons rfl (all_cons rfl (all_cons rfl (all_nil)))), hS⟩
            · rintro k_l7 a w ⟨x_1358, R_1359, H, hl_1360, hK, hS⟩
              cases k_l7 with
              | zero => cases H
              | succ k_l7 =>
              rw [law06_StreamsPlays.l7.eq_2] at H
              have hRL := hRL.trans hl_1360
              refine wp_seq ?_
              refine wp_seq ?_
              refine wp_region_lit ?_
              refine sl hK (by decide) rfl rfl (r_move hK rfl) fun a hK => ?_
              refine sl hK (by decide) rfl rfl (r_move hK rfl) fun a hK => ?_
              refine sl hK (by decide) rfl rfl (r_nilCheck hK rfl) fun a hK => ?_
              refine sl hK (by decide) rfl rfl (r_fieldAddr Tryd.underlying46 rfl Tryd.sizeOf44 hK rfl) fun a hK => ?_
              refine sl hK (by decide) rfl rfl (r_load Tryd.isAgg44 hK rfl (hS.cell (.tail _ (.tail _ (.tail _ (.tail _ (.head _))))) rfl)) fun a hK => ?_
              refine sl hK (by decide) rfl rfl (r_len_O Tryd.underlying44 hS (.tail _ (.tail _ (.tail _ (.head _)))) hK rfl) fun a hK => ?_
              refine sl hK (by decide) rfl rfl (r_ibin hK rfl rfl rfl) fun a hK => ?_
              refine wpList_nil ?_
              refine wp_cond_split (hK.ev rfl) (fun (hb_1484 : (decide (x_1358 ≤ (x_467.length : Int))) = true) => ?_) (fun (hb_1484 : (decide (x_1358 ≤ (x_467.length : Int))) = false) => ?_)
              · rw [ifb_t hb_1484] at H
                refine wp_skip ?_
                refine wp_seq ?_
                refine wp_block ?_
                refine wp_seq ?_
                refine wp_region_lit ?_
                refine sl hK (by decide) rfl rfl (r_move hK rfl) fun a hK => ?_
                refine sl hK (by decide) rfl rfl (r_move hK rfl) fun a hK => ?_
                obtain ⟨y_1485, h_1486, H⟩ := bind_some H
                refine sl_call Tryd.call13 hK (by decide) rfl rfl rfl (streams_Dict_Keys.calls (⟨x_457, x_459, x_464⟩ : streams_Dict) x_1358 (lentOf_sub [] _) hS.sub (hS.lend_box0 (.tail _ (.tail _ (.head _)))) (hS.lend_row0 (.head _) (hq_462.mono hl_1360.le) rfl rfl) (hS.lend_map0 (.tail _ (.head _))) h_1486) fun a v_ w hv_ hK => ?_
                obtain ⟨R_1487, v_1490, cs_1491, hv_, hr_, hl_1488, hq_1492⟩ := hv_
                have hv_ := hv_.symm
                subst hv_
                obtain ⟨hS, hl_1488⟩ := hS.sp0.back hr_ hl_1488
                have hS := hS.un1
                have hRL := hRL.trans hl_1488
                refine sl hK (by decide) rfl rfl (r_move hK rfl) fun a hK => ?_
                refine sl hK (by decide) rfl rfl (r_extract hK rfl rfl) fun a hK => ?_
                refine sl hK (by decide) rfl rfl (r_extract hK rfl rfl) fun a hK => ?_
                refine sl hK (by decide) rfl rfl (r_extract hK rfl rfl) fun a hK => ?_
                refine sl hK (by decide) rfl rfl (r_assign hK rfl) fun a hK => ?_
                refine sl hK (by decide) rfl rfl (r_assign hK rfl) fun a hK => ?_
                refine sl hK (by decide) rfl rfl (r_assign hK rfl) fun a hK => ?_
                refine wpList_nil ?_
                refine wp_seq ?_
                refine wp_mid (fun a w => ∃ (x_1494 : Bool), law06_StreamsPlays.j8 (law06_StreamsPlays.l7 x_457 x_459 x_464 x_467 k_l7) x_467 x_1358 y_1485 x_1494 = some true ∧ Kn 260 a [(6, .pointer (some ⟨b_456, 0, none⟩)), (7, .pointer (some ⟨b_13, 0, none⟩)), (23, .int .i64 x_1358), (24, .string y_1485.1), (25, v_1490), (26, .bool y_1485.2.2), (27, .bool x_1494)] ∧ St [] w0 w R_1487 [.row 60 2 v_460 x_459.length cs_461, .mp b_463 (kvs Value.string (Value.int .i64) x_464), .cells b_456 [.int .i64 x_457, v_460, .map (some b_463)] 56, .row 51 2 v_468 x_467.length cs_469, .cells b_13 [.int .i64 x_465, v_468] 46, .row 50 11 v_1490 y_1485.2.1.length cs_1491]) ?_ ?_
                · refine wp_region_lit ?_
                  refine sl hK (by decide) rfl rfl (r_move hK rfl) fun a hK => ?_
                  refine sl hK (by decide) rfl rfl (r_ibin hK rfl rfl rfl) fun a hK => ?_
                  refine sl hK (by decide) rfl rfl (r_move hK rfl) fun a hK => ?_
                  rcases or_b (decide (x_1358 ≥ 0)) with hb_1496 | hb_1496
                  · rw [ifb_t hb_1496] at H
                    refine sl hK (by decide) (wtt hb_1496) rfl (r_move hK rfl) fun a hK => ?_
                    refine sl hK (by decide) (wtt hb_1496) rfl (r_move hK rfl) fun a hK => ?_
                    refine sl hK (by decide) (wtt hb_1496) rfl (r_nilCheck hK rfl) fun a hK => ?_
                    refine sl hK (by decide) (wtt hb_1496) rfl (r_fieldAddr Tryd.underlying46 rfl Tryd.sizeOf44 hK rfl) fun a hK => ?_
                    refine sl hK (by decide) (wtt hb_1496) rfl (r_load Tryd.isAgg44 hK rfl (hS.cell (.tail _ (.tail _ (.tail _ (.tail _ (.tail _ (.head _)))))) rfl)) fun a hK => ?_
                    refine sl hK (by decide) (wtt hb_1496) rfl (r_len_O Tryd.underlying44 hS (.tail _ (.tail _ (.tail _ (.tail _ (.head _))))) hK rfl) fun a hK => ?_
                    refine sl hK (by decide) (wtt hb_1496) rfl (r_ibin hK rfl rfl rfl) fun a hK => ?_
                    refine sl hK (by decide) rfl rfl (r_pick_t hb_1496 hK rfl rfl) fun a hK => ?_
                    refine sl hK (by decide) rfl rfl (r_assign hK rfl) fun a hK => ?_
                    refine wpList_nil ?_
                    have hS := hS.pk5
                    have hS := hS.pk5
                    have hS := hS.pk5
                    have hS := hS.pk5
                    have hS := hS.pk5
                    exact ⟨(decide (x_1358 < (x_467.length : Int))), H, hK.sub (all_cons rfl (all_cons rfl (all_cons rfl (all_cons rfl (all_cons rfl (all_cons rfl (all_cons rfl (all_nil)))))))), hS⟩
                  · rw [ifb_f hb_1496] at H
                    refine sl_skip hK (by decide) (wtf hb_1496) rfl fun a hK => ?_
                    refine sl_skip hK (by decide) (wtf hb_1496) rfl fun a hK => ?_
                    refine sl_skip hK (by decide) (wtf hb_1496) rfl fun a hK => ?_
                    refine sl_skip hK (by decide) (wtf hb_1496) rfl fun a hK => ?_
                    refine sl_skip hK (by decide) (wtf hb_1496) rfl fun a hK => ?_
                    refine sl_skip hK (by decide) (wtf hb_1496) rfl fun a hK => ?_
                    refine sl_skip hK (by decide) (wtf hb_1496) rfl fun a hK => ?_
                    refine sl hK (by decide) rfl rfl (r_pick_f hb_1496 hK rfl rfl) fun a hK => ?_
                    refine sl hK (by decide) rfl rfl (r_assign hK rfl) fun a hK => ?_
                    refine wpList_nil ?_
                    have hS := hS.pk5
                    have hS := hS.pk5
                    have hS := hS.pk5
                    have hS := hS.pk5
                    have hS := hS.pk5
                    exact ⟨false, H, hK.sub (all_cons rfl (all_cons rfl (all_cons rfl (all_cons rfl (all_cons rfl (all_cons rfl (all_cons rfl (all_nil)))))))), hS⟩
                · rintro a w ⟨x_1494, H, hK, hS⟩
                  unfold law06_StreamsPlays.j8 at H
                  refine wp_seq ?_
                  refine wp_seq ?_
                  refine wp_mid (fun a w => ∃ (x_1500 : Bool), law06_StreamsPlays.j9 (law06_StreamsPlays.l7 x_457 x_459 x_464 x_467 k_l7) x_467 x_1358 y_1485 x_1494 x_1500 = some true ∧ Kn 260 a [(6, .pointer (some ⟨b_456, 0, none⟩)), (7, .pointer (some ⟨b_13, 0, none⟩)), (23, .int .i64 x_1358), (24, .string y_1485.1), (25, v_1490), (27, .bool x_1494), (234, .bool x_1500)] ∧ St [] w0 w R_1487 [.row 60 2 v_460 x_459.length cs_461, .mp b_463 (kvs Value.string (Value.int .i64) x_464), .cells b_456 [.int .i64 x_457, v_460, .map (some b_463)] 56, .row 51 2 v_468 x_467.length cs_469, .cells b_13 [.int .i64 x_465, v_468] 46, .row 50 11 v_1490 y_1485.2.1.length cs_1491]) ?_ ?_
                  · refine wp_region_lit ?_
                    refine sl hK (by decide) rfl rfl (r_move hK rfl) fun a hK => ?_
                    refine sl hK (by decide) rfl rfl (r_move hK rfl) fun a hK => ?_
                    refine sl hK (by decide) rfl rfl (r_bne Tryd.underlying4 hK rfl rfl) fun a hK => ?_
                    refine sl hK (by decide) rfl rfl (r_move hK rfl) fun a hK => ?_
                    rcases or_b (!(y_1485.2.2 == x_1494)) with hb_1502 | hb_1502
                    · rw [ifb_t hb_1502] at H
                      refine sl_skip hK (by decide) (wft hb_1502) rfl fun a hK => ?_
                      refine sl_skip hK (by decide) (wft hb_1502) rfl fun a hK => ?_
                      refine sl_skip hK (by decide) (wft hb_1502) rfl fun a hK => ?_
                      refine sl_skip hK (by decide) rfl rfl fun a hK => ?_
                      refine sl_skip hK (by decide) rfl rfl fun a hK => ?_
                      refine sl_skip hK (by decide) rfl rfl fun a hK => ?_
                      refine sl_skip hK (by decide) rfl rfl fun a hK => ?_
                      refine sl_skip hK (by decide) rfl rfl fun a hK => ?_
                      refine sl_skip hK (by decide) rfl rfl fun a hK => ?_
                      refine sl_skip hK (by decide) rfl rfl fun a hK => ?_
                      refine sl_skip hK (by decide) (wft hb_1502) rfl fun a hK => ?_
                      refine sl hK (by decide) rfl rfl (r_pick_t hb_1502 hK rfl rfl) fun a hK => ?_
                      refine wpList_nil ?_
                      have hS := hS.pk5
                      have hS := hS.pk5
                      have hS := hS.pk5
                      have hS := hS.pk5
                      have hS := hS.pk5
                      have hS := hS.pk5
                      exact ⟨true, H, hK.sub (all_cons rfl (all_cons rfl (all_cons rfl (all_cons rfl (all_cons rfl (all_cons rfl (all_cons rfl (all_nil)))))))), hS⟩
                    · rw [ifb_f hb_1502] at H
                      refine sl hK (by decide) (wff hb_1502) rfl (r_move hK rfl) fun a hK => ?_
                      refine sl hK (by decide) (wff hb_1502) rfl (r_un hK rfl (u_not _)) fun a hK => ?_
                      refine sl hK (by decide) (wff hb_1502) rfl (r_move hK rfl) fun a hK => ?_
                      rcases or_b (!x_1494) with hb_1503 | hb_1503
                      · rw [ifb_t hb_1503] at H
                        refine sl hK (by decide) (wtt hb_1503) rfl (r_move hK rfl) fun a hK => ?_
                        refine sl hK (by decide) (wtt hb_1503) rfl (r_sbin hK rfl rfl rfl) fun a hK => ?_
                        refine sl hK (by decide) (wtt hb_1503) rfl (r_move hK rfl) fun a hK => ?_
                        rcases or_b (!(y_1485.1.toList == (⟨#[]⟩ : ByteArray).toList)) with hb_1504 | hb_1504
                        · rw [ifb_t hb_1504] at H
                          refine sl_skip hK (by decide) (wft hb_1504) rfl fun a hK => ?_
                          refine sl_skip hK (by decide) (wft hb_1504) rfl fun a hK => ?_
                          refine sl_skip hK (by decide) (wft hb_1504) rfl fun a hK => ?_
                          refine sl hK (by decide) (wtt hb_1503) rfl (r_pick_t hb_1504 hK rfl rfl) fun a hK => ?_
                          refine sl hK (by decide) (wff hb_1502) rfl (r_pick_t hb_1503 hK rfl rfl) fun a hK => ?_
                          refine sl hK (by decide) rfl rfl (r_pick_f hb_1502 hK rfl rfl) fun a hK => ?_
                          refine wpList_nil ?_
                          have hS := hS.pk5
                          have hS := hS.pk5
                          have hS := hS.pk5
                          have hS := hS.pk5
                          have hS := hS.pk5
                          have hS := hS.pk5
                          exact ⟨true, H, hK.sub (all_cons rfl (all_cons rfl (all_cons rfl (all_cons rfl (all_cons rfl (all_cons rfl (all_cons rfl (all_nil)))))))), hS⟩
                        · rw [ifb_f hb_1504] at H
                          refine sl hK (by decide) (wff hb_1504) rfl (r_move hK rfl) fun a hK => ?_
                          refine sl hK (by decide) (wff hb_1504) rfl (r_len_O Tryd.underlying30 hS (.tail _ (.tail _ (.tail _ (.tail _ (.tail _ (.head _)))))) hK rfl) fun a hK => ?_
                          refine sl hK (by decide) (wff hb_1504) rfl (r_ibin hK rfl rfl rfl) fun a hK => ?_
                          refine sl hK (by decide) (wtt hb_1503) rfl (r_pick_f hb_1504 hK rfl rfl) fun a hK => ?_
                          refine sl hK (by decide) (wff hb_1502) rfl (r_pick_t hb_1503 hK rfl rfl) fun a hK => ?_
                          refine sl hK (by decide) rfl rfl (r_pick_f hb_1502 hK rfl rfl) fun a hK => ?_
                          refine wpList_nil ?_
                          have hS := hS.pk5
                          have hS := hS.pk5
                          have hS := hS.pk5
                          have hS := hS.pk5
                          have hS := hS.pk5
                          have hS := hS.pk5
                          exact ⟨(decide ((y_1485.2.1.length : Int) > 0)), H, hK.sub (all_cons rfl (all_cons rfl (all_cons rfl (all_cons rfl (all_cons rfl (all_cons rfl (all_cons rfl (all_nil)))))))), hS⟩
                      · rw [ifb_f hb_1503] at H
                        refine sl_skip hK (by decide) (wtf hb_1503) rfl fun a hK => ?_
                        refine sl_skip hK (by decide) (wtf hb_1503) rfl fun a hK => ?_
                        refine sl_skip hK (by decide) (wtf hb_1503) rfl fun a hK => ?_
                        refine sl_skip hK (by decide) rfl rfl fun a hK => ?_
                        refine sl_skip hK (by decide) rfl rfl fun a hK => ?_
                        refine sl_skip hK (by decide) rfl rfl fun a hK => ?_
                        refine sl_skip hK (by decide) (wtf hb_1503) rfl fun a hK => ?_
                        refine sl hK (by decide) (wff hb_1502) rfl (r_pick_f hb_1503 hK rfl rfl) fun a hK => ?_
                        refine sl hK (by decide) rfl rfl (r_pick_f hb_1502 hK rfl rfl) fun a hK => ?_
                        refine wpList_nil ?_
                        have hS := hS.pk5
                        have hS := hS.pk5
                        have hS := hS.pk5
                        have hS := hS.pk5
                        have hS := hS.pk5
                        have hS := hS.pk5
                        exact ⟨false, H, hK.sub (all_cons rfl (all_cons rfl (all_cons rfl (all_cons rfl (all_cons rfl (all_cons rfl (all_cons rfl (all_nil)))))))), hS⟩
                  · rintro a w ⟨x_1500, H, hK, hS⟩
                    unfold law06_StreamsPlays.j9 at H
                    refine wp_cond_split (hK.ev rfl) (fun (hb_1505 : x_1500 = true) => ?_) (fun (hb_1505 : x_1500 = false) => ?_)
                    · rw [ifb_t hb_1505] at H
                      refine wp_seq ?_
                      refine wp_region_lit ?_
                      refine sl hK (by decide) rfl rfl (r_assign hK rfl) fun a hK => ?_
                      refine wpList_nil ?_
                      exact absurd (Option.some.inj H) (by decide)
                    · rw [ifb_f hb_1505] at H
                      refine wp_skip ?_
                      refine wp_seq ?_
                      refine wp_region_lit ?_
                      refine sl hK (by decide) rfl rfl (r_move hK rfl) fun a hK => ?_
                      refine wpList_nil ?_
                      refine wp_mid (fun a w => law06_StreamsPlays.j10 (law06_StreamsPlays.l7 x_457 x_459 x_464 x_467 k_l7) x_467 x_1358 = some true ∧ Kn 260 a [(6, .pointer (some ⟨b_456, 0, none⟩)), (7, .pointer (some ⟨b_13, 0, none⟩)), (23, .int .i64 x_1358)] ∧ St [] w0 w R_1487 [.row 60 2 v_460 x_459.length cs_461, .mp b_463 (kvs Value.string (Value.int .i64) x_464), .cells b_456 [.int .i64 x_457, v_460, .map (some b_463)] 56, .row 51 2 v_468 x_467.length cs_469, .cells b_13 [.int .i64 x_465, v_468] 46]) ?_ ?_
                      · refine wp_cond_split (hK.ev rfl) (fun (hb_1557 : x_1494 = true) => ?_) (fun (hb_1557 : x_1494 = false) => ?_)
                        · rw [ifb_t hb_1557] at H
                          refine wp_seq ?_
                          refine wp_mid (fun a w => ∃ (x_1581 : Bool), law06_StreamsPlays.j11 (law06_StreamsPlays.l7 x_457 x_459 x_464 x_467 k_l7) x_467 x_1358 x_1581 = some true ∧ Kn 260 a [(6, .pointer (some ⟨b_456, 0, none⟩)), (7, .pointer (some ⟨b_13, 0, none⟩)), (23, .int .i64 x_1358), (28, .bool x_1581)] ∧ St [] w0 w R_1487 [.row 60 2 v_460 x_459.length cs_461, .mp b_463 (kvs Value.string (Value.int .i64) x_464), .cells b_456 [.int .i64 x_457, v_460, .map (some b_463)] 56, .row 51 2 v_468 x_467.length cs_469, .cells b_13 [.int .i64 x_465, v_468] 46]) ?_ ?_
                          · refine wp_region_lit ?_
                            refine sl hK (by decide) rfl rfl (r_move hK rfl) fun a hK => ?_
                            refine sl hK (by decide) rfl rfl (r_move hK rfl) fun a hK => ?_
                            refine sl hK (by decide) rfl rfl (r_nilCheck hK rfl) fun a hK => ?_
                            refine sl hK (by decide) rfl rfl (r_fieldAddr Tryd.underlying46 rfl Tryd.sizeOf44 hK rfl) fun a hK => ?_
                            refine sl hK (by decide) rfl rfl (r_load Tryd.isAgg44 hK rfl (hS.cell (.tail _ (.tail _ (.tail _ (.tail _ (.head _))))) rfl)) fun a hK => ?_
                            refine sl hK (by decide) rfl rfl (r_move hK rfl) fun a hK => ?_
                            obtain ⟨y_1583, h_1584, H⟩ := bind_some H
                            obtain ⟨b_1586, c_1587, cs_1588, hv_1585, hr_1589, hc_1590, h_15840, h_15841⟩ := hS.row_ix (.tail _ (.tail _ (.tail _ (.head _)))) (hq_470.mono (hl_1360.le.trans hl_1488.le)) rfl rfl h_1584
                            obtain ⟨v_1591, rfl, hs_1592⟩ := hr_1589
                            refine sl hK (by decide) rfl rfl (r_indexAddr_R Tryd.underlying44 Tryd.sizeOf51 hv_1585 h_15840 h_15841 hK rfl rfl) fun a hK => ?_
                            refine sl hK (by decide) rfl rfl (r_fieldAddr Tryd.underlying51 rfl Tryd.sizeOf9 hK rfl) fun a hK => ?_
                            refine sl hK (by decide) rfl rfl (r_load Tryd.isAgg9 hK rfl (by have h_ := hS.row_cell (.tail _ (.tail _ (.tail _ (.head _)))) hv_1585 (hc_1590 0 _ rfl); simpa [Nat.add_assoc] using h_)) fun a hK => ?_
                            refine sl hK (by decide) rfl rfl (r_sbin hK rfl rfl rfl) fun a hK => ?_
                            refine sl hK (by decide) rfl rfl (r_move hK rfl) fun a hK => ?_
                            rcases or_b (y_1485.1.toList == y_1583.Name.toList) with hb_1593 | hb_1593
                            · rw [ifb_t hb_1593] at H
                              refine sl hK (by decide) (wtt hb_1593) rfl (r_move hK rfl) fun a hK => ?_
                              refine sl hK (by decide) (wtt hb_1593) rfl (r_move hK rfl) fun a hK => ?_
                              refine sl hK (by decide) (wtt hb_1593) rfl (r_nilCheck hK rfl) fun a hK => ?_
                              refine sl hK (by decide) (wtt hb_1593) rfl (r_fieldAddr Tryd.underlying46 rfl Tryd.sizeOf44 hK rfl) fun a hK => ?_
                              refine sl hK (by decide) (wtt hb_1593) rfl (r_load Tryd.isAgg44 hK rfl (hS.cell (.tail _ (.tail _ (.tail _ (.tail _ (.head _))))) rfl)) fun a hK => ?_
                              refine sl hK (by decide) (wtt hb_1593) rfl (r_move hK rfl) fun a hK => ?_
                              obtain ⟨y_1594, h_1595, H⟩ := bind_some H
                              obtain ⟨b_1597, c_1598, cs_1599, hv_1596, hr_1600, hc_1601, h_15950, h_15951⟩ := hS.row_ix (.tail _ (.tail _ (.tail _ (.head _)))) (hq_470.mono (hl_1360.le.trans hl_1488.le)) rfl rfl h_1595
                              obtain ⟨v_1602, rfl, hs_1603⟩ := hr_1600
                              refine sl hK (by decide) (wtt hb_1593) rfl (r_indexAddr_R Tryd.underlying44 Tryd.sizeOf51 hv_1596 h_15950 h_15951 hK rfl rfl) fun a hK => ?_
                              refine sl hK (by decide) (wtt hb_1593) rfl (r_fieldAddr Tryd.underlying51 rfl Tryd.sizeOf30 hK rfl) fun a hK => ?_
                              refine sl hK (by decide) (wtt hb_1593) rfl (r_load Tryd.isAgg30 hK rfl (by have h_ := hS.row_cell (.tail _ (.tail _ (.tail _ (.head _)))) hv_1596 (hc_1601 1 _ rfl); simpa [Nat.add_assoc] using h_)) fun a hK => ?_
                              obtain ⟨y_1604, h_1605, H⟩ := bind_some H
                              refine sl_callV Tryd.call10 hS hK (by decide) (wtt hb_1593) rfl rfl (law06_same.calls y_1485.2.1 y_1594.Keys (lentOf_sub [] _) (hS.lend_row0 (.tail _ (.tail _ (.tail _ (.tail _ (.tail _ (.head _)))))) hq_1492 rfl rfl) (hs_1603.mono hS.rLe0) h_1605) fun a w hS hK => ?_
                              refine sl hK (by decide) rfl rfl (r_pick_t hb_1593 hK rfl rfl) fun a hK => ?_
                              refine sl hK (by decide) rfl rfl (r_assign hK rfl) fun a hK => ?_
                              refine wpList_nil ?_
                              have hS := hS.pk4
                              have hS := hS.pk4
                              have hS := hS.pk4
                              have hS := hS.pk4
                              have hS := hS.pk4
                              exact ⟨y_1604, H, hK.sub (all_cons rfl (all_cons rfl (all_cons rfl (all_cons rfl (all_nil))))), hS.trunc 5⟩
                            · rw [ifb_f hb_1593] at H
                              refine sl_skip hK (by decide) (wtf hb_1593) rfl fun a hK => ?_
                              refine sl_skip hK (by decide) (wtf hb_1593) rfl fun a hK => ?_
                              refine sl_skip hK (by decide) (wtf hb_1593) rfl fun a hK => ?_
                              refine sl_skip hK (by decide) (wtf hb_1593) rfl fun a hK => ?_
                              refine sl_skip hK (by decide) (wtf hb_1593) rfl fun a hK => ?_
                              refine sl_skip hK (by decide) (wtf hb_1593) rfl fun a hK => ?_
                              refine sl_skip hK (by decide) (wtf hb_1593) rfl fun a hK => ?_
                              refine sl_skip hK (by decide) (wtf hb_1593) rfl fun a hK => ?_
                              refine sl_skip hK (by decide) (wtf hb_1593) rfl fun a hK => ?_
                              refine sl_skip hK (by decide) (wtf hb_1593) rfl fun a hK => ?_
                              refine sl hK (by decide) rfl rfl (r_pick_f hb_1593 hK rfl rfl) fun a hK => ?_
                              refine sl hK (by decide) rfl rfl (r_assign hK rfl) fun a hK => ?_
                              refine wpList_nil ?_
                              have hS := hS.pk4
                              have hS := hS.pk4
                              have hS := hS.pk4
                              have hS := hS.pk4
                              have hS := hS.pk4
                              exact ⟨false, H, hK.sub (all_cons rfl (all_cons rfl (all_cons rfl (all_cons rfl (all_nil))))), hS.trunc 5⟩
                          · rintro a w ⟨x_1581, H, hK, hS⟩
                            unfold law06_StreamsPlays.j11 at H
                            refine wp_seq ?_
                            refine wp_region_lit ?_
                            refine sl hK (by decide) rfl rfl (r_move hK rfl) fun a hK => ?_
                            refine sl hK (by decide) rfl rfl (r_un hK rfl (u_not _)) fun a hK => ?_
                            refine wpList_nil ?_
                            refine wp_cond_split (hK.ev rfl) (fun (hb_1606 : (!x_1581) = true) => ?_) (fun (hb_1606 : (!x_1581) = false) => ?_)
                            · rw [ifb_t hb_1606] at H
                              refine wp_seq ?_
                              refine wp_region_lit ?_
                              refine sl hK (by decide) rfl rfl (r_assign hK rfl) fun a hK => ?_
                              refine wpList_nil ?_
                              exact absurd (Option.some.inj H) (by decide)
                            · rw [ifb_f hb_1606] at H
                              refine wp_skip ?_
                              have hS := hS.pk4
                              have hS := hS.pk4
                              have hS := hS.pk4
                              have hS := hS.pk4
                              have hS := hS.pk4
                              exact ⟨H, hK.sub (all_cons rfl (all_cons rfl (all_cons rfl (all_nil)))), hS⟩
                        · rw [ifb_f hb_1557] at H
                          refine wp_skip ?_
                          have hS := hS.pk4
                          have hS := hS.pk4
                          have hS := hS.pk4
                          have hS := hS.pk4
                          have hS := hS.pk4
                          exact ⟨H, hK.sub (all_cons rfl (all_cons rfl (all_cons rfl (all_nil)))), hS.trunc 5⟩
                      · rintro a w ⟨H, hK, hS⟩
                        unfold law06_StreamsPlays.j10 at H
                        refine wp_region_lit ?_
                        refine sl hK (by decide) rfl rfl (r_move hK rfl) fun a hK => ?_
                        refine sl hK (by decide) rfl rfl (r_ibin hK rfl rfl rfl) fun a hK => ?_
                        refine sl hK (by decide) rfl rfl (r_assign hK rfl) fun a hK => ?_
                        refine wpList_nil ?_
                        have hS := hS.pk4
                        have hS := hS.pk4
                        have hS := hS.pk4
                        have hS := hS.pk4
                        have hS := hS.pk4
                        exact ⟨_, Nat.lt_succ_self _, (IntKind.i64.wrap (x_1358 + 1)), _, H, (hl_1360.trans hl_1488), hK.sub (all_cons rfl (all_cons rfl (all_cons rfl (all_nil)))), hS⟩
              · rw [ifb_f hb_1484] at H
                refine wp_exit ?_
                refine wp_seq ?_
                refine wp_region_lit ?_
                refine sl hK (by decide) rfl rfl (r_assign hK rfl) fun a hK => ?_
                refine wpList_nil ?_
                refine wp_ret ?_
                repeat (first | refine ret_then ?_ | refine ret_block ?_ | refine ret_scope ?_)
                exact ret_1 Tryd.results5 hK (rv_tmp hK rfl) ⟨rfl, hS.bel⟩

end Go.Proofs.YtffleadhhhpnlaaDoor.M
