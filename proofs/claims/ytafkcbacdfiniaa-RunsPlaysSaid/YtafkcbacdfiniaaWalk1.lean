/- Each Go function of the laws answers as its plain Lean function tells, wherever that tells something. Printed by wip/eng/gen.py. -/
import Derived.Test.YtafkcbacdfiniaaPure
import Derived.Test.YtafkcbacdfiniaaProg
namespace Go.Proofs.Ytafkcbacdfiniaa.M
open Go Go.Eng Go.Proofs Go.RowKit
set_option linter.unusedVariables false
set_option linter.unusedSimpArgs false

theorem mixed : Try.prog.follows .mixedOrders = true := by kernel_rfl
set_option maxRecDepth 100000 in
theorem elT27 : ElT Try.prog 27 44 11 96 := ⟨Try.underlying27, ⟨Try.t44, _, Try.type44, rfl, rfl, rfl, rfl⟩, by decide⟩
set_option maxRecDepth 100000 in
theorem elT22 : ElT Try.prog 22 29 2 32 := ⟨Try.underlying22, ⟨Try.t29, _, Try.type29, rfl, rfl, rfl, rfl⟩, by decide⟩
theorem places50 (w : World) : (placesOf Try.prog 50).run Try.prog w = .ok #[(0, 1)] w := by
  unfold placesOf
  rw [Try.underlying50]
  simp [Try.sizeOf22]
theorem places44 (w : World) : (placesOf Try.prog 44).run Try.prog w = .ok #[(0, 1), (1, 1), (2, 1), (3, 8)] w := by
  unfold placesOf
  rw [Try.underlying44]
  simp [Try.sizeOf3, Try.sizeOf42, Try.sizeOf9]
theorem places29 (w : World) : (placesOf Try.prog 29).run Try.prog w = .ok #[(0, 1), (1, 1)] w := by
  unfold placesOf
  rw [Try.underlying29]
  simp [Try.sizeOf27, Try.sizeOf3]
theorem eqs44 (x y : api_Value) : EqS Try.prog 44 #[.int .i64 x.Kind, .int .i64 x.N, .string x.S, .int .i64 x.H.a0, .int .i64 x.H.a1, .int .i64 x.H.a2, .int .i64 x.H.a3, .int .i64 x.H.a4, .int .i64 x.H.a5, .int .i64 x.H.a6, .int .i64 x.H.a7] #[.int .i64 y.Kind, .int .i64 y.N, .string y.S, .int .i64 y.H.a0, .int .i64 y.H.a1, .int .i64 y.H.a2, .int .i64 y.H.a3, .int .i64 y.H.a4, .int .i64 y.H.a5, .int .i64 y.H.a6, .int .i64 y.H.a7] (decide (x = y)) := by
  refine eqS_of (by kernel_rfl) (by kernel_rfl) (fun w => by
    simp only [Program.fieldsOf, Try.underlying44]
    exact eqF_cons (by decide) (run_part1 Try.isAgg3 rfl) (run_part1 Try.isAgg3 rfl) (run_equalIn_int w _ _ _ _ _ _ Try.underlying3) (eqF_cons (by decide) (run_part1 Try.isAgg3 rfl) (run_part1 Try.isAgg3 rfl) (run_equalIn_int w _ _ _ _ _ _ Try.underlying3) (eqF_cons (by decide) (run_part1 Try.isAgg9 rfl) (run_part1 Try.isAgg9 rfl) (run_equalIn_string w _ _ _ _ Try.underlying9) (eqF_cons (by decide) (run_partA (ys := (x.H.list.map (Value.int .i64)).toArray) Try.isAgg42 Try.sizeOf42 rfl) (run_partA (ys := (y.H.list.map (Value.int .i64)).toArray) Try.isAgg42 Try.sizeOf42 rfl) (eq_arr' (q := 9998) Try.underlying42 (fun a b w => run_equalIn_int w 9997 _ _ _ a b Try.underlying3) Try.isAgg3 Try.sizeOf3 x.H.list y.H.list rfl rfl w) (eqF_nil))))) ?_
  simp only [beq_bytes, Arr8.list_inj, Arr2.list_inj, Bool.and_true]
  cases x; cases y; simp <;> rfl
theorem places41 (w : World) : (placesOf Try.prog 41).run Try.prog w = .ok #[(0, 1)] w := by
  unfold placesOf
  rw [Try.underlying41]
  simp [Try.sizeOf22]

/-! ### catchment/runs.New: function 7 -/
set_option maxHeartbeats 4000000 in
set_option maxRecDepth 100000 in
theorem runs_New.calls {w0 : World} {R : Hp} (hR : R.sub w0) {r : runs_Run} (H : runs_New  = some r) : Calls Try.prog 7 #[] w0 (Rets fun v w' => ∃ (R' : Hp) (B0 : Nat) (u1 : Value) (cu1 : List Value), v = .pointer (some ⟨B0, 0, none⟩) ∧ St [] w0 w' R' [.cells B0 [u1] 50, .row 29 2 u1 r.l.length cu1] ∧ RLe [] w0 R R' ∧ Reps ty_api_Sample R' cu1 r.l) := by
  unfold runs_New at H
  refine enter (args := []) Try.func7 rfl Try.ntmps7 rfl fun a hK => ?_
  have hS := St.init hR
  have hRL := RLe.refl (M := []) w0 R
  refine wp_seq ?_
  refine wp_region_lit ?_
  refine sl hK (by decide) rfl rfl (r_assign hK rfl) fun a hK => ?_
  refine wpList_nil ?_
  refine wp_seq ?_
  refine wp_region_lit ?_
  refine sl hK (by decide) rfl rfl (r_buildC (ps := []) (c := [.slice none 0 0]) Try.underlying50 Try.zeroValue50 places50 hK rfl pc_nil rfl rfl) fun a hK => ?_
  refine sl_box hS hK (by decide) rfl rfl (c := [.slice none 0 0]) rfl fun a w b_1 hS hK => ?_
  refine sl hK (by decide) rfl rfl (r_assign hK rfl) fun a hK => ?_
  refine wpList_nil ?_
  have hS := hS.row_nil 29 2
  have hq_3 : Reps ty_api_Sample R [] ([] : List api_Sample) := Reps.nil _ _
  obtain rfl := Option.some.inj H
  refine wp_ret ?_
  repeat (first | refine ret_then ?_ | refine ret_block ?_ | refine ret_scope ?_)
  exact ret_1 Try.results7 hK (rv_tmp hK rfl) ⟨_, rfl, _, _, _, _, rfl, hS.pk1, hRL, hq_3⟩

/-! ### (*catchment/runs.Run).Span: function 18 -/
set_option maxHeartbeats 4000000 in
set_option maxRecDepth 100000 in
theorem runs_Run_Span.calls (a0 : runs_Run) {w0 : World} {RA : Hp} {b0 : Nat} {o0 : Nat} {v0_0 : Value} (hRA : RA.sub w0) (hc0 : ∀ j u, ([v0_0] : List Value)[j]? = some u → RA.cell b0 (o0 + j) = some u) (h0_0 : SlR ty_api_Sample RA v0_0 a0.l) {r : Int × Int × Bool} (H : runs_Run_Span a0 = some r) : CallsV Try.prog 18 #[.pointer (some ⟨b0, o0, none⟩)] w0 (.tuple #[.int .i64 r.1, .int .i64 r.2.1, .bool r.2.2]) := by
  unfold runs_Run_Span at H
  refine enter (args := [.pointer (some ⟨b0, o0, none⟩)]) Try.func18 rfl Try.ntmps18 rfl fun a hK => ?_
  have hS := St.init (R := fun _ => none) (w := w0) (fun _ _ h => by cases h)
  have hRL := RLe.refl (M := []) w0 (fun _ => none)
  refine wp_seq ?_
  refine wp_region_lit ?_
  refine sl hK (by decide) rfl rfl (r_assign hK rfl) fun a hK => ?_
  refine sl hK (by decide) rfl rfl (r_assign hK rfl) fun a hK => ?_
  refine sl hK (by decide) rfl rfl (r_assign hK rfl) fun a hK => ?_
  refine wpList_nil ?_
  refine wp_seq ?_
  refine wp_seq ?_
  refine wp_region_lit ?_
  refine sl hK (by decide) rfl rfl (r_move hK rfl) fun a hK => ?_
  refine sl hK (by decide) rfl rfl (r_nilCheck hK rfl) fun a hK => ?_
  refine sl hK (by decide) rfl rfl (r_fieldAddr Try.underlying50 rfl Try.sizeOf22 hK rfl) fun a hK => ?_
  refine sl hK (by decide) rfl rfl (r_load Try.isAgg22 hK rfl ((hS.ra hRA nil_not).cell (hc0 0 _ rfl))) fun a hK => ?_
  refine sl hK (by decide) rfl rfl (r_len_R Try.underlying22 h0_0 hK rfl) fun a hK => ?_
  refine sl hK (by decide) rfl rfl (r_ibin hK rfl rfl rfl) fun a hK => ?_
  refine wpList_nil ?_
  refine wp_cond_split (hK.ev rfl) (fun (hb_1 : ((a0.l.length : Int) == 0) = true) => ?_) (fun (hb_1 : ((a0.l.length : Int) == 0) = false) => ?_)
  · rw [ifb_t hb_1] at H
    refine wp_seq ?_
    refine wp_region_lit ?_
    refine sl hK (by decide) rfl rfl (r_assign hK rfl) fun a hK => ?_
    refine sl hK (by decide) rfl rfl (r_assign hK rfl) fun a hK => ?_
    refine sl hK (by decide) rfl rfl (r_assign hK rfl) fun a hK => ?_
    refine wpList_nil ?_
    obtain rfl := Option.some.inj H
    refine wp_ret ?_
    repeat (first | refine ret_then ?_ | refine ret_block ?_ | refine ret_scope ?_)
    exact ret_3 Try.results18 hK (rv_tmp hK rfl) (rv_tmp hK rfl) (rv_tmp hK rfl) ⟨rfl, hS.bel⟩
  · rw [ifb_f hb_1] at H
    refine wp_skip ?_
    refine wp_seq ?_
    refine par_region (C := fun w => St [] w0 w (fun _ => none) []) [(0, true), (1, true), (2, true), (3, true), (4, true), (5, true), (6, true), (7, true), (8, true), (9, true), (10, true), (11, true), (12, true), (13, true), (14, true), (15, true), (16, true), (17, true), (18, true), (19, true), (20, true), (21, true), (22, true)] mixed (by kernel_rfl) hS (fun w hS => hS) fun w hS => ?_
    refine sp (k := 0) rfl hK (by decide) rfl rfl (fun w hS => r_move hK rfl) fun a hK => ?_
    refine sp (k := 1) rfl hK (by decide) rfl rfl (fun w hS => r_nilCheck hK rfl) fun a hK => ?_
    refine sp (k := 2) rfl hK (by decide) rfl rfl (fun w hS => r_fieldAddr Try.underlying50 rfl Try.sizeOf22 hK rfl) fun a hK => ?_
    refine sp (k := 3) rfl hK (by decide) rfl rfl (fun w hS => r_load Try.isAgg22 hK rfl ((hS.ra hRA nil_not).cell (hc0 0 _ rfl))) fun a hK => ?_
    obtain ⟨y_24, h_25, H⟩ := bind_some H
    obtain ⟨b_26, o_27, c_28, cs_29, hv_30, hr_31, hc_32, h_250, h_251⟩ := h0_0.ix h_25
    obtain ⟨v_33, rfl, hs_34⟩ := hr_31
    refine sp (k := 4) rfl hK (by decide) rfl rfl (fun w hS => r_indexAddr_R Try.underlying22 Try.sizeOf29 hv_30 h_250 h_251 hK rfl rfl) fun a hK => ?_
    refine sp (k := 5) rfl hK (by decide) rfl rfl (fun w hS => r_fieldAddr Try.underlying29 rfl Try.sizeOf3 hK rfl) fun a hK => ?_
    refine sp (k := 6) rfl hK (by decide) rfl rfl (fun w hS => r_load Try.isAgg3 hK rfl ((hS.ra hRA nil_not).cell (hc_32 0 _ rfl))) fun a hK => ?_
    refine sp (k := 7) rfl hK (by decide) rfl rfl (fun w hS => r_move hK rfl) fun a hK => ?_
    refine sp (k := 8) rfl hK (by decide) rfl rfl (fun w hS => r_nilCheck hK rfl) fun a hK => ?_
    refine sp (k := 9) rfl hK (by decide) rfl rfl (fun w hS => r_fieldAddr Try.underlying50 rfl Try.sizeOf22 hK rfl) fun a hK => ?_
    refine sp (k := 10) rfl hK (by decide) rfl rfl (fun w hS => r_load Try.isAgg22 hK rfl ((hS.ra hRA nil_not).cell (hc0 0 _ rfl))) fun a hK => ?_
    refine sp (k := 11) rfl hK (by decide) rfl rfl (fun w hS => r_move hK rfl) fun a hK => ?_
    refine sp (k := 12) rfl hK (by decide) rfl rfl (fun w hS => r_nilCheck hK rfl) fun a hK => ?_
    refine sp (k := 13) rfl hK (by decide) rfl rfl (fun w hS => r_fieldAddr Try.underlying50 rfl Try.sizeOf22 hK rfl) fun a hK => ?_
    refine sp (k := 14) rfl hK (by decide) rfl rfl (fun w hS => r_load Try.isAgg22 hK rfl ((hS.ra hRA nil_not).cell (hc0 0 _ rfl))) fun a hK => ?_
    refine sp (k := 15) rfl hK (by decide) rfl rfl (fun w hS => r_len_R Try.underlying22 h0_0 hK rfl) fun a hK => ?_
    refine sp (k := 16) rfl hK (by decide) rfl rfl (fun w hS => r_ibin hK rfl rfl rfl) fun a hK => ?_
    obtain ⟨y_35, h_36, H⟩ := bind_some H
    obtain ⟨b_37, o_38, c_39, cs_40, hv_41, hr_42, hc_43, h_360, h_361⟩ := h0_0.ix h_36
    obtain ⟨v_44, rfl, hs_45⟩ := hr_42
    refine sp (k := 17) rfl hK (by decide) rfl rfl (fun w hS => r_indexAddr_R Try.underlying22 Try.sizeOf29 hv_41 h_360 h_361 hK rfl rfl) fun a hK => ?_
    refine sp (k := 18) rfl hK (by decide) rfl rfl (fun w hS => r_fieldAddr Try.underlying29 rfl Try.sizeOf3 hK rfl) fun a hK => ?_
    refine sp (k := 19) rfl hK (by decide) rfl rfl (fun w hS => r_load Try.isAgg3 hK rfl ((hS.ra hRA nil_not).cell (hc_43 0 _ rfl))) fun a hK => ?_
    refine sp (k := 20) rfl hK (by decide) rfl rfl (fun w hS => r_assign hK rfl) fun a hK => ?_
    refine sp (k := 21) rfl hK (by decide) rfl rfl (fun w hS => r_assign hK rfl) fun a hK => ?_
    refine sp (k := 22) rfl hK (by decide) rfl rfl (fun w hS => r_assign hK rfl) fun a hK => ?_
    refine wpPar_nil (NoP_nil ?_)
    obtain rfl := Option.some.inj H
    refine wp_ret ?_
    repeat (first | refine ret_then ?_ | refine ret_block ?_ | refine ret_scope ?_)
    exact ret_3 Try.results18 hK (rv_tmp hK rfl) (rv_tmp hK rfl) (rv_tmp hK rfl) ⟨rfl, hS.bel⟩

/-! ### catchment/catchmentlaw07.word: function 19 -/
set_option maxHeartbeats 4000000 in
set_option maxRecDepth 100000 in
theorem law07_word.calls (a0 : ByteArray) {w0 : World} {R : Hp} (hR : R.sub w0) {r : List api_Value} (H : law07_word a0 = some r) : Calls Try.prog 19 #[.string a0] w0 (Rets fun v w' => ∃ (R' : Hp) (u0 : Value) (cu0 : List Value), v = u0 ∧ St [] w0 w' R' [.row 44 11 u0 r.length cu0] ∧ RLe [] w0 R R' ∧ Reps ty_api_Value R' cu0 r) := by
  unfold law07_word at H
  refine enter (args := [.string a0]) Try.func19 rfl Try.ntmps19 rfl fun a hK => ?_
  have hS := St.init hR
  have hRL := RLe.refl (M := []) w0 R
  refine wp_seq ?_
  refine wp_region_lit ?_
  refine sl hK (by decide) rfl rfl (r_assign hK rfl) fun a hK => ?_
  refine wpList_nil ?_
  refine wp_seq ?_
  refine wp_region_lit ?_
  refine sl hK (by decide) rfl rfl (r_move hK rfl) fun a hK => ?_
  refine sl hK (by decide) rfl rfl (r_buildC (ps := [(0, .int .i64 2), (2, .string a0)]) (c := [.int .i64 2, .int .i64 0, .string a0, .int .i64 0, .int .i64 0, .int .i64 0, .int .i64 0, .int .i64 0, .int .i64 0, .int .i64 0, .int .i64 0]) Try.underlying44 Try.zeroValue44 places44 hK rfl (pc_cons rfl (pc_cons rfl pc_nil)) rfl rfl) fun a hK => ?_
  refine sl_buildSliceF (zc := [.int .i64 0, .int .i64 0, .string (⟨#[]⟩ : ByteArray), .int .i64 0, .int .i64 0, .int .i64 0, .int .i64 0, .int .i64 0, .int .i64 0, .int .i64 0, .int .i64 0]) (ps := [(0, .agg #[.int .i64 2, .int .i64 0, .string a0, .int .i64 0, .int .i64 0, .int .i64 0, .int .i64 0, .int .i64 0, .int .i64 0, .int .i64 0, .int .i64 0])]) (c := [.int .i64 2, .int .i64 0, .string a0, .int .i64 0, .int .i64 0, .int .i64 0, .int .i64 0, .int .i64 0, .int .i64 0, .int .i64 0, .int .i64 0]) [[.int .i64 2, .int .i64 0, .string a0, .int .i64 0, .int .i64 0, .int .i64 0, .int .i64 0, .int .i64 0, .int .i64 0, .int .i64 0, .int .i64 0]] Try.underlying27 Try.sizeOf44 Try.zeroValue44 rfl (pc_cons rfl pc_nil) rfl rfl (Nat.le_of_ble_eq_true rfl) rfl (all_cons rfl (all_nil)) rfl hS hK (by decide) rfl fun a w b_1 hS hK => ?_
  refine sl hK (by decide) rfl rfl (r_assign hK rfl) fun a hK => ?_
  refine wpList_nil ?_
  have hS := hS.row_lit (size := 11) (m := 1) rfl (by decide)
  have hq_3 : Reps ty_api_Value R [.int .i64 2, .int .i64 0, .string a0, .int .i64 0, .int .i64 0, .int .i64 0, .int .i64 0, .int .i64 0, .int .i64 0, .int .i64 0, .int .i64 0] [(⟨2, 0, a0, (⟨0, 0, 0, 0, 0, 0, 0, 0⟩ : Arr8)⟩ : api_Value)] := (Reps.cons (show Ty.rep ty_api_Value _ [.int .i64 2, .int .i64 0, .string a0, .int .i64 0, .int .i64 0, .int .i64 0, .int .i64 0, .int .i64 0, .int .i64 0, .int .i64 0, .int .i64 0] (⟨2, 0, a0, (⟨0, 0, 0, 0, 0, 0, 0, 0⟩ : Arr8)⟩ : api_Value) from rfl) (Reps.nil _ _))
  obtain rfl := Option.some.inj H
  refine wp_ret ?_
  repeat (first | refine ret_then ?_ | refine ret_block ?_ | refine ret_scope ?_)
  exact ret_1 Try.results19 hK (rv_tmp hK rfl) ⟨_, rfl, _, _, _, rfl, hS, hRL, hq_3⟩

/-! ### cmp.isNaN[int]: function 29 -/
set_option maxHeartbeats 4000000 in
set_option maxRecDepth 100000 in
theorem cmp_isNaN_int.calls (a0 : Int) {r : Bool} (H : cmp_isNaN_int a0 = some r) (w0 : World) : CallsV Try.prog 29 #[.int .i64 a0] w0 (.bool r) := by
  unfold cmp_isNaN_int at H
  refine enter (args := [.int .i64 a0]) Try.func29 rfl Try.ntmps29 rfl fun a hK => ?_
  have hS := St.init (R := fun _ => none) (w := w0) (fun _ _ h => by cases h)
  have hRL := RLe.refl (M := []) w0 (fun _ => none)
  refine wp_seq ?_
  refine wp_region_lit ?_
  refine sl hK (by decide) rfl rfl (r_assign hK rfl) fun a hK => ?_
  refine wpList_nil ?_
  refine wp_seq ?_
  refine wp_region_lit ?_
  refine sl hK (by decide) rfl rfl (r_move hK rfl) fun a hK => ?_
  refine sl hK (by decide) rfl rfl (r_move hK rfl) fun a hK => ?_
  refine sl hK (by decide) rfl rfl (r_ibin hK rfl rfl rfl) fun a hK => ?_
  refine sl hK (by decide) rfl rfl (r_assign hK rfl) fun a hK => ?_
  refine wpList_nil ?_
  obtain rfl := Option.some.inj H
  refine wp_ret ?_
  repeat (first | refine ret_then ?_ | refine ret_block ?_ | refine ret_scope ?_)
  exact ret_1 Try.results29 hK (rv_tmp hK rfl) ⟨rfl, hS.bel⟩

/-! ### cmp.Compare[int]: function 26 -/
set_option maxHeartbeats 4000000 in
set_option maxRecDepth 100000 in
theorem cmp_Compare_int.calls (a0 : Int) (a1 : Int) {r : Int} (H : cmp_Compare_int a0 a1 = some r) (w0 : World) : CallsV Try.prog 26 #[.int .i64 a0, .int .i64 a1] w0 (.int .i64 r) := by
  unfold cmp_Compare_int at H
  refine enter (args := [.int .i64 a0, .int .i64 a1]) Try.func26 rfl Try.ntmps26 rfl fun a hK => ?_
  have hS := St.init (R := fun _ => none) (w := w0) (fun _ _ h => by cases h)
  have hRL := RLe.refl (M := []) w0 (fun _ => none)
  refine wp_seq ?_
  refine wp_region_lit ?_
  refine sl hK (by decide) rfl rfl (r_assign hK rfl) fun a hK => ?_
  refine wpList_nil ?_
  refine wp_seq ?_
  refine wp_region_lit ?_
  refine sl hK (by decide) rfl rfl (r_move hK rfl) fun a hK => ?_
  obtain ⟨y_1, h_2, H⟩ := bind_some H
  refine sl_callV Try.call29 hS hK (by decide) rfl rfl rfl (cmp_isNaN_int.calls a0 h_2 _) fun a w hS hK => ?_
  refine sl hK (by decide) rfl rfl (r_assign hK rfl) fun a hK => ?_
  refine wpList_nil ?_
  refine wp_seq ?_
  refine wp_region_lit ?_
  refine sl hK (by decide) rfl rfl (r_move hK rfl) fun a hK => ?_
  obtain ⟨y_3, h_4, H⟩ := bind_some H
  refine sl_callV Try.call29 hS hK (by decide) rfl rfl rfl (cmp_isNaN_int.calls a1 h_4 _) fun a w hS hK => ?_
  refine sl hK (by decide) rfl rfl (r_assign hK rfl) fun a hK => ?_
  refine wpList_nil ?_
  refine wp_seq ?_
  refine wp_seq ?_
  refine wp_region_lit ?_
  refine sl hK (by decide) rfl rfl (r_move hK rfl) fun a hK => ?_
  refine wpList_nil ?_
  refine wp_cond_split (hK.ev rfl) (fun (hb_5 : y_1 = true) => ?_) (fun (hb_5 : y_1 = false) => ?_)
  · rw [ifb_t hb_5] at H
    refine wp_seq ?_
    refine wp_seq ?_
    refine wp_region_lit ?_
    refine sl hK (by decide) rfl rfl (r_move hK rfl) fun a hK => ?_
    refine wpList_nil ?_
    refine wp_cond_split (hK.ev rfl) (fun (hb_6 : y_3 = true) => ?_) (fun (hb_6 : y_3 = false) => ?_)
    · rw [ifb_t hb_6] at H
      refine wp_seq ?_
      refine wp_region_lit ?_
      refine sl hK (by decide) rfl rfl (r_assign hK rfl) fun a hK => ?_
      refine wpList_nil ?_
      obtain rfl := Option.some.inj H
      refine wp_ret ?_
      repeat (first | refine ret_then ?_ | refine ret_block ?_ | refine ret_scope ?_)
      exact ret_1 Try.results26 hK (rv_tmp hK rfl) ⟨rfl, hS.bel⟩
    · rw [ifb_f hb_6] at H
      refine wp_skip ?_
      refine wp_seq ?_
      refine wp_region_lit ?_
      refine sl hK (by decide) rfl rfl (r_assign hK rfl) fun a hK => ?_
      refine wpList_nil ?_
      obtain rfl := Option.some.inj H
      refine wp_ret ?_
      repeat (first | refine ret_then ?_ | refine ret_block ?_ | refine ret_scope ?_)
      exact ret_1 Try.results26 hK (rv_tmp hK rfl) ⟨rfl, hS.bel⟩
  · rw [ifb_f hb_5] at H
    refine wp_skip ?_
    refine wp_seq ?_
    refine wp_seq ?_
    refine wp_region_lit ?_
    refine sl hK (by decide) rfl rfl (r_move hK rfl) fun a hK => ?_
    refine wpList_nil ?_
    refine wp_cond_split (hK.ev rfl) (fun (hb_7 : y_3 = true) => ?_) (fun (hb_7 : y_3 = false) => ?_)
    · rw [ifb_t hb_7] at H
      refine wp_seq ?_
      refine wp_region_lit ?_
      refine sl hK (by decide) rfl rfl (r_assign hK rfl) fun a hK => ?_
      refine wpList_nil ?_
      obtain rfl := Option.some.inj H
      refine wp_ret ?_
      repeat (first | refine ret_then ?_ | refine ret_block ?_ | refine ret_scope ?_)
      exact ret_1 Try.results26 hK (rv_tmp hK rfl) ⟨rfl, hS.bel⟩
    · rw [ifb_f hb_7] at H
      refine wp_skip ?_
      refine wp_seq ?_
      refine wp_seq ?_
      refine wp_region_lit ?_
      refine sl hK (by decide) rfl rfl (r_move hK rfl) fun a hK => ?_
      refine sl hK (by decide) rfl rfl (r_move hK rfl) fun a hK => ?_
      refine sl hK (by decide) rfl rfl (r_ibin hK rfl rfl rfl) fun a hK => ?_
      refine wpList_nil ?_
      refine wp_cond_split (hK.ev rfl) (fun (hb_8 : (decide (a0 < a1)) = true) => ?_) (fun (hb_8 : (decide (a0 < a1)) = false) => ?_)
      · rw [ifb_t hb_8] at H
        refine wp_seq ?_
        refine wp_region_lit ?_
        refine sl hK (by decide) rfl rfl (r_assign hK rfl) fun a hK => ?_
        refine wpList_nil ?_
        obtain rfl := Option.some.inj H
        refine wp_ret ?_
        repeat (first | refine ret_then ?_ | refine ret_block ?_ | refine ret_scope ?_)
        exact ret_1 Try.results26 hK (rv_tmp hK rfl) ⟨rfl, hS.bel⟩
      · rw [ifb_f hb_8] at H
        refine wp_skip ?_
        refine wp_seq ?_
        refine wp_seq ?_
        refine wp_region_lit ?_
        refine sl hK (by decide) rfl rfl (r_move hK rfl) fun a hK => ?_
        refine sl hK (by decide) rfl rfl (r_move hK rfl) fun a hK => ?_
        refine sl hK (by decide) rfl rfl (r_ibin hK rfl rfl rfl) fun a hK => ?_
        refine wpList_nil ?_
        refine wp_cond_split (hK.ev rfl) (fun (hb_9 : (decide (a0 > a1)) = true) => ?_) (fun (hb_9 : (decide (a0 > a1)) = false) => ?_)
        · rw [ifb_t hb_9] at H
          refine wp_seq ?_
          refine wp_region_lit ?_
          refine sl hK (by decide) rfl rfl (r_assign hK rfl) fun a hK => ?_
          refine wpList_nil ?_
          obtain rfl := Option.some.inj H
          refine wp_ret ?_
          repeat (first | refine ret_then ?_ | refine ret_block ?_ | refine ret_scope ?_)
          exact ret_1 Try.results26 hK (rv_tmp hK rfl) ⟨rfl, hS.bel⟩
        · rw [ifb_f hb_9] at H
          refine wp_skip ?_
          refine wp_seq ?_
          refine wp_region_lit ?_
          refine sl hK (by decide) rfl rfl (r_assign hK rfl) fun a hK => ?_
          refine wpList_nil ?_
          obtain rfl := Option.some.inj H
          refine wp_ret ?_
          repeat (first | refine ret_then ?_ | refine ret_block ?_ | refine ret_scope ?_)
          exact ret_1 Try.results26 hK (rv_tmp hK rfl) ⟨rfl, hS.bel⟩

/-! ### (*catchment/runs.Run).place$1: function 25 -/
set_option maxHeartbeats 4000000 in
set_option maxRecDepth 100000 in
theorem runs_Run_place_1.calls (a0 : api_Sample) (a1 : Int) {w0 : World} {RA : Hp} {v0_0 : Value} (hRA : RA.sub w0) (h0_0 : SlR ty_api_Value RA v0_0 a0.Vals) {r : Int} (H : runs_Run_place_1 a0 a1 = some r) : CallsV Try.prog 25 #[.agg #[.int .i64 a0.Time, v0_0], .int .i64 a1] w0 (.int .i64 r) := by
  unfold runs_Run_place_1 at H
  refine enter (args := [.agg #[.int .i64 a0.Time, v0_0], .int .i64 a1]) Try.func25 rfl Try.ntmps25 rfl fun a hK => ?_
  have hS := St.init (R := fun _ => none) (w := w0) (fun _ _ h => by cases h)
  have hRL := RLe.refl (M := []) w0 (fun _ => none)
  refine wp_seq ?_
  refine wp_region_lit ?_
  refine sl_box hS hK (by decide) rfl rfl (c := [.int .i64 a0.Time, v0_0]) rfl fun a w b_1 hS hK => ?_
  refine sl hK (by decide) rfl rfl (r_assign hK rfl) fun a hK => ?_
  refine wpList_nil ?_
  refine wp_seq ?_
  refine wp_region_lit ?_
  refine sl hK (by decide) rfl rfl (r_fieldAddr Try.underlying29 rfl Try.sizeOf3 hK rfl) fun a hK => ?_
  refine sl hK (by decide) rfl rfl (r_load Try.isAgg3 hK rfl (hS.cell (.head _) rfl)) fun a hK => ?_
  refine sl hK (by decide) rfl rfl (r_move hK rfl) fun a hK => ?_
  obtain ⟨y_2, h_3, H⟩ := bind_some H
  refine sl_callV Try.call26 hS hK (by decide) rfl rfl rfl (cmp_Compare_int.calls a0.Time a1 h_3 _) fun a w hS hK => ?_
  refine sl hK (by decide) rfl rfl (r_assign hK rfl) fun a hK => ?_
  refine wpList_nil ?_
  obtain rfl := Option.some.inj H
  refine wp_ret ?_
  repeat (first | refine ret_then ?_ | refine ret_block ?_ | refine ret_scope ?_)
  exact ret_1 Try.results25 hK (rv_tmp hK rfl) ⟨rfl, hS.bel⟩

/-! ### slices.BinarySearchFunc[[]catchment/api.Sample,catchment/api.Sample,int]: function 24 -/
set_option maxHeartbeats 4000000 in
set_option maxRecDepth 100000 in
theorem slices_BinarySearchFunc_api_Sample_api_Sample_int_f_runs_Run_place_1.calls (a0 : List api_Sample) (a1 : Int) {w0 : World} {RA : Hp} {v0_0 : Value} (hRA : RA.sub w0) (h0_0 : SlR ty_api_Sample RA v0_0 a0) {r : Int × Bool} (H : slices_BinarySearchFunc_api_Sample_api_Sample_int_f_runs_Run_place_1 a0 a1 = some r) : CallsV Try.prog 24 #[v0_0, .int .i64 a1, .func (.func 25) #[] #[]] w0 (.tuple #[.int .i64 r.1, .bool r.2]) := by
  unfold slices_BinarySearchFunc_api_Sample_api_Sample_int_f_runs_Run_place_1 at H
  refine enter (args := [v0_0, .int .i64 a1, .func (.func 25) #[] #[]]) Try.func24 rfl Try.ntmps24 rfl fun a hK => ?_
  have hS := St.init (R := fun _ => none) (w := w0) (fun _ _ h => by cases h)
  have hRL := RLe.refl (M := []) w0 (fun _ => none)
  refine wp_seq ?_
  refine wp_region_lit ?_
  refine sl hK (by decide) rfl rfl (r_assign hK rfl) fun a hK => ?_
  refine sl hK (by decide) rfl rfl (r_assign hK rfl) fun a hK => ?_
  refine wpList_nil ?_
  refine wp_seq ?_
  refine wp_region_lit ?_
  refine sl hK (by decide) rfl rfl (r_move hK rfl) fun a hK => ?_
  refine sl hK (by decide) rfl rfl (r_len_R Try.underlying22 h0_0 hK rfl) fun a hK => ?_
  refine sl hK (by decide) rfl rfl (r_assign hK rfl) fun a hK => ?_
  refine wpList_nil ?_
  refine wp_seq ?_
  refine wp_region_lit ?_
  refine sl hK (by decide) rfl rfl (r_move hK rfl) fun a hK => ?_
  refine sl hK (by decide) rfl rfl (r_assign hK rfl) fun a hK => ?_
  refine sl hK (by decide) rfl rfl (r_assign hK rfl) fun a hK => ?_
  refine wpList_nil ?_
  refine wp_seq ?_
  refine wp_block ?_
  refine wp_loop_k (fun k_l0 a w => ∃ (x_21 : Int) (x_22 : Int), slices_BinarySearchFunc_api_Sample_api_Sample_int_f_runs_Run_place_1.l0 a0 a1 k_l0 x_21 x_22 = some r ∧ Kn 49 a [(0, v0_0), (1, .int .i64 a1), (2, .func (.func 25) #[] #[]), (8, .int .i64 (a0.length : Int)), (9, .int .i64 x_21), (10, .int .i64 x_22)] ∧ St [] w0 w (fun _ => none) []) (((a0.length : Int) - 0).toNat + 1) ?_ ?_
  · exact ⟨0, (a0.length : Int), H, hK.sub (all_cons rfl (all_cons rfl (all_cons rfl (all_cons rfl (all_cons rfl (all_cons rfl (all_nil))))))), hS⟩
  · rintro k_l0 a w ⟨x_21, x_22, H, hK, hS⟩
    cases k_l0 with
    | zero => cases H
    | succ k_l0 =>
    rw [slices_BinarySearchFunc_api_Sample_api_Sample_int_f_runs_Run_place_1.l0.eq_2] at H
    refine wp_seq ?_
    refine wp_seq ?_
    refine wp_region_lit ?_
    refine sl hK (by decide) rfl rfl (r_move hK rfl) fun a hK => ?_
    refine sl hK (by decide) rfl rfl (r_move hK rfl) fun a hK => ?_
    refine sl hK (by decide) rfl rfl (r_ibin hK rfl rfl rfl) fun a hK => ?_
    refine wpList_nil ?_
    refine wp_cond_split (hK.ev rfl) (fun (hb_43 : (decide (x_21 < x_22)) = true) => ?_) (fun (hb_43 : (decide (x_21 < x_22)) = false) => ?_)
    · rw [ifb_t hb_43] at H
      refine wp_skip ?_
      refine wp_block ?_
      refine wp_seq ?_
      refine wp_region_lit ?_
      refine sl hK (by decide) rfl rfl (r_move hK rfl) fun a hK => ?_
      refine sl hK (by decide) rfl rfl (r_move hK rfl) fun a hK => ?_
      refine sl hK (by decide) rfl rfl (r_ibin hK rfl rfl rfl) fun a hK => ?_
      refine sl hK (by decide) rfl rfl (r_conv Try.underlying3 Try.underlying60 hK rfl) fun a hK => ?_
      refine sl hK (by decide) rfl rfl (r_shr hK rfl rfl (by decide)) fun a hK => ?_
      refine sl hK (by decide) rfl rfl (r_conv Try.underlying60 Try.underlying3 hK rfl) fun a hK => ?_
      refine sl hK (by decide) rfl rfl (r_assign hK rfl) fun a hK => ?_
      refine wpList_nil ?_
      refine wp_seq ?_
      refine wp_region_lit ?_
      refine sl hK (by decide) rfl rfl (r_move hK rfl) fun a hK => ?_
      refine sl hK (by decide) rfl rfl (r_move hK rfl) fun a hK => ?_
      refine sl hK (by decide) rfl rfl (r_move hK rfl) fun a hK => ?_
      obtain ⟨y_44, h_45, H⟩ := bind_some H
      obtain ⟨b_46, o_47, c_48, cs_49, hv_50, hr_51, hc_52, h_450, h_451⟩ := h0_0.ix h_45
      obtain ⟨v_53, rfl, hs_54⟩ := hr_51
      refine sl hK (by decide) rfl rfl (r_indexAddr_R Try.underlying22 Try.sizeOf29 hv_50 h_450 h_451 hK rfl rfl) fun a hK => ?_
      refine sl hK (by decide) rfl rfl (r_loadA (cs := [.int .i64 y_44.Time, v_53]) Try.isAgg29 Try.sizeOf29 rfl hK rfl (fun j v hv => (hS.ra hRA nil_not).cell (hc_52 j v hv))) fun a hK => ?_
      refine sl hK (by decide) rfl rfl (r_move hK rfl) fun a hK => ?_
      obtain ⟨y_55, h_56, H⟩ := bind_some H
      refine sl_callV Try.call25 hS hK (by decide) rfl rfl rfl (runs_Run_place_1.calls y_44 a1 (lentOf_sub [] _) (hs_54.mono (hS.raLe0 hRA nil_not)) h_56) fun a w hS hK => ?_
      refine sl hK (by decide) rfl rfl (r_ibin hK rfl rfl rfl) fun a hK => ?_
      refine wpList_nil ?_
      refine wp_mid (fun a w => ∃ (x_58 : Int) (x_59 : Int), slices_BinarySearchFunc_api_Sample_api_Sample_int_f_runs_Run_place_1.j1 (slices_BinarySearchFunc_api_Sample_api_Sample_int_f_runs_Run_place_1.l0 a0 a1 k_l0) a0 x_58 x_59 = some r ∧ Kn 49 a [(0, v0_0), (1, .int .i64 a1), (2, .func (.func 25) #[] #[]), (8, .int .i64 (a0.length : Int)), (9, .int .i64 x_58), (10, .int .i64 x_59)] ∧ St [] w0 w (fun _ => none) []) ?_ ?_
      · refine wp_cond_split (hK.ev rfl) (fun (hb_61 : (decide (y_55 < 0)) = true) => ?_) (fun (hb_61 : (decide (y_55 < 0)) = false) => ?_)
        · rw [ifb_t hb_61] at H
          refine wp_region_lit ?_
          refine sl hK (by decide) rfl rfl (r_move hK rfl) fun a hK => ?_
          refine sl hK (by decide) rfl rfl (r_ibin hK rfl rfl rfl) fun a hK => ?_
          refine sl hK (by decide) rfl rfl (r_assign hK rfl) fun a hK => ?_
          refine wpList_nil ?_
          exact ⟨(IntKind.i64.wrap ((IntKind.i64.wrap ((IntKind.u64.wrap (IntKind.i64.wrap (x_21 + x_22))).fdiv (2 ^ (min (1 : Int).toNat 64)))) + 1)), x_22, H, hK.sub (all_cons rfl (all_cons rfl (all_cons rfl (all_cons rfl (all_cons rfl (all_cons rfl (all_nil))))))), hS⟩
        · rw [ifb_f hb_61] at H
          refine wp_region_lit ?_
          refine sl hK (by decide) rfl rfl (r_move hK rfl) fun a hK => ?_
          refine sl hK (by decide) rfl rfl (r_assign hK rfl) fun a hK => ?_
          refine wpList_nil ?_
          exact ⟨x_21, (IntKind.i64.wrap ((IntKind.u64.wrap (IntKind.i64.wrap (x_21 + x_22))).fdiv (2 ^ (min (1 : Int).toNat 64)))), H, hK.sub (all_cons rfl (all_cons rfl (all_cons rfl (all_cons rfl (all_cons rfl (all_cons rfl (all_nil))))))), hS⟩
      · rintro a w ⟨x_58, x_59, H, hK, hS⟩
        unfold slices_BinarySearchFunc_api_Sample_api_Sample_int_f_runs_Run_place_1.j1 at H
        exact ⟨_, Nat.lt_succ_self _, x_58, x_59, H, hK.sub (all_cons rfl (all_cons rfl (all_cons rfl (all_cons rfl (all_cons rfl (all_cons rfl (all_nil))))))), hS⟩
    · rw [ifb_f hb_43] at H
      refine wp_exit ?_
      refine wp_seq ?_
      refine wp_region_lit ?_
      refine sl hK (by decide) rfl rfl (r_move hK rfl) fun a hK => ?_
      refine sl hK (by decide) rfl rfl (r_move hK rfl) fun a hK => ?_
      refine sl hK (by decide) rfl rfl (r_move hK rfl) fun a hK => ?_
      refine sl hK (by decide) rfl rfl (r_ibin hK rfl rfl rfl) fun a hK => ?_
      refine sl hK (by decide) rfl rfl (r_move hK rfl) fun a hK => ?_
      rcases or_b (decide (x_21 < (a0.length : Int))) with hb_62 | hb_62
      · rw [ifb_t hb_62] at H
        refine sl hK (by decide) (wtt hb_62) rfl (r_move hK rfl) fun a hK => ?_
        refine sl hK (by decide) (wtt hb_62) rfl (r_move hK rfl) fun a hK => ?_
        refine sl hK (by decide) (wtt hb_62) rfl (r_move hK rfl) fun a hK => ?_
        obtain ⟨y_63, h_64, H⟩ := bind_some H
        obtain ⟨b_65, o_66, c_67, cs_68, hv_69, hr_70, hc_71, h_640, h_641⟩ := h0_0.ix h_64
        obtain ⟨v_72, rfl, hs_73⟩ := hr_70
        refine sl hK (by decide) (wtt hb_62) rfl (r_indexAddr_R Try.underlying22 Try.sizeOf29 hv_69 h_640 h_641 hK rfl rfl) fun a hK => ?_
        refine sl hK (by decide) (wtt hb_62) rfl (r_loadA (cs := [.int .i64 y_63.Time, v_72]) Try.isAgg29 Try.sizeOf29 rfl hK rfl (fun j v hv => (hS.ra hRA nil_not).cell (hc_71 j v hv))) fun a hK => ?_
        refine sl hK (by decide) (wtt hb_62) rfl (r_move hK rfl) fun a hK => ?_
        obtain ⟨y_74, h_75, H⟩ := bind_some H
        refine sl_callV Try.call25 hS hK (by decide) (wtt hb_62) rfl rfl (runs_Run_place_1.calls y_63 a1 (lentOf_sub [] _) (hs_73.mono (hS.raLe0 hRA nil_not)) h_75) fun a w hS hK => ?_
        refine sl hK (by decide) (wtt hb_62) rfl (r_ibin hK rfl rfl rfl) fun a hK => ?_
        refine sl hK (by decide) rfl rfl (r_pick_t hb_62 hK rfl rfl) fun a hK => ?_
        refine sl hK (by decide) rfl rfl (r_assign hK rfl) fun a hK => ?_
        refine sl hK (by decide) rfl rfl (r_assign hK rfl) fun a hK => ?_
        refine wpList_nil ?_
        obtain rfl := Option.some.inj H
        refine wp_ret ?_
        repeat (first | refine ret_then ?_ | refine ret_block ?_ | refine ret_scope ?_)
        exact ret_2 Try.results24 hK (rv_tmp hK rfl) (rv_tmp hK rfl) ⟨rfl, hS.bel⟩
      · rw [ifb_f hb_62] at H
        refine sl_skip hK (by decide) (wtf hb_62) rfl fun a hK => ?_
        refine sl_skip hK (by decide) (wtf hb_62) rfl fun a hK => ?_
        refine sl_skip hK (by decide) (wtf hb_62) rfl fun a hK => ?_
        refine sl_skip hK (by decide) (wtf hb_62) rfl fun a hK => ?_
        refine sl_skip hK (by decide) (wtf hb_62) rfl fun a hK => ?_
        refine sl_skip hK (by decide) (wtf hb_62) rfl fun a hK => ?_
        refine sl_skip hK (by decide) (wtf hb_62) rfl fun a hK => ?_
        refine sl_skip hK (by decide) (wtf hb_62) rfl fun a hK => ?_
        refine sl hK (by decide) rfl rfl (r_pick_f hb_62 hK rfl rfl) fun a hK => ?_
        refine sl hK (by decide) rfl rfl (r_assign hK rfl) fun a hK => ?_
        refine sl hK (by decide) rfl rfl (r_assign hK rfl) fun a hK => ?_
        refine wpList_nil ?_
        obtain rfl := Option.some.inj H
        refine wp_ret ?_
        repeat (first | refine ret_then ?_ | refine ret_block ?_ | refine ret_scope ?_)
        exact ret_2 Try.results24 hK (rv_tmp hK rfl) (rv_tmp hK rfl) ⟨rfl, hS.bel⟩

/-! ### (*catchment/runs.Run).place: function 20 -/
set_option maxHeartbeats 4000000 in
set_option maxRecDepth 100000 in
theorem runs_Run_place.calls (a0 : runs_Run) (a1 : Int) {w0 : World} {RA : Hp} {b0 : Nat} {o0 : Nat} {v0_0 : Value} (hRA : RA.sub w0) (hc0 : ∀ j u, ([v0_0] : List Value)[j]? = some u → RA.cell b0 (o0 + j) = some u) (h0_0 : SlR ty_api_Sample RA v0_0 a0.l) {r : Int × Bool} (H : runs_Run_place a0 a1 = some r) : CallsV Try.prog 20 #[.pointer (some ⟨b0, o0, none⟩), .int .i64 a1] w0 (.tuple #[.int .i64 r.1, .bool r.2]) := by
  unfold runs_Run_place at H
  refine enter (args := [.pointer (some ⟨b0, o0, none⟩), .int .i64 a1]) Try.func20 rfl Try.ntmps20 rfl fun a hK => ?_
  have hS := St.init (R := fun _ => none) (w := w0) (fun _ _ h => by cases h)
  have hRL := RLe.refl (M := []) w0 (fun _ => none)
  refine wp_seq ?_
  refine wp_region_lit ?_
  refine sl hK (by decide) rfl rfl (r_assign hK rfl) fun a hK => ?_
  refine sl hK (by decide) rfl rfl (r_assign hK rfl) fun a hK => ?_
  refine wpList_nil ?_
  refine wp_seq ?_
  refine wp_region_lit ?_
  refine sl hK (by decide) rfl rfl (r_move hK rfl) fun a hK => ?_
  refine sl hK (by decide) rfl rfl (r_nilCheck hK rfl) fun a hK => ?_
  refine sl hK (by decide) rfl rfl (r_fieldAddr Try.underlying50 rfl Try.sizeOf22 hK rfl) fun a hK => ?_
  refine sl hK (by decide) rfl rfl (r_load Try.isAgg22 hK rfl ((hS.ra hRA nil_not).cell (hc0 0 _ rfl))) fun a hK => ?_
  refine sl hK (by decide) rfl rfl (r_move hK rfl) fun a hK => ?_
  obtain ⟨y_1, h_2, H⟩ := bind_some H
  refine sl_callV Try.call24 hS hK (by decide) rfl rfl rfl (slices_BinarySearchFunc_api_Sample_api_Sample_int_f_runs_Run_place_1.calls a0.l a1 (lentOf_sub [] _) (h0_0.mono (hS.raLe0 hRA nil_not)) h_2) fun a w hS hK => ?_
  refine sl hK (by decide) rfl rfl (r_extract hK rfl rfl) fun a hK => ?_
  refine sl hK (by decide) rfl rfl (r_extract hK rfl rfl) fun a hK => ?_
  refine sl hK (by decide) rfl rfl (r_assign hK rfl) fun a hK => ?_
  refine sl hK (by decide) rfl rfl (r_assign hK rfl) fun a hK => ?_
  refine wpList_nil ?_
  obtain rfl := Option.some.inj H
  refine wp_ret ?_
  repeat (first | refine ret_then ?_ | refine ret_block ?_ | refine ret_scope ?_)
  exact ret_2 Try.results20 hK (rv_tmp hK rfl) (rv_tmp hK rfl) ⟨rfl, hS.bel⟩

/-! ### slices.Clone[[]catchment/api.Value,catchment/api.Value]: function 22 -/
set_option maxHeartbeats 4000000 in
set_option maxRecDepth 100000 in
theorem slices_Clone_api_Value_api_Value.calls (a0 : List api_Value) {w0 : World} {R : Hp} {RA : Hp} {v0_0 : Value} (hRA : RA.sub w0) (hR : R.sub w0) (h0_0 : SlR ty_api_Value RA v0_0 a0) {r : List api_Value} (H : slices_Clone_api_Value_api_Value a0 = some r) : Calls Try.prog 22 #[v0_0] w0 (Rets fun v w' => ∃ (R' : Hp) (u0 : Value) (cu0 : List Value), v = u0 ∧ St [] w0 w' R' [.row 44 11 u0 r.length cu0] ∧ RLe [] w0 R R' ∧ Reps ty_api_Value R' cu0 r) := by
  unfold slices_Clone_api_Value_api_Value at H
  rcases SlR.nilcase h0_0 with ⟨hn, hx⟩ | ⟨ad_, m_, c_, hn⟩
  · subst hx
    have H : some ([] : List api_Value) = some r := by simpa [apd] using H
    refine enter (args := [v0_0]) Try.func22 rfl Try.ntmps22 rfl fun a hK => ?_
    have hS := St.init hR
    have hRL := RLe.refl (M := []) w0 R
    refine wp_seq ?_
    refine wp_region_lit ?_
    refine sl hK (by decide) rfl rfl (r_assign hK rfl) fun a hK => ?_
    refine wpList_nil ?_
    refine wp_seq ?_
    refine wp_seq ?_
    refine wp_region_lit ?_
    refine sl hK (by decide) rfl rfl (r_move hK rfl) fun a hK => ?_
    refine sl hK (by decide) rfl rfl (r_sleqN Try.underlying27 hn hK rfl rfl) fun a hK => ?_
    refine wpList_nil ?_
    refine wp_cond_true (hK.ev rfl) ?_
    refine wp_seq ?_
    refine wp_region_lit ?_
    refine sl hK (by decide) rfl rfl (r_assign hK rfl) fun a hK => ?_
    refine wpList_nil ?_
    have hS := hS.row_nil 44 11
    have hq_11 : Reps ty_api_Value R [] ([] : List api_Value) := Reps.nil _ _
    obtain rfl := Option.some.inj H
    refine wp_ret ?_
    repeat (first | refine ret_then ?_ | refine ret_block ?_ | refine ret_scope ?_)
    exact ret_1 Try.results22 hK (rv_tmp hK rfl) ⟨_, rfl, _, _, _, rfl, hS, hRL, hq_11⟩
  · refine enter (args := [v0_0]) Try.func22 rfl Try.ntmps22 rfl fun a hK => ?_
    have hS := St.init hR
    have hRL := RLe.refl (M := []) w0 R
    refine wp_seq ?_
    refine wp_region_lit ?_
    refine sl hK (by decide) rfl rfl (r_assign hK rfl) fun a hK => ?_
    refine wpList_nil ?_
    refine wp_seq ?_
    refine wp_seq ?_
    refine wp_region_lit ?_
    refine sl hK (by decide) rfl rfl (r_move hK rfl) fun a hK => ?_
    refine sl hK (by decide) rfl rfl (r_sleqS Try.underlying27 hn hK rfl rfl) fun a hK => ?_
    refine wpList_nil ?_
    refine wp_cond_false (hK.ev rfl) ?_
    refine wp_skip ?_
    refine wp_seq ?_
    refine wp_region_lit ?_
    refine sl_buildSliceC (zc := [.int .i64 0, .int .i64 0, .string (⟨#[]⟩ : ByteArray), .int .i64 0, .int .i64 0, .int .i64 0, .int .i64 0, .int .i64 0, .int .i64 0, .int .i64 0, .int .i64 0]) (zs := []) (ps := []) (c := []) Try.underlying27 Try.sizeOf44 Try.zeroValue44 rfl pc_nil rfl rfl (by decide) (by kernel_rfl) rfl hS hK (by decide) rfl fun a w b_1 hS hK => ?_
    refine sl hK (by decide) rfl rfl (r_move hK rfl) fun a hK => ?_
    obtain ⟨y_4, h_5, H⟩ := bind_some H
    have hS := hS.row_lit (size := 11) (m := 0) rfl (by decide)
    have hq_3 : Reps ty_api_Value R [] ([] : List api_Value) := (Reps.nil _ _)
    refine sl_append_A elT27 (by decide) rfl (fun _ _ _ _ h => h) (hS.ra hRA nil_not) hq_3 rfl h0_0 h_5 hS hK (by decide) rfl rfl rfl fun a w v_6 cs_7 hq_8 hS hK => ?_
    refine sl hK (by decide) rfl rfl (r_assign hK rfl) fun a hK => ?_
    refine wpList_nil ?_
    obtain rfl := Option.some.inj H
    refine wp_ret ?_
    repeat (first | refine ret_then ?_ | refine ret_block ?_ | refine ret_scope ?_)
    exact ret_1 Try.results22 hK (rv_tmp hK rfl) ⟨_, rfl, _, _, _, rfl, hS, hRL, hq_8⟩

/-! ### slices.Insert[[]catchment/api.Sample,catchment/api.Sample]: function 21 -/
set_option maxHeartbeats 4000000 in
set_option maxRecDepth 100000 in
theorem slices_Insert_api_Sample_api_Sample.calls (a0 : List api_Sample) (a1 : Int) (a2 : List api_Sample) {w0 : World} {R : Hp} {M : List Own} {v0 v2 : Value} {cs0 cs2 : List Value} (hS0 : St M w0 w0 R [.row 29 2 v0 a0.length cs0, .row 29 2 v2 a2.length cs2]) (h0 : Reps ty_api_Sample R cs0 a0) (h2 : Reps ty_api_Sample R cs2 a2) {r : List api_Sample} (H : ins 32 a0 a1 a2 = some r) :
    Calls Try.prog 21 #[v0, .int .i64 a1, v2] w0 (Rets fun v w' => ∃ (R' : Hp) (u0 : Value) (cu0 : List Value), v = u0 ∧ St M w0 w' R' [.row 29 2 u0 r.length cu0] ∧ RLe M w0 R R' ∧ Reps ty_api_Sample R' cu0 r) := by
  obtain ⟨k, rfl, hk, hb, rfl⟩ := ins_some H
  have hbig : a0.length + a2.length ≤ 140737488355328 := Nat.le_trans (Nat.le_mul_of_pos_right _ (by decide)) hb
  have hl0 := h0.length
  have hl2 := h2.length
  have hz : ty_api_Sample.n = 2 := rfl
  rw [hz] at hl0 hl2
  have hsp := h0.split k
  rw [hz] at hsp
  have hreps : Reps ty_api_Sample R (cs0.take (k * 2) ++ (cs2 ++ cs0.drop (k * 2))) (a0.take k ++ (a2 ++ a0.drop k)) := hsp.1.append (h2.append hsp.2)
  have hrl : (a0.take k ++ (a2 ++ a0.drop k)).length = a0.length + a2.length := by simp; omega
  rw [hrl]
  generalize hcr : cs0.take (k * 2) ++ (cs2 ++ cs0.drop (k * 2)) = cr at hreps
  generalize hr : a0.take k ++ (a2 ++ a0.drop k) = zs at hreps
  have hones2 := h2.one
  have hones0 := h0.one
  generalize hn : a0.length = n at *
  generalize hm : a2.length = m at *
  have hown0 : w0.ownsRow 0 29 2 v0 n cs0 := hS0.own (.row 29 2 v0 n cs0) (List.mem_cons_self ..)
  have hown2 : w0.ownsRow 0 29 2 v2 m cs2 := hS0.own (.row 29 2 v2 m cs2) (.tail _ (.head _))
  obtain ⟨ad0, c0, hv0, hnc0⟩ := ownsRow_cap hown0
  obtain ⟨ad2, c2, hv2, hnc2⟩ := ownsRow_cap hown2
  refine enter (args := [v0, .int .i64 (k : Int), v2]) Try.func21 rfl Try.ntmps21 rfl fun a hK => ?_
  have hS := hS0
  refine wp_seq ?_
  refine wp_region_lit ?_
  refine sl hK (by decide) rfl rfl (r_assign hK rfl) fun a hK => ?_
  refine wpList_nil ?_
  refine wp_seq ?_
  refine wp_region_lit ?_
  refine sl hK (by decide) rfl rfl (r_move hK rfl) fun a hK => ?_
  refine sl hK (by decide) rfl rfl (r_move hK rfl) fun a hK => ?_
  refine sl hK (by decide) rfl rfl (r_slice_H (l := k) (h := n) Try.underlying22 Try.sizeOf29 hk hnc0 hK (by rw [← hv0]; rfl) ⟨_, rfl⟩ rfl) fun a hK => ?_
  refine wpList_nil ?_
  refine wp_seq ?_
  refine wp_region_lit ?_
  refine sl hK (by decide) rfl rfl (r_move hK rfl) fun a hK => ?_
  refine sl hK (by decide) rfl rfl (r_len_sl Try.underlying22 hK (by rw [← hv2]; rfl)) fun a hK => ?_
  refine sl hK (by decide) rfl rfl (r_assign hK rfl) fun a hK => ?_
  refine wpList_nil ?_
  refine wp_seq ?_
  refine wp_seq ?_
  refine wp_region_lit ?_
  refine sl hK (by decide) rfl rfl (r_move hK rfl) fun a hK => ?_
  refine sl hK (by decide) rfl rfl (r_ibin hK rfl rfl rfl) fun a hK => ?_
  refine wpList_nil ?_
  by_cases hm0 : m = 0
  · refine wp_cond_true ((hK.ev rfl).trans (congrArg Value.bool (show ((m : Int) == 0) = true by simp [hm0]))) ?_
    refine wp_seq ?_
    refine wp_region_lit ?_
    refine sl hK (by decide) rfl rfl (r_move hK rfl) fun a hK => ?_
    refine sl hK (by decide) rfl rfl (r_assign hK rfl) fun a hK => ?_
    refine wpList_nil ?_
    refine wp_ret ?_
    repeat (first | refine ret_then ?_ | refine ret_block ?_)
    have e2 : cs2 = [] := List.eq_nil_of_length_eq_zero (by rw [hl2, hm0])
    have ecr : cr = cs0 := by rw [← hcr, e2]; simp
    refine ret_1 Try.results21 hK (rv_tmp hK rfl) ⟨_, rfl, R, v0, cs0, rfl, ?_, RLe.refl _ _, by rw [← ecr]; exact hreps⟩
    rw [hm0, Nat.add_zero]
    exact hS.trunc 1
  refine wp_cond_false ((hK.ev rfl).trans (congrArg Value.bool (show ((m : Int) == 0) = false by simp [hm0]))) ?_
  refine wp_skip ?_
  refine wp_seq ?_
  refine wp_region_lit ?_
  refine sl hK (by decide) rfl rfl (r_move hK rfl) fun a hK => ?_
  refine sl hK (by decide) rfl rfl (r_len_sl Try.underlying22 hK (by rw [← hv0]; rfl)) fun a hK => ?_
  refine sl hK (by decide) rfl rfl (r_assign hK rfl) fun a hK => ?_
  refine wpList_nil ?_
  refine wp_seq ?_
  refine wp_seq ?_
  refine wp_region_lit ?_
  refine sl hK (by decide) rfl rfl (r_move hK rfl) fun a hK => ?_
  refine sl hK (by decide) rfl rfl (r_move hK rfl) fun a hK => ?_
  refine sl hK (by decide) rfl rfl (r_ibin hK rfl rfl rfl) fun a hK => ?_
  refine wpList_nil ?_
  -- the second row, as a block
  rcases hS.pk1.row_raw with ⟨_, hq, _⟩ | ⟨b2, cap2, cur2, hv2', hnc2', hcm2, hcl2, hct2, hS⟩
  · exact absurd hq hm0
  have hsrc2 : ∀ {w : World} {O : List Own}, St M w0 w R O → Own.cells b2 cur2 29 ∈ O → ∀ j u, cs2[j]? = some u → w.cell? ⟨b2, 0 + j, none⟩ = some u := fun hS hmem j u hu => by
    rw [← hct2, List.getElem?_take] at hu
    split at hu
    · rw [Nat.zero_add]; exact hS.cell hmem hu
    · cases hu
  by_cases hkn : k = n
  · refine wp_cond_true ((hK.ev rfl).trans (congrArg Value.bool (show ((k : Int) == (n : Int)) = true by simp [hkn]))) ?_
    refine wp_seq ?_
    refine wp_region_lit ?_
    refine sl hK (by decide) rfl rfl (r_move hK rfl) fun a hK => ?_
    refine sl hK (by decide) rfl rfl (r_move hK rfl) fun a hK => ?_
    have hS := hS.pk1
    refine sl_append_C (k := m) (ds := cs2) elT22 (by decide) hl2 hones2 hb hv2' (fun _ => ⟨b2, 0, rfl, hsrc2 hS (.tail _ (.head _))⟩) hS hK (by decide) rfl rfl rfl fun a w v' hS hK => ?_
    refine sl hK (by decide) rfl rfl (r_assign hK rfl) fun a hK => ?_
    refine wpList_nil ?_
    refine wp_ret ?_
    repeat (first | refine ret_then ?_ | refine ret_block ?_)
    have ecr : cr = cs0 ++ cs2 := by
      rw [← hcr, hkn, List.take_of_length_le (by omega), List.drop_of_length_le (by omega)]; simp
    exact ret_1 Try.results21 hK (rv_tmp hK rfl) ⟨_, rfl, R, v', cs0 ++ cs2, rfl, hS.trunc 1, RLe.refl _ _, by rw [← ecr]; exact hreps⟩
  refine wp_cond_false ((hK.ev rfl).trans (congrArg Value.bool (show ((k : Int) == (n : Int)) = false by simp; omega))) ?_
  refine wp_skip ?_
  rcases hS.pk1.row_raw with ⟨_, hq, _⟩ | ⟨b, cap, cur, hv0', hnc0', hcm, hcl, hct, hS⟩
  · omega
  have hcur : cs0.length ≤ cur.length := by rw [← hct, List.length_take]; omega
  have hcell0 : ∀ j u, cs0[j]? = some u → cur[j]? = some u := fun j u hu => by
    rw [← hct, List.getElem?_take] at hu
    split at hu
    · exact hu
    · cases hu
  clear hv0 hv2 hnc0 hnc2
  have hw1 : IntKind.i64.wrap ((n : Int) + (m : Int)) = ((n + m : Nat) : Int) := by rw [w64 (by omega) (by omega)]; omega
  have hw2 : IntKind.i64.wrap ((k : Int) + (m : Int)) = ((k + m : Nat) : Int) := by rw [w64 (by omega) (by omega)]; omega
  have hw3 : IntKind.i64.wrap (((n + m : Nat) : Int) - (k : Int)) = ((n + m - k : Nat) : Int) := by rw [w64 (by omega) (by omega)]; omega
  refine wp_seq ?_
  refine wp_seq ?_
  refine wp_region_lit ?_
  refine sl hK (by decide) rfl rfl (r_move hK rfl) fun a hK => ?_
  refine sl hK (by decide) rfl rfl (r_move hK rfl) fun a hK => ?_
  refine sl hK (by decide) rfl rfl (r_ibin hK rfl rfl rfl) fun a hK => ?_
  refine sl hK (by decide) rfl rfl (r_move hK rfl) fun a hK => ?_
  refine sl hK (by decide) rfl rfl (r_cap Try.underlying22 hK (by rw [← hv0']; rfl)) fun a hK => ?_
  refine sl hK (by decide) rfl rfl (r_ibin hK rfl rfl rfl) fun a hK => ?_
  refine wpList_nil ?_
  rw [hw1] at hK
  by_cases hg : cap < n + m
  · refine wp_cond_true ((hK.ev rfl).trans (congrArg Value.bool (show decide (((n + m : Nat) : Int) > (cap : Int)) = true by simp; omega))) ?_
    have hev0 : v0 = .slice (some ⟨b, 0, none⟩) n cap := hv0'
    refine wp_seq ?_
    refine wp_region_lit ?_
    refine sl hK (by decide) rfl rfl (r_move hK rfl) fun a hK => ?_
    refine sl hK (by decide) rfl rfl (r_move hK rfl) fun a hK => ?_
    refine sl hK (by decide) rfl rfl (r_slice_Hv (b := b) (o := 0) (m := n) (c := cap) (l := 0) (h := k) (o' := 0) (m' := k) (c' := cap) Try.underlying22 Try.sizeOf29 (by omega) (by omega) (Or.inr rfl) rfl rfl rfl hK (by rw [← hev0]; rfl) rfl ⟨_, rfl⟩) fun a hK => ?_
    refine sl hK (by decide) rfl rfl (r_move hK rfl) fun a hK => ?_
    refine sl hK (by decide) rfl rfl (r_move hK rfl) fun a hK => ?_
    refine sl hK (by decide) rfl rfl (r_ibin (k := .i64) (v := .int .i64 ((n + m : Nat) : Int)) hK rfl rfl (by rw [← hw1]; rfl)) fun a hK => ?_
    refine sl hK (by decide) rfl rfl (r_move hK rfl) fun a hK => ?_
    refine sl hK (by decide) rfl rfl (r_ibin (k := .i64) (v := .int .i64 ((n + m - k : Nat) : Int)) hK rfl rfl (by rw [← hw3]; rfl)) fun a hK => ?_
    refine sl_append_zeros (i := k) (k := n + m - k) (olds := cs0.take (k * 2)) elT22 Try.underlying3 (by omega) (by omega) (by decide) (by rw [show k + (n + m - k) = n + m by omega]; exact hb) (by rw [List.length_take]; omega) (fun _ => ⟨b, 0, rfl, fun j u hu => by
      rw [List.getElem?_take] at hu
      split at hu
      · rw [Nat.zero_add]; exact hS.cell (.head _) (hcell0 j u hu)
      · cases hu⟩) (fun _ h => by cases h) hS hK (by decide) rfl rfl rfl fun a w bn capn rest' hgn hcmn hln hS hK => ?_
    have hbn : b ≠ bn := fun e => (List.pairwise_cons.1 hS.sep).1 (.cells b cur 29) (List.mem_cons_self ..) bn rfl (by rw [Own.blk, e])
    rw [show k + (n + m - k) = n + m by omega] at hgn hK
    have htl : (cs0.take (k * 2)).length = k * 2 := by rw [List.length_take]; omega
    refine sl hK (by decide) rfl rfl (r_assign hK rfl) fun a hK => ?_
    refine wpList_nil ?_
    refine wp_seq ?_
    refine wp_region_lit ?_
    refine sl hK (by decide) rfl rfl (r_move hK rfl) fun a hK => ?_
    refine sl hK (by decide) rfl rfl (r_move hK rfl) fun a hK => ?_
    refine sl hK (by decide) rfl rfl (r_slice_Hv (l := k) (h := n + m) (o' := k * 2) (m' := n + m - k) (c' := capn - k) Try.underlying22 Try.sizeOf29 (by omega) (by omega) (Or.inl (by omega)) (by omega) rfl rfl hK rfl ⟨_, rfl⟩ rfl) fun a hK => ?_
    refine sl hK (by decide) rfl rfl (r_move hK rfl) fun a hK => ?_
    refine sl_copy (k := m) (news := cs2) Try.underlying22 Try.sizeOf29 (by simp only [Nat.min_def]; split <;> omega) hl2 hones2 (by rw [hln]; omega) (fun _ => ⟨b2, 0, rfl, hsrc2 hS (.tail _ (.tail _ (.head _)))⟩) hS hK (by decide) rfl rfl rfl rfl hv2' fun a w hS hK => ?_
    refine wpList_nil ?_
    have e1 : (cs0.take (k * 2) ++ rest').take (k * 2) = cs0.take (k * 2) := by rw [List.take_append_of_le_length (by omega), List.take_take, Nat.min_self]
    rw [e1] at hS
    have hdl : ((cs0.take (k * 2) ++ rest').drop (k * 2 + cs2.length)).length = capn * 2 - (k * 2 + m * 2) := by rw [List.length_drop, hln, hl2]
    generalize hdr : (cs0.take (k * 2) ++ rest').drop (k * 2 + cs2.length) = dr at hS hdl
    refine wp_seq ?_
    refine par_region (C := fun _ => True) [(0, true), (1, true), (2, true), (3, true), (4, true), (5, true), (6, true), (7, true), (8, false)] mixed (by kernel_rfl) hS (fun _ _ => trivial) fun w hS => ?_
    refine sp (k := 0) rfl hK (by decide) rfl rfl (fun w _ => r_move hK rfl) fun a hK => ?_
    refine sp (k := 1) rfl hK (by decide) rfl rfl (fun w _ => r_move hK rfl) fun a hK => ?_
    refine sp (k := 2) rfl hK (by decide) rfl rfl (fun w _ => r_move hK rfl) fun a hK => ?_
    refine sp (k := 3) rfl hK (by decide) rfl rfl (fun w _ => r_ibin (k := .i64) (v := .int .i64 ((k + m : Nat) : Int)) hK rfl rfl (by rw [← hw2]; rfl)) fun a hK => ?_
    refine sp (k := 4) rfl hK (by decide) rfl rfl (fun w _ => r_slice_Hv (l := k + m) (h := n + m) (o' := (k + m) * 2) (m' := n - k) (c' := capn - (k + m)) Try.underlying22 Try.sizeOf29 (by omega) (by omega) (Or.inl (by omega)) (by omega) (by omega) rfl hK rfl ⟨_, rfl⟩ rfl) fun a hK => ?_
    refine sp (k := 5) rfl hK (by decide) rfl rfl (fun w _ => r_move hK rfl) fun a hK => ?_
    refine sp (k := 6) rfl hK (by decide) rfl rfl (fun w _ => r_move hK rfl) fun a hK => ?_
    refine sp (k := 7) rfl hK (by decide) rfl rfl (fun w _ => r_slice_Hv (b := b) (o := 0) (m := n) (c := cap) (l := k) (h := n) (o' := k * 2) (m' := n - k) (c' := cap - k) Try.underlying22 Try.sizeOf29 (by omega) (by omega) (Or.inl (by omega)) (by omega) rfl rfl hK (by rw [← hev0]; rfl) ⟨_, rfl⟩ rfl) fun a hK => ?_
    refine spw (k := 8) rfl rfl trivial ?_
    refine sl_copy (k := n - k) (news := cs0.drop (k * 2)) Try.underlying22 Try.sizeOf29 (by simp) (by rw [List.length_drop]; omega) (fun u hu => hones0 u (List.mem_of_mem_drop hu)) (by simp only [List.length_append, htl, hl2, hdl]; omega) (fun _ => ⟨b, k * 2, rfl, fun j u hu => by
      rw [List.getElem?_drop] at hu
      exact hS.cell (.tail _ (.head _)) (hcell0 _ u hu)⟩) hS hK (by decide) rfl rfl rfl rfl rfl fun a w hS hK => ?_
    refine parK_nil trivial ?_
    refine wpPar_nil (NoP_nil ?_)
    refine wp_seq ?_
    refine wp_region_lit ?_
    refine sl hK (by decide) rfl rfl (r_move hK rfl) fun a hK => ?_
    refine sl hK (by decide) rfl rfl (r_assign hK rfl) fun a hK => ?_
    refine wpList_nil ?_
    refine wp_ret ?_
    repeat (first | refine ret_then ?_ | refine ret_block ?_)
    have hlen1 : (cs0.take (k * 2) ++ cs2).length = (k + m) * 2 := by rw [List.length_append, htl, hl2]; omega
    have e3 : (cs0.take (k * 2) ++ cs2 ++ dr).take ((k + m) * 2) = cs0.take (k * 2) ++ cs2 := by rw [← hlen1, List.take_left]
    rw [e3] at hS
    have hS := hS.raw_row (z := 2) (m := n + m) hgn hcmn (by simp only [List.length_append, List.length_drop, htl, hl2, hdl]; omega)
    have hlen2 : (cs0.take (k * 2) ++ cs2 ++ cs0.drop (k * 2)).length = (n + m) * 2 := by simp only [List.length_append, List.length_drop, htl, hl2]; omega
    have e4 : (cs0.take (k * 2) ++ cs2 ++ cs0.drop (k * 2) ++ (cs0.take (k * 2) ++ cs2 ++ dr).drop ((k + m) * 2 + (cs0.drop (k * 2)).length)).take ((n + m) * 2) = cr := by
      rw [← hlen2, List.take_left, ← hcr, List.append_assoc]
    rw [e4] at hS
    exact ret_1 Try.results21 hK (rv_tmp hK rfl) ⟨_, rfl, R, _, cr, rfl, hS.trunc 1, RLe.refl _ _, hreps⟩
  · refine wp_cond_false ((hK.ev rfl).trans (congrArg Value.bool (show decide (((n + m : Nat) : Int) > (cap : Int)) = false by simp; omega))) ?_
    have hev0 : v0 = .slice (some ⟨b, 0, none⟩) n cap := hv0'
    refine wp_skip ?_
    refine wp_seq ?_
    refine wp_region_lit ?_
    refine sl hK (by decide) rfl rfl (r_move hK rfl) fun a hK => ?_
    refine sl hK (by decide) rfl rfl (r_move hK rfl) fun a hK => ?_
    refine sl hK (by decide) rfl rfl (r_move hK rfl) fun a hK => ?_
    refine sl hK (by decide) rfl rfl (r_ibin (k := .i64) (v := .int .i64 ((n + m : Nat) : Int)) hK rfl rfl (by rw [← hw1]; rfl)) fun a hK => ?_
    refine sl hK (by decide) rfl rfl (r_slice_Hv (b := b) (o := 0) (m := n) (c := cap) (l := 0) (h := n + m) (o' := 0) (m' := n + m) (c' := cap) Try.underlying22 Try.sizeOf29 (by omega) (by omega) (Or.inr rfl) rfl rfl rfl hK (by rw [← hev0]; rfl) rfl ⟨_, rfl⟩) fun a hK => ?_
    refine sl hK (by decide) rfl rfl (r_assign hK rfl) fun a hK => ?_
    refine wpList_nil ?_
    refine wp_seq ?_
    refine wp_seq ?_
    refine wp_region_lit ?_
    refine sl hK (by decide) rfl rfl (r_move hK rfl) fun a hK => ?_
    refine sl hK (by decide) rfl rfl (r_move hK rfl) fun a hK => ?_
    refine sl hK (by decide) rfl rfl (r_move hK rfl) fun a hK => ?_
    refine sl hK (by decide) rfl rfl (r_move hK rfl) fun a hK => ?_
    refine sl hK (by decide) rfl rfl (r_ibin (k := .i64) (v := .int .i64 ((k + m : Nat) : Int)) hK rfl rfl (by rw [← hw2]; rfl)) fun a hK => ?_
    refine sl hK (by decide) rfl rfl (r_slice_Hv (l := k + m) (h := n + m) (o' := (k + m) * 2) (m' := n - k) (c' := cap - (k + m)) Try.underlying22 Try.sizeOf29 (by omega) (by omega) (Or.inl (by omega)) (by omega) (by omega) rfl hK rfl ⟨_, rfl⟩ rfl) fun a hK => ?_
    refine sl hK (by decide) rfl rfl (r_overlaps (tS := 22) (tR := 4) Try.func27 (by kernel_rfl) (by kernel_rfl) (by kernel_rfl) (by kernel_rfl) Try.underlying22 Try.sizeOf29 hS (fun e => by rw [e] at hcl; simp at hcl; omega) hK rfl (by rw [← hv2']; rfl) rfl) fun a hK => ?_
    refine sl hK (by decide) rfl rfl (r_un hK rfl (u_not _)) fun a hK => ?_
    refine wpList_nil ?_
    refine wp_cond_true (hK.ev rfl) ?_
    refine wp_seq ?_
    refine par_region (C := fun _ => True) [(0, true), (1, true), (2, true), (3, true), (4, true), (5, true), (6, true), (7, true), (8, false)] mixed (by kernel_rfl) hS (fun _ _ => trivial) fun w hS => ?_
    refine sp (k := 0) rfl hK (by decide) rfl rfl (fun w _ => r_move hK rfl) fun a hK => ?_
    refine sp (k := 1) rfl hK (by decide) rfl rfl (fun w _ => r_move hK rfl) fun a hK => ?_
    refine sp (k := 2) rfl hK (by decide) rfl rfl (fun w _ => r_move hK rfl) fun a hK => ?_
    refine sp (k := 3) rfl hK (by decide) rfl rfl (fun w _ => r_ibin (k := .i64) (v := .int .i64 ((k + m : Nat) : Int)) hK rfl rfl (by rw [← hw2]; rfl)) fun a hK => ?_
    refine sp (k := 4) rfl hK (by decide) rfl rfl (fun w _ => r_slice_Hv (l := k + m) (h := n + m) (o' := (k + m) * 2) (m' := n - k) (c' := cap - (k + m)) Try.underlying22 Try.sizeOf29 (by omega) (by omega) (Or.inl (by omega)) (by omega) (by omega) rfl hK rfl ⟨_, rfl⟩ rfl) fun a hK => ?_
    refine sp (k := 5) rfl hK (by decide) rfl rfl (fun w _ => r_move hK rfl) fun a hK => ?_
    refine sp (k := 6) rfl hK (by decide) rfl rfl (fun w _ => r_move hK rfl) fun a hK => ?_
    refine sp (k := 7) rfl hK (by decide) rfl rfl (fun w _ => r_slice_Hv (l := k) (h := n + m) (o' := k * 2) (m' := n + m - k) (c' := cap - k) Try.underlying22 Try.sizeOf29 (by omega) (by omega) (Or.inl (by omega)) (by omega) rfl rfl hK rfl ⟨_, rfl⟩ rfl) fun a hK => ?_
    refine spw (k := 8) rfl rfl trivial ?_
    refine sl_copy (k := n - k) (news := cs0.drop (k * 2)) Try.underlying22 Try.sizeOf29 (by simp only [Nat.min_def]; split <;> omega) (by rw [List.length_drop]; omega) (fun u hu => hones0 u (List.mem_of_mem_drop hu)) (by rw [hcl]; omega) (fun _ => ⟨b, k * 2, rfl, fun j u hu => by
      rw [List.getElem?_drop] at hu
      exact hS.cell (.head _) (hcell0 _ u hu)⟩) hS hK (by decide) rfl rfl rfl rfl rfl fun a w hS hK => ?_
    refine parK_nil trivial ?_
    refine wpPar_nil (NoP_nil ?_)
    refine wp_seq ?_
    refine wp_region_lit ?_
    refine sl hK (by decide) rfl rfl (r_move hK rfl) fun a hK => ?_
    refine sl hK (by decide) rfl rfl (r_move hK rfl) fun a hK => ?_
    refine sl hK (by decide) rfl rfl (r_slice_Hv (l := k) (h := n + m) (o' := k * 2) (m' := n + m - k) (c' := cap - k) Try.underlying22 Try.sizeOf29 (by omega) (by omega) (Or.inl (by omega)) (by omega) rfl rfl hK rfl ⟨_, rfl⟩ rfl) fun a hK => ?_
    refine sl hK (by decide) rfl rfl (r_move hK rfl) fun a hK => ?_
    have hcl1 : (cur.take ((k + m) * 2) ++ cs0.drop (k * 2) ++ cur.drop ((k + m) * 2 + (cs0.drop (k * 2)).length)).length = cap * 2 := by simp only [List.length_append, List.length_take, List.length_drop, hcl]; omega
    refine sl_copy (k := m) (news := cs2) Try.underlying22 Try.sizeOf29 (by simp only [Nat.min_def]; split <;> omega) hl2 hones2 (by rw [hcl1]; omega) (fun _ => ⟨b2, 0, rfl, hsrc2 hS (.tail _ (.head _))⟩) hS hK (by decide) rfl rfl rfl rfl hv2' fun a w hS hK => ?_
    refine wpList_nil ?_
    refine wp_seq ?_
    refine wp_region_lit ?_
    refine sl hK (by decide) rfl rfl (r_move hK rfl) fun a hK => ?_
    refine sl hK (by decide) rfl rfl (r_assign hK rfl) fun a hK => ?_
    refine wpList_nil ?_
    refine wp_ret ?_
    repeat (first | refine ret_then ?_ | refine ret_block ?_)
    have hS := hS.raw_row (z := 2) (m := n + m) (cap := cap) (by omega) hcm (by simp only [List.length_append, List.length_take, List.length_drop, hcl, hl2]; omega)
    have e5 : ((cur.take ((k + m) * 2) ++ cs0.drop (k * 2) ++ cur.drop ((k + m) * 2 + (cs0.drop (k * 2)).length)).take (k * 2) ++ cs2 ++ (cur.take ((k + m) * 2) ++ cs0.drop (k * 2) ++ cur.drop ((k + m) * 2 + (cs0.drop (k * 2)).length)).drop (k * 2 + cs2.length)).take ((n + m) * 2) = cr := by
      have htl : (cs0.take (k * 2)).length = k * 2 := by rw [List.length_take]; omega
      have hA : (cur.take ((k + m) * 2)).length = (k + m) * 2 := by rw [List.length_take]; omega
      have e6 : (cur.take ((k + m) * 2) ++ cs0.drop (k * 2) ++ cur.drop ((k + m) * 2 + (cs0.drop (k * 2)).length)).take (k * 2) = cs0.take (k * 2) := by
        rw [List.append_assoc, List.take_append_of_le_length (by omega), List.take_take, Nat.min_eq_left (by omega), ← hct, List.take_take, Nat.min_eq_left (by omega)]
      have e7 : (cur.take ((k + m) * 2) ++ cs0.drop (k * 2) ++ cur.drop ((k + m) * 2 + (cs0.drop (k * 2)).length)).drop (k * 2 + cs2.length) = cs0.drop (k * 2) ++ cur.drop ((k + m) * 2 + (cs0.drop (k * 2)).length) := by
        rw [show k * 2 + cs2.length = (cur.take ((k + m) * 2)).length by rw [hA, hl2]; omega, List.append_assoc, List.drop_left]
      rw [e6, e7, ← hcr, List.append_assoc, ← List.append_assoc cs2, ← List.append_assoc]
      have hlen : (cs0.take (k * 2) ++ (cs2 ++ cs0.drop (k * 2))).length = (n + m) * 2 := by simp only [List.length_append, List.length_drop, htl, hl2]; omega
      rw [← hlen, List.take_left]
    rw [e5] at hS
    exact ret_1 Try.results21 hK (rv_tmp hK rfl) ⟨_, rfl, R, _, cr, rfl, hS.trunc 1, RLe.refl _ _, hreps⟩


/-! ### (*catchment/runs.Run).Add: function 8 -/
set_option maxHeartbeats 4000000 in
set_option maxRecDepth 100000 in
theorem runs_Run_Add.calls (a0 : runs_Run) (a1 : Int) (a2 : List api_Value) {w0 : World} {R : Hp} {RA : Hp} {M : List Own} {b0 : Nat} {v0_0 : Value} {cs0_0 : List Value} {v2_0 : Value} (hRA : RA.sub w0) (hRM : ∀ b, blks M b → RA b = none) (hS0 : St M w0 w0 R [.cells b0 [v0_0] 50, .row 29 2 v0_0 a0.l.length cs0_0]) (h0_0 : Reps ty_api_Sample R cs0_0 a0.l) (h2_0 : SlR ty_api_Value RA v2_0 a2) {r : Bool × runs_Run} (H : runs_Run_Add a0 a1 a2 = some r) : Calls Try.prog 8 #[.pointer (some ⟨b0, 0, none⟩), .int .i64 a1, v2_0] w0 (Rets fun v w' => ∃ (R' : Hp) (u0 : Value) (cu0 : List Value), v = .bool r.1 ∧ St M w0 w' R' [.cells b0 [u0] 50, .row 29 2 u0 r.2.l.length cu0] ∧ RLe M w0 R R' ∧ Reps ty_api_Sample R' cu0 r.2.l) := by
  unfold runs_Run_Add at H
  refine enter (args := [.pointer (some ⟨b0, 0, none⟩), .int .i64 a1, v2_0]) Try.func8 rfl Try.ntmps8 rfl fun a hK => ?_
  have hS := hS0
  have hRL := RLe.refl (M := M) w0 R
  refine wp_seq ?_
  refine wp_region_lit ?_
  refine sl hK (by decide) rfl rfl (r_assign hK rfl) fun a hK => ?_
  refine wpList_nil ?_
  refine wp_seq ?_
  refine wp_region_lit ?_
  refine sl hK (by decide) rfl rfl (r_move hK rfl) fun a hK => ?_
  refine sl hK (by decide) rfl rfl (r_move hK rfl) fun a hK => ?_
  obtain ⟨y_1, h_2, H⟩ := bind_some H
  refine sl_callV Try.call20 hS hK (by decide) rfl rfl rfl (runs_Run_place.calls a0 a1 (lentOf_sub [] _) (hS.lend_box0 (.head _)) (hS.lend_row0 (.tail _ (.head _)) h0_0 rfl rfl) h_2) fun a w hS hK => ?_
  refine sl hK (by decide) rfl rfl (r_move hK rfl) fun a hK => ?_
  refine sl hK (by decide) rfl rfl (r_extract hK rfl rfl) fun a hK => ?_
  refine sl hK (by decide) rfl rfl (r_extract hK rfl rfl) fun a hK => ?_
  refine sl hK (by decide) rfl rfl (r_assign hK rfl) fun a hK => ?_
  refine sl hK (by decide) rfl rfl (r_assign hK rfl) fun a hK => ?_
  refine wpList_nil ?_
  refine wp_seq ?_
  refine wp_seq ?_
  refine wp_region_lit ?_
  refine sl hK (by decide) rfl rfl (r_move hK rfl) fun a hK => ?_
  refine wpList_nil ?_
  refine wp_cond_split (hK.ev rfl) (fun (hb_3 : y_1.2 = true) => ?_) (fun (hb_3 : y_1.2 = false) => ?_)
  · rw [ifb_t hb_3] at H
    refine wp_seq ?_
    refine wp_region_lit ?_
    refine sl hK (by decide) rfl rfl (r_assign hK rfl) fun a hK => ?_
    refine wpList_nil ?_
    obtain rfl := Option.some.inj H
    refine wp_ret ?_
    repeat (first | refine ret_then ?_ | refine ret_block ?_ | refine ret_scope ?_)
    exact ret_1 Try.results8 hK (rv_tmp hK rfl) ⟨_, rfl, _, _, _, rfl, hS, hRL, h0_0⟩
  · rw [ifb_f hb_3] at H
    refine wp_skip ?_
    refine wp_seq ?_
    refine parT_region (C := fun w => St M w0 w R [.cells b0 [v0_0] 50]) 12 [(0, true), (1, true), (2, true), (3, true), (4, true), (5, true), (6, true), (7, true), (8, false), (9, true), (10, false), (11, false)] mixed (by kernel_rfl) hS (fun w hS => (hS.trunc 1)) fun w hS => ?_
    refine sp (k := 0) rfl hK (by decide) rfl rfl (fun w hS => r_move hK rfl) fun a hK => ?_
    refine sp (k := 1) rfl hK (by decide) rfl rfl (fun w hS => r_move hK rfl) fun a hK => ?_
    refine sp (k := 2) rfl hK (by decide) rfl rfl (fun w hS => r_nilCheck hK rfl) fun a hK => ?_
    refine sp (k := 3) rfl hK (by decide) rfl rfl (fun w hS => r_fieldAddr Try.underlying50 rfl Try.sizeOf22 hK rfl) fun a hK => ?_
    refine sp (k := 4) rfl hK (by decide) rfl rfl (fun w hS => r_load Try.isAgg22 hK rfl (hS.cell (.head _) rfl)) fun a hK => ?_
    refine sp (k := 5) rfl hK (by decide) rfl rfl (fun w hS => r_move hK rfl) fun a hK => ?_
    refine sp (k := 6) rfl hK (by decide) rfl rfl (fun w hS => r_move hK rfl) fun a hK => ?_
    refine sp (k := 7) rfl hK (by decide) rfl rfl (fun w hS => r_move hK rfl) fun a hK => ?_
    refine spw (k := 8) rfl rfl (hS.trunc 1) ?_
    obtain ⟨y_27, h_28, H⟩ := bind_some H
    refine sl_call Try.call22 hK (by decide) rfl rfl rfl (slices_Clone_api_Value_api_Value.calls a2 (lentOf_sub [] _) hS.sub (h2_0.mono (hS.raLe0 hRA hRM)) h_28) fun a v_ w hv_ hK => ?_
    obtain ⟨R_29, v_32, cs_33, hv_, hr_, hl_30, hq_34⟩ := hv_
    have hv_ := hv_.symm
    subst hv_
    obtain ⟨hS, hl_30⟩ := hS.sp0.back hr_ hl_30
    have hS := hS.un1
    have hRL := hRL.trans hl_30
    refine parK_nil ((hS.pk1.trunc 1).lower hl_30.le) ?_
    have ho_35 := hS.row_one (.head _)
    refine sp (k := 9) rfl hK (by decide) rfl rfl (fun w hS => r_buildC (ps := [(0, .int .i64 a1), (1, v_32)]) (c := [.int .i64 a1, v_32]) Try.underlying29 Try.zeroValue29 places29 hK rfl (pc_cons rfl (pc_cons (cells1 ho_35) pc_nil)) rfl rfl) fun a hK => ?_
    refine spw (k := 10) rfl rfl ((hS.pk1.trunc 1).lower hl_30.le) ?_
    refine sl_buildSliceF (zc := [.int .i64 0, .slice none 0 0]) (ps := [(0, .agg #[.int .i64 a1, v_32])]) (c := [.int .i64 a1, v_32]) [[.int .i64 a1, v_32]] Try.underlying22 Try.sizeOf29 Try.zeroValue29 rfl (pc_cons rfl pc_nil) rfl rfl (Nat.le_of_ble_eq_true rfl) rfl (all_cons rfl (all_nil)) rfl hS hK (by decide) rfl fun a w b_36 hS hK => ?_
    refine parK_nil ((hS.pk2.trunc 1).lower hl_30.le) ?_
    refine spw (k := 11) rfl rfl ((hS.pk2.trunc 1).lower hl_30.le) ?_
    have hS := hS.pk1
    obtain ⟨R_37, hS, hl_39, hs_38⟩ := hS.fz_row hq_34 rfl rfl
    have hRL := hRL.trans hl_39
    have hS := hS.row_lit (size := 2) (m := 1) rfl (by decide)
    have hq_41 : Reps ty_api_Sample R_37 [.int .i64 a1, v_32] [(⟨a1, y_27⟩ : api_Sample)] := (Reps.cons (show Ty.rep ty_api_Sample _ [.int .i64 a1, v_32] (⟨a1, y_27⟩ : api_Sample) from ⟨_, rfl, hs_38⟩) (Reps.nil _ _))
    obtain ⟨y_42, h_43, H⟩ := bind_some H
    have hS := hS.pk2
    have hS1 := hS.sp2
    refine sl_call Try.call21 hK (by decide) rfl rfl rfl (slices_Insert_api_Sample_api_Sample.calls a0.l y_1.1 [(⟨a1, y_27⟩ : api_Sample)] hS1.lend (h0_0.mono (hl_30.le.trans hl_39.le)) hq_41 h_43) fun a v_ w hv_ hK => ?_
    obtain ⟨R_44, v_47, cs_48, hv_, hr_, hl_45, hq_49⟩ := hv_
    have hv_ := hv_.symm
    subst hv_
    obtain ⟨hS, hl_45⟩ := hS1.back hr_ hl_45
    have hS := hS.un1
    have hRL := hRL.trans hl_45
    refine parK_nil ((hS.pk1.trunc 1).lower (hl_30.le.trans (hl_39.le.trans hl_45.le))) ?_
    refine thenL_nil ?_
    refine sl hK (by decide) rfl rfl (r_nilCheck hK rfl) fun a hK => ?_
    refine sl hK (by decide) rfl rfl (r_fieldAddr Try.underlying50 rfl Try.sizeOf22 hK rfl) fun a hK => ?_
    have hS := hS.pk1
    refine sl_store1 (c' := [v_47]) Try.sizeOf22 hS hK rfl rfl rfl (hS.row_one (.tail _ (.head _))) (Nat.le_of_ble_eq_true rfl) rfl fun a w hS hK => ?_
    refine wpList_nil (NoP_nil ?_)
    refine wp_seq ?_
    refine wp_region_lit ?_
    refine sl hK (by decide) rfl rfl (r_assign hK rfl) fun a hK => ?_
    refine wpList_nil ?_
    obtain rfl := Option.some.inj H
    refine wp_ret ?_
    repeat (first | refine ret_then ?_ | refine ret_block ?_ | refine ret_scope ?_)
    exact ret_1 Try.results8 hK (rv_tmp hK rfl) ⟨_, rfl, _, _, _, rfl, hS, hRL, hq_49⟩

/-! ### (*catchment/runs.Run).Get: function 12 -/
set_option maxHeartbeats 4000000 in
set_option maxRecDepth 100000 in
theorem runs_Run_Get.calls (a0 : runs_Run) (a1 : Int) {w0 : World} {R : Hp} {RA : Hp} {b0 : Nat} {o0 : Nat} {v0_0 : Value} (hRA : RA.sub w0) (hR : R.sub w0) (hc0 : ∀ j u, ([v0_0] : List Value)[j]? = some u → RA.cell b0 (o0 + j) = some u) (h0_0 : SlR ty_api_Sample RA v0_0 a0.l) {r : (List api_Value) × Bool} (H : runs_Run_Get a0 a1 = some r) : Calls Try.prog 12 #[.pointer (some ⟨b0, o0, none⟩), .int .i64 a1] w0 (Rets fun v w' => ∃ (R' : Hp) (u0 : Value) (cu0 : List Value), v = .tuple #[u0, .bool r.2] ∧ St [] w0 w' R' [.row 44 11 u0 r.1.length cu0] ∧ RLe [] w0 R R' ∧ Reps ty_api_Value R' cu0 r.1) := by
  unfold runs_Run_Get at H
  refine enter (args := [.pointer (some ⟨b0, o0, none⟩), .int .i64 a1]) Try.func12 rfl Try.ntmps12 rfl fun a hK => ?_
  have hS := St.init hR
  have hRL := RLe.refl (M := []) w0 R
  refine wp_seq ?_
  refine wp_region_lit ?_
  refine sl hK (by decide) rfl rfl (r_assign hK rfl) fun a hK => ?_
  refine sl hK (by decide) rfl rfl (r_assign hK rfl) fun a hK => ?_
  refine wpList_nil ?_
  refine wp_seq ?_
  refine wp_region_lit ?_
  refine sl hK (by decide) rfl rfl (r_move hK rfl) fun a hK => ?_
  refine sl hK (by decide) rfl rfl (r_move hK rfl) fun a hK => ?_
  obtain ⟨y_1, h_2, H⟩ := bind_some H
  refine sl_callV Try.call20 hS hK (by decide) rfl rfl rfl (runs_Run_place.calls a0 a1 (lentOf_sub [] _) (fun j u hu => Hp.cell_le (hS.raLe0 hRA nil_not) (hc0 j u hu)) (h0_0.mono (hS.raLe0 hRA nil_not)) h_2) fun a w hS hK => ?_
  refine sl hK (by decide) rfl rfl (r_move hK rfl) fun a hK => ?_
  refine sl hK (by decide) rfl rfl (r_extract hK rfl rfl) fun a hK => ?_
  refine sl hK (by decide) rfl rfl (r_extract hK rfl rfl) fun a hK => ?_
  refine sl hK (by decide) rfl rfl (r_assign hK rfl) fun a hK => ?_
  refine sl hK (by decide) rfl rfl (r_assign hK rfl) fun a hK => ?_
  refine wpList_nil ?_
  refine wp_seq ?_
  refine wp_seq ?_
  refine wp_region_lit ?_
  refine sl hK (by decide) rfl rfl (r_move hK rfl) fun a hK => ?_
  refine sl hK (by decide) rfl rfl (r_un hK rfl (u_not _)) fun a hK => ?_
  refine wpList_nil ?_
  refine wp_cond_split (hK.ev rfl) (fun (hb_3 : (!y_1.2) = true) => ?_) (fun (hb_3 : (!y_1.2) = false) => ?_)
  · rw [ifb_t hb_3] at H
    refine wp_seq ?_
    refine wp_region_lit ?_
    refine sl hK (by decide) rfl rfl (r_assign hK rfl) fun a hK => ?_
    refine sl hK (by decide) rfl rfl (r_assign hK rfl) fun a hK => ?_
    refine wpList_nil ?_
    have hS := hS.row_nil 44 11
    have hq_5 : Reps ty_api_Value R [] ([] : List api_Value) := Reps.nil _ _
    obtain rfl := Option.some.inj H
    refine wp_ret ?_
    repeat (first | refine ret_then ?_ | refine ret_block ?_ | refine ret_scope ?_)
    exact ret_2 Try.results12 hK (rv_tmp hK rfl) (rv_tmp hK rfl) ⟨_, rfl, _, _, _, rfl, hS, hRL, hq_5⟩
  · rw [ifb_f hb_3] at H
    refine wp_skip ?_
    refine wp_seq ?_
    refine wp_region_lit ?_
    refine sl hK (by decide) rfl rfl (r_move hK rfl) fun a hK => ?_
    refine sl hK (by decide) rfl rfl (r_nilCheck hK rfl) fun a hK => ?_
    refine sl hK (by decide) rfl rfl (r_fieldAddr Try.underlying50 rfl Try.sizeOf22 hK rfl) fun a hK => ?_
    refine sl hK (by decide) rfl rfl (r_load Try.isAgg22 hK rfl ((hS.ra hRA nil_not).cell (hc0 0 _ rfl))) fun a hK => ?_
    refine sl hK (by decide) rfl rfl (r_move hK rfl) fun a hK => ?_
    obtain ⟨y_6, h_7, H⟩ := bind_some H
    obtain ⟨b_8, o_9, c_10, cs_11, hv_12, hr_13, hc_14, h_70, h_71⟩ := h0_0.ix h_7
    obtain ⟨v_15, rfl, hs_16⟩ := hr_13
    refine sl hK (by decide) rfl rfl (r_indexAddr_R Try.underlying22 Try.sizeOf29 hv_12 h_70 h_71 hK rfl rfl) fun a hK => ?_
    refine sl hK (by decide) rfl rfl (r_fieldAddr Try.underlying29 rfl Try.sizeOf27 hK rfl) fun a hK => ?_
    refine sl hK (by decide) rfl rfl (r_load Try.isAgg27 hK rfl ((hS.ra hRA nil_not).cell (hc_14 1 _ rfl))) fun a hK => ?_
    obtain ⟨y_17, h_18, H⟩ := bind_some H
    refine sl_call Try.call22 hK (by decide) rfl rfl rfl (slices_Clone_api_Value_api_Value.calls y_6.Vals (lentOf_sub [] _) hS.sub (hs_16.mono (hS.raLe0 hRA nil_not)) h_18) fun a v_ w hv_ hK => ?_
    obtain ⟨R_19, v_22, cs_23, hv_, hr_, hl_20, hq_24⟩ := hv_
    have hv_ := hv_.symm
    subst hv_
    obtain ⟨hS, hl_20⟩ := hS.sp0.back hr_ hl_20
    have hS := hS.un1
    have hRL := hRL.trans hl_20
    refine sl hK (by decide) rfl rfl (r_assign hK rfl) fun a hK => ?_
    refine sl hK (by decide) rfl rfl (r_assign hK rfl) fun a hK => ?_
    refine wpList_nil ?_
    obtain rfl := Option.some.inj H
    refine wp_ret ?_
    repeat (first | refine ret_then ?_ | refine ret_block ?_ | refine ret_scope ?_)
    exact ret_2 Try.results12 hK (rv_tmp hK rfl) (rv_tmp hK rfl) ⟨_, rfl, _, _, _, rfl, hS, hRL, hq_24⟩

/-! ### (*catchment/runs.Run).Range: function 10 -/
set_option maxHeartbeats 4000000 in
set_option maxRecDepth 100000 in
theorem runs_Run_Range.calls (a0 : runs_Run) (a1 : Int) (a2 : Int) {w0 : World} {R : Hp} {RA : Hp} {b0 : Nat} {o0 : Nat} {v0_0 : Value} (hRA : RA.sub w0) (hR : R.sub w0) (hc0 : ∀ j u, ([v0_0] : List Value)[j]? = some u → RA.cell b0 (o0 + j) = some u) (h0_0 : SlR ty_api_Sample RA v0_0 a0.l) {r : List api_Sample} (H : runs_Run_Range a0 a1 a2 = some r) : Calls Try.prog 10 #[.pointer (some ⟨b0, o0, none⟩), .int .i64 a1, .int .i64 a2] w0 (Rets fun v w' => ∃ (R' : Hp) (u0 : Value) (cu0 : List Value), v = u0 ∧ St [] w0 w' R' [.row 29 2 u0 r.length cu0] ∧ RLe [] w0 R R' ∧ Reps ty_api_Sample R' cu0 r ∧ Apart R R' cu0) := by
  unfold runs_Run_Range at H
  refine enter (args := [.pointer (some ⟨b0, o0, none⟩), .int .i64 a1, .int .i64 a2]) Try.func10 rfl Try.ntmps10 rfl fun a hK => ?_
  have hS := St.init hR
  have hRL := RLe.refl (M := []) w0 R
  refine wp_seq ?_
  refine wp_region_lit ?_
  refine sl hK (by decide) rfl rfl (r_assign hK rfl) fun a hK => ?_
  refine wpList_nil ?_
  refine wp_scope_straight ?_
  refine wp_seq ?_
  refine wp_region_lit ?_
  refine sl hK (by decide) rfl rfl (r_move hK rfl) fun a hK => ?_
  refine sl hK (by decide) rfl rfl (r_move hK rfl) fun a hK => ?_
  obtain ⟨y_1, h_2, H⟩ := bind_some H
  refine sl_callV Try.call20 hS hK (by decide) rfl rfl rfl (runs_Run_place.calls a0 a1 (lentOf_sub [] _) (fun j u hu => Hp.cell_le (hS.raLe0 hRA nil_not) (hc0 j u hu)) (h0_0.mono (hS.raLe0 hRA nil_not)) h_2) fun a w hS hK => ?_
  refine sl hK (by decide) rfl rfl (r_move hK rfl) fun a hK => ?_
  refine sl hK (by decide) rfl rfl (r_extract hK rfl rfl) fun a hK => ?_
  refine sl hK (by decide) rfl rfl (r_extract hK rfl rfl) fun a hK => ?_
  refine sl hK (by decide) rfl rfl (r_assign hK rfl) fun a hK => ?_
  refine sl hK (by decide) rfl rfl (r_assign hK rfl) fun a hK => ?_
  refine wpList_nil ?_
  refine wp_seq ?_
  refine wp_region_lit ?_
  refine sl hK (by decide) rfl rfl (r_assign hK rfl) fun a hK => ?_
  refine wpList_nil ?_
  refine wp_seq ?_
  refine wp_label ?_
  refine wp_seq ?_
  refine wp_seq ?_
  refine wp_region_lit ?_
  refine sl hK (by decide) rfl rfl (r_move hK rfl) fun a hK => ?_
  refine sl hK (by decide) rfl rfl (r_nilCheck hK rfl) fun a hK => ?_
  refine sl hK (by decide) rfl rfl (r_fieldAddr Try.underlying50 rfl Try.sizeOf22 hK rfl) fun a hK => ?_
  refine sl hK (by decide) rfl rfl (r_load Try.isAgg22 hK rfl ((hS.ra hRA nil_not).cell (hc0 0 _ rfl))) fun a hK => ?_
  refine sl hK (by decide) rfl rfl (r_move hK rfl) fun a hK => ?_
  obtain ⟨y_3, h_4, H⟩ := bind_some H
  obtain ⟨v_5, hs_6, hr_7⟩ := r_slice_R (x := .tmp 21) (lo := some (.tmp 22)) (hi := none) Try.underlying22 Try.sizeOf29 h0_0 h_4 hK rfl ⟨_, rfl⟩ rfl
  refine sl hK (by decide) rfl rfl (hr_7 _ _ _ _ _ _ _ hK) fun a hK => ?_
  refine sl hK (by decide) rfl rfl (r_len_R Try.underlying22 hs_6 hK rfl) fun a hK => ?_
  refine sl hK (by decide) rfl rfl (r_move hK rfl) fun a hK => ?_
  refine wpList_nil ?_
  refine wp_block ?_
  refine wp_loop_k (fun k_l0 a w => ∃ (x_76 : List api_Sample) (x_81 : Int) (R_82 : Hp) (v_77 : Value) (cs_78 : List Value), runs_Run_Range.l0 a2 y_3 k_l0 x_76 x_81 = some r ∧ RLe [] w0 R R_82 ∧ Reps ty_api_Sample R_82 cs_78 x_76 ∧ Apart R R_82 cs_78 ∧ Kn 45 a [(2, .int .i64 a2), (9, v_77), (23, v_5), (24, .int .i64 (y_3.length : Int)), (25, .int .i64 x_81)] ∧ St [] w0 w R_82 [.row 29 2 v_77 x_76.length cs_78]) (((y_3.length : Int) - 0).toNat + 1) ?_ ?_
  · have hS := hS.row_nil 29 2
    have hq_143 : Reps ty_api_Sample R [] ([] : List api_Sample) := Reps.nil _ _
    exact ⟨[], 0, _, _, _, H, (RLe.refl _ _), hq_143, (Apart.nil _ _), hK.sub (all_cons rfl (all_cons rfl (all_cons rfl (all_cons rfl (all_cons rfl (all_nil)))))), hS⟩
  · rintro k_l0 a w ⟨x_76, x_81, R_82, v_77, cs_78, H, hl_83, hq_79, hap_80, hK, hS⟩
    cases k_l0 with
    | zero => cases H
    | succ k_l0 =>
    rw [runs_Run_Range.l0.eq_2] at H
    have hRL := hRL.trans hl_83
    refine wp_seq ?_
    refine wp_region_lit ?_
    refine sl hK (by decide) rfl rfl (r_ibin hK rfl rfl rfl) fun a hK => ?_
    refine wpList_nil ?_
    refine wp_seq ?_
    refine wp_cond_split (hK.ev rfl) (fun (hb_144 : (decide (x_81 < (y_3.length : Int))) = true) => ?_) (fun (hb_144 : (decide (x_81 < (y_3.length : Int))) = false) => ?_)
    · rw [ifb_t hb_144] at H
      refine wp_skip ?_
      refine wp_seq ?_
      refine wp_block ?_
      refine wp_seq ?_
      refine wp_region_lit ?_
      obtain ⟨y_145, h_146, H⟩ := bind_some H
      obtain ⟨b_147, o_148, c_149, cs_150, hv_151, hr_152, hc_153, h_1460, h_1461⟩ := hs_6.ix h_146
      obtain ⟨v_154, rfl, hs_155⟩ := hr_152
      refine sl hK (by decide) rfl rfl (r_indexAddr_R Try.underlying22 Try.sizeOf29 hv_151 h_1460 h_1461 hK rfl rfl) fun a hK => ?_
      refine sl hK (by decide) rfl rfl (r_loadA (cs := [.int .i64 y_145.Time, v_154]) Try.isAgg29 Try.sizeOf29 rfl hK rfl (fun j v hv => (hS.ra hRA nil_not).cell (hc_153 j v hv))) fun a hK => ?_
      refine sl_alloc Try.zeroValue29 hS hK (by decide) rfl rfl fun a w b_156 hS hK => ?_
      refine sl_storeA (vs := [.int .i64 y_145.Time, v_154]) (c' := [.int .i64 y_145.Time, v_154]) Try.sizeOf29 hS hK rfl rfl rfl rfl (all_cons rfl (all_cons hs_155.one (all_nil))) (Nat.le_of_ble_eq_true rfl) rfl fun a w hS hK => ?_
      refine wpList_nil ?_
      refine wp_block ?_
      refine wp_seq ?_
      refine wp_region_lit ?_
      refine sl hK (by decide) rfl rfl (r_fieldAddr Try.underlying29 rfl Try.sizeOf3 hK rfl) fun a hK => ?_
      refine sl hK (by decide) rfl rfl (r_load Try.isAgg3 hK rfl (hS.cell (.head _) rfl)) fun a hK => ?_
      refine sl hK (by decide) rfl rfl (r_move hK rfl) fun a hK => ?_
      refine sl hK (by decide) rfl rfl (r_ibin hK rfl rfl rfl) fun a hK => ?_
      refine sl hK (by decide) rfl rfl (r_assign hK rfl) fun a hK => ?_
      refine wpList_nil ?_
      refine wp_cond_split (hK.ev rfl) (fun (hb_157 : (decide (y_145.Time > a2)) = true) => ?_) (fun (hb_157 : (decide (y_145.Time > a2)) = false) => ?_)
      · rw [ifb_t hb_157] at H
        refine wp_exit ?_
        refine wp_seq ?_
        refine wp_region_lit ?_
        refine sl hK (by decide) rfl rfl (r_move hK rfl) fun a hK => ?_
        refine sl hK (by decide) rfl rfl (r_assign hK rfl) fun a hK => ?_
        refine wpList_nil ?_
        obtain rfl := Option.some.inj H
        refine wp_ret ?_
        repeat (first | refine ret_then ?_ | refine ret_block ?_ | refine ret_scope ?_)
        exact ret_1 Try.results10 hK (rv_tmp hK rfl) ⟨_, rfl, _, _, _, rfl, (hS.pk1.trunc 1), hRL, hq_79, hap_80⟩
      · rw [ifb_f hb_157] at H
        refine parT_region (C := fun w => St [] w0 w R_82 [.cells b_156 [.int .i64 y_145.Time, v_154] 29, .row 29 2 v_77 x_76.length cs_78]) 8 [(0, true), (1, true), (2, true), (3, true), (4, true), (5, false), (6, true), (7, false)] mixed (by kernel_rfl) hS (fun w hS => hS) fun w hS => ?_
        refine sp (k := 0) rfl hK (by decide) rfl rfl (fun w hS => r_move hK rfl) fun a hK => ?_
        refine sp (k := 1) rfl hK (by decide) rfl rfl (fun w hS => r_fieldAddr Try.underlying29 rfl Try.sizeOf3 hK rfl) fun a hK => ?_
        refine sp (k := 2) rfl hK (by decide) rfl rfl (fun w hS => r_load Try.isAgg3 hK rfl (hS.cell (.head _) rfl)) fun a hK => ?_
        refine sp (k := 3) rfl hK (by decide) rfl rfl (fun w hS => r_fieldAddr Try.underlying29 rfl Try.sizeOf27 hK rfl) fun a hK => ?_
        refine sp (k := 4) rfl hK (by decide) rfl rfl (fun w hS => r_load Try.isAgg27 hK rfl (hS.cell (.head _) rfl)) fun a hK => ?_
        refine spw (k := 5) rfl rfl hS ?_
        obtain ⟨y_180, h_181, H⟩ := bind_some H
        refine sl_call Try.call22 hK (by decide) rfl rfl rfl (slices_Clone_api_Value_api_Value.calls y_145.Vals (lentOf_sub [] _) hS.sub (hs_155.mono (hS.raLe0 hRA nil_not)) h_181) fun a v_ w hv_ hK => ?_
        obtain ⟨R_182, v_185, cs_186, hv_, hr_, hl_183, hq_187⟩ := hv_
        have hv_ := hv_.symm
        subst hv_
        obtain ⟨hS, hl_183⟩ := hS.sp0.back hr_ hl_183
        have hS := hS.un1
        have hRL := hRL.trans hl_183
        refine parK_nil ((hS.pk2.pk2.trunc 2).lower hl_183.le) ?_
        have ho_188 := hS.row_one (.head _)
        refine sp (k := 6) rfl hK (by decide) rfl rfl (fun w hS => r_buildC (ps := [(0, .int .i64 y_145.Time), (1, v_185)]) (c := [.int .i64 y_145.Time, v_185]) Try.underlying29 Try.zeroValue29 places29 hK rfl (pc_cons rfl (pc_cons (cells1 ho_188) pc_nil)) rfl rfl) fun a hK => ?_
        refine spw (k := 7) rfl rfl ((hS.pk2.pk2.trunc 2).lower hl_183.le) ?_
        refine sl_buildSliceF (zc := [.int .i64 0, .slice none 0 0]) (ps := [(0, .agg #[.int .i64 y_145.Time, v_185])]) (c := [.int .i64 y_145.Time, v_185]) [[.int .i64 y_145.Time, v_185]] Try.underlying22 Try.sizeOf29 Try.zeroValue29 rfl (pc_cons rfl pc_nil) rfl rfl (Nat.le_of_ble_eq_true rfl) rfl (all_cons rfl (all_nil)) rfl hS hK (by decide) rfl fun a w b_189 hS hK => ?_
        refine parK_nil ((hS.pk3.pk3.trunc 2).lower hl_183.le) ?_
        refine thenL_nil ?_
        have hS := hS.pk3
        have hS := hS.pk2
        obtain ⟨R_190, hS, hl_192, hs_191, hn_193⟩ := hS.fz_rowN hq_187 rfl rfl
        have hRL := hRL.trans hl_192
        obtain ⟨y_194, h_195, H⟩ := bind_some H
        refine sl_append_LA (ty := ty_api_Sample) (ys := [(⟨y_145.Time, y_180⟩ : api_Sample)]) elT22 (by decide) rfl (hq_79.mono (hl_183.le.trans hl_192.le)) rfl (Reps.cons (show Ty.rep ty_api_Sample _ [.int .i64 y_145.Time, v_185] (⟨y_145.Time, y_180⟩ : api_Sample) from ⟨_, rfl, hs_191⟩) (Reps.nil _ _)) rfl h_195 hS hK (by decide) rfl rfl rfl fun a w v_196 cs_197 hcq_200 hq_198 hS hK => ?_
        have hap_201 : Apart R R_190 cs_197 := by rw [hcq_200]; have h_ := (Apart.app ((Apart.skip (v := .int .i64 y_145.Time) hap_80 rfl).mono hl_183.le) (hl_83.le.trans hl_183.le) hl_192.le hn_193); simpa only [List.append_assoc, List.cons_append, List.nil_append] using h_
        refine sl hK (by decide) rfl rfl (r_assign hK rfl) fun a hK => ?_
        refine wpList_nil (NoP_nil ?_)
        refine wp_region_lit ?_
        refine sl hK (by decide) rfl rfl (r_ibin hK rfl rfl rfl) fun a hK => ?_
        refine sl hK (by decide) rfl rfl (r_move hK rfl) fun a hK => ?_
        refine wpList_nil ?_
        exact ⟨_, Nat.lt_succ_self _, y_194, (IntKind.i64.wrap (x_81 + 1)), _, _, _, H, (hl_83.trans (hl_183.trans hl_192)), hq_198, hap_201, hK.sub (all_cons rfl (all_cons rfl (all_cons rfl (all_cons rfl (all_cons rfl (all_nil)))))), hS.trunc 1⟩
    · rw [ifb_f hb_144] at H
      refine wp_exit ?_
      refine wp_seq ?_
      refine wp_region_lit ?_
      refine sl hK (by decide) rfl rfl (r_move hK rfl) fun a hK => ?_
      refine sl hK (by decide) rfl rfl (r_assign hK rfl) fun a hK => ?_
      refine wpList_nil ?_
      obtain rfl := Option.some.inj H
      refine wp_ret ?_
      repeat (first | refine ret_then ?_ | refine ret_block ?_ | refine ret_scope ?_)
      exact ret_1 Try.results10 hK (rv_tmp hK rfl) ⟨_, rfl, _, _, _, rfl, hS, hRL, hq_79, hap_80⟩

/-! ### catchment/catchmentlaw07.vals: function 13 -/
set_option maxHeartbeats 4000000 in
set_option maxRecDepth 100000 in
theorem law07_vals.calls (a0 : List api_Value) (a1 : List api_Value) {w0 : World} {RA : Hp} {v0_0 : Value} {v1_0 : Value} (hRA : RA.sub w0) (h0_0 : SlR ty_api_Value RA v0_0 a0) (h1_0 : SlR ty_api_Value RA v1_0 a1) {r : Bool} (H : law07_vals a0 a1 = some r) : CallsV Try.prog 13 #[v0_0, v1_0] w0 (.bool r) := by
  unfold law07_vals at H
  refine enter (args := [v0_0, v1_0]) Try.func13 rfl Try.ntmps13 rfl fun a hK => ?_
  have hS := St.init (R := fun _ => none) (w := w0) (fun _ _ h => by cases h)
  have hRL := RLe.refl (M := []) w0 (fun _ => none)
  refine wp_seq ?_
  refine wp_region_lit ?_
  refine sl hK (by decide) rfl rfl (r_assign hK rfl) fun a hK => ?_
  refine wpList_nil ?_
  refine wp_seq ?_
  refine wp_seq ?_
  refine wp_region_lit ?_
  refine sl hK (by decide) rfl rfl (r_move hK rfl) fun a hK => ?_
  refine sl hK (by decide) rfl rfl (r_len_R Try.underlying27 h0_0 hK rfl) fun a hK => ?_
  refine sl hK (by decide) rfl rfl (r_move hK rfl) fun a hK => ?_
  refine sl hK (by decide) rfl rfl (r_len_R Try.underlying27 h1_0 hK rfl) fun a hK => ?_
  refine sl hK (by decide) rfl rfl (r_ibin hK rfl rfl rfl) fun a hK => ?_
  refine wpList_nil ?_
  refine wp_cond_split (hK.ev rfl) (fun (hb_1 : ((a0.length : Int) != (a1.length : Int)) = true) => ?_) (fun (hb_1 : ((a0.length : Int) != (a1.length : Int)) = false) => ?_)
  · rw [ifb_t hb_1] at H
    refine wp_seq ?_
    refine wp_region_lit ?_
    refine sl hK (by decide) rfl rfl (r_assign hK rfl) fun a hK => ?_
    refine wpList_nil ?_
    obtain rfl := Option.some.inj H
    refine wp_ret ?_
    repeat (first | refine ret_then ?_ | refine ret_block ?_ | refine ret_scope ?_)
    exact ret_1 Try.results13 hK (rv_tmp hK rfl) ⟨rfl, hS.bel⟩
  · rw [ifb_f hb_1] at H
    refine wp_skip ?_
    refine wp_seq ?_
    refine wp_seq ?_
    refine wp_region_lit ?_
    refine sl hK (by decide) rfl rfl (r_assign hK rfl) fun a hK => ?_
    refine wpList_nil ?_
    refine wp_block ?_
    refine wp_loop_k (fun k_l0 a w => ∃ (x_41 : Int), law07_vals.l0 a0 a1 k_l0 x_41 = some r ∧ Kn 26 a [(0, v0_0), (1, v1_0), (5, .int .i64 x_41)] ∧ St [] w0 w (fun _ => none) []) (((a0.length : Int) - 0).toNat + 1) ?_ ?_
    · exact ⟨0, H, hK.sub (all_cons rfl (all_cons rfl (all_cons rfl (all_nil)))), hS⟩
    · rintro k_l0 a w ⟨x_41, H, hK, hS⟩
      cases k_l0 with
      | zero => cases H
      | succ k_l0 =>
      rw [law07_vals.l0.eq_2] at H
      refine wp_seq ?_
      refine wp_seq ?_
      refine wp_region_lit ?_
      refine sl hK (by decide) rfl rfl (r_move hK rfl) fun a hK => ?_
      refine sl hK (by decide) rfl rfl (r_move hK rfl) fun a hK => ?_
      refine sl hK (by decide) rfl rfl (r_len_R Try.underlying27 h0_0 hK rfl) fun a hK => ?_
      refine sl hK (by decide) rfl rfl (r_ibin hK rfl rfl rfl) fun a hK => ?_
      refine wpList_nil ?_
      refine wp_cond_split (hK.ev rfl) (fun (hb_81 : (decide (x_41 < (a0.length : Int))) = true) => ?_) (fun (hb_81 : (decide (x_41 < (a0.length : Int))) = false) => ?_)
      · rw [ifb_t hb_81] at H
        refine wp_skip ?_
        refine wp_seq ?_
        refine wp_block ?_
        refine wp_seq ?_
        refine par_region (C := fun w => St [] w0 w (fun _ => none) []) [(0, true), (1, true), (2, true), (3, true), (4, true), (5, true), (6, true), (7, true), (8, true)] mixed (by kernel_rfl) hS (fun w hS => hS) fun w hS => ?_
        refine sp (k := 0) rfl hK (by decide) rfl rfl (fun w hS => r_move hK rfl) fun a hK => ?_
        refine sp (k := 1) rfl hK (by decide) rfl rfl (fun w hS => r_move hK rfl) fun a hK => ?_
        obtain ⟨y_100, h_101, H⟩ := bind_some H
        obtain ⟨b_102, o_103, c_104, cs_105, hv_106, hr_107, hc_108, h_1010, h_1011⟩ := h0_0.ix h_101
        subst hr_107
        refine sp (k := 2) rfl hK (by decide) rfl rfl (fun w hS => r_indexAddr_R Try.underlying27 Try.sizeOf44 hv_106 h_1010 h_1011 hK rfl rfl) fun a hK => ?_
        refine sp (k := 3) rfl hK (by decide) rfl rfl (fun w hS => r_loadA (cs := [.int .i64 y_100.Kind, .int .i64 y_100.N, .string y_100.S, .int .i64 y_100.H.a0, .int .i64 y_100.H.a1, .int .i64 y_100.H.a2, .int .i64 y_100.H.a3, .int .i64 y_100.H.a4, .int .i64 y_100.H.a5, .int .i64 y_100.H.a6, .int .i64 y_100.H.a7]) Try.isAgg44 Try.sizeOf44 rfl hK rfl (fun j v hv => (hS.ra hRA nil_not).cell (hc_108 j v hv))) fun a hK => ?_
        refine sp (k := 4) rfl hK (by decide) rfl rfl (fun w hS => r_move hK rfl) fun a hK => ?_
        refine sp (k := 5) rfl hK (by decide) rfl rfl (fun w hS => r_move hK rfl) fun a hK => ?_
        obtain ⟨y_109, h_110, H⟩ := bind_some H
        obtain ⟨b_111, o_112, c_113, cs_114, hv_115, hr_116, hc_117, h_1100, h_1101⟩ := h1_0.ix h_110
        subst hr_116
        refine sp (k := 6) rfl hK (by decide) rfl rfl (fun w hS => r_indexAddr_R Try.underlying27 Try.sizeOf44 hv_115 h_1100 h_1101 hK rfl rfl) fun a hK => ?_
        refine sp (k := 7) rfl hK (by decide) rfl rfl (fun w hS => r_loadA (cs := [.int .i64 y_109.Kind, .int .i64 y_109.N, .string y_109.S, .int .i64 y_109.H.a0, .int .i64 y_109.H.a1, .int .i64 y_109.H.a2, .int .i64 y_109.H.a3, .int .i64 y_109.H.a4, .int .i64 y_109.H.a5, .int .i64 y_109.H.a6, .int .i64 y_109.H.a7]) Try.isAgg44 Try.sizeOf44 rfl hK rfl (fun j v hv => (hS.ra hRA nil_not).cell (hc_117 j v hv))) fun a hK => ?_
        refine sp (k := 8) rfl hK (by decide) rfl rfl (fun w hS => r_sne (by kernel_rfl) (eqs44 y_100 y_109) hK rfl rfl) fun a hK => ?_
        refine wpPar_nil (NoP_nil ?_)
        refine wp_cond_split (hK.ev rfl) (fun (hb_118 : (!decide (y_100 = y_109)) = true) => ?_) (fun (hb_118 : (!decide (y_100 = y_109)) = false) => ?_)
        · rw [ifb_t hb_118] at H
          refine wp_seq ?_
          refine wp_region_lit ?_
          refine sl hK (by decide) rfl rfl (r_assign hK rfl) fun a hK => ?_
          refine wpList_nil ?_
          obtain rfl := Option.some.inj H
          refine wp_ret ?_
          repeat (first | refine ret_then ?_ | refine ret_block ?_ | refine ret_scope ?_)
          exact ret_1 Try.results13 hK (rv_tmp hK rfl) ⟨rfl, hS.bel⟩
        · rw [ifb_f hb_118] at H
          refine wp_skip ?_
          refine wp_region_lit ?_
          refine sl hK (by decide) rfl rfl (r_move hK rfl) fun a hK => ?_
          refine sl hK (by decide) rfl rfl (r_ibin hK rfl rfl rfl) fun a hK => ?_
          refine sl hK (by decide) rfl rfl (r_assign hK rfl) fun a hK => ?_
          refine wpList_nil ?_
          exact ⟨_, Nat.lt_succ_self _, (IntKind.i64.wrap (x_41 + 1)), H, hK.sub (all_cons rfl (all_cons rfl (all_cons rfl (all_nil)))), hS⟩
      · rw [ifb_f hb_81] at H
        refine wp_exit ?_
        refine wp_seq ?_
        refine wp_region_lit ?_
        refine sl hK (by decide) rfl rfl (r_assign hK rfl) fun a hK => ?_
        refine wpList_nil ?_
        obtain rfl := Option.some.inj H
        refine wp_ret ?_
        repeat (first | refine ret_then ?_ | refine ret_block ?_ | refine ret_scope ?_)
        exact ret_1 Try.results13 hK (rv_tmp hK rfl) ⟨rfl, hS.bel⟩

/-! ### catchment/catchmentlaw07.same: function 9 -/
set_option maxHeartbeats 4000000 in
set_option maxRecDepth 100000 in
theorem law07_same.calls (a0 : List api_Sample) (a1 : List api_Sample) {w0 : World} {RA : Hp} {v0_0 : Value} {v1_0 : Value} (hRA : RA.sub w0) (h0_0 : SlR ty_api_Sample RA v0_0 a0) (h1_0 : SlR ty_api_Sample RA v1_0 a1) {r : Bool} (H : law07_same a0 a1 = some r) : CallsV Try.prog 9 #[v0_0, v1_0] w0 (.bool r) := by
  unfold law07_same at H
  refine enter (args := [v0_0, v1_0]) Try.func9 rfl Try.ntmps9 rfl fun a hK => ?_
  have hS := St.init (R := fun _ => none) (w := w0) (fun _ _ h => by cases h)
  have hRL := RLe.refl (M := []) w0 (fun _ => none)
  refine wp_seq ?_
  refine wp_region_lit ?_
  refine sl hK (by decide) rfl rfl (r_assign hK rfl) fun a hK => ?_
  refine wpList_nil ?_
  refine wp_seq ?_
  refine wp_seq ?_
  refine wp_region_lit ?_
  refine sl hK (by decide) rfl rfl (r_move hK rfl) fun a hK => ?_
  refine sl hK (by decide) rfl rfl (r_len_R Try.underlying22 h0_0 hK rfl) fun a hK => ?_
  refine sl hK (by decide) rfl rfl (r_move hK rfl) fun a hK => ?_
  refine sl hK (by decide) rfl rfl (r_len_R Try.underlying22 h1_0 hK rfl) fun a hK => ?_
  refine sl hK (by decide) rfl rfl (r_ibin hK rfl rfl rfl) fun a hK => ?_
  refine wpList_nil ?_
  refine wp_cond_split (hK.ev rfl) (fun (hb_1 : ((a0.length : Int) != (a1.length : Int)) = true) => ?_) (fun (hb_1 : ((a0.length : Int) != (a1.length : Int)) = false) => ?_)
  · rw [ifb_t hb_1] at H
    refine wp_seq ?_
    refine wp_region_lit ?_
    refine sl hK (by decide) rfl rfl (r_assign hK rfl) fun a hK => ?_
    refine wpList_nil ?_
    obtain rfl := Option.some.inj H
    refine wp_ret ?_
    repeat (first | refine ret_then ?_ | refine ret_block ?_ | refine ret_scope ?_)
    exact ret_1 Try.results9 hK (rv_tmp hK rfl) ⟨rfl, hS.bel⟩
  · rw [ifb_f hb_1] at H
    refine wp_skip ?_
    refine wp_seq ?_
    refine wp_seq ?_
    refine wp_region_lit ?_
    refine sl hK (by decide) rfl rfl (r_assign hK rfl) fun a hK => ?_
    refine wpList_nil ?_
    refine wp_block ?_
    refine wp_loop_k (fun k_l0 a w => ∃ (x_195 : Int), law07_same.l0 a0 a1 k_l0 x_195 = some r ∧ Kn 44 a [(0, v0_0), (1, v1_0), (5, .int .i64 x_195)] ∧ St [] w0 w (fun _ => none) []) (((a0.length : Int) - 0).toNat + 1) ?_ ?_
    · exact ⟨0, H, hK.sub (all_cons rfl (all_cons rfl (all_cons rfl (all_nil)))), hS⟩
    · rintro k_l0 a w ⟨x_195, H, hK, hS⟩
      cases k_l0 with
      | zero => cases H
      | succ k_l0 =>
      rw [law07_same.l0.eq_2] at H
      refine wp_seq ?_
      refine wp_seq ?_
      refine wp_region_lit ?_
      refine sl hK (by decide) rfl rfl (r_move hK rfl) fun a hK => ?_
      refine sl hK (by decide) rfl rfl (r_move hK rfl) fun a hK => ?_
      refine sl hK (by decide) rfl rfl (r_len_R Try.underlying22 h0_0 hK rfl) fun a hK => ?_
      refine sl hK (by decide) rfl rfl (r_ibin hK rfl rfl rfl) fun a hK => ?_
      refine wpList_nil ?_
      refine wp_cond_split (hK.ev rfl) (fun (hb_389 : (decide (x_195 < (a0.length : Int))) = true) => ?_) (fun (hb_389 : (decide (x_195 < (a0.length : Int))) = false) => ?_)
      · rw [ifb_t hb_389] at H
        refine wp_skip ?_
        refine wp_seq ?_
        refine wp_block ?_
        refine wp_seq ?_
        refine wp_mid (fun a w => ∃ (x_484 : Bool), law07_same.j1 (law07_same.l0 a0 a1 k_l0) a0 x_195 x_484 = some r ∧ Kn 44 a [(0, v0_0), (1, v1_0), (5, .int .i64 x_195), (6, .bool x_484)] ∧ St [] w0 w (fun _ => none) []) ?_ ?_
        · refine parT_region (C := fun w => St [] w0 w (fun _ => none) []) 22 [(0, true), (1, true), (2, true), (3, true), (4, true), (5, true), (6, true), (7, true), (8, true), (9, true), (10, true), (11, true), (12, true), (13, true), (14, true), (15, true), (16, true), (17, true), (18, true), (19, true), (20, true), (21, true)] mixed (by kernel_rfl) hS (fun w hS => hS) fun w hS => ?_
          refine sp (k := 0) rfl hK (by decide) rfl rfl (fun w hS => r_move hK rfl) fun a hK => ?_
          refine sp (k := 1) rfl hK (by decide) rfl rfl (fun w hS => r_move hK rfl) fun a hK => ?_
          obtain ⟨y_533, h_534, H⟩ := bind_some H
          obtain ⟨b_535, o_536, c_537, cs_538, hv_539, hr_540, hc_541, h_5340, h_5341⟩ := h0_0.ix h_534
          obtain ⟨v_542, rfl, hs_543⟩ := hr_540
          refine sp (k := 2) rfl hK (by decide) rfl rfl (fun w hS => r_indexAddr_R Try.underlying22 Try.sizeOf29 hv_539 h_5340 h_5341 hK rfl rfl) fun a hK => ?_
          refine sp (k := 3) rfl hK (by decide) rfl rfl (fun w hS => r_fieldAddr Try.underlying29 rfl Try.sizeOf3 hK rfl) fun a hK => ?_
          refine sp (k := 4) rfl hK (by decide) rfl rfl (fun w hS => r_load Try.isAgg3 hK rfl ((hS.ra hRA nil_not).cell (hc_541 0 _ rfl))) fun a hK => ?_
          refine sp (k := 5) rfl hK (by decide) rfl rfl (fun w hS => r_move hK rfl) fun a hK => ?_
          refine sp (k := 6) rfl hK (by decide) rfl rfl (fun w hS => r_move hK rfl) fun a hK => ?_
          obtain ⟨y_544, h_545, H⟩ := bind_some H
          obtain ⟨b_546, o_547, c_548, cs_549, hv_550, hr_551, hc_552, h_5450, h_5451⟩ := h1_0.ix h_545
          obtain ⟨v_553, rfl, hs_554⟩ := hr_551
          refine sp (k := 7) rfl hK (by decide) rfl rfl (fun w hS => r_indexAddr_R Try.underlying22 Try.sizeOf29 hv_550 h_5450 h_5451 hK rfl rfl) fun a hK => ?_
          refine sp (k := 8) rfl hK (by decide) rfl rfl (fun w hS => r_fieldAddr Try.underlying29 rfl Try.sizeOf3 hK rfl) fun a hK => ?_
          refine sp (k := 9) rfl hK (by decide) rfl rfl (fun w hS => r_load Try.isAgg3 hK rfl ((hS.ra hRA nil_not).cell (hc_552 0 _ rfl))) fun a hK => ?_
          refine sp (k := 10) rfl hK (by decide) rfl rfl (fun w hS => r_ibin hK rfl rfl rfl) fun a hK => ?_
          refine sp (k := 11) rfl hK (by decide) rfl rfl (fun w hS => r_move hK rfl) fun a hK => ?_
          rcases or_b (y_533.Time == y_544.Time) with hb_555 | hb_555
          · rw [ifb_t hb_555] at H
            refine sp (k := 12) rfl hK (by decide) (wtt hb_555) rfl (fun w hS => r_move hK rfl) fun a hK => ?_
            refine sp (k := 13) rfl hK (by decide) (wtt hb_555) rfl (fun w hS => r_move hK rfl) fun a hK => ?_
            obtain ⟨y_556, h_557, H⟩ := bind_some H
            obtain ⟨b_558, o_559, c_560, cs_561, hv_562, hr_563, hc_564, h_5570, h_5571⟩ := h0_0.ix h_557
            obtain ⟨v_565, rfl, hs_566⟩ := hr_563
            refine sp (k := 14) rfl hK (by decide) (wtt hb_555) rfl (fun w hS => r_indexAddr_R Try.underlying22 Try.sizeOf29 hv_562 h_5570 h_5571 hK rfl rfl) fun a hK => ?_
            refine sp (k := 15) rfl hK (by decide) (wtt hb_555) rfl (fun w hS => r_fieldAddr Try.underlying29 rfl Try.sizeOf27 hK rfl) fun a hK => ?_
            refine sp (k := 16) rfl hK (by decide) (wtt hb_555) rfl (fun w hS => r_load Try.isAgg27 hK rfl ((hS.ra hRA nil_not).cell (hc_564 1 _ rfl))) fun a hK => ?_
            refine sp (k := 17) rfl hK (by decide) (wtt hb_555) rfl (fun w hS => r_move hK rfl) fun a hK => ?_
            refine sp (k := 18) rfl hK (by decide) (wtt hb_555) rfl (fun w hS => r_move hK rfl) fun a hK => ?_
            obtain ⟨y_567, h_568, H⟩ := bind_some H
            obtain ⟨b_569, o_570, c_571, cs_572, hv_573, hr_574, hc_575, h_5680, h_5681⟩ := h1_0.ix h_568
            obtain ⟨v_576, rfl, hs_577⟩ := hr_574
            refine sp (k := 19) rfl hK (by decide) (wtt hb_555) rfl (fun w hS => r_indexAddr_R Try.underlying22 Try.sizeOf29 hv_573 h_5680 h_5681 hK rfl rfl) fun a hK => ?_
            refine sp (k := 20) rfl hK (by decide) (wtt hb_555) rfl (fun w hS => r_fieldAddr Try.underlying29 rfl Try.sizeOf27 hK rfl) fun a hK => ?_
            refine sp (k := 21) rfl hK (by decide) (wtt hb_555) rfl (fun w hS => r_load Try.isAgg27 hK rfl ((hS.ra hRA nil_not).cell (hc_575 1 _ rfl))) fun a hK => ?_
            refine thenL_nil ?_
            obtain ⟨y_578, h_579, H⟩ := bind_some H
            refine sl_callV Try.call13 hS hK (by decide) (wtt hb_555) rfl rfl (law07_vals.calls y_556.Vals y_567.Vals (lentOf_sub [] _) (hs_566.mono (hS.raLe0 hRA nil_not)) (hs_577.mono (hS.raLe0 hRA nil_not)) h_579) fun a w hS hK => ?_
            refine sl hK (by decide) rfl rfl (r_pick_t hb_555 hK rfl rfl) fun a hK => ?_
            refine sl hK (by decide) rfl rfl (r_assign hK rfl) fun a hK => ?_
            refine wpList_nil (NoP_nil ?_)
            exact ⟨y_578, H, hK.sub (all_cons rfl (all_cons rfl (all_cons rfl (all_cons rfl (all_nil))))), hS⟩
          · rw [ifb_f hb_555] at H
            refine sp_skip (k := 12) rfl hK (by decide) (wtf hb_555) rfl fun a hK => ?_
            refine sp_skip (k := 13) rfl hK (by decide) (wtf hb_555) rfl fun a hK => ?_
            refine sp_skip (k := 14) rfl hK (by decide) (wtf hb_555) rfl fun a hK => ?_
            refine sp_skip (k := 15) rfl hK (by decide) (wtf hb_555) rfl fun a hK => ?_
            refine sp_skip (k := 16) rfl hK (by decide) (wtf hb_555) rfl fun a hK => ?_
            refine sp_skip (k := 17) rfl hK (by decide) (wtf hb_555) rfl fun a hK => ?_
            refine sp_skip (k := 18) rfl hK (by decide) (wtf hb_555) rfl fun a hK => ?_
            refine sp_skip (k := 19) rfl hK (by decide) (wtf hb_555) rfl fun a hK => ?_
            refine sp_skip (k := 20) rfl hK (by decide) (wtf hb_555) rfl fun a hK => ?_
            refine sp_skip (k := 21) rfl hK (by decide) (wtf hb_555) rfl fun a hK => ?_
            refine thenL_nil ?_
            refine sl_skip hK (by decide) (wtf hb_555) rfl fun a hK => ?_
            refine sl hK (by decide) rfl rfl (r_pick_f hb_555 hK rfl rfl) fun a hK => ?_
            refine sl hK (by decide) rfl rfl (r_assign hK rfl) fun a hK => ?_
            refine wpList_nil (NoP_nil ?_)
            exact ⟨false, H, hK.sub (all_cons rfl (all_cons rfl (all_cons rfl (all_cons rfl (all_nil))))), hS⟩
        · rintro a w ⟨x_484, H, hK, hS⟩
          unfold law07_same.j1 at H
          refine wp_seq ?_
          refine wp_region_lit ?_
          refine sl hK (by decide) rfl rfl (r_move hK rfl) fun a hK => ?_
          refine sl hK (by decide) rfl rfl (r_un hK rfl (u_not _)) fun a hK => ?_
          refine wpList_nil ?_
          refine wp_cond_split (hK.ev rfl) (fun (hb_580 : (!x_484) = true) => ?_) (fun (hb_580 : (!x_484) = false) => ?_)
          · rw [ifb_t hb_580] at H
            refine wp_seq ?_
            refine wp_region_lit ?_
            refine sl hK (by decide) rfl rfl (r_assign hK rfl) fun a hK => ?_
            refine wpList_nil ?_
            obtain rfl := Option.some.inj H
            refine wp_ret ?_
            repeat (first | refine ret_then ?_ | refine ret_block ?_ | refine ret_scope ?_)
            exact ret_1 Try.results9 hK (rv_tmp hK rfl) ⟨rfl, hS.bel⟩
          · rw [ifb_f hb_580] at H
            refine wp_skip ?_
            refine wp_region_lit ?_
            refine sl hK (by decide) rfl rfl (r_move hK rfl) fun a hK => ?_
            refine sl hK (by decide) rfl rfl (r_ibin hK rfl rfl rfl) fun a hK => ?_
            refine sl hK (by decide) rfl rfl (r_assign hK rfl) fun a hK => ?_
            refine wpList_nil ?_
            exact ⟨_, Nat.lt_succ_self _, (IntKind.i64.wrap (x_195 + 1)), H, hK.sub (all_cons rfl (all_cons rfl (all_cons rfl (all_nil)))), hS⟩
      · rw [ifb_f hb_389] at H
        refine wp_exit ?_
        refine wp_seq ?_
        refine wp_region_lit ?_
        refine sl hK (by decide) rfl rfl (r_assign hK rfl) fun a hK => ?_
        refine wpList_nil ?_
        obtain rfl := Option.some.inj H
        refine wp_ret ?_
        repeat (first | refine ret_then ?_ | refine ret_block ?_ | refine ret_scope ?_)
        exact ret_1 Try.results9 hK (rv_tmp hK rfl) ⟨rfl, hS.bel⟩

/-! ### (*catchment/runs.Run).Len: function 11 -/
set_option maxHeartbeats 4000000 in
set_option maxRecDepth 100000 in
theorem runs_Run_Len.calls (a0 : runs_Run) {w0 : World} {RA : Hp} {b0 : Nat} {o0 : Nat} {v0_0 : Value} (hRA : RA.sub w0) (hc0 : ∀ j u, ([v0_0] : List Value)[j]? = some u → RA.cell b0 (o0 + j) = some u) (h0_0 : SlR ty_api_Sample RA v0_0 a0.l) {r : Int} (H : runs_Run_Len a0 = some r) : CallsV Try.prog 11 #[.pointer (some ⟨b0, o0, none⟩)] w0 (.int .i64 r) := by
  unfold runs_Run_Len at H
  refine enter (args := [.pointer (some ⟨b0, o0, none⟩)]) Try.func11 rfl Try.ntmps11 rfl fun a hK => ?_
  have hS := St.init (R := fun _ => none) (w := w0) (fun _ _ h => by cases h)
  have hRL := RLe.refl (M := []) w0 (fun _ => none)
  refine wp_seq ?_
  refine wp_region_lit ?_
  refine sl hK (by decide) rfl rfl (r_assign hK rfl) fun a hK => ?_
  refine wpList_nil ?_
  refine wp_seq ?_
  refine wp_region_lit ?_
  refine sl hK (by decide) rfl rfl (r_move hK rfl) fun a hK => ?_
  refine sl hK (by decide) rfl rfl (r_nilCheck hK rfl) fun a hK => ?_
  refine sl hK (by decide) rfl rfl (r_fieldAddr Try.underlying50 rfl Try.sizeOf22 hK rfl) fun a hK => ?_
  refine sl hK (by decide) rfl rfl (r_load Try.isAgg22 hK rfl ((hS.ra hRA nil_not).cell (hc0 0 _ rfl))) fun a hK => ?_
  refine sl hK (by decide) rfl rfl (r_len_R Try.underlying22 h0_0 hK rfl) fun a hK => ?_
  refine sl hK (by decide) rfl rfl (r_assign hK rfl) fun a hK => ?_
  refine wpList_nil ?_
  obtain rfl := Option.some.inj H
  refine wp_ret ?_
  repeat (first | refine ret_then ?_ | refine ret_block ?_ | refine ret_scope ?_)
  exact ret_1 Try.results11 hK (rv_tmp hK rfl) ⟨rfl, hS.bel⟩

/-! ### catchment/catchmentlaw07.shown: function 6 -/
set_option maxHeartbeats 4000000 in
set_option maxRecDepth 100000 in
theorem law07_shown.calls {r : Bool} (H : law07_shown  = some r) (w0 : World) : CallsV Try.prog 6 #[] w0 (.bool r) := by
  unfold law07_shown at H
  refine enter (args := []) Try.func6 rfl Try.ntmps6 rfl fun a hK => ?_
  have hS := St.init (R := fun _ => none) (w := w0) (fun _ _ h => by cases h)
  have hRL := RLe.refl (M := []) w0 (fun _ => none)
  refine wp_seq ?_
  refine wp_region_lit ?_
  refine sl hK (by decide) rfl rfl (r_assign hK rfl) fun a hK => ?_
  refine wpList_nil ?_
  refine wp_seq ?_
  refine wp_region_lit ?_
  obtain ⟨y_1, h_2, H⟩ := bind_some H
  refine sl_call Try.call7 hK (by decide) rfl rfl rfl (runs_New.calls hS.sub h_2) fun a v_ w hv_ hK => ?_
  obtain ⟨R_3, b_5, v_7, cs_8, hv_, hr_, hl_4, hq_9⟩ := hv_
  have hv_ := hv_.symm
  subst hv_
  obtain ⟨hS, hl_4⟩ := hS.sp0.back hr_ hl_4
  have hS := hS.un2
  have hRL := hRL.trans hl_4
  refine sl hK (by decide) rfl rfl (r_assign hK rfl) fun a hK => ?_
  refine wpList_nil ?_
  refine wp_seq ?_
  refine wp_seq ?_
  refine wp_region_lit ?_
  refine sl hK (by decide) rfl rfl (r_move hK rfl) fun a hK => ?_
  refine sl hK (by decide) rfl rfl (r_peq Try.underlying24 hK rfl rfl) fun a hK => ?_
  refine wpList_nil ?_
  refine wp_cond_false (hK.ev rfl) ?_
  refine wp_skip ?_
  refine wp_seq ?_
  refine wp_region_lit ?_
  refine sl hK (by decide) rfl rfl (r_move hK rfl) fun a hK => ?_
  obtain ⟨y_10, h_11, H⟩ := bind_some H
  refine sl_callV Try.call18 hS hK (by decide) rfl rfl rfl (runs_Run_Span.calls y_1 (lentOf_sub [] _) (hS.lend_box0 (.head _)) (hS.lend_row0 (.tail _ (.head _)) hq_9 rfl rfl) h_11) fun a w hS hK => ?_
  refine sl hK (by decide) rfl rfl (r_move hK rfl) fun a hK => ?_
  refine sl hK (by decide) rfl rfl (r_extract hK rfl rfl) fun a hK => ?_
  refine sl hK (by decide) rfl rfl (r_extract hK rfl rfl) fun a hK => ?_
  refine sl hK (by decide) rfl rfl (r_extract hK rfl rfl) fun a hK => ?_
  refine sl hK (by decide) rfl rfl (r_assign hK rfl) fun a hK => ?_
  refine sl hK (by decide) rfl rfl (r_assign hK rfl) fun a hK => ?_
  refine sl hK (by decide) rfl rfl (r_assign hK rfl) fun a hK => ?_
  refine wpList_nil ?_
  refine wp_seq ?_
  refine wp_region_lit ?_
  refine sl hK (by decide) rfl rfl (r_move hK rfl) fun a hK => ?_
  obtain ⟨y_12, h_13, H⟩ := bind_some H
  refine sl_call Try.call19 hK (by decide) rfl rfl rfl (law07_word.calls (⟨#[97]⟩ : ByteArray) hS.sub h_13) fun a v_ w hv_ hK => ?_
  obtain ⟨R_14, v_17, cs_18, hv_, hr_, hl_15, hq_19⟩ := hv_
  have hv_ := hv_.symm
  subst hv_
  obtain ⟨hS, hl_15⟩ := hS.sp0.back hr_ hl_15
  have hS := hS.un1
  have hRL := hRL.trans hl_15
  obtain ⟨y_20, h_21, H⟩ := bind_some H
  have hS := hS.pk2
  have hS := hS.pk2
  have hS1 := hS.sp2
  refine sl_call Try.call8 hK (by decide) rfl rfl rfl (runs_Run_Add.calls y_1 5 y_12 (lentOf_sub _ _) lentOf_not hS1.lend (hq_9.mono hl_15.le) (hS1.lend_row (.head _) hq_19 rfl rfl) h_21) fun a v_ w hv_ hK => ?_
  obtain ⟨R_22, v_25, cs_26, hv_, hr_, hl_23, hq_27⟩ := hv_
  have hv_ := hv_.symm
  subst hv_
  obtain ⟨hS, hl_23⟩ := hS1.back hr_ hl_23
  have hS := hS.un2
  have hRL := hRL.trans hl_23
  refine sl hK (by decide) rfl rfl (r_assign hK rfl) fun a hK => ?_
  refine wpList_nil ?_
  refine wp_seq ?_
  refine wp_region_lit ?_
  refine sl hK (by decide) rfl rfl (r_move hK rfl) fun a hK => ?_
  obtain ⟨y_28, h_29, H⟩ := bind_some H
  refine sl_call Try.call19 hK (by decide) rfl rfl rfl (law07_word.calls (⟨#[98]⟩ : ByteArray) hS.sub h_29) fun a v_ w hv_ hK => ?_
  obtain ⟨R_30, v_33, cs_34, hv_, hr_, hl_31, hq_35⟩ := hv_
  have hv_ := hv_.symm
  subst hv_
  obtain ⟨hS, hl_31⟩ := hS.sp0.back hr_ hl_31
  have hS := hS.un1
  have hRL := hRL.trans hl_31
  obtain ⟨y_36, h_37, H⟩ := bind_some H
  have hS := hS.pk2
  have hS := hS.pk2
  have hS1 := hS.sp2
  refine sl_call Try.call8 hK (by decide) rfl rfl rfl (runs_Run_Add.calls y_20.2 3 y_28 (lentOf_sub _ _) lentOf_not hS1.lend (hq_27.mono hl_31.le) (hS1.lend_row (.head _) hq_35 rfl rfl) h_37) fun a v_ w hv_ hK => ?_
  obtain ⟨R_38, v_41, cs_42, hv_, hr_, hl_39, hq_43⟩ := hv_
  have hv_ := hv_.symm
  subst hv_
  obtain ⟨hS, hl_39⟩ := hS1.back hr_ hl_39
  have hS := hS.un2
  have hRL := hRL.trans hl_39
  refine sl hK (by decide) rfl rfl (r_assign hK rfl) fun a hK => ?_
  refine wpList_nil ?_
  refine wp_seq ?_
  refine wp_region_lit ?_
  refine sl hK (by decide) rfl rfl (r_move hK rfl) fun a hK => ?_
  obtain ⟨y_44, h_45, H⟩ := bind_some H
  refine sl_call Try.call19 hK (by decide) rfl rfl rfl (law07_word.calls (⟨#[99]⟩ : ByteArray) hS.sub h_45) fun a v_ w hv_ hK => ?_
  obtain ⟨R_46, v_49, cs_50, hv_, hr_, hl_47, hq_51⟩ := hv_
  have hv_ := hv_.symm
  subst hv_
  obtain ⟨hS, hl_47⟩ := hS.sp0.back hr_ hl_47
  have hS := hS.un1
  have hRL := hRL.trans hl_47
  obtain ⟨y_52, h_53, H⟩ := bind_some H
  have hS := hS.pk2
  have hS := hS.pk2
  have hS1 := hS.sp2
  refine sl_call Try.call8 hK (by decide) rfl rfl rfl (runs_Run_Add.calls y_36.2 5 y_44 (lentOf_sub _ _) lentOf_not hS1.lend (hq_43.mono hl_47.le) (hS1.lend_row (.head _) hq_51 rfl rfl) h_53) fun a v_ w hv_ hK => ?_
  obtain ⟨R_54, v_57, cs_58, hv_, hr_, hl_55, hq_59⟩ := hv_
  have hv_ := hv_.symm
  subst hv_
  obtain ⟨hS, hl_55⟩ := hS1.back hr_ hl_55
  have hS := hS.un2
  have hRL := hRL.trans hl_55
  refine sl hK (by decide) rfl rfl (r_assign hK rfl) fun a hK => ?_
  refine wpList_nil ?_
  refine wp_seq ?_
  refine wp_region_lit ?_
  refine sl hK (by decide) rfl rfl (r_move hK rfl) fun a hK => ?_
  obtain ⟨y_60, h_61, H⟩ := bind_some H
  refine sl_call Try.call12 hK (by decide) rfl rfl rfl (runs_Run_Get.calls y_52.2 5 (lentOf_sub [] _) hS.sub (hS.lend_box0 (.head _)) (hS.lend_row0 (.tail _ (.head _)) hq_59 rfl rfl) h_61) fun a v_ w hv_ hK => ?_
  obtain ⟨R_62, v_65, cs_66, hv_, hr_, hl_63, hq_67⟩ := hv_
  have hv_ := hv_.symm
  subst hv_
  obtain ⟨hS, hl_63⟩ := hS.sp0.back hr_ hl_63
  have hS := hS.un1
  have hRL := hRL.trans hl_63
  refine sl hK (by decide) rfl rfl (r_move hK rfl) fun a hK => ?_
  refine sl hK (by decide) rfl rfl (r_extract hK rfl rfl) fun a hK => ?_
  refine sl hK (by decide) rfl rfl (r_extract hK rfl rfl) fun a hK => ?_
  refine sl hK (by decide) rfl rfl (r_assign hK rfl) fun a hK => ?_
  refine sl hK (by decide) rfl rfl (r_assign hK rfl) fun a hK => ?_
  refine wpList_nil ?_
  refine wp_seq ?_
  refine wp_region_lit ?_
  refine sl hK (by decide) rfl rfl (r_move hK rfl) fun a hK => ?_
  obtain ⟨y_68, h_69, H⟩ := bind_some H
  refine sl_call Try.call10 hK (by decide) rfl rfl rfl (runs_Run_Range.calls y_52.2 3 5 (lentOf_sub [] _) hS.sub (hS.lend_box0 (.tail _ (.head _))) (hS.lend_row0 (.tail _ (.tail _ (.head _))) (hq_59.mono hl_63.le) rfl rfl) h_69) fun a v_ w hv_ hK => ?_
  obtain ⟨R_70, v_73, cs_74, hv_, hr_, hl_71, hq_75, hap_76⟩ := hv_
  have hv_ := hv_.symm
  subst hv_
  obtain ⟨hS, hl_71⟩ := hS.sp0.back hr_ hl_71
  have hS := hS.un1
  have hRL := hRL.trans hl_71
  obtain ⟨y_77, h_78, H⟩ := bind_some H
  refine sl_call Try.call19 hK (by decide) rfl rfl rfl (law07_word.calls (⟨#[98]⟩ : ByteArray) hS.sub h_78) fun a v_ w hv_ hK => ?_
  obtain ⟨R_79, v_82, cs_83, hv_, hr_, hl_80, hq_84⟩ := hv_
  have hv_ := hv_.symm
  subst hv_
  obtain ⟨hS, hl_80⟩ := hS.sp0.back hr_ hl_80
  have hS := hS.un1
  have hRL := hRL.trans hl_80
  have ho_85 := hS.row_one (.head _)
  refine sl hK (by decide) rfl rfl (r_buildC (ps := [(0, .int .i64 3), (1, v_82)]) (c := [.int .i64 3, v_82]) Try.underlying29 Try.zeroValue29 places29 hK rfl (pc_cons rfl (pc_cons (cells1 ho_85) pc_nil)) rfl rfl) fun a hK => ?_
  obtain ⟨y_86, h_87, H⟩ := bind_some H
  refine sl_call Try.call19 hK (by decide) rfl rfl rfl (law07_word.calls (⟨#[97]⟩ : ByteArray) hS.sub h_87) fun a v_ w hv_ hK => ?_
  obtain ⟨R_88, v_91, cs_92, hv_, hr_, hl_89, hq_93⟩ := hv_
  have hv_ := hv_.symm
  subst hv_
  obtain ⟨hS, hl_89⟩ := hS.sp0.back hr_ hl_89
  have hS := hS.un1
  have hRL := hRL.trans hl_89
  have ho_94 := hS.row_one (.head _)
  refine sl hK (by decide) rfl rfl (r_buildC (ps := [(0, .int .i64 5), (1, v_91)]) (c := [.int .i64 5, v_91]) Try.underlying29 Try.zeroValue29 places29 hK rfl (pc_cons rfl (pc_cons (cells1 ho_94) pc_nil)) rfl rfl) fun a hK => ?_
  refine sl_buildSliceF (zc := [.int .i64 0, .slice none 0 0]) (ps := [(0, .agg #[.int .i64 3, v_82]), (1, .agg #[.int .i64 5, v_91])]) (c := [.int .i64 3, v_82, .int .i64 5, v_91]) [[.int .i64 3, v_82], [.int .i64 5, v_91]] Try.underlying22 Try.sizeOf29 Try.zeroValue29 rfl (pc_cons rfl (pc_cons rfl pc_nil)) rfl rfl (Nat.le_of_ble_eq_true rfl) rfl (all_cons rfl (all_cons rfl (all_nil))) rfl hS hK (by decide) rfl fun a w b_95 hS hK => ?_
  have hS := hS.pk2
  obtain ⟨R_96, hS, hl_98, hs_97⟩ := hS.fz_row (hq_84.mono hl_89.le) rfl rfl
  have hRL := hRL.trans hl_98
  have hS := hS.pk1
  obtain ⟨R_99, hS, hl_101, hs_100⟩ := hS.fz_row (hq_93.mono hl_98.le) rfl rfl
  have hRL := hRL.trans hl_101
  obtain ⟨y_102, h_103, H⟩ := bind_some H
  refine sl_callV Try.call9 hS hK (by decide) rfl rfl rfl (law07_same.calls y_68 [(⟨3, y_77⟩ : api_Sample), (⟨5, y_86⟩ : api_Sample)] (lentOf_sub [] _) (hS.lend_row0 (.tail _ (.head _)) (hq_75.mono (hl_80.le.trans (hl_89.le.trans (hl_98.le.trans hl_101.le)))) rfl rfl) (hS.lend_lit0 (ty := ty_api_Sample) (xs := [(⟨3, y_77⟩ : api_Sample), (⟨5, y_86⟩ : api_Sample)]) (.head _) (Reps.cons (show Ty.rep ty_api_Sample _ [.int .i64 3, v_82] (⟨3, y_77⟩ : api_Sample) from ⟨_, rfl, (hs_97.mono hl_101.le)⟩) (Reps.cons (show Ty.rep ty_api_Sample _ [.int .i64 5, v_91] (⟨5, y_86⟩ : api_Sample) from ⟨_, rfl, hs_100⟩) (Reps.nil _ _))) rfl) h_103) fun a w hS hK => ?_
  refine sl hK (by decide) rfl rfl (r_assign hK rfl) fun a hK => ?_
  refine wpList_nil ?_
  refine wp_seq ?_
  refine wp_region_lit ?_
  refine sl hK (by decide) rfl rfl (r_move hK rfl) fun a hK => ?_
  obtain ⟨y_104, h_105, H⟩ := bind_some H
  refine sl_call Try.call10 hK (by decide) rfl rfl rfl (runs_Run_Range.calls y_52.2 4 9 (lentOf_sub [] _) hS.sub (hS.lend_box0 (.tail _ (.tail _ (.tail _ (.head _))))) (hS.lend_row0 (.tail _ (.tail _ (.tail _ (.tail _ (.head _))))) (hq_59.mono (hl_63.le.trans (hl_71.le.trans (hl_80.le.trans (hl_89.le.trans (hl_98.le.trans hl_101.le)))))) rfl rfl) h_105) fun a v_ w hv_ hK => ?_
  obtain ⟨R_106, v_109, cs_110, hv_, hr_, hl_107, hq_111, hap_112⟩ := hv_
  have hv_ := hv_.symm
  subst hv_
  obtain ⟨hS, hl_107⟩ := hS.sp0.back hr_ hl_107
  have hS := hS.un1
  have hRL := hRL.trans hl_107
  obtain ⟨y_113, h_114, H⟩ := bind_some H
  refine sl_call Try.call19 hK (by decide) rfl rfl rfl (law07_word.calls (⟨#[97]⟩ : ByteArray) hS.sub h_114) fun a v_ w hv_ hK => ?_
  obtain ⟨R_115, v_118, cs_119, hv_, hr_, hl_116, hq_120⟩ := hv_
  have hv_ := hv_.symm
  subst hv_
  obtain ⟨hS, hl_116⟩ := hS.sp0.back hr_ hl_116
  have hS := hS.un1
  have hRL := hRL.trans hl_116
  have ho_121 := hS.row_one (.head _)
  refine sl hK (by decide) rfl rfl (r_buildC (ps := [(0, .int .i64 5), (1, v_118)]) (c := [.int .i64 5, v_118]) Try.underlying29 Try.zeroValue29 places29 hK rfl (pc_cons rfl (pc_cons (cells1 ho_121) pc_nil)) rfl rfl) fun a hK => ?_
  refine sl_buildSliceF (zc := [.int .i64 0, .slice none 0 0]) (ps := [(0, .agg #[.int .i64 5, v_118])]) (c := [.int .i64 5, v_118]) [[.int .i64 5, v_118]] Try.underlying22 Try.sizeOf29 Try.zeroValue29 rfl (pc_cons rfl pc_nil) rfl rfl (Nat.le_of_ble_eq_true rfl) rfl (all_cons rfl (all_nil)) rfl hS hK (by decide) rfl fun a w b_122 hS hK => ?_
  have hS := hS.pk1
  obtain ⟨R_123, hS, hl_125, hs_124⟩ := hS.fz_row hq_120 rfl rfl
  have hRL := hRL.trans hl_125
  obtain ⟨y_126, h_127, H⟩ := bind_some H
  refine sl_callV Try.call9 hS hK (by decide) rfl rfl rfl (law07_same.calls y_104 [(⟨5, y_113⟩ : api_Sample)] (lentOf_sub [] _) (hS.lend_row0 (.tail _ (.head _)) (hq_111.mono (hl_116.le.trans hl_125.le)) rfl rfl) (hS.lend_lit0 (ty := ty_api_Sample) (xs := [(⟨5, y_113⟩ : api_Sample)]) (.head _) (Reps.cons (show Ty.rep ty_api_Sample _ [.int .i64 5, v_118] (⟨5, y_113⟩ : api_Sample) from ⟨_, rfl, hs_124⟩) (Reps.nil _ _)) rfl) h_127) fun a w hS hK => ?_
  refine sl hK (by decide) rfl rfl (r_assign hK rfl) fun a hK => ?_
  refine wpList_nil ?_
  refine wp_seq ?_
  refine wp_region_lit ?_
  refine sl hK (by decide) rfl rfl (r_move hK rfl) fun a hK => ?_
  obtain ⟨y_128, h_129, H⟩ := bind_some H
  refine sl_callV Try.call18 hS hK (by decide) rfl rfl rfl (runs_Run_Span.calls y_52.2 (lentOf_sub [] _) (hS.lend_box0 (.tail _ (.tail _ (.tail _ (.tail _ (.tail _ (.head _))))))) (hS.lend_row0 (.tail _ (.tail _ (.tail _ (.tail _ (.tail _ (.tail _ (.head _))))))) (hq_59.mono (hl_63.le.trans (hl_71.le.trans (hl_80.le.trans (hl_89.le.trans (hl_98.le.trans (hl_101.le.trans (hl_107.le.trans (hl_116.le.trans hl_125.le))))))))) rfl rfl) h_129) fun a w hS hK => ?_
  refine sl hK (by decide) rfl rfl (r_move hK rfl) fun a hK => ?_
  refine sl hK (by decide) rfl rfl (r_extract hK rfl rfl) fun a hK => ?_
  refine sl hK (by decide) rfl rfl (r_extract hK rfl rfl) fun a hK => ?_
  refine sl hK (by decide) rfl rfl (r_extract hK rfl rfl) fun a hK => ?_
  refine sl hK (by decide) rfl rfl (r_assign hK rfl) fun a hK => ?_
  refine sl hK (by decide) rfl rfl (r_assign hK rfl) fun a hK => ?_
  refine sl hK (by decide) rfl rfl (r_assign hK rfl) fun a hK => ?_
  refine wpList_nil ?_
  refine wp_seq ?_
  refine wp_region_lit ?_
  refine sl hK (by decide) rfl rfl (r_move hK rfl) fun a hK => ?_
  refine sl hK (by decide) rfl rfl (r_un hK rfl (u_not _)) fun a hK => ?_
  refine sl hK (by decide) rfl rfl (r_move hK rfl) fun a hK => ?_
  rcases or_b (!y_10.2.2) with hb_130 | hb_130
  · rw [ifb_t hb_130] at H
    refine sl hK (by decide) (wtt hb_130) rfl (r_move hK rfl) fun a hK => ?_
    refine sl hK (by decide) rfl rfl (r_pick_t hb_130 hK rfl rfl) fun a hK => ?_
    refine sl hK (by decide) rfl rfl (r_move hK rfl) fun a hK => ?_
    rcases or_b y_20.1 with hb_131 | hb_131
    · rw [ifb_t hb_131] at H
      refine sl hK (by decide) (wtt hb_131) rfl (r_move hK rfl) fun a hK => ?_
      refine sl hK (by decide) rfl rfl (r_pick_t hb_131 hK rfl rfl) fun a hK => ?_
      refine sl hK (by decide) rfl rfl (r_move hK rfl) fun a hK => ?_
      rcases or_b y_36.1 with hb_132 | hb_132
      · rw [ifb_t hb_132] at H
        refine sl hK (by decide) (wtt hb_132) rfl (r_move hK rfl) fun a hK => ?_
        refine sl hK (by decide) (wtt hb_132) rfl (r_un hK rfl (u_not _)) fun a hK => ?_
        refine sl hK (by decide) rfl rfl (r_pick_t hb_132 hK rfl rfl) fun a hK => ?_
        refine sl hK (by decide) rfl rfl (r_move hK rfl) fun a hK => ?_
        rcases or_b (!y_52.1) with hb_133 | hb_133
        · rw [ifb_t hb_133] at H
          refine sl hK (by decide) (wtt hb_133) rfl (r_move hK rfl) fun a hK => ?_
          refine sl hK (by decide) (wtt hb_133) rfl (r_len_O Try.underlying27 hS (.tail _ (.tail _ (.tail _ (.tail _ (.head _))))) hK rfl) fun a hK => ?_
          refine sl hK (by decide) (wtt hb_133) rfl (r_ibin hK rfl rfl rfl) fun a hK => ?_
          refine sl hK (by decide) rfl rfl (r_pick_t hb_133 hK rfl rfl) fun a hK => ?_
          refine sl hK (by decide) rfl rfl (r_move hK rfl) fun a hK => ?_
          rcases or_b ((y_60.1.length : Int) == 1) with hb_134 | hb_134
          · rw [ifb_t hb_134] at H
            refine sl hK (by decide) (wtt hb_134) rfl (r_move hK rfl) fun a hK => ?_
            obtain ⟨y_135, h_136, H⟩ := bind_some H
            obtain ⟨b_138, c_139, cs_140, hv_137, hr_141, hc_142, h_1360, h_1361⟩ := hS.row_ix (.tail _ (.tail _ (.tail _ (.tail _ (.head _))))) (hq_67.mono (hl_71.le.trans (hl_80.le.trans (hl_89.le.trans (hl_98.le.trans (hl_101.le.trans (hl_107.le.trans (hl_116.le.trans hl_125.le)))))))) rfl rfl h_136
            subst hr_141
            refine sl hK (by decide) (wtt hb_134) rfl (r_indexAddr_R Try.underlying27 Try.sizeOf44 hv_137 h_1360 h_1361 hK rfl rfl) fun a hK => ?_
            refine sl hK (by decide) (wtt hb_134) rfl (r_fieldAddr Try.underlying44 rfl Try.sizeOf9 hK rfl) fun a hK => ?_
            refine sl hK (by decide) (wtt hb_134) rfl (r_load Try.isAgg9 hK rfl (by have h_ := hS.row_cell (.tail _ (.tail _ (.tail _ (.tail _ (.head _))))) hv_137 (hc_142 2 _ rfl); simpa [Nat.add_assoc] using h_)) fun a hK => ?_
            refine sl hK (by decide) (wtt hb_134) rfl (r_sbin hK rfl rfl rfl) fun a hK => ?_
            refine sl hK (by decide) rfl rfl (r_pick_t hb_134 hK rfl rfl) fun a hK => ?_
            refine sl hK (by decide) rfl rfl (r_move hK rfl) fun a hK => ?_
            rcases or_b (y_135.S.toList == (⟨#[97]⟩ : ByteArray).toList) with hb_143 | hb_143
            · rw [ifb_t hb_143] at H
              refine sl hK (by decide) (wtt hb_143) rfl (r_move hK rfl) fun a hK => ?_
              refine sl hK (by decide) rfl rfl (r_pick_t hb_143 hK rfl rfl) fun a hK => ?_
              refine sl hK (by decide) rfl rfl (r_move hK rfl) fun a hK => ?_
              rcases or_b y_60.2 with hb_144 | hb_144
              · rw [ifb_t hb_144] at H
                refine sl hK (by decide) (wtt hb_144) rfl (r_move hK rfl) fun a hK => ?_
                obtain ⟨y_145, h_146, H⟩ := bind_some H
                refine sl_callV Try.call11 hS hK (by decide) (wtt hb_144) rfl rfl (runs_Run_Len.calls y_52.2 (lentOf_sub [] _) (hS.lend_box0 (.tail _ (.tail _ (.tail _ (.tail _ (.tail _ (.head _))))))) (hS.lend_row0 (.tail _ (.tail _ (.tail _ (.tail _ (.tail _ (.tail _ (.head _))))))) (hq_59.mono (hl_63.le.trans (hl_71.le.trans (hl_80.le.trans (hl_89.le.trans (hl_98.le.trans (hl_101.le.trans (hl_107.le.trans (hl_116.le.trans hl_125.le))))))))) rfl rfl) h_146) fun a w hS hK => ?_
                refine sl hK (by decide) (wtt hb_144) rfl (r_ibin hK rfl rfl rfl) fun a hK => ?_
                refine sl hK (by decide) rfl rfl (r_pick_t hb_144 hK rfl rfl) fun a hK => ?_
                refine sl hK (by decide) rfl rfl (r_move hK rfl) fun a hK => ?_
                rcases or_b (y_145 == 2) with hb_147 | hb_147
                · rw [ifb_t hb_147] at H
                  refine sl hK (by decide) (wtt hb_147) rfl (r_move hK rfl) fun a hK => ?_
                  refine sl hK (by decide) rfl rfl (r_pick_t hb_147 hK rfl rfl) fun a hK => ?_
                  refine sl hK (by decide) rfl rfl (r_move hK rfl) fun a hK => ?_
                  rcases or_b y_102 with hb_148 | hb_148
                  · rw [ifb_t hb_148] at H
                    refine sl hK (by decide) (wtt hb_148) rfl (r_move hK rfl) fun a hK => ?_
                    refine sl hK (by decide) rfl rfl (r_pick_t hb_148 hK rfl rfl) fun a hK => ?_
                    refine sl hK (by decide) rfl rfl (r_move hK rfl) fun a hK => ?_
                    rcases or_b y_126 with hb_149 | hb_149
                    · rw [ifb_t hb_149] at H
                      refine sl hK (by decide) (wtt hb_149) rfl (r_move hK rfl) fun a hK => ?_
                      obtain ⟨y_150, h_151, H⟩ := bind_some H
                      refine sl_call Try.call10 hK (by decide) (wtt hb_149) rfl rfl (runs_Run_Range.calls y_52.2 9 3 (lentOf_sub [] _) hS.sub (hS.lend_box0 (.tail _ (.tail _ (.tail _ (.tail _ (.tail _ (.head _))))))) (hS.lend_row0 (.tail _ (.tail _ (.tail _ (.tail _ (.tail _ (.tail _ (.head _))))))) (hq_59.mono (hl_63.le.trans (hl_71.le.trans (hl_80.le.trans (hl_89.le.trans (hl_98.le.trans (hl_101.le.trans (hl_107.le.trans (hl_116.le.trans hl_125.le))))))))) rfl rfl) h_151) fun a v_ w hv_ hK => ?_
                      obtain ⟨R_152, v_155, cs_156, hv_, hr_, hl_153, hq_157, hap_158⟩ := hv_
                      have hv_ := hv_.symm
                      subst hv_
                      obtain ⟨hS, hl_153⟩ := hS.sp0.back hr_ hl_153
                      have hS := hS.un1
                      have hRL := hRL.trans hl_153
                      refine sl hK (by decide) (wtt hb_149) rfl (r_len_O Try.underlying22 hS (.head _) hK rfl) fun a hK => ?_
                      refine sl hK (by decide) (wtt hb_149) rfl (r_ibin hK rfl rfl rfl) fun a hK => ?_
                      refine sl hK (by decide) rfl rfl (r_pick_t hb_149 hK rfl rfl) fun a hK => ?_
                      refine sl hK (by decide) rfl rfl (r_move hK rfl) fun a hK => ?_
                      rcases or_b ((y_150.length : Int) == 0) with hb_159 | hb_159
                      · rw [ifb_t hb_159] at H
                        refine sl hK (by decide) (wtt hb_159) rfl (r_move hK rfl) fun a hK => ?_
                        refine sl hK (by decide) (wtt hb_159) rfl (r_ibin hK rfl rfl rfl) fun a hK => ?_
                        refine sl hK (by decide) rfl rfl (r_pick_t hb_159 hK rfl rfl) fun a hK => ?_
                        refine sl hK (by decide) rfl rfl (r_move hK rfl) fun a hK => ?_
                        rcases or_b (y_128.1 == 3) with hb_160 | hb_160
                        · rw [ifb_t hb_160] at H
                          refine sl hK (by decide) (wtt hb_160) rfl (r_move hK rfl) fun a hK => ?_
                          refine sl hK (by decide) (wtt hb_160) rfl (r_ibin hK rfl rfl rfl) fun a hK => ?_
                          refine sl hK (by decide) rfl rfl (r_pick_t hb_160 hK rfl rfl) fun a hK => ?_
                          refine sl hK (by decide) rfl rfl (r_move hK rfl) fun a hK => ?_
                          rcases or_b (y_128.2.1 == 5) with hb_161 | hb_161
                          · rw [ifb_t hb_161] at H
                            refine sl hK (by decide) (wtt hb_161) rfl (r_move hK rfl) fun a hK => ?_
                            refine sl hK (by decide) rfl rfl (r_pick_t hb_161 hK rfl rfl) fun a hK => ?_
                            refine sl hK (by decide) rfl rfl (r_assign hK rfl) fun a hK => ?_
                            refine wpList_nil ?_
                            obtain rfl := Option.some.inj H
                            refine wp_ret ?_
                            repeat (first | refine ret_then ?_ | refine ret_block ?_ | refine ret_scope ?_)
                            exact ret_1 Try.results6 hK (rv_tmp hK rfl) ⟨rfl, hS.bel⟩
                          · rw [ifb_f hb_161] at H
                            refine sl_skip hK (by decide) (wtf hb_161) rfl fun a hK => ?_
                            refine sl hK (by decide) rfl rfl (r_pick_f hb_161 hK rfl rfl) fun a hK => ?_
                            refine sl hK (by decide) rfl rfl (r_assign hK rfl) fun a hK => ?_
                            refine wpList_nil ?_
                            obtain rfl := Option.some.inj H
                            refine wp_ret ?_
                            repeat (first | refine ret_then ?_ | refine ret_block ?_ | refine ret_scope ?_)
                            exact ret_1 Try.results6 hK (rv_tmp hK rfl) ⟨rfl, hS.bel⟩
                        · rw [ifb_f hb_160] at H
                          refine sl_skip hK (by decide) (wtf hb_160) rfl fun a hK => ?_
                          refine sl_skip hK (by decide) (wtf hb_160) rfl fun a hK => ?_
                          refine sl hK (by decide) rfl rfl (r_pick_f hb_160 hK rfl rfl) fun a hK => ?_
                          refine sl hK (by decide) rfl rfl (r_move hK rfl) fun a hK => ?_
                          refine sl_skip hK (by decide) rfl rfl fun a hK => ?_
                          refine sl hK (by decide) rfl rfl (r_pick hK rfl rfl rfl) fun a hK => ?_
                          refine sl hK (by decide) rfl rfl (r_assign hK rfl) fun a hK => ?_
                          refine wpList_nil ?_
                          obtain rfl := Option.some.inj H
                          refine wp_ret ?_
                          repeat (first | refine ret_then ?_ | refine ret_block ?_ | refine ret_scope ?_)
                          exact ret_1 Try.results6 hK (rv_tmp hK rfl) ⟨rfl, hS.bel⟩
                      · rw [ifb_f hb_159] at H
                        refine sl_skip hK (by decide) (wtf hb_159) rfl fun a hK => ?_
                        refine sl_skip hK (by decide) (wtf hb_159) rfl fun a hK => ?_
                        refine sl hK (by decide) rfl rfl (r_pick_f hb_159 hK rfl rfl) fun a hK => ?_
                        refine sl hK (by decide) rfl rfl (r_move hK rfl) fun a hK => ?_
                        refine sl_skip hK (by decide) rfl rfl fun a hK => ?_
                        refine sl_skip hK (by decide) rfl rfl fun a hK => ?_
                        refine sl hK (by decide) rfl rfl (r_pick hK rfl rfl rfl) fun a hK => ?_
                        refine sl hK (by decide) rfl rfl (r_move hK rfl) fun a hK => ?_
                        refine sl_skip hK (by decide) rfl rfl fun a hK => ?_
                        refine sl hK (by decide) rfl rfl (r_pick hK rfl rfl rfl) fun a hK => ?_
                        refine sl hK (by decide) rfl rfl (r_assign hK rfl) fun a hK => ?_
                        refine wpList_nil ?_
                        obtain rfl := Option.some.inj H
                        refine wp_ret ?_
                        repeat (first | refine ret_then ?_ | refine ret_block ?_ | refine ret_scope ?_)
                        exact ret_1 Try.results6 hK (rv_tmp hK rfl) ⟨rfl, hS.bel⟩
                    · rw [ifb_f hb_149] at H
                      refine sl_skip hK (by decide) (wtf hb_149) rfl fun a hK => ?_
                      refine sl_skip hK (by decide) (wtf hb_149) rfl fun a hK => ?_
                      refine sl_skip hK (by decide) (wtf hb_149) rfl fun a hK => ?_
                      refine sl_skip hK (by decide) (wtf hb_149) rfl fun a hK => ?_
                      refine sl hK (by decide) rfl rfl (r_pick_f hb_149 hK rfl rfl) fun a hK => ?_
                      refine sl hK (by decide) rfl rfl (r_move hK rfl) fun a hK => ?_
                      refine sl_skip hK (by decide) rfl rfl fun a hK => ?_
                      refine sl_skip hK (by decide) rfl rfl fun a hK => ?_
                      refine sl hK (by decide) rfl rfl (r_pick hK rfl rfl rfl) fun a hK => ?_
                      refine sl hK (by decide) rfl rfl (r_move hK rfl) fun a hK => ?_
                      refine sl_skip hK (by decide) rfl rfl fun a hK => ?_
                      refine sl_skip hK (by decide) rfl rfl fun a hK => ?_
                      refine sl hK (by decide) rfl rfl (r_pick hK rfl rfl rfl) fun a hK => ?_
                      refine sl hK (by decide) rfl rfl (r_move hK rfl) fun a hK => ?_
                      refine sl_skip hK (by decide) rfl rfl fun a hK => ?_
                      refine sl hK (by decide) rfl rfl (r_pick hK rfl rfl rfl) fun a hK => ?_
                      refine sl hK (by decide) rfl rfl (r_assign hK rfl) fun a hK => ?_
                      refine wpList_nil ?_
                      obtain rfl := Option.some.inj H
                      refine wp_ret ?_
                      repeat (first | refine ret_then ?_ | refine ret_block ?_ | refine ret_scope ?_)
                      exact ret_1 Try.results6 hK (rv_tmp hK rfl) ⟨rfl, hS.bel⟩
                  · rw [ifb_f hb_148] at H
                    refine sl_skip hK (by decide) (wtf hb_148) rfl fun a hK => ?_
                    refine sl hK (by decide) rfl rfl (r_pick_f hb_148 hK rfl rfl) fun a hK => ?_
                    refine sl hK (by decide) rfl rfl (r_move hK rfl) fun a hK => ?_
                    refine sl_skip hK (by decide) rfl rfl fun a hK => ?_
                    refine sl_skip hK (by decide) rfl rfl fun a hK => ?_
                    refine sl_skip hK (by decide) rfl rfl fun a hK => ?_
                    refine sl_skip hK (by decide) rfl rfl fun a hK => ?_
                    refine sl hK (by decide) rfl rfl (r_pick hK rfl rfl rfl) fun a hK => ?_
                    refine sl hK (by decide) rfl rfl (r_move hK rfl) fun a hK => ?_
                    refine sl_skip hK (by decide) rfl rfl fun a hK => ?_
                    refine sl_skip hK (by decide) rfl rfl fun a hK => ?_
                    refine sl hK (by decide) rfl rfl (r_pick hK rfl rfl rfl) fun a hK => ?_
                    refine sl hK (by decide) rfl rfl (r_move hK rfl) fun a hK => ?_
                    refine sl_skip hK (by decide) rfl rfl fun a hK => ?_
                    refine sl_skip hK (by decide) rfl rfl fun a hK => ?_
                    refine sl hK (by decide) rfl rfl (r_pick hK rfl rfl rfl) fun a hK => ?_
                    refine sl hK (by decide) rfl rfl (r_move hK rfl) fun a hK => ?_
                    refine sl_skip hK (by decide) rfl rfl fun a hK => ?_
                    refine sl hK (by decide) rfl rfl (r_pick hK rfl rfl rfl) fun a hK => ?_
                    refine sl hK (by decide) rfl rfl (r_assign hK rfl) fun a hK => ?_
                    refine wpList_nil ?_
                    obtain rfl := Option.some.inj H
                    refine wp_ret ?_
                    repeat (first | refine ret_then ?_ | refine ret_block ?_ | refine ret_scope ?_)
                    exact ret_1 Try.results6 hK (rv_tmp hK rfl) ⟨rfl, hS.bel⟩
                · rw [ifb_f hb_147] at H
                  refine sl_skip hK (by decide) (wtf hb_147) rfl fun a hK => ?_
                  refine sl hK (by decide) rfl rfl (r_pick_f hb_147 hK rfl rfl) fun a hK => ?_
                  refine sl hK (by decide) rfl rfl (r_move hK rfl) fun a hK => ?_
                  refine sl_skip hK (by decide) rfl rfl fun a hK => ?_
                  refine sl hK (by decide) rfl rfl (r_pick hK rfl rfl rfl) fun a hK => ?_
                  refine sl hK (by decide) rfl rfl (r_move hK rfl) fun a hK => ?_
                  refine sl_skip hK (by decide) rfl rfl fun a hK => ?_
                  refine sl_skip hK (by decide) rfl rfl fun a hK => ?_
                  refine sl_skip hK (by decide) rfl rfl fun a hK => ?_
                  refine sl_skip hK (by decide) rfl rfl fun a hK => ?_
                  refine sl hK (by decide) rfl rfl (r_pick hK rfl rfl rfl) fun a hK => ?_
                  refine sl hK (by decide) rfl rfl (r_move hK rfl) fun a hK => ?_
                  refine sl_skip hK (by decide) rfl rfl fun a hK => ?_
                  refine sl_skip hK (by decide) rfl rfl fun a hK => ?_
                  refine sl hK (by decide) rfl rfl (r_pick hK rfl rfl rfl) fun a hK => ?_
                  refine sl hK (by decide) rfl rfl (r_move hK rfl) fun a hK => ?_
                  refine sl_skip hK (by decide) rfl rfl fun a hK => ?_
                  refine sl_skip hK (by decide) rfl rfl fun a hK => ?_
                  refine sl hK (by decide) rfl rfl (r_pick hK rfl rfl rfl) fun a hK => ?_
                  refine sl hK (by decide) rfl rfl (r_move hK rfl) fun a hK => ?_
                  refine sl_skip hK (by decide) rfl rfl fun a hK => ?_
                  refine sl hK (by decide) rfl rfl (r_pick hK rfl rfl rfl) fun a hK => ?_
                  refine sl hK (by decide) rfl rfl (r_assign hK rfl) fun a hK => ?_
                  refine wpList_nil ?_
                  obtain rfl := Option.some.inj H
                  refine wp_ret ?_
                  repeat (first | refine ret_then ?_ | refine ret_block ?_ | refine ret_scope ?_)
                  exact ret_1 Try.results6 hK (rv_tmp hK rfl) ⟨rfl, hS.bel⟩
              · rw [ifb_f hb_144] at H
                refine sl_skip hK (by decide) (wtf hb_144) rfl fun a hK => ?_
                refine sl_skip hK (by decide) (wtf hb_144) rfl fun a hK => ?_
                refine sl_skip hK (by decide) (wtf hb_144) rfl fun a hK => ?_
                refine sl hK (by decide) rfl rfl (r_pick_f hb_144 hK rfl rfl) fun a hK => ?_
                refine sl hK (by decide) rfl rfl (r_move hK rfl) fun a hK => ?_
                refine sl_skip hK (by decide) rfl rfl fun a hK => ?_
                refine sl hK (by decide) rfl rfl (r_pick hK rfl rfl rfl) fun a hK => ?_
                refine sl hK (by decide) rfl rfl (r_move hK rfl) fun a hK => ?_
                refine sl_skip hK (by decide) rfl rfl fun a hK => ?_
                refine sl hK (by decide) rfl rfl (r_pick hK rfl rfl rfl) fun a hK => ?_
                refine sl hK (by decide) rfl rfl (r_move hK rfl) fun a hK => ?_
                refine sl_skip hK (by decide) rfl rfl fun a hK => ?_
                refine sl_skip hK (by decide) rfl rfl fun a hK => ?_
                refine sl_skip hK (by decide) rfl rfl fun a hK => ?_
                refine sl_skip hK (by decide) rfl rfl fun a hK => ?_
                refine sl hK (by decide) rfl rfl (r_pick hK rfl rfl rfl) fun a hK => ?_
                refine sl hK (by decide) rfl rfl (r_move hK rfl) fun a hK => ?_
                refine sl_skip hK (by decide) rfl rfl fun a hK => ?_
                refine sl_skip hK (by decide) rfl rfl fun a hK => ?_
                refine sl hK (by decide) rfl rfl (r_pick hK rfl rfl rfl) fun a hK => ?_
                refine sl hK (by decide) rfl rfl (r_move hK rfl) fun a hK => ?_
                refine sl_skip hK (by decide) rfl rfl fun a hK => ?_
                refine sl_skip hK (by decide) rfl rfl fun a hK => ?_
                refine sl hK (by decide) rfl rfl (r_pick hK rfl rfl rfl) fun a hK => ?_
                refine sl hK (by decide) rfl rfl (r_move hK rfl) fun a hK => ?_
                refine sl_skip hK (by decide) rfl rfl fun a hK => ?_
                refine sl hK (by decide) rfl rfl (r_pick hK rfl rfl rfl) fun a hK => ?_
                refine sl hK (by decide) rfl rfl (r_assign hK rfl) fun a hK => ?_
                refine wpList_nil ?_
                obtain rfl := Option.some.inj H
                refine wp_ret ?_
                repeat (first | refine ret_then ?_ | refine ret_block ?_ | refine ret_scope ?_)
                exact ret_1 Try.results6 hK (rv_tmp hK rfl) ⟨rfl, hS.bel⟩
            · rw [ifb_f hb_143] at H
              refine sl_skip hK (by decide) (wtf hb_143) rfl fun a hK => ?_
              refine sl hK (by decide) rfl rfl (r_pick_f hb_143 hK rfl rfl) fun a hK => ?_
              refine sl hK (by decide) rfl rfl (r_move hK rfl) fun a hK => ?_
              refine sl_skip hK (by decide) rfl rfl fun a hK => ?_
              refine sl_skip hK (by decide) rfl rfl fun a hK => ?_
              refine sl_skip hK (by decide) rfl rfl fun a hK => ?_
              refine sl hK (by decide) rfl rfl (r_pick hK rfl rfl rfl) fun a hK => ?_
              refine sl hK (by decide) rfl rfl (r_move hK rfl) fun a hK => ?_
              refine sl_skip hK (by decide) rfl rfl fun a hK => ?_
              refine sl hK (by decide) rfl rfl (r_pick hK rfl rfl rfl) fun a hK => ?_
              refine sl hK (by decide) rfl rfl (r_move hK rfl) fun a hK => ?_
              refine sl_skip hK (by decide) rfl rfl fun a hK => ?_
              refine sl hK (by decide) rfl rfl (r_pick hK rfl rfl rfl) fun a hK => ?_
              refine sl hK (by decide) rfl rfl (r_move hK rfl) fun a hK => ?_
              refine sl_skip hK (by decide) rfl rfl fun a hK => ?_
              refine sl_skip hK (by decide) rfl rfl fun a hK => ?_
              refine sl_skip hK (by decide) rfl rfl fun a hK => ?_
              refine sl_skip hK (by decide) rfl rfl fun a hK => ?_
              refine sl hK (by decide) rfl rfl (r_pick hK rfl rfl rfl) fun a hK => ?_
              refine sl hK (by decide) rfl rfl (r_move hK rfl) fun a hK => ?_
              refine sl_skip hK (by decide) rfl rfl fun a hK => ?_
              refine sl_skip hK (by decide) rfl rfl fun a hK => ?_
              refine sl hK (by decide) rfl rfl (r_pick hK rfl rfl rfl) fun a hK => ?_
              refine sl hK (by decide) rfl rfl (r_move hK rfl) fun a hK => ?_
              refine sl_skip hK (by decide) rfl rfl fun a hK => ?_
              refine sl_skip hK (by decide) rfl rfl fun a hK => ?_
              refine sl hK (by decide) rfl rfl (r_pick hK rfl rfl rfl) fun a hK => ?_
              refine sl hK (by decide) rfl rfl (r_move hK rfl) fun a hK => ?_
              refine sl_skip hK (by decide) rfl rfl fun a hK => ?_
              refine sl hK (by decide) rfl rfl (r_pick hK rfl rfl rfl) fun a hK => ?_
              refine sl hK (by decide) rfl rfl (r_assign hK rfl) fun a hK => ?_
              refine wpList_nil ?_
              obtain rfl := Option.some.inj H
              refine wp_ret ?_
              repeat (first | refine ret_then ?_ | refine ret_block ?_ | refine ret_scope ?_)
              exact ret_1 Try.results6 hK (rv_tmp hK rfl) ⟨rfl, hS.bel⟩
          · rw [ifb_f hb_134] at H
            refine sl_skip hK (by decide) (wtf hb_134) rfl fun a hK => ?_
            refine sl_skip hK (by decide) (wtf hb_134) rfl fun a hK => ?_
            refine sl_skip hK (by decide) (wtf hb_134) rfl fun a hK => ?_
            refine sl_skip hK (by decide) (wtf hb_134) rfl fun a hK => ?_
            refine sl_skip hK (by decide) (wtf hb_134) rfl fun a hK => ?_
            refine sl hK (by decide) rfl rfl (r_pick_f hb_134 hK rfl rfl) fun a hK => ?_
            refine sl hK (by decide) rfl rfl (r_move hK rfl) fun a hK => ?_
            refine sl_skip hK (by decide) rfl rfl fun a hK => ?_
            refine sl hK (by decide) rfl rfl (r_pick hK rfl rfl rfl) fun a hK => ?_
            refine sl hK (by decide) rfl rfl (r_move hK rfl) fun a hK => ?_
            refine sl_skip hK (by decide) rfl rfl fun a hK => ?_
            refine sl_skip hK (by decide) rfl rfl fun a hK => ?_
            refine sl_skip hK (by decide) rfl rfl fun a hK => ?_
            refine sl hK (by decide) rfl rfl (r_pick hK rfl rfl rfl) fun a hK => ?_
            refine sl hK (by decide) rfl rfl (r_move hK rfl) fun a hK => ?_
            refine sl_skip hK (by decide) rfl rfl fun a hK => ?_
            refine sl hK (by decide) rfl rfl (r_pick hK rfl rfl rfl) fun a hK => ?_
            refine sl hK (by decide) rfl rfl (r_move hK rfl) fun a hK => ?_
            refine sl_skip hK (by decide) rfl rfl fun a hK => ?_
            refine sl hK (by decide) rfl rfl (r_pick hK rfl rfl rfl) fun a hK => ?_
            refine sl hK (by decide) rfl rfl (r_move hK rfl) fun a hK => ?_
            refine sl_skip hK (by decide) rfl rfl fun a hK => ?_
            refine sl_skip hK (by decide) rfl rfl fun a hK => ?_
            refine sl_skip hK (by decide) rfl rfl fun a hK => ?_
            refine sl_skip hK (by decide) rfl rfl fun a hK => ?_
            refine sl hK (by decide) rfl rfl (r_pick hK rfl rfl rfl) fun a hK => ?_
            refine sl hK (by decide) rfl rfl (r_move hK rfl) fun a hK => ?_
            refine sl_skip hK (by decide) rfl rfl fun a hK => ?_
            refine sl_skip hK (by decide) rfl rfl fun a hK => ?_
            refine sl hK (by decide) rfl rfl (r_pick hK rfl rfl rfl) fun a hK => ?_
            refine sl hK (by decide) rfl rfl (r_move hK rfl) fun a hK => ?_
            refine sl_skip hK (by decide) rfl rfl fun a hK => ?_
            refine sl_skip hK (by decide) rfl rfl fun a hK => ?_
            refine sl hK (by decide) rfl rfl (r_pick hK rfl rfl rfl) fun a hK => ?_
            refine sl hK (by decide) rfl rfl (r_move hK rfl) fun a hK => ?_
            refine sl_skip hK (by decide) rfl rfl fun a hK => ?_
            refine sl hK (by decide) rfl rfl (r_pick hK rfl rfl rfl) fun a hK => ?_
            refine sl hK (by decide) rfl rfl (r_assign hK rfl) fun a hK => ?_
            refine wpList_nil ?_
            obtain rfl := Option.some.inj H
            refine wp_ret ?_
            repeat (first | refine ret_then ?_ | refine ret_block ?_ | refine ret_scope ?_)
            exact ret_1 Try.results6 hK (rv_tmp hK rfl) ⟨rfl, hS.bel⟩
        · rw [ifb_f hb_133] at H
          refine sl_skip hK (by decide) (wtf hb_133) rfl fun a hK => ?_
          refine sl_skip hK (by decide) (wtf hb_133) rfl fun a hK => ?_
          refine sl_skip hK (by decide) (wtf hb_133) rfl fun a hK => ?_
          refine sl hK (by decide) rfl rfl (r_pick_f hb_133 hK rfl rfl) fun a hK => ?_
          refine sl hK (by decide) rfl rfl (r_move hK rfl) fun a hK => ?_
          refine sl_skip hK (by decide) rfl rfl fun a hK => ?_
          refine sl_skip hK (by decide) rfl rfl fun a hK => ?_
          refine sl_skip hK (by decide) rfl rfl fun a hK => ?_
          refine sl_skip hK (by decide) rfl rfl fun a hK => ?_
          refine sl_skip hK (by decide) rfl rfl fun a hK => ?_
          refine sl hK (by decide) rfl rfl (r_pick hK rfl rfl rfl) fun a hK => ?_
          refine sl hK (by decide) rfl rfl (r_move hK rfl) fun a hK => ?_
          refine sl_skip hK (by decide) rfl rfl fun a hK => ?_
          refine sl hK (by decide) rfl rfl (r_pick hK rfl rfl rfl) fun a hK => ?_
          refine sl hK (by decide) rfl rfl (r_move hK rfl) fun a hK => ?_
          refine sl_skip hK (by decide) rfl rfl fun a hK => ?_
          refine sl_skip hK (by decide) rfl rfl fun a hK => ?_
          refine sl_skip hK (by decide) rfl rfl fun a hK => ?_
          refine sl hK (by decide) rfl rfl (r_pick hK rfl rfl rfl) fun a hK => ?_
          refine sl hK (by decide) rfl rfl (r_move hK rfl) fun a hK => ?_
          refine sl_skip hK (by decide) rfl rfl fun a hK => ?_
          refine sl hK (by decide) rfl rfl (r_pick hK rfl rfl rfl) fun a hK => ?_
          refine sl hK (by decide) rfl rfl (r_move hK rfl) fun a hK => ?_
          refine sl_skip hK (by decide) rfl rfl fun a hK => ?_
          refine sl hK (by decide) rfl rfl (r_pick hK rfl rfl rfl) fun a hK => ?_
          refine sl hK (by decide) rfl rfl (r_move hK rfl) fun a hK => ?_
          refine sl_skip hK (by decide) rfl rfl fun a hK => ?_
          refine sl_skip hK (by decide) rfl rfl fun a hK => ?_
          refine sl_skip hK (by decide) rfl rfl fun a hK => ?_
          refine sl_skip hK (by decide) rfl rfl fun a hK => ?_
          refine sl hK (by decide) rfl rfl (r_pick hK rfl rfl rfl) fun a hK => ?_
          refine sl hK (by decide) rfl rfl (r_move hK rfl) fun a hK => ?_
          refine sl_skip hK (by decide) rfl rfl fun a hK => ?_
          refine sl_skip hK (by decide) rfl rfl fun a hK => ?_
          refine sl hK (by decide) rfl rfl (r_pick hK rfl rfl rfl) fun a hK => ?_
          refine sl hK (by decide) rfl rfl (r_move hK rfl) fun a hK => ?_
          refine sl_skip hK (by decide) rfl rfl fun a hK => ?_
          refine sl_skip hK (by decide) rfl rfl fun a hK => ?_
          refine sl hK (by decide) rfl rfl (r_pick hK rfl rfl rfl) fun a hK => ?_
          refine sl hK (by decide) rfl rfl (r_move hK rfl) fun a hK => ?_
          refine sl_skip hK (by decide) rfl rfl fun a hK => ?_
          refine sl hK (by decide) rfl rfl (r_pick hK rfl rfl rfl) fun a hK => ?_
          refine sl hK (by decide) rfl rfl (r_assign hK rfl) fun a hK => ?_
          refine wpList_nil ?_
          obtain rfl := Option.some.inj H
          refine wp_ret ?_
          repeat (first | refine ret_then ?_ | refine ret_block ?_ | refine ret_scope ?_)
          exact ret_1 Try.results6 hK (rv_tmp hK rfl) ⟨rfl, hS.bel⟩
      · rw [ifb_f hb_132] at H
        refine sl_skip hK (by decide) (wtf hb_132) rfl fun a hK => ?_
        refine sl_skip hK (by decide) (wtf hb_132) rfl fun a hK => ?_
        refine sl hK (by decide) rfl rfl (r_pick_f hb_132 hK rfl rfl) fun a hK => ?_
        refine sl hK (by decide) rfl rfl (r_move hK rfl) fun a hK => ?_
        refine sl_skip hK (by decide) rfl rfl fun a hK => ?_
        refine sl_skip hK (by decide) rfl rfl fun a hK => ?_
        refine sl_skip hK (by decide) rfl rfl fun a hK => ?_
        refine sl hK (by decide) rfl rfl (r_pick hK rfl rfl rfl) fun a hK => ?_
        refine sl hK (by decide) rfl rfl (r_move hK rfl) fun a hK => ?_
        refine sl_skip hK (by decide) rfl rfl fun a hK => ?_
        refine sl_skip hK (by decide) rfl rfl fun a hK => ?_
        refine sl_skip hK (by decide) rfl rfl fun a hK => ?_
        refine sl_skip hK (by decide) rfl rfl fun a hK => ?_
        refine sl_skip hK (by decide) rfl rfl fun a hK => ?_
        refine sl hK (by decide) rfl rfl (r_pick hK rfl rfl rfl) fun a hK => ?_
        refine sl hK (by decide) rfl rfl (r_move hK rfl) fun a hK => ?_
        refine sl_skip hK (by decide) rfl rfl fun a hK => ?_
        refine sl hK (by decide) rfl rfl (r_pick hK rfl rfl rfl) fun a hK => ?_
        refine sl hK (by decide) rfl rfl (r_move hK rfl) fun a hK => ?_
        refine sl_skip hK (by decide) rfl rfl fun a hK => ?_
        refine sl_skip hK (by decide) rfl rfl fun a hK => ?_
        refine sl_skip hK (by decide) rfl rfl fun a hK => ?_
        refine sl hK (by decide) rfl rfl (r_pick hK rfl rfl rfl) fun a hK => ?_
        refine sl hK (by decide) rfl rfl (r_move hK rfl) fun a hK => ?_
        refine sl_skip hK (by decide) rfl rfl fun a hK => ?_
        refine sl hK (by decide) rfl rfl (r_pick hK rfl rfl rfl) fun a hK => ?_
        refine sl hK (by decide) rfl rfl (r_move hK rfl) fun a hK => ?_
        refine sl_skip hK (by decide) rfl rfl fun a hK => ?_
        refine sl hK (by decide) rfl rfl (r_pick hK rfl rfl rfl) fun a hK => ?_
        refine sl hK (by decide) rfl rfl (r_move hK rfl) fun a hK => ?_
        refine sl_skip hK (by decide) rfl rfl fun a hK => ?_
        refine sl_skip hK (by decide) rfl rfl fun a hK => ?_
        refine sl_skip hK (by decide) rfl rfl fun a hK => ?_
        refine sl_skip hK (by decide) rfl rfl fun a hK => ?_
        refine sl hK (by decide) rfl rfl (r_pick hK rfl rfl rfl) fun a hK => ?_
        refine sl hK (by decide) rfl rfl (r_move hK rfl) fun a hK => ?_
        refine sl_skip hK (by decide) rfl rfl fun a hK => ?_
        refine sl_skip hK (by decide) rfl rfl fun a hK => ?_
        refine sl hK (by decide) rfl rfl (r_pick hK rfl rfl rfl) fun a hK => ?_
        refine sl hK (by decide) rfl rfl (r_move hK rfl) fun a hK => ?_
        refine sl_skip hK (by decide) rfl rfl fun a hK => ?_
        refine sl_skip hK (by decide) rfl rfl fun a hK => ?_
        refine sl hK (by decide) rfl rfl (r_pick hK rfl rfl rfl) fun a hK => ?_
        refine sl hK (by decide) rfl rfl (r_move hK rfl) fun a hK => ?_
        refine sl_skip hK (by decide) rfl rfl fun a hK => ?_
        refine sl hK (by decide) rfl rfl (r_pick hK rfl rfl rfl) fun a hK => ?_
        refine sl hK (by decide) rfl rfl (r_assign hK rfl) fun a hK => ?_
        refine wpList_nil ?_
        obtain rfl := Option.some.inj H
        refine wp_ret ?_
        repeat (first | refine ret_then ?_ | refine ret_block ?_ | refine ret_scope ?_)
        exact ret_1 Try.results6 hK (rv_tmp hK rfl) ⟨rfl, hS.bel⟩
    · rw [ifb_f hb_131] at H
      refine sl_skip hK (by decide) (wtf hb_131) rfl fun a hK => ?_
      refine sl hK (by decide) rfl rfl (r_pick_f hb_131 hK rfl rfl) fun a hK => ?_
      refine sl hK (by decide) rfl rfl (r_move hK rfl) fun a hK => ?_
      refine sl_skip hK (by decide) rfl rfl fun a hK => ?_
      refine sl_skip hK (by decide) rfl rfl fun a hK => ?_
      refine sl hK (by decide) rfl rfl (r_pick hK rfl rfl rfl) fun a hK => ?_
      refine sl hK (by decide) rfl rfl (r_move hK rfl) fun a hK => ?_
      refine sl_skip hK (by decide) rfl rfl fun a hK => ?_
      refine sl_skip hK (by decide) rfl rfl fun a hK => ?_
      refine sl_skip hK (by decide) rfl rfl fun a hK => ?_
      refine sl hK (by decide) rfl rfl (r_pick hK rfl rfl rfl) fun a hK => ?_
      refine sl hK (by decide) rfl rfl (r_move hK rfl) fun a hK => ?_
      refine sl_skip hK (by decide) rfl rfl fun a hK => ?_
      refine sl_skip hK (by decide) rfl rfl fun a hK => ?_
      refine sl_skip hK (by decide) rfl rfl fun a hK => ?_
      refine sl_skip hK (by decide) rfl rfl fun a hK => ?_
      refine sl_skip hK (by decide) rfl rfl fun a hK => ?_
      refine sl hK (by decide) rfl rfl (r_pick hK rfl rfl rfl) fun a hK => ?_
      refine sl hK (by decide) rfl rfl (r_move hK rfl) fun a hK => ?_
      refine sl_skip hK (by decide) rfl rfl fun a hK => ?_
      refine sl hK (by decide) rfl rfl (r_pick hK rfl rfl rfl) fun a hK => ?_
      refine sl hK (by decide) rfl rfl (r_move hK rfl) fun a hK => ?_
      refine sl_skip hK (by decide) rfl rfl fun a hK => ?_
      refine sl_skip hK (by decide) rfl rfl fun a hK => ?_
      refine sl_skip hK (by decide) rfl rfl fun a hK => ?_
      refine sl hK (by decide) rfl rfl (r_pick hK rfl rfl rfl) fun a hK => ?_
      refine sl hK (by decide) rfl rfl (r_move hK rfl) fun a hK => ?_
      refine sl_skip hK (by decide) rfl rfl fun a hK => ?_
      refine sl hK (by decide) rfl rfl (r_pick hK rfl rfl rfl) fun a hK => ?_
      refine sl hK (by decide) rfl rfl (r_move hK rfl) fun a hK => ?_
      refine sl_skip hK (by decide) rfl rfl fun a hK => ?_
      refine sl hK (by decide) rfl rfl (r_pick hK rfl rfl rfl) fun a hK => ?_
      refine sl hK (by decide) rfl rfl (r_move hK rfl) fun a hK => ?_
      refine sl_skip hK (by decide) rfl rfl fun a hK => ?_
      refine sl_skip hK (by decide) rfl rfl fun a hK => ?_
      refine sl_skip hK (by decide) rfl rfl fun a hK => ?_
      refine sl_skip hK (by decide) rfl rfl fun a hK => ?_
      refine sl hK (by decide) rfl rfl (r_pick hK rfl rfl rfl) fun a hK => ?_
      refine sl hK (by decide) rfl rfl (r_move hK rfl) fun a hK => ?_
      refine sl_skip hK (by decide) rfl rfl fun a hK => ?_
      refine sl_skip hK (by decide) rfl rfl fun a hK => ?_
      refine sl hK (by decide) rfl rfl (r_pick hK rfl rfl rfl) fun a hK => ?_
      refine sl hK (by decide) rfl rfl (r_move hK rfl) fun a hK => ?_
      refine sl_skip hK (by decide) rfl rfl fun a hK => ?_
      refine sl_skip hK (by decide) rfl rfl fun a hK => ?_
      refine sl hK (by decide) rfl rfl (r_pick hK rfl rfl rfl) fun a hK => ?_
      refine sl hK (by decide) rfl rfl (r_move hK rfl) fun a hK => ?_
      refine sl_skip hK (by decide) rfl rfl fun a hK => ?_
      refine sl hK (by decide) rfl rfl (r_pick hK rfl rfl rfl) fun a hK => ?_
      refine sl hK (by decide) rfl rfl (r_assign hK rfl) fun a hK => ?_
      refine wpList_nil ?_
      obtain rfl := Option.some.inj H
      refine wp_ret ?_
      repeat (first | refine ret_then ?_ | refine ret_block ?_ | refine ret_scope ?_)
      exact ret_1 Try.results6 hK (rv_tmp hK rfl) ⟨rfl, hS.bel⟩
  · rw [ifb_f hb_130] at H
    refine sl_skip hK (by decide) (wtf hb_130) rfl fun a hK => ?_
    refine sl hK (by decide) rfl rfl (r_pick_f hb_130 hK rfl rfl) fun a hK => ?_
    refine sl hK (by decide) rfl rfl (r_move hK rfl) fun a hK => ?_
    refine sl_skip hK (by decide) rfl rfl fun a hK => ?_
    refine sl hK (by decide) rfl rfl (r_pick hK rfl rfl rfl) fun a hK => ?_
    refine sl hK (by decide) rfl rfl (r_move hK rfl) fun a hK => ?_
    refine sl_skip hK (by decide) rfl rfl fun a hK => ?_
    refine sl_skip hK (by decide) rfl rfl fun a hK => ?_
    refine sl hK (by decide) rfl rfl (r_pick hK rfl rfl rfl) fun a hK => ?_
    refine sl hK (by decide) rfl rfl (r_move hK rfl) fun a hK => ?_
    refine sl_skip hK (by decide) rfl rfl fun a hK => ?_
    refine sl_skip hK (by decide) rfl rfl fun a hK => ?_
    refine sl_skip hK (by decide) rfl rfl fun a hK => ?_
    refine sl hK (by decide) rfl rfl (r_pick hK rfl rfl rfl) fun a hK => ?_
    refine sl hK (by decide) rfl rfl (r_move hK rfl) fun a hK => ?_
    refine sl_skip hK (by decide) rfl rfl fun a hK => ?_
    refine sl_skip hK (by decide) rfl rfl fun a hK => ?_
    refine sl_skip hK (by decide) rfl rfl fun a hK => ?_
    refine sl_skip hK (by decide) rfl rfl fun a hK => ?_
    refine sl_skip hK (by decide) rfl rfl fun a hK => ?_
    refine sl hK (by decide) rfl rfl (r_pick hK rfl rfl rfl) fun a hK => ?_
    refine sl hK (by decide) rfl rfl (r_move hK rfl) fun a hK => ?_
    refine sl_skip hK (by decide) rfl rfl fun a hK => ?_
    refine sl hK (by decide) rfl rfl (r_pick hK rfl rfl rfl) fun a hK => ?_
    refine sl hK (by decide) rfl rfl (r_move hK rfl) fun a hK => ?_
    refine sl_skip hK (by decide) rfl rfl fun a hK => ?_
    refine sl_skip hK (by decide) rfl rfl fun a hK => ?_
    refine sl_skip hK (by decide) rfl rfl fun a hK => ?_
    refine sl hK (by decide) rfl rfl (r_pick hK rfl rfl rfl) fun a hK => ?_
    refine sl hK (by decide) rfl rfl (r_move hK rfl) fun a hK => ?_
    refine sl_skip hK (by decide) rfl rfl fun a hK => ?_
    refine sl hK (by decide) rfl rfl (r_pick hK rfl rfl rfl) fun a hK => ?_
    refine sl hK (by decide) rfl rfl (r_move hK rfl) fun a hK => ?_
    refine sl_skip hK (by decide) rfl rfl fun a hK => ?_
    refine sl hK (by decide) rfl rfl (r_pick hK rfl rfl rfl) fun a hK => ?_
    refine sl hK (by decide) rfl rfl (r_move hK rfl) fun a hK => ?_
    refine sl_skip hK (by decide) rfl rfl fun a hK => ?_
    refine sl_skip hK (by decide) rfl rfl fun a hK => ?_
    refine sl_skip hK (by decide) rfl rfl fun a hK => ?_
    refine sl_skip hK (by decide) rfl rfl fun a hK => ?_
    refine sl hK (by decide) rfl rfl (r_pick hK rfl rfl rfl) fun a hK => ?_
    refine sl hK (by decide) rfl rfl (r_move hK rfl) fun a hK => ?_
    refine sl_skip hK (by decide) rfl rfl fun a hK => ?_
    refine sl_skip hK (by decide) rfl rfl fun a hK => ?_
    refine sl hK (by decide) rfl rfl (r_pick hK rfl rfl rfl) fun a hK => ?_
    refine sl hK (by decide) rfl rfl (r_move hK rfl) fun a hK => ?_
    refine sl_skip hK (by decide) rfl rfl fun a hK => ?_
    refine sl_skip hK (by decide) rfl rfl fun a hK => ?_
    refine sl hK (by decide) rfl rfl (r_pick hK rfl rfl rfl) fun a hK => ?_
    refine sl hK (by decide) rfl rfl (r_move hK rfl) fun a hK => ?_
    refine sl_skip hK (by decide) rfl rfl fun a hK => ?_
    refine sl hK (by decide) rfl rfl (r_pick hK rfl rfl rfl) fun a hK => ?_
    refine sl hK (by decide) rfl rfl (r_assign hK rfl) fun a hK => ?_
    refine wpList_nil ?_
    obtain rfl := Option.some.inj H
    refine wp_ret ?_
    repeat (first | refine ret_then ?_ | refine ret_block ?_ | refine ret_scope ?_)
    exact ret_1 Try.results6 hK (rv_tmp hK rfl) ⟨rfl, hS.bel⟩

end Go.Proofs.Ytafkcbacdfiniaa.M
