/- Each Go function of the laws answers as its plain Lean function tells, wherever that tells something. Printed by wip/eng/gen.py. -/
import Derived.Test.YtafkcbacdfiniaaPure
import Derived.Test.YtafkcbacdfiniaaProg
namespace Go.Proofs.Ytafkcbacdfiniaa.M
open Go Go.Eng Go.Proofs Go.RowKit
set_option linter.unusedVariables false
set_option linter.unusedSimpArgs false

theorem mixed : Try.prog.follows .mixedOrders = true := by kernel_rfl
theorem elT27 : ElT Try.prog 27 44 11 96 := ⟨Try.underlying27, ⟨Try.t44, _, Try.type44, rfl, rfl, rfl, rfl⟩, by decide⟩
theorem elT22 : ElT Try.prog 22 29 2 32 := ⟨Try.underlying22, ⟨Try.t29, _, Try.type29, rfl, rfl, rfl, rfl⟩, by decide⟩
theorem places50 (w : World) : (placesOf Try.prog 50).run Try.prog w = .ok #[(0, 1)] w := by
  unfold placesOf
  rw [Try.underlying50]
  simp [Try.sizeOf22]
theorem places44 (w : World) : (placesOf Try.prog 44).run Try.prog w = .ok #[(0, 1), (1, 1), (2, 1), (3, 8)] w := by
  unfold placesOf
  rw [Try.underlying44]
  simp [Try.sizeOf3, Try.sizeOf42, Try.sizeOf9]
theorem places29 (w : World) : (placesOf Try.prog 29).run Try.prog w = .ok #[(0, 1), (1, 1)] w := by
  unfold placesOf
  rw [Try.underlying29]
  simp [Try.sizeOf27, Try.sizeOf3]
theorem eqs44 (x y : api_Value) : EqS Try.prog 44 #[.int .i64 x.Kind, .int .i64 x.N, .string x.S, .int .i64 x.H.a0, .int .i64 x.H.a1, .int .i64 x.H.a2, .int .i64 x.H.a3, .int .i64 x.H.a4, .int .i64 x.H.a5, .int .i64 x.H.a6, .int .i64 x.H.a7] #[.int .i64 y.Kind, .int .i64 y.N, .string y.S, .int .i64 y.H.a0, .int .i64 y.H.a1, .int .i64 y.H.a2, .int .i64 y.H.a3, .int .i64 y.H.a4, .int .i64 y.H.a5, .int .i64 y.H.a6, .int .i64 y.H.a7] (decide (x = y)) := by
  refine eqS_of (by kernel_rfl) (by kernel_rfl) (fun w => by
    simp only [Program.fieldsOf, Try.underlying44]
    exact eqF_cons (by decide) (run_part1 Try.isAgg3 rfl) (run_part1 Try.isAgg3 rfl) (run_equalIn_int w _ _ _ _ _ _ Try.underlying3) (eqF_cons (by decide) (run_part1 Try.isAgg3 rfl) (run_part1 Try.isAgg3 rfl) (run_equalIn_int w _ _ _ _ _ _ Try.underlying3) (eqF_cons (by decide) (run_part1 Try.isAgg9 rfl) (run_part1 Try.isAgg9 rfl) (run_equalIn_string w _ _ _ _ Try.underlying9) (eqF_cons (by decide) (run_partA (ys := (x.H.list.map (Value.int .i64)).toArray) Try.isAgg42 Try.sizeOf42 rfl) (run_partA (ys := (y.H.list.map (Value.int .i64)).toArray) Try.isAgg42 Try.sizeOf42 rfl) (eq_arr' (q := 9998) Try.underlying42 (fun a b w => run_equalIn_int w 9997 _ _ _ a b Try.underlying3) Try.isAgg3 Try.sizeOf3 x.H.list y.H.list rfl rfl w) (eqF_nil))))) ?_
  simp only [beq_bytes, Arr8.list_inj, Arr2.list_inj, Bool.and_true]
  cases x; cases y; simp <;> rfl

/-! ### catchment/runs.New: function 7 -/
set_option maxRecDepth 100000 in
theorem runs_New.calls {w0 : World} {R : Hp} (hR : R.sub w0) {r : runs_Run} (H : runs_New  = some r) : Calls Try.prog 7 #[] w0 (Rets fun v w' => ∃ (R' : Hp) (B0 : Nat) (u1 : Value) (cu1 : List Value), v = .pointer (some ⟨B0, 0, none⟩) ∧ St [] w0 w' R' [.cells B0 [u1] 50, .row 29 2 u1 r.l.length cu1] ∧ RLe [] w0 R R' ∧ Reps ty_api_Sample R' cu1 r.l) := by
  unfold runs_New at H
  refine enter (args := []) Try.func7 rfl Try.ntmps7 rfl fun a hK => ?_
  have hS := St.init hR
  have hRL := RLe.refl (M := []) w0 R
  refine wp_seq ?_
  refine wp_region_lit ?_
  refine sl hK (by decide) rfl rfl (r_assign hK rfl) fun a hK => ?_
  refine wpList_nil ?_
  refine wp_seq ?_
  refine wp_region_lit ?_
  refine sl hK (by decide) rfl rfl (r_buildC (ps := []) (c := [.slice none 0 0]) Try.underlying50 Try.zeroValue50 places50 hK rfl pc_nil rfl rfl) fun a hK => ?_
  refine sl_box hS hK (by decide) rfl rfl (c := [.slice none 0 0]) rfl fun a w b_1 hS hK => ?_
  refine sl hK (by decide) rfl rfl (r_assign hK rfl) fun a hK => ?_
  refine wpList_nil ?_
  have hS := hS.row_nil 29 2
  have hq_3 : Reps ty_api_Sample R [] ([] : List api_Sample) := Reps.nil _ _
  obtain rfl := Option.some.inj H
  refine wp_ret ?_
  repeat (first | refine ret_then ?_ | refine ret_block ?_ | refine ret_scope ?_)
  exact ret_1 Try.results7 hK (rv_tmp hK rfl) ⟨_, rfl, _, _, _, _, rfl, hS.pk1, hRL, hq_3⟩

/-! ### (*catchment/runs.Run).Span: function 18 -/
set_option maxRecDepth 100000 in
theorem runs_Run_Span.calls (a0 : runs_Run) {w0 : World} {RA : Hp} {b0 : Nat} {o0 : Nat} {v0_0 : Value} (hRA : RA.sub w0) (hc0 : ∀ j u, ([v0_0] : List Value)[j]? = some u → RA.cell b0 (o0 + j) = some u) (h0_0 : SlR ty_api_Sample RA v0_0 a0.l) {r : Int × Int × Bool} (H : runs_Run_Span a0 = some r) : CallsV Try.prog 18 #[.pointer (some ⟨b0, o0, none⟩)] w0 (.tuple #[.int .i64 r.1, .int .i64 r.2.1, .bool r.2.2]) := by
  unfold runs_Run_Span at H
  refine enter (args := [.pointer (some ⟨b0, o0, none⟩)]) Try.func18 rfl Try.ntmps18 rfl fun a hK => ?_
  have hS := St.init (R := fun _ => none) (w := w0) (fun _ _ h => by cases h)
  have hRL := RLe.refl (M := []) w0 (fun _ => none)
  refine wp_seq ?_
  refine wp_region_lit ?_
  refine sl hK (by decide) rfl rfl (r_assign hK rfl) fun a hK => ?_
  refine sl hK (by decide) rfl rfl (r_assign hK rfl) fun a hK => ?_
  refine sl hK (by decide) rfl rfl (r_assign hK rfl) fun a hK => ?_
  refine wpList_nil ?_
  refine wp_seq ?_
  refine wp_seq ?_
  refine wp_region_lit ?_
  refine sl hK (by decide) rfl rfl (r_move hK rfl) fun a hK => ?_
  refine sl hK (by decide) rfl rfl (r_nilCheck hK rfl) fun a hK => ?_
  refine sl hK (by decide) rfl rfl (r_fieldAddr Try.underlying50 rfl Try.sizeOf22 hK rfl) fun a hK => ?_
  refine sl hK (by decide) rfl rfl (r_load Try.isAgg22 hK rfl ((hS.ra hRA nil_not).cell (hc0 0 _ rfl))) fun a hK => ?_
  refine sl hK (by decide) rfl rfl (r_len_R Try.underlying22 h0_0 hK rfl) fun a hK => ?_
  refine sl hK (by decide) rfl rfl (r_ibin hK rfl rfl rfl) fun a hK => ?_
  refine wpList_nil ?_
  refine wp_cond_split (hK.ev rfl) (fun (hb_1 : ((a0.l.length : Int) == 0) = true) => ?_) (fun (hb_1 : ((a0.l.length : Int) == 0) = false) => ?_)
  · rw [ifb_t hb_1] at H
    refine wp_seq ?_
    refine wp_region_lit ?_
    refine sl hK (by decide) rfl rfl (r_assign hK rfl) fun a hK => ?_
    refine sl hK (by decide) rfl rfl (r_assign hK rfl) fun a hK => ?_
    refine sl hK (by decide) rfl rfl (r_assign hK rfl) fun a hK => ?_
    refine wpList_nil ?_
    obtain rfl := Option.some.inj H
    refine wp_ret ?_
    repeat (first | refine ret_then ?_ | refine ret_block ?_ | refine ret_scope ?_)
    exact ret_3 Try.results18 hK (rv_tmp hK rfl) (rv_tmp hK rfl) (rv_tmp hK rfl) ⟨rfl, hS.below⟩
  · rw [ifb_f hb_1] at H
    refine wp_skip ?_
    refine wp_seq ?_
    refine par_region (C := fun w => St [] w0 w (fun _ => none) []) [(0, true), (1, true), (2, true), (3, true), (4, true), (5, true), (6, true), (7, true), (8, true), (9, true), (10, true), (11, true), (12, true), (13, true), (14, true), (15, true), (16, true), (17, true), (18, true), (19, true), (20, true), (21, true), (22, true)] mixed (by kernel_rfl) hS (fun w hS => hS) fun w hS => ?_
    refine sp (k := 0) rfl hK (by decide) rfl rfl (fun w hS => r_move hK rfl) fun a hK => ?_
    refine sp (k := 1) rfl hK (by decide) rfl rfl (fun w hS => r_nilCheck hK rfl) fun a hK => ?_
    refine sp (k := 2) rfl hK (by decide) rfl rfl (fun w hS => r_fieldAddr Try.underlying50 rfl Try.sizeOf22 hK rfl) fun a hK => ?_
    refine sp (k := 3) rfl hK (by decide) rfl rfl (fun w hS => r_load Try.isAgg22 hK rfl ((hS.ra hRA nil_not).cell (hc0 0 _ rfl))) fun a hK => ?_
    obtain ⟨y_24, h_25, H⟩ := bind_some H
    obtain ⟨b_26, o_27, c_28, cs_29, hv_30, hr_31, hc_32, h_250, h_251⟩ := h0_0.ix h_25
    obtain ⟨v_33, rfl, hs_34⟩ := hr_31
    refine sp (k := 4) rfl hK (by decide) rfl rfl (fun w hS => r_indexAddr_R Try.underlying22 Try.sizeOf29 hv_30 h_250 h_251 hK rfl rfl) fun a hK => ?_
    refine sp (k := 5) rfl hK (by decide) rfl rfl (fun w hS => r_fieldAddr Try.underlying29 rfl Try.sizeOf3 hK rfl) fun a hK => ?_
    refine sp (k := 6) rfl hK (by decide) rfl rfl (fun w hS => r_load Try.isAgg3 hK rfl ((hS.ra hRA nil_not).cell (hc_32 0 _ rfl))) fun a hK => ?_
    refine sp (k := 7) rfl hK (by decide) rfl rfl (fun w hS => r_move hK rfl) fun a hK => ?_
    refine sp (k := 8) rfl hK (by decide) rfl rfl (fun w hS => r_nilCheck hK rfl) fun a hK => ?_
    refine sp (k := 9) rfl hK (by decide) rfl rfl (fun w hS => r_fieldAddr Try.underlying50 rfl Try.sizeOf22 hK rfl) fun a hK => ?_
    refine sp (k := 10) rfl hK (by decide) rfl rfl (fun w hS => r_load Try.isAgg22 hK rfl ((hS.ra hRA nil_not).cell (hc0 0 _ rfl))) fun a hK => ?_
    refine sp (k := 11) rfl hK (by decide) rfl rfl (fun w hS => r_move hK rfl) fun a hK => ?_
    refine sp (k := 12) rfl hK (by decide) rfl rfl (fun w hS => r_nilCheck hK rfl) fun a hK => ?_
    refine sp (k := 13) rfl hK (by decide) rfl rfl (fun w hS => r_fieldAddr Try.underlying50 rfl Try.sizeOf22 hK rfl) fun a hK => ?_
    refine sp (k := 14) rfl hK (by decide) rfl rfl (fun w hS => r_load Try.isAgg22 hK rfl ((hS.ra hRA nil_not).cell (hc0 0 _ rfl))) fun a hK => ?_
    refine sp (k := 15) rfl hK (by decide) rfl rfl (fun w hS => r_len_R Try.underlying22 h0_0 hK rfl) fun a hK => ?_
    refine sp (k := 16) rfl hK (by decide) rfl rfl (fun w hS => r_ibin hK rfl rfl rfl) fun a hK => ?_
    obtain ⟨y_35, h_36, H⟩ := bind_some H
    obtain ⟨b_37, o_38, c_39, cs_40, hv_41, hr_42, hc_43, h_360, h_361⟩ := h0_0.ix h_36
    obtain ⟨v_44, rfl, hs_45⟩ := hr_42
    refine sp (k := 17) rfl hK (by decide) rfl rfl (fun w hS => r_indexAddr_R Try.underlying22 Try.sizeOf29 hv_41 h_360 h_361 hK rfl rfl) fun a hK => ?_
    refine sp (k := 18) rfl hK (by decide) rfl rfl (fun w hS => r_fieldAddr Try.underlying29 rfl Try.sizeOf3 hK rfl) fun a hK => ?_
    refine sp (k := 19) rfl hK (by decide) rfl rfl (fun w hS => r_load Try.isAgg3 hK rfl ((hS.ra hRA nil_not).cell (hc_43 0 _ rfl))) fun a hK => ?_
    refine sp (k := 20) rfl hK (by decide) rfl rfl (fun w hS => r_assign hK rfl) fun a hK => ?_
    refine sp (k := 21) rfl hK (by decide) rfl rfl (fun w hS => r_assign hK rfl) fun a hK => ?_
    refine sp (k := 22) rfl hK (by decide) rfl rfl (fun w hS => r_assign hK rfl) fun a hK => ?_
    refine wpPar_nil (NoP_nil ?_)
    obtain rfl := Option.some.inj H
    refine wp_ret ?_
    repeat (first | refine ret_then ?_ | refine ret_block ?_ | refine ret_scope ?_)
    exact ret_3 Try.results18 hK (rv_tmp hK rfl) (rv_tmp hK rfl) (rv_tmp hK rfl) ⟨rfl, hS.below⟩

/-! ### catchment/catchmentlaw07.word: function 19 -/
set_option maxRecDepth 100000 in
theorem law07_word.calls (a0 : ByteArray) {w0 : World} {R : Hp} (hR : R.sub w0) {r : List api_Value} (H : law07_word a0 = some r) : Calls Try.prog 19 #[.string a0] w0 (Rets fun v w' => ∃ (R' : Hp) (u0 : Value) (cu0 : List Value), v = u0 ∧ St [] w0 w' R' [.row 44 11 u0 r.length cu0] ∧ RLe [] w0 R R' ∧ Reps ty_api_Value R' cu0 r) := by
  unfold law07_word at H
  refine enter (args := [.string a0]) Try.func19 rfl Try.ntmps19 rfl fun a hK => ?_
  have hS := St.init hR
  have hRL := RLe.refl (M := []) w0 R
  refine wp_seq ?_
  refine wp_region_lit ?_
  refine sl hK (by decide) rfl rfl (r_assign hK rfl) fun a hK => ?_
  refine wpList_nil ?_
  refine wp_seq ?_
  refine wp_region_lit ?_
  refine sl hK (by decide) rfl rfl (r_move hK rfl) fun a hK => ?_
  refine sl hK (by decide) rfl rfl (r_buildC (ps := [(0, .int .i64 2), (2, .string a0)]) (c := [.int .i64 2, .int .i64 0, .string a0, .int .i64 0, .int .i64 0, .int .i64 0, .int .i64 0, .int .i64 0, .int .i64 0, .int .i64 0, .int .i64 0]) Try.underlying44 Try.zeroValue44 places44 hK rfl (pc_cons rfl (pc_cons rfl pc_nil)) rfl rfl) fun a hK => ?_
  refine sl_buildSliceC (ps := [(0, .agg #[.int .i64 2, .int .i64 0, .string a0, .int .i64 0, .int .i64 0, .int .i64 0, .int .i64 0, .int .i64 0, .int .i64 0, .int .i64 0, .int .i64 0])]) (c := [.int .i64 2, .int .i64 0, .string a0, .int .i64 0, .int .i64 0, .int .i64 0, .int .i64 0, .int .i64 0, .int .i64 0, .int .i64 0, .int .i64 0]) Try.underlying27 Try.sizeOf44 Try.zeroValue44 rfl (pc_cons rfl pc_nil) rfl rfl (by decide) rfl hS hK (by decide) rfl fun a w b_1 hS hK => ?_
  refine sl hK (by decide) rfl rfl (r_assign hK rfl) fun a hK => ?_
  refine wpList_nil ?_
  have hS := hS.row_lit (size := 11) (m := 1) rfl (by decide)
  have hq_3 : Reps ty_api_Value R [.int .i64 2, .int .i64 0, .string a0, .int .i64 0, .int .i64 0, .int .i64 0, .int .i64 0, .int .i64 0, .int .i64 0, .int .i64 0, .int .i64 0] [(⟨2, 0, a0, (⟨0, 0, 0, 0, 0, 0, 0, 0⟩ : Arr8)⟩ : api_Value)] := (Reps.cons (show Ty.rep ty_api_Value _ [.int .i64 2, .int .i64 0, .string a0, .int .i64 0, .int .i64 0, .int .i64 0, .int .i64 0, .int .i64 0, .int .i64 0, .int .i64 0, .int .i64 0] (⟨2, 0, a0, (⟨0, 0, 0, 0, 0, 0, 0, 0⟩ : Arr8)⟩ : api_Value) from rfl) (Reps.nil _ _))
  obtain rfl := Option.some.inj H
  refine wp_ret ?_
  repeat (first | refine ret_then ?_ | refine ret_block ?_ | refine ret_scope ?_)
  exact ret_1 Try.results19 hK (rv_tmp hK rfl) ⟨_, rfl, _, _, _, rfl, hS, hRL, hq_3⟩

/-! ### cmp.isNaN[int]: function 29 -/
set_option maxRecDepth 100000 in
theorem cmp_isNaN_int.calls (a0 : Int) {r : Bool} (H : cmp_isNaN_int a0 = some r) (w0 : World) : CallsV Try.prog 29 #[.int .i64 a0] w0 (.bool r) := by
  unfold cmp_isNaN_int at H
  refine enter (args := [.int .i64 a0]) Try.func29 rfl Try.ntmps29 rfl fun a hK => ?_
  have hS := St.init (R := fun _ => none) (w := w0) (fun _ _ h => by cases h)
  have hRL := RLe.refl (M := []) w0 (fun _ => none)
  refine wp_seq ?_
  refine wp_region_lit ?_
  refine sl hK (by decide) rfl rfl (r_assign hK rfl) fun a hK => ?_
  refine wpList_nil ?_
  refine wp_seq ?_
  refine wp_region_lit ?_
  refine sl hK (by decide) rfl rfl (r_move hK rfl) fun a hK => ?_
  refine sl hK (by decide) rfl rfl (r_move hK rfl) fun a hK => ?_
  refine sl hK (by decide) rfl rfl (r_ibin hK rfl rfl rfl) fun a hK => ?_
  refine sl hK (by decide) rfl rfl (r_assign hK rfl) fun a hK => ?_
  refine wpList_nil ?_
  obtain rfl := Option.some.inj H
  refine wp_ret ?_
  repeat (first | refine ret_then ?_ | refine ret_block ?_ | refine ret_scope ?_)
  exact ret_1 Try.results29 hK (rv_tmp hK rfl) ⟨rfl, hS.below⟩

/-! ### cmp.Compare[int]: function 26 -/
set_option maxRecDepth 100000 in
theorem cmp_Compare_int.calls (a0 : Int) (a1 : Int) {r : Int} (H : cmp_Compare_int a0 a1 = some r) (w0 : World) : CallsV Try.prog 26 #[.int .i64 a0, .int .i64 a1] w0 (.int .i64 r) := by
  unfold cmp_Compare_int at H
  refine enter (args := [.int .i64 a0, .int .i64 a1]) Try.func26 rfl Try.ntmps26 rfl fun a hK => ?_
  have hS := St.init (R := fun _ => none) (w := w0) (fun _ _ h => by cases h)
  have hRL := RLe.refl (M := []) w0 (fun _ => none)
  refine wp_seq ?_
  refine wp_region_lit ?_
  refine sl hK (by decide) rfl rfl (r_assign hK rfl) fun a hK => ?_
  refine wpList_nil ?_
  refine wp_seq ?_
  refine wp_region_lit ?_
  refine sl hK (by decide) rfl rfl (r_move hK rfl) fun a hK => ?_
  obtain ⟨y_1, h_2, H⟩ := bind_some H
  refine sl_callV Try.call29 hS hK (by decide) rfl rfl rfl (cmp_isNaN_int.calls a0 h_2 _) fun a w hS hK => ?_
  refine sl hK (by decide) rfl rfl (r_assign hK rfl) fun a hK => ?_
  refine wpList_nil ?_
  refine wp_seq ?_
  refine wp_region_lit ?_
  refine sl hK (by decide) rfl rfl (r_move hK rfl) fun a hK => ?_
  obtain ⟨y_3, h_4, H⟩ := bind_some H
  refine sl_callV Try.call29 hS hK (by decide) rfl rfl rfl (cmp_isNaN_int.calls a1 h_4 _) fun a w hS hK => ?_
  refine sl hK (by decide) rfl rfl (r_assign hK rfl) fun a hK => ?_
  refine wpList_nil ?_
  refine wp_seq ?_
  refine wp_seq ?_
  refine wp_region_lit ?_
  refine sl hK (by decide) rfl rfl (r_move hK rfl) fun a hK => ?_
  refine wpList_nil ?_
  refine wp_cond_split (hK.ev rfl) (fun (hb_5 : y_1 = true) => ?_) (fun (hb_5 : y_1 = false) => ?_)
  · rw [ifb_t hb_5] at H
    refine wp_seq ?_
    refine wp_seq ?_
    refine wp_region_lit ?_
    refine sl hK (by decide) rfl rfl (r_move hK rfl) fun a hK => ?_
    refine wpList_nil ?_
    refine wp_cond_split (hK.ev rfl) (fun (hb_6 : y_3 = true) => ?_) (fun (hb_6 : y_3 = false) => ?_)
    · rw [ifb_t hb_6] at H
      refine wp_seq ?_
      refine wp_region_lit ?_
      refine sl hK (by decide) rfl rfl (r_assign hK rfl) fun a hK => ?_
      refine wpList_nil ?_
      obtain rfl := Option.some.inj H
      refine wp_ret ?_
      repeat (first | refine ret_then ?_ | refine ret_block ?_ | refine ret_scope ?_)
      exact ret_1 Try.results26 hK (rv_tmp hK rfl) ⟨rfl, hS.below⟩
    · rw [ifb_f hb_6] at H
      refine wp_skip ?_
      refine wp_seq ?_
      refine wp_region_lit ?_
      refine sl hK (by decide) rfl rfl (r_assign hK rfl) fun a hK => ?_
      refine wpList_nil ?_
      obtain rfl := Option.some.inj H
      refine wp_ret ?_
      repeat (first | refine ret_then ?_ | refine ret_block ?_ | refine ret_scope ?_)
      exact ret_1 Try.results26 hK (rv_tmp hK rfl) ⟨rfl, hS.below⟩
  · rw [ifb_f hb_5] at H
    refine wp_skip ?_
    refine wp_seq ?_
    refine wp_seq ?_
    refine wp_region_lit ?_
    refine sl hK (by decide) rfl rfl (r_move hK rfl) fun a hK => ?_
    refine wpList_nil ?_
    refine wp_cond_split (hK.ev rfl) (fun (hb_7 : y_3 = true) => ?_) (fun (hb_7 : y_3 = false) => ?_)
    · rw [ifb_t hb_7] at H
      refine wp_seq ?_
      refine wp_region_lit ?_
      refine sl hK (by decide) rfl rfl (r_assign hK rfl) fun a hK => ?_
      refine wpList_nil ?_
      obtain rfl := Option.some.inj H
      refine wp_ret ?_
      repeat (first | refine ret_then ?_ | refine ret_block ?_ | refine ret_scope ?_)
      exact ret_1 Try.results26 hK (rv_tmp hK rfl) ⟨rfl, hS.below⟩
    · rw [ifb_f hb_7] at H
      refine wp_skip ?_
      refine wp_seq ?_
      refine wp_seq ?_
      refine wp_region_lit ?_
      refine sl hK (by decide) rfl rfl (r_move hK rfl) fun a hK => ?_
      refine sl hK (by decide) rfl rfl (r_move hK rfl) fun a hK => ?_
      refine sl hK (by decide) rfl rfl (r_ibin hK rfl rfl rfl) fun a hK => ?_
      refine wpList_nil ?_
      refine wp_cond_split (hK.ev rfl) (fun (hb_8 : (decide (a0 < a1)) = true) => ?_) (fun (hb_8 : (decide (a0 < a1)) = false) => ?_)
      · rw [ifb_t hb_8] at H
        refine wp_seq ?_
        refine wp_region_lit ?_
        refine sl hK (by decide) rfl rfl (r_assign hK rfl) fun a hK => ?_
        refine wpList_nil ?_
        obtain rfl := Option.some.inj H
        refine wp_ret ?_
        repeat (first | refine ret_then ?_ | refine ret_block ?_ | refine ret_scope ?_)
        exact ret_1 Try.results26 hK (rv_tmp hK rfl) ⟨rfl, hS.below⟩
      · rw [ifb_f hb_8] at H
        refine wp_skip ?_
        refine wp_seq ?_
        refine wp_seq ?_
        refine wp_region_lit ?_
        refine sl hK (by decide) rfl rfl (r_move hK rfl) fun a hK => ?_
        refine sl hK (by decide) rfl rfl (r_move hK rfl) fun a hK => ?_
        refine sl hK (by decide) rfl rfl (r_ibin hK rfl rfl rfl) fun a hK => ?_
        refine wpList_nil ?_
        refine wp_cond_split (hK.ev rfl) (fun (hb_9 : (decide (a0 > a1)) = true) => ?_) (fun (hb_9 : (decide (a0 > a1)) = false) => ?_)
        · rw [ifb_t hb_9] at H
          refine wp_seq ?_
          refine wp_region_lit ?_
          refine sl hK (by decide) rfl rfl (r_assign hK rfl) fun a hK => ?_
          refine wpList_nil ?_
          obtain rfl := Option.some.inj H
          refine wp_ret ?_
          repeat (first | refine ret_then ?_ | refine ret_block ?_ | refine ret_scope ?_)
          exact ret_1 Try.results26 hK (rv_tmp hK rfl) ⟨rfl, hS.below⟩
        · rw [ifb_f hb_9] at H
          refine wp_skip ?_
          refine wp_seq ?_
          refine wp_region_lit ?_
          refine sl hK (by decide) rfl rfl (r_assign hK rfl) fun a hK => ?_
          refine wpList_nil ?_
          obtain rfl := Option.some.inj H
          refine wp_ret ?_
          repeat (first | refine ret_then ?_ | refine ret_block ?_ | refine ret_scope ?_)
          exact ret_1 Try.results26 hK (rv_tmp hK rfl) ⟨rfl, hS.below⟩

/-! ### (*catchment/runs.Run).place$1: function 25 -/
set_option maxRecDepth 100000 in
theorem runs_Run_place_1.calls (a0 : api_Sample) (a1 : Int) {w0 : World} {RA : Hp} {v0_0 : Value} (hRA : RA.sub w0) (h0_0 : SlR ty_api_Value RA v0_0 a0.Vals) {r : Int} (H : runs_Run_place_1 a0 a1 = some r) : CallsV Try.prog 25 #[.agg #[.int .i64 a0.Time, v0_0], .int .i64 a1] w0 (.int .i64 r) := by
  unfold runs_Run_place_1 at H
  refine enter (args := [.agg #[.int .i64 a0.Time, v0_0], .int .i64 a1]) Try.func25 rfl Try.ntmps25 rfl fun a hK => ?_
  have hS := St.init (R := fun _ => none) (w := w0) (fun _ _ h => by cases h)
  have hRL := RLe.refl (M := []) w0 (fun _ => none)
  refine wp_seq ?_
  refine wp_region_lit ?_
  refine sl_box hS hK (by decide) rfl rfl (c := [.int .i64 a0.Time, v0_0]) rfl fun a w b_1 hS hK => ?_
  refine sl hK (by decide) rfl rfl (r_assign hK rfl) fun a hK => ?_
  refine wpList_nil ?_
  refine wp_seq ?_
  refine wp_region_lit ?_
  refine sl hK (by decide) rfl rfl (r_fieldAddr Try.underlying29 rfl Try.sizeOf3 hK rfl) fun a hK => ?_
  refine sl hK (by decide) rfl rfl (r_load Try.isAgg3 hK rfl (hS.cell (.head _) rfl)) fun a hK => ?_
  refine sl hK (by decide) rfl rfl (r_move hK rfl) fun a hK => ?_
  obtain ⟨y_2, h_3, H⟩ := bind_some H
  refine sl_callV Try.call26 hS hK (by decide) rfl rfl rfl (cmp_Compare_int.calls a0.Time a1 h_3 _) fun a w hS hK => ?_
  refine sl hK (by decide) rfl rfl (r_assign hK rfl) fun a hK => ?_
  refine wpList_nil ?_
  obtain rfl := Option.some.inj H
  refine wp_ret ?_
  repeat (first | refine ret_then ?_ | refine ret_block ?_ | refine ret_scope ?_)
  exact ret_1 Try.results25 hK (rv_tmp hK rfl) ⟨rfl, hS.below⟩

/-! ### slices.BinarySearchFunc[[]catchment/api.Sample,catchment/api.Sample,int]: function 24 -/
set_option maxRecDepth 100000 in
theorem slices_BinarySearchFunc_api_Sample_api_Sample_int_f25.calls (a0 : List api_Sample) (a1 : Int) {w0 : World} {RA : Hp} {v0_0 : Value} (hRA : RA.sub w0) (h0_0 : SlR ty_api_Sample RA v0_0 a0) {r : Int × Bool} (H : slices_BinarySearchFunc_api_Sample_api_Sample_int_f25 a0 a1 = some r) : CallsV Try.prog 24 #[v0_0, .int .i64 a1, .func (.func 25) #[] #[]] w0 (.tuple #[.int .i64 r.1, .bool r.2]) := by
  unfold slices_BinarySearchFunc_api_Sample_api_Sample_int_f25 at H
  refine enter (args := [v0_0, .int .i64 a1, .func (.func 25) #[] #[]]) Try.func24 rfl Try.ntmps24 rfl fun a hK => ?_
  have hS := St.init (R := fun _ => none) (w := w0) (fun _ _ h => by cases h)
  have hRL := RLe.refl (M := []) w0 (fun _ => none)
  refine wp_seq ?_
  refine wp_region_lit ?_
  refine sl hK (by decide) rfl rfl (r_assign hK rfl) fun a hK => ?_
  refine sl hK (by decide) rfl rfl (r_assign hK rfl) fun a hK => ?_
  refine wpList_nil ?_
  refine wp_seq ?_
  refine wp_region_lit ?_
  refine sl hK (by decide) rfl rfl (r_move hK rfl) fun a hK => ?_
  refine sl hK (by decide) rfl rfl (r_len_R Try.underlying22 h0_0 hK rfl) fun a hK => ?_
  refine sl hK (by decide) rfl rfl (r_assign hK rfl) fun a hK => ?_
  refine wpList_nil ?_
  refine wp_seq ?_
  refine wp_region_lit ?_
  refine sl hK (by decide) rfl rfl (r_move hK rfl) fun a hK => ?_
  refine sl hK (by decide) rfl rfl (r_assign hK rfl) fun a hK => ?_
  refine sl hK (by decide) rfl rfl (r_assign hK rfl) fun a hK => ?_
  refine wpList_nil ?_
  refine wp_seq ?_
  refine wp_block ?_
  refine wp_loop_k (fun k_l0 a w => ∃ (x_21 : Int) (x_22 : Int), slices_BinarySearchFunc_api_Sample_api_Sample_int_f25.l0 a0 a1 k_l0 x_21 x_22 = some r ∧ Kn 49 a [(0, v0_0), (1, .int .i64 a1), (2, .func (.func 25) #[] #[]), (8, .int .i64 (a0.length : Int)), (9, .int .i64 x_21), (10, .int .i64 x_22)] ∧ St [] w0 w (fun _ => none) []) (((a0.length : Int) - 0).toNat + 1) ?_ ?_
  · exact ⟨0, (a0.length : Int), H, hK.sub (all_cons rfl (all_cons rfl (all_cons rfl (all_cons rfl (all_cons rfl (all_cons rfl (all_nil))))))), hS⟩
  · rintro k_l0 a w ⟨x_21, x_22, H, hK, hS⟩
    cases k_l0 with
    | zero => cases H
    | succ k_l0 =>
    rw [slices_BinarySearchFunc_api_Sample_api_Sample_int_f25.l0.eq_2] at H
    refine wp_seq ?_
    refine wp_seq ?_
    refine wp_region_lit ?_
    refine sl hK (by decide) rfl rfl (r_move hK rfl) fun a hK => ?_
    refine sl hK (by decide) rfl rfl (r_move hK rfl) fun a hK => ?_
    refine sl hK (by decide) rfl rfl (r_ibin hK rfl rfl rfl) fun a hK => ?_
    refine wpList_nil ?_
    refine wp_cond_split (hK.ev rfl) (fun (hb_43 : (decide (x_21 < x_22)) = true) => ?_) (fun (hb_43 : (decide (x_21 < x_22)) = false) => ?_)
    · rw [ifb_t hb_43] at H
      refine wp_skip ?_
      refine wp_block ?_
      refine wp_seq ?_
      refine wp_region_lit ?_
      refine sl hK (by decide) rfl rfl (r_move hK rfl) fun a hK => ?_
      refine sl hK (by decide) rfl rfl (r_move hK rfl) fun a hK => ?_
      refine sl hK (by decide) rfl rfl (r_ibin hK rfl rfl rfl) fun a hK => ?_
      refine sl hK (by decide) rfl rfl (r_conv Try.underlying3 Try.underlying60 hK rfl) fun a hK => ?_
      refine sl hK (by decide) rfl rfl (r_shr hK rfl rfl (by decide)) fun a hK => ?_
      refine sl hK (by decide) rfl rfl (r_conv Try.underlying60 Try.underlying3 hK rfl) fun a hK => ?_
      refine sl hK (by decide) rfl rfl (r_assign hK rfl) fun a hK => ?_
      refine wpList_nil ?_
      refine wp_seq ?_
      refine wp_region_lit ?_
      refine sl hK (by decide) rfl rfl (r_move hK rfl) fun a hK => ?_
      refine sl hK (by decide) rfl rfl (r_move hK rfl) fun a hK => ?_
      refine sl hK (by decide) rfl rfl (r_move hK rfl) fun a hK => ?_
      obtain ⟨y_44, h_45, H⟩ := bind_some H
      obtain ⟨b_46, o_47, c_48, cs_49, hv_50, hr_51, hc_52, h_450, h_451⟩ := h0_0.ix h_45
      obtain ⟨v_53, rfl, hs_54⟩ := hr_51
      refine sl hK (by decide) rfl rfl (r_indexAddr_R Try.underlying22 Try.sizeOf29 hv_50 h_450 h_451 hK rfl rfl) fun a hK => ?_
      refine sl hK (by decide) rfl rfl (r_loadA (cs := [.int .i64 y_44.Time, v_53]) Try.isAgg29 Try.sizeOf29 rfl hK rfl (fun j v hv => (hS.ra hRA nil_not).cell (hc_52 j v hv))) fun a hK => ?_
      refine sl hK (by decide) rfl rfl (r_move hK rfl) fun a hK => ?_
      obtain ⟨y_55, h_56, H⟩ := bind_some H
      refine sl_callV Try.call25 hS hK (by decide) rfl rfl rfl (runs_Run_place_1.calls y_44 a1 (lentOf_sub [] _) (hs_54.mono (hS.raLe0 hRA nil_not)) h_56) fun a w hS hK => ?_
      refine sl hK (by decide) rfl rfl (r_ibin hK rfl rfl rfl) fun a hK => ?_
      refine wpList_nil ?_
      refine wp_mid (fun a w => ∃ (x_58 : Int) (x_59 : Int), slices_BinarySearchFunc_api_Sample_api_Sample_int_f25.j1 (slices_BinarySearchFunc_api_Sample_api_Sample_int_f25.l0 a0 a1 k_l0) a0 x_58 x_59 = some r ∧ Kn 49 a [(0, v0_0), (1, .int .i64 a1), (2, .func (.func 25) #[] #[]), (8, .int .i64 (a0.length : Int)), (9, .int .i64 x_58), (10, .int .i64 x_59)] ∧ St [] w0 w (fun _ => none) []) ?_ ?_
      · refine wp_cond_split (hK.ev rfl) (fun (hb_61 : (decide (y_55 < 0)) = true) => ?_) (fun (hb_61 : (decide (y_55 < 0)) = false) => ?_)
        · rw [ifb_t hb_61] at H
          refine wp_region_lit ?_
          refine sl hK (by decide) rfl rfl (r_move hK rfl) fun a hK => ?_
          refine sl hK (by decide) rfl rfl (r_ibin hK rfl rfl rfl) fun a hK => ?_
          refine sl hK (by decide) rfl rfl (r_assign hK rfl) fun a hK => ?_
          refine wpList_nil ?_
          exact ⟨(IntKind.i64.wrap ((IntKind.i64.wrap ((IntKind.u64.wrap (IntKind.i64.wrap (x_21 + x_22))).fdiv (2 ^ (min (1 : Int).toNat 64)))) + 1)), x_22, H, hK.sub (all_cons rfl (all_cons rfl (all_cons rfl (all_cons rfl (all_cons rfl (all_cons rfl (all_nil))))))), hS⟩
        · rw [ifb_f hb_61] at H
          refine wp_region_lit ?_
          refine sl hK (by decide) rfl rfl (r_move hK rfl) fun a hK => ?_
          refine sl hK (by decide) rfl rfl (r_assign hK rfl) fun a hK => ?_
          refine wpList_nil ?_
          exact ⟨x_21, (IntKind.i64.wrap ((IntKind.u64.wrap (IntKind.i64.wrap (x_21 + x_22))).fdiv (2 ^ (min (1 : Int).toNat 64)))), H, hK.sub (all_cons rfl (all_cons rfl (all_cons rfl (all_cons rfl (all_cons rfl (all_cons rfl (all_nil))))))), hS⟩
      · rintro a w ⟨x_58, x_59, H, hK, hS⟩
        unfold slices_BinarySearchFunc_api_Sample_api_Sample_int_f25.j1 at H
        exact ⟨_, Nat.lt_succ_self _, x_58, x_59, H, hK.sub (all_cons rfl (all_cons rfl (all_cons rfl (all_cons rfl (all_cons rfl (all_cons rfl (all_nil))))))), hS⟩
    · rw [ifb_f hb_43] at H
      refine wp_exit ?_
      refine wp_seq ?_
      refine wp_region_lit ?_
      refine sl hK (by decide) rfl rfl (r_move hK rfl) fun a hK => ?_
      refine sl hK (by decide) rfl rfl (r_move hK rfl) fun a hK => ?_
      refine sl hK (by decide) rfl rfl (r_move hK rfl) fun a hK => ?_
      refine sl hK (by decide) rfl rfl (r_ibin hK rfl rfl rfl) fun a hK => ?_
      refine sl hK (by decide) rfl rfl (r_move hK rfl) fun a hK => ?_
      rcases or_b (decide (x_21 < (a0.length : Int))) with hb_62 | hb_62
      · rw [ifb_t hb_62] at H
        refine sl hK (by decide) (wtt hb_62) rfl (r_move hK rfl) fun a hK => ?_
        refine sl hK (by decide) (wtt hb_62) rfl (r_move hK rfl) fun a hK => ?_
        refine sl hK (by decide) (wtt hb_62) rfl (r_move hK rfl) fun a hK => ?_
        obtain ⟨y_63, h_64, H⟩ := bind_some H
        obtain ⟨b_65, o_66, c_67, cs_68, hv_69, hr_70, hc_71, h_640, h_641⟩ := h0_0.ix h_64
        obtain ⟨v_72, rfl, hs_73⟩ := hr_70
        refine sl hK (by decide) (wtt hb_62) rfl (r_indexAddr_R Try.underlying22 Try.sizeOf29 hv_69 h_640 h_641 hK rfl rfl) fun a hK => ?_
        refine sl hK (by decide) (wtt hb_62) rfl (r_loadA (cs := [.int .i64 y_63.Time, v_72]) Try.isAgg29 Try.sizeOf29 rfl hK rfl (fun j v hv => (hS.ra hRA nil_not).cell (hc_71 j v hv))) fun a hK => ?_
        refine sl hK (by decide) (wtt hb_62) rfl (r_move hK rfl) fun a hK => ?_
        obtain ⟨y_74, h_75, H⟩ := bind_some H
        refine sl_callV Try.call25 hS hK (by decide) (wtt hb_62) rfl rfl (runs_Run_place_1.calls y_63 a1 (lentOf_sub [] _) (hs_73.mono (hS.raLe0 hRA nil_not)) h_75) fun a w hS hK => ?_
        refine sl hK (by decide) (wtt hb_62) rfl (r_ibin hK rfl rfl rfl) fun a hK => ?_
        refine sl hK (by decide) rfl rfl (r_pick_t hb_62 hK rfl rfl) fun a hK => ?_
        refine sl hK (by decide) rfl rfl (r_assign hK rfl) fun a hK => ?_
        refine sl hK (by decide) rfl rfl (r_assign hK rfl) fun a hK => ?_
        refine wpList_nil ?_
        obtain rfl := Option.some.inj H
        refine wp_ret ?_
        repeat (first | refine ret_then ?_ | refine ret_block ?_ | refine ret_scope ?_)
        exact ret_2 Try.results24 hK (rv_tmp hK rfl) (rv_tmp hK rfl) ⟨rfl, hS.below⟩
      · rw [ifb_f hb_62] at H
        refine sl_skip hK (by decide) (wtf hb_62) rfl fun a hK => ?_
        refine sl_skip hK (by decide) (wtf hb_62) rfl fun a hK => ?_
        refine sl_skip hK (by decide) (wtf hb_62) rfl fun a hK => ?_
        refine sl_skip hK (by decide) (wtf hb_62) rfl fun a hK => ?_
        refine sl_skip hK (by decide) (wtf hb_62) rfl fun a hK => ?_
        refine sl_skip hK (by decide) (wtf hb_62) rfl fun a hK => ?_
        refine sl_skip hK (by decide) (wtf hb_62) rfl fun a hK => ?_
        refine sl_skip hK (by decide) (wtf hb_62) rfl fun a hK => ?_
        refine sl hK (by decide) rfl rfl (r_pick_f hb_62 hK rfl rfl) fun a hK => ?_
        refine sl hK (by decide) rfl rfl (r_assign hK rfl) fun a hK => ?_
        refine sl hK (by decide) rfl rfl (r_assign hK rfl) fun a hK => ?_
        refine wpList_nil ?_
        obtain rfl := Option.some.inj H
        refine wp_ret ?_
        repeat (first | refine ret_then ?_ | refine ret_block ?_ | refine ret_scope ?_)
        exact ret_2 Try.results24 hK (rv_tmp hK rfl) (rv_tmp hK rfl) ⟨rfl, hS.below⟩

/-! ### (*catchment/runs.Run).place: function 20 -/
set_option maxRecDepth 100000 in
theorem runs_Run_place.calls (a0 : runs_Run) (a1 : Int) {w0 : World} {RA : Hp} {b0 : Nat} {o0 : Nat} {v0_0 : Value} (hRA : RA.sub w0) (hc0 : ∀ j u, ([v0_0] : List Value)[j]? = some u → RA.cell b0 (o0 + j) = some u) (h0_0 : SlR ty_api_Sample RA v0_0 a0.l) {r : Int × Bool} (H : runs_Run_place a0 a1 = some r) : CallsV Try.prog 20 #[.pointer (some ⟨b0, o0, none⟩), .int .i64 a1] w0 (.tuple #[.int .i64 r.1, .bool r.2]) := by
  unfold runs_Run_place at H
  refine enter (args := [.pointer (some ⟨b0, o0, none⟩), .int .i64 a1]) Try.func20 rfl Try.ntmps20 rfl fun a hK => ?_
  have hS := St.init (R := fun _ => none) (w := w0) (fun _ _ h => by cases h)
  have hRL := RLe.refl (M := []) w0 (fun _ => none)
  refine wp_seq ?_
  refine wp_region_lit ?_
  refine sl hK (by decide) rfl rfl (r_assign hK rfl) fun a hK => ?_
  refine sl hK (by decide) rfl rfl (r_assign hK rfl) fun a hK => ?_
  refine wpList_nil ?_
  refine wp_seq ?_
  refine wp_region_lit ?_
  refine sl hK (by decide) rfl rfl (r_move hK rfl) fun a hK => ?_
  refine sl hK (by decide) rfl rfl (r_nilCheck hK rfl) fun a hK => ?_
  refine sl hK (by decide) rfl rfl (r_fieldAddr Try.underlying50 rfl Try.sizeOf22 hK rfl) fun a hK => ?_
  refine sl hK (by decide) rfl rfl (r_load Try.isAgg22 hK rfl ((hS.ra hRA nil_not).cell (hc0 0 _ rfl))) fun a hK => ?_
  refine sl hK (by decide) rfl rfl (r_move hK rfl) fun a hK => ?_
  obtain ⟨y_1, h_2, H⟩ := bind_some H
  refine sl_callV Try.call24 hS hK (by decide) rfl rfl rfl (slices_BinarySearchFunc_api_Sample_api_Sample_int_f25.calls a0.l a1 (lentOf_sub [] _) (h0_0.mono (hS.raLe0 hRA nil_not)) h_2) fun a w hS hK => ?_
  refine sl hK (by decide) rfl rfl (r_extract hK rfl rfl) fun a hK => ?_
  refine sl hK (by decide) rfl rfl (r_extract hK rfl rfl) fun a hK => ?_
  refine sl hK (by decide) rfl rfl (r_assign hK rfl) fun a hK => ?_
  refine sl hK (by decide) rfl rfl (r_assign hK rfl) fun a hK => ?_
  refine wpList_nil ?_
  obtain rfl := Option.some.inj H
  refine wp_ret ?_
  repeat (first | refine ret_then ?_ | refine ret_block ?_ | refine ret_scope ?_)
  exact ret_2 Try.results20 hK (rv_tmp hK rfl) (rv_tmp hK rfl) ⟨rfl, hS.below⟩

/-! ### slices.Clone[[]catchment/api.Value,catchment/api.Value]: function 22 -/
set_option maxRecDepth 100000 in
theorem slices_Clone_api_Value_api_Value.calls (a0 : List api_Value) {w0 : World} {R : Hp} {RA : Hp} {v0_0 : Value} (hRA : RA.sub w0) (hR : R.sub w0) (h0_0 : SlR ty_api_Value RA v0_0 a0) {r : List api_Value} (H : slices_Clone_api_Value_api_Value a0 = some r) : Calls Try.prog 22 #[v0_0] w0 (Rets fun v w' => ∃ (R' : Hp) (u0 : Value) (cu0 : List Value), v = u0 ∧ St [] w0 w' R' [.row 44 11 u0 r.length cu0] ∧ RLe [] w0 R R' ∧ Reps ty_api_Value R' cu0 r) := by
  unfold slices_Clone_api_Value_api_Value at H
  rcases SlR.nilcase h0_0 with ⟨hn, hx⟩ | ⟨ad_, m_, c_, hn⟩
  · subst hx
    have H : some ([] : List api_Value) = some r := by simpa [apd] using H
    refine enter (args := [v0_0]) Try.func22 rfl Try.ntmps22 rfl fun a hK => ?_
    have hS := St.init hR
    have hRL := RLe.refl (M := []) w0 R
    refine wp_seq ?_
    refine wp_region_lit ?_
    refine sl hK (by decide) rfl rfl (r_assign hK rfl) fun a hK => ?_
    refine wpList_nil ?_
    refine wp_seq ?_
    refine wp_seq ?_
    refine wp_region_lit ?_
    refine sl hK (by decide) rfl rfl (r_move hK rfl) fun a hK => ?_
    refine sl hK (by decide) rfl rfl (r_sleqN Try.underlying27 hn hK rfl rfl) fun a hK => ?_
    refine wpList_nil ?_
    refine wp_cond_true (hK.ev rfl) ?_
    refine wp_seq ?_
    refine wp_region_lit ?_
    refine sl hK (by decide) rfl rfl (r_assign hK rfl) fun a hK => ?_
    refine wpList_nil ?_
    have hS := hS.row_nil 44 11
    have hq_11 : Reps ty_api_Value R [] ([] : List api_Value) := Reps.nil _ _
    obtain rfl := Option.some.inj H
    refine wp_ret ?_
    repeat (first | refine ret_then ?_ | refine ret_block ?_ | refine ret_scope ?_)
    exact ret_1 Try.results22 hK (rv_tmp hK rfl) ⟨_, rfl, _, _, _, rfl, hS, hRL, hq_11⟩
  · refine enter (args := [v0_0]) Try.func22 rfl Try.ntmps22 rfl fun a hK => ?_
    have hS := St.init hR
    have hRL := RLe.refl (M := []) w0 R
    refine wp_seq ?_
    refine wp_region_lit ?_
    refine sl hK (by decide) rfl rfl (r_assign hK rfl) fun a hK => ?_
    refine wpList_nil ?_
    refine wp_seq ?_
    refine wp_seq ?_
    refine wp_region_lit ?_
    refine sl hK (by decide) rfl rfl (r_move hK rfl) fun a hK => ?_
    refine sl hK (by decide) rfl rfl (r_sleqS Try.underlying27 hn hK rfl rfl) fun a hK => ?_
    refine wpList_nil ?_
    refine wp_cond_false (hK.ev rfl) ?_
    refine wp_skip ?_
    refine wp_seq ?_
    refine wp_region_lit ?_
    refine sl_buildSliceC (ps := []) (c := []) Try.underlying27 Try.sizeOf44 Try.zeroValue44 rfl pc_nil rfl rfl (by decide) rfl hS hK (by decide) rfl fun a w b_1 hS hK => ?_
    refine sl hK (by decide) rfl rfl (r_move hK rfl) fun a hK => ?_
    obtain ⟨y_4, h_5, H⟩ := bind_some H
    have hS := hS.row_lit (size := 11) (m := 0) rfl (by decide)
    have hq_3 : Reps ty_api_Value R [] ([] : List api_Value) := (Reps.nil _ _)
    refine sl_append_A elT27 (by decide) rfl (fun _ _ _ _ h => h) (hS.ra hRA nil_not) hq_3 rfl h0_0 h_5 hS hK (by decide) rfl rfl rfl fun a w v_6 cs_7 hq_8 hS hK => ?_
    refine sl hK (by decide) rfl rfl (r_assign hK rfl) fun a hK => ?_
    refine wpList_nil ?_
    obtain rfl := Option.some.inj H
    refine wp_ret ?_
    repeat (first | refine ret_then ?_ | refine ret_block ?_ | refine ret_scope ?_)
    exact ret_1 Try.results22 hK (rv_tmp hK rfl) ⟨_, rfl, _, _, _, rfl, hS, hRL, hq_8⟩

/-! ### slices.Insert[[]catchment/api.Sample,catchment/api.Sample]: function 21 -/
set_option maxRecDepth 100000 in
theorem slices_Insert_api_Sample_api_Sample.calls (a0 : List api_Sample) (a1 : Int) (a2 : List api_Sample) {w0 : World} {R : Hp} {M : List Own} {v0 v2 : Value} {cs0 cs2 : List Value} (hS0 : St M w0 w0 R [.row 29 2 v0 a0.length cs0, .row 29 2 v2 a2.length cs2]) (h0 : Reps ty_api_Sample R cs0 a0) (h2 : Reps ty_api_Sample R cs2 a2) {r : List api_Sample} (H : ins 32 a0 a1 a2 = some r) :
    Calls Try.prog 21 #[v0, .int .i64 a1, v2] w0 (Rets fun v w' => ∃ (R' : Hp) (u0 : Value) (cu0 : List Value), v = u0 ∧ St M w0 w' R' [.row 29 2 u0 r.length cu0] ∧ RLe M w0 R R' ∧ Reps ty_api_Sample R' cu0 r) := by
  obtain ⟨k, rfl, hk, hb, rfl⟩ := ins_some H
  have hbig : a0.length + a2.length ≤ 140737488355328 := Nat.le_trans (Nat.le_mul_of_pos_right _ (by decide)) hb
  have hl0 := h0.length
  have hl2 := h2.length
  have hz : ty_api_Sample.n = 2 := rfl
  rw [hz] at hl0 hl2
  have hsp := h0.split k
  rw [hz] at hsp
  have hreps : Reps ty_api_Sample R (cs0.take (k * 2) ++ (cs2 ++ cs0.drop (k * 2))) (a0.take k ++ (a2 ++ a0.drop k)) := hsp.1.append (h2.append hsp.2)
  have hrl : (a0.take k ++ (a2 ++ a0.drop k)).length = a0.length + a2.length := by simp; omega
  rw [hrl]
  generalize hcr : cs0.take (k * 2) ++ (cs2 ++ cs0.drop (k * 2)) = cr at hreps
  generalize hr : a0.take k ++ (a2 ++ a0.drop k) = zs at hreps
  have hones2 := h2.one
  have hones0 := h0.one
  generalize hn : a0.length = n at *
  generalize hm : a2.length = m at *
  have hown0 : w0.ownsRow 0 29 2 v0 n cs0 := hS0.own (.row 29 2 v0 n cs0) (List.mem_cons_self ..)
  have hown2 : w0.ownsRow 0 29 2 v2 m cs2 := hS0.own (.row 29 2 v2 m cs2) (.tail _ (.head _))
  obtain ⟨ad0, c0, hv0, hnc0⟩ := ownsRow_cap hown0
  obtain ⟨ad2, c2, hv2, hnc2⟩ := ownsRow_cap hown2
  refine enter (args := [v0, .int .i64 (k : Int), v2]) Try.func21 rfl Try.ntmps21 rfl fun a hK => ?_
  have hS := hS0
  refine wp_seq ?_
  refine wp_region_lit ?_
  refine sl hK (by decide) rfl rfl (r_assign hK rfl) fun a hK => ?_
  refine wpList_nil ?_
  refine wp_seq ?_
  refine wp_region_lit ?_
  refine sl hK (by decide) rfl rfl (r_move hK rfl) fun a hK => ?_
  refine sl hK (by decide) rfl rfl (r_move hK rfl) fun a hK => ?_
  refine sl hK (by decide) rfl rfl (r_slice_H (l := k) (h := n) Try.underlying22 Try.sizeOf29 hk hnc0 hK (by rw [← hv0]; rfl) ⟨_, rfl⟩ rfl) fun a hK => ?_
  refine wpList_nil ?_
  refine wp_seq ?_
  refine wp_region_lit ?_
  refine sl hK (by decide) rfl rfl (r_move hK rfl) fun a hK => ?_
  refine sl hK (by decide) rfl rfl (r_len_sl Try.underlying22 hK (by rw [← hv2]; rfl)) fun a hK => ?_
  refine sl hK (by decide) rfl rfl (r_assign hK rfl) fun a hK => ?_
  refine wpList_nil ?_
  refine wp_seq ?_
  refine wp_seq ?_
  refine wp_region_lit ?_
  refine sl hK (by decide) rfl rfl (r_move hK rfl) fun a hK => ?_
  refine sl hK (by decide) rfl rfl (r_ibin hK rfl rfl rfl) fun a hK => ?_
  refine wpList_nil ?_
  by_cases hm0 : m = 0
  · refine wp_cond_true ((hK.ev rfl).trans (congrArg Value.bool (show ((m : Int) == 0) = true by simp [hm0]))) ?_
    refine wp_seq ?_
    refine wp_region_lit ?_
    refine sl hK (by decide) rfl rfl (r_move hK rfl) fun a hK => ?_
    refine sl hK (by decide) rfl rfl (r_assign hK rfl) fun a hK => ?_
    refine wpList_nil ?_
    refine wp_ret ?_
    repeat (first | refine ret_then ?_ | refine ret_block ?_)
    have e2 : cs2 = [] := List.eq_nil_of_length_eq_zero (by rw [hl2, hm0])
    have ecr : cr = cs0 := by rw [← hcr, e2]; simp
    refine ret_1 Try.results21 hK (rv_tmp hK rfl) ⟨_, rfl, R, v0, cs0, rfl, ?_, RLe.refl _ _, by rw [← ecr]; exact hreps⟩
    rw [hm0, Nat.add_zero]
    exact hS.trunc 1
  refine wp_cond_false ((hK.ev rfl).trans (congrArg Value.bool (show ((m : Int) == 0) = false by simp [hm0]))) ?_
  refine wp_skip ?_
  refine wp_seq ?_
  refine wp_region_lit ?_
  refine sl hK (by decide) rfl rfl (r_move hK rfl) fun a hK => ?_
  refine sl hK (by decide) rfl rfl (r_len_sl Try.underlying22 hK (by rw [← hv0]; rfl)) fun a hK => ?_
  refine sl hK (by decide) rfl rfl (r_assign hK rfl) fun a hK => ?_
  refine wpList_nil ?_
  refine wp_seq ?_
  refine wp_seq ?_
  refine wp_region_lit ?_
  refine sl hK (by decide) rfl rfl (r_move hK rfl) fun a hK => ?_
  refine sl hK (by decide) rfl rfl (r_move hK rfl) fun a hK => ?_
  refine sl hK (by decide) rfl rfl (r_ibin hK rfl rfl rfl) fun a hK => ?_
  refine wpList_nil ?_
  -- the second row, as a block
  rcases hS.pk1.row_raw with ⟨_, hq, _⟩ | ⟨b2, cap2, cur2, hv2', hnc2', hcm2, hcl2, hct2, hS⟩
  · exact absurd hq hm0
  have hsrc2 : ∀ {w : World} {O : List Own}, St M w0 w R O → Own.cells b2 cur2 29 ∈ O → ∀ j u, cs2[j]? = some u → w.cell? ⟨b2, 0 + j, none⟩ = some u := fun hS hmem j u hu => by
    rw [← hct2, List.getElem?_take] at hu
    split at hu
    · rw [Nat.zero_add]; exact hS.cell hmem hu
    · cases hu
  by_cases hkn : k = n
  · refine wp_cond_true ((hK.ev rfl).trans (congrArg Value.bool (show ((k : Int) == (n : Int)) = true by simp [hkn]))) ?_
    refine wp_seq ?_
    refine wp_region_lit ?_
    refine sl hK (by decide) rfl rfl (r_move hK rfl) fun a hK => ?_
    refine sl hK (by decide) rfl rfl (r_move hK rfl) fun a hK => ?_
    have hS := hS.pk1
    refine sl_append_C (k := m) (ds := cs2) elT22 (by decide) hl2 hones2 hb hv2' (fun _ => ⟨b2, 0, rfl, hsrc2 hS (.tail _ (.head _))⟩) hS hK (by decide) rfl rfl rfl fun a w v' hS hK => ?_
    refine sl hK (by decide) rfl rfl (r_assign hK rfl) fun a hK => ?_
    refine wpList_nil ?_
    refine wp_ret ?_
    repeat (first | refine ret_then ?_ | refine ret_block ?_)
    have ecr : cr = cs0 ++ cs2 := by
      rw [← hcr, hkn, List.take_of_length_le (by omega), List.drop_of_length_le (by omega)]; simp
    exact ret_1 Try.results21 hK (rv_tmp hK rfl) ⟨_, rfl, R, v', cs0 ++ cs2, rfl, hS.trunc 1, RLe.refl _ _, by rw [← ecr]; exact hreps⟩
  refine wp_cond_false ((hK.ev rfl).trans (congrArg Value.bool (show ((k : Int) == (n : Int)) = false by simp; omega))) ?_
  refine wp_skip ?_
  rcases hS.pk1.row_raw with ⟨_, hq, _⟩ | ⟨b, cap, cur, hv0', hnc0', hcm, hcl, hct, hS⟩
  · omega
  have hcur : cs0.length ≤ cur.length := by rw [← hct, List.length_take]; omega
  have hcell0 : ∀ j u, cs0[j]? = some u → cur[j]? = some u := fun j u hu => by
    rw [← hct, List.getElem?_take] at hu
    split at hu
    · exact hu
    · cases hu
  clear hv0 hv2 hnc0 hnc2
  have hw1 : IntKind.i64.wrap ((n : Int) + (m : Int)) = ((n + m : Nat) : Int) := by rw [w64 (by omega) (by omega)]; omega
  have hw2 : IntKind.i64.wrap ((k : Int) + (m : Int)) = ((k + m : Nat) : Int) := by rw [w64 (by omega) (by omega)]; omega
  have hw3 : IntKind.i64.wrap (((n + m : Nat) : Int) - (k : Int)) = ((n + m - k : Nat) : Int) := by rw [w64 (by omega) (by omega)]; omega
  refine wp_seq ?_
  refine wp_seq ?_
  refine wp_region_lit ?_
  refine sl hK (by decide) rfl rfl (r_move hK rfl) fun a hK => ?_
  refine sl hK (by decide) rfl rfl (r_move hK rfl) fun a hK => ?_
  refine sl hK (by decide) rfl rfl (r_ibin hK rfl rfl rfl) fun a hK => ?_
  refine sl hK (by decide) rfl rfl (r_move hK rfl) fun a hK => ?_
  refine sl hK (by decide) rfl rfl (r_cap Try.underlying22 hK (by rw [← hv0']; rfl)) fun a hK => ?_
  refine sl hK (by decide) rfl rfl (r_ibin hK rfl rfl rfl) fun a hK => ?_
  refine wpList_nil ?_
  rw [hw1] at hK
  by_cases hg : cap < n + m
  · refine wp_cond_true ((hK.ev rfl).trans (congrArg Value.bool (show decide (((n + m : Nat) : Int) > (cap : Int)) = true by simp; omega))) ?_
    have hev0 : v0 = .slice (some ⟨b, 0, none⟩) n cap := hv0'
    refine wp_seq ?_
    refine wp_region_lit ?_
    refine sl hK (by decide) rfl rfl (r_move hK rfl) fun a hK => ?_
    refine sl hK (by decide) rfl rfl (r_move hK rfl) fun a hK => ?_
    refine sl hK (by decide) rfl rfl (r_slice_Hv (b := b) (o := 0) (m := n) (c := cap) (l := 0) (h := k) (o' := 0) (m' := k) (c' := cap) Try.underlying22 Try.sizeOf29 (by omega) (by omega) (Or.inr rfl) rfl rfl rfl hK (by rw [← hev0]; rfl) rfl ⟨_, rfl⟩) fun a hK => ?_
    refine sl hK (by decide) rfl rfl (r_move hK rfl) fun a hK => ?_
    refine sl hK (by decide) rfl rfl (r_move hK rfl) fun a hK => ?_
    refine sl hK (by decide) rfl rfl (r_ibin (k := .i64) (v := .int .i64 ((n + m : Nat) : Int)) hK rfl rfl (by rw [← hw1]; rfl)) fun a hK => ?_
    refine sl hK (by decide) rfl rfl (r_move hK rfl) fun a hK => ?_
    refine sl hK (by decide) rfl rfl (r_ibin (k := .i64) (v := .int .i64 ((n + m - k : Nat) : Int)) hK rfl rfl (by rw [← hw3]; rfl)) fun a hK => ?_
    refine sl_append_zeros (i := k) (k := n + m - k) (olds := cs0.take (k * 2)) elT22 Try.underlying3 (by omega) (by omega) (by decide) (by rw [show k + (n + m - k) = n + m by omega]; exact hb) (by rw [List.length_take]; omega) (fun _ => ⟨b, 0, rfl, fun j u hu => by
      rw [List.getElem?_take] at hu
      split at hu
      · rw [Nat.zero_add]; exact hS.cell (.head _) (hcell0 j u hu)
      · cases hu⟩) (fun _ h => by cases h) hS hK (by decide) rfl rfl rfl fun a w bn capn rest' hgn hcmn hln hS hK => ?_
    have hbn : b ≠ bn := fun e => (List.pairwise_cons.1 hS.sep).1 (.cells b cur 29) (List.mem_cons_self ..) bn rfl (by rw [Own.blk, e])
    rw [show k + (n + m - k) = n + m by omega] at hgn hK
    have htl : (cs0.take (k * 2)).length = k * 2 := by rw [List.length_take]; omega
    refine sl hK (by decide) rfl rfl (r_assign hK rfl) fun a hK => ?_
    refine wpList_nil ?_
    refine wp_seq ?_
    refine wp_region_lit ?_
    refine sl hK (by decide) rfl rfl (r_move hK rfl) fun a hK => ?_
    refine sl hK (by decide) rfl rfl (r_move hK rfl) fun a hK => ?_
    refine sl hK (by decide) rfl rfl (r_slice_Hv (l := k) (h := n + m) (o' := k * 2) (m' := n + m - k) (c' := capn - k) Try.underlying22 Try.sizeOf29 (by omega) (by omega) (Or.inl (by omega)) (by omega) rfl rfl hK rfl ⟨_, rfl⟩ rfl) fun a hK => ?_
    refine sl hK (by decide) rfl rfl (r_move hK rfl) fun a hK => ?_
    refine sl_copy (k := m) (news := cs2) Try.underlying22 Try.sizeOf29 (by simp only [Nat.min_def]; split <;> omega) hl2 hones2 (by rw [hln]; omega) (fun _ => ⟨b2, 0, rfl, hsrc2 hS (.tail _ (.tail _ (.head _)))⟩) hS hK (by decide) rfl rfl rfl rfl hv2' fun a w hS hK => ?_
    refine wpList_nil ?_
    have e1 : (cs0.take (k * 2) ++ rest').take (k * 2) = cs0.take (k * 2) := by rw [List.take_append_of_le_length (by omega), List.take_take, Nat.min_self]
    rw [e1] at hS
    have hdl : ((cs0.take (k * 2) ++ rest').drop (k * 2 + cs2.length)).length = capn * 2 - (k * 2 + m * 2) := by rw [List.length_drop, hln, hl2]
    generalize hdr : (cs0.take (k * 2) ++ rest').drop (k * 2 + cs2.length) = dr at hS hdl
    refine wp_seq ?_
    refine par_region (C := fun _ => True) [(0, true), (1, true), (2, true), (3, true), (4, true), (5, true), (6, true), (7, true), (8, false)] mixed (by kernel_rfl) hS (fun _ _ => trivial) fun w hS => ?_
    refine sp (k := 0) rfl hK (by decide) rfl rfl (fun w _ => r_move hK rfl) fun a hK => ?_
    refine sp (k := 1) rfl hK (by decide) rfl rfl (fun w _ => r_move hK rfl) fun a hK => ?_
    refine sp (k := 2) rfl hK (by decide) rfl rfl (fun w _ => r_move hK rfl) fun a hK => ?_
    refine sp (k := 3) rfl hK (by decide) rfl rfl (fun w _ => r_ibin (k := .i64) (v := .int .i64 ((k + m : Nat) : Int)) hK rfl rfl (by rw [← hw2]; rfl)) fun a hK => ?_
    refine sp (k := 4) rfl hK (by decide) rfl rfl (fun w _ => r_slice_Hv (l := k + m) (h := n + m) (o' := (k + m) * 2) (m' := n - k) (c' := capn - (k + m)) Try.underlying22 Try.sizeOf29 (by omega) (by omega) (Or.inl (by omega)) (by omega) (by omega) rfl hK rfl ⟨_, rfl⟩ rfl) fun a hK => ?_
    refine sp (k := 5) rfl hK (by decide) rfl rfl (fun w _ => r_move hK rfl) fun a hK => ?_
    refine sp (k := 6) rfl hK (by decide) rfl rfl (fun w _ => r_move hK rfl) fun a hK => ?_
    refine sp (k := 7) rfl hK (by decide) rfl rfl (fun w _ => r_slice_Hv (b := b) (o := 0) (m := n) (c := cap) (l := k) (h := n) (o' := k * 2) (m' := n - k) (c' := cap - k) Try.underlying22 Try.sizeOf29 (by omega) (by omega) (Or.inl (by omega)) (by omega) rfl rfl hK (by rw [← hev0]; rfl) ⟨_, rfl⟩ rfl) fun a hK => ?_
    refine spw (k := 8) rfl rfl trivial ?_
    refine sl_copy (k := n - k) (news := cs0.drop (k * 2)) Try.underlying22 Try.sizeOf29 (by simp) (by rw [List.length_drop]; omega) (fun u hu => hones0 u (List.mem_of_mem_drop hu)) (by simp only [List.length_append, htl, hl2, hdl]; omega) (fun _ => ⟨b, k * 2, rfl, fun j u hu => by
      rw [List.getElem?_drop] at hu
      exact hS.cell (.tail _ (.head _)) (hcell0 _ u hu)⟩) hS hK (by decide) rfl rfl rfl rfl rfl fun a w hS hK => ?_
    refine parK_nil trivial ?_
    refine wpPar_nil (NoP_nil ?_)
    refine wp_seq ?_
    refine wp_region_lit ?_
    refine sl hK (by decide) rfl rfl (r_move hK rfl) fun a hK => ?_
    refine sl hK (by decide) rfl rfl (r_assign hK rfl) fun a hK => ?_
    refine wpList_nil ?_
    refine wp_ret ?_
    repeat (first | refine ret_then ?_ | refine ret_block ?_)
    have hlen1 : (cs0.take (k * 2) ++ cs2).length = (k + m) * 2 := by rw [List.length_append, htl, hl2]; omega
    have e3 : (cs0.take (k * 2) ++ cs2 ++ dr).take ((k + m) * 2) = cs0.take (k * 2) ++ cs2 := by rw [← hlen1, List.take_left]
    rw [e3] at hS
    have hS := hS.raw_row (z := 2) (m := n + m) hgn hcmn (by simp only [List.length_append, List.length_drop, htl, hl2, hdl]; omega)
    have hlen2 : (cs0.take (k * 2) ++ cs2 ++ cs0.drop (k * 2)).length = (n + m) * 2 := by simp only [List.length_append, List.length_drop, htl, hl2]; omega
    have e4 : (cs0.take (k * 2) ++ cs2 ++ cs0.drop (k * 2) ++ (cs0.take (k * 2) ++ cs2 ++ dr).drop ((k + m) * 2 + (cs0.drop (k * 2)).length)).take ((n + m) * 2) = cr := by
      rw [← hlen2, List.take_left, ← hcr, List.append_assoc]
    rw [e4] at hS
    exact ret_1 Try.results21 hK (rv_tmp hK rfl) ⟨_, rfl, R, _, cr, rfl, hS.trunc 1, RLe.refl _ _, hreps⟩
  · refine wp_cond_false ((hK.ev rfl).trans (congrArg Value.bool (show decide (((n + m : Nat) : Int) > (cap : Int)) = false by simp; omega))) ?_
    have hev0 : v0 = .slice (some ⟨b, 0, none⟩) n cap := hv0'
    refine wp_skip ?_
    refine wp_seq ?_
    refine wp_region_lit ?_
    refine sl hK (by decide) rfl rfl (r_move hK rfl) fun a hK => ?_
    refine sl hK (by decide) rfl rfl (r_move hK rfl) fun a hK => ?_
    refine sl hK (by decide) rfl rfl (r_move hK rfl) fun a hK => ?_
    refine sl hK (by decide) rfl rfl (r_ibin (k := .i64) (v := .int .i64 ((n + m : Nat) : Int)) hK rfl rfl (by rw [← hw1]; rfl)) fun a hK => ?_
    refine sl hK (by decide) rfl rfl (r_slice_Hv (b := b) (o := 0) (m := n) (c := cap) (l := 0) (h := n + m) (o' := 0) (m' := n + m) (c' := cap) Try.underlying22 Try.sizeOf29 (by omega) (by omega) (Or.inr rfl) rfl rfl rfl hK (by rw [← hev0]; rfl) rfl ⟨_, rfl⟩) fun a hK => ?_
    refine sl hK (by decide) rfl rfl (r_assign hK rfl) fun a hK => ?_
    refine wpList_nil ?_
    refine wp_seq ?_
    refine wp_seq ?_
    refine wp_region_lit ?_
    refine sl hK (by decide) rfl rfl (r_move hK rfl) fun a hK => ?_
    refine sl hK (by decide) rfl rfl (r_move hK rfl) fun a hK => ?_
    refine sl hK (by decide) rfl rfl (r_move hK rfl) fun a hK => ?_
    refine sl hK (by decide) rfl rfl (r_move hK rfl) fun a hK => ?_
    refine sl hK (by decide) rfl rfl (r_ibin (k := .i64) (v := .int .i64 ((k + m : Nat) : Int)) hK rfl rfl (by rw [← hw2]; rfl)) fun a hK => ?_
    refine sl hK (by decide) rfl rfl (r_slice_Hv (l := k + m) (h := n + m) (o' := (k + m) * 2) (m' := n - k) (c' := cap - (k + m)) Try.underlying22 Try.sizeOf29 (by omega) (by omega) (Or.inl (by omega)) (by omega) (by omega) rfl hK rfl ⟨_, rfl⟩ rfl) fun a hK => ?_
    refine sl hK (by decide) rfl rfl (r_overlaps (tS := 22) (tR := 4) Try.func27 (by kernel_rfl) (by kernel_rfl) (by kernel_rfl) (by kernel_rfl) Try.underlying22 Try.sizeOf29 hS (fun e => by rw [e] at hcl; simp at hcl; omega) hK rfl (by rw [← hv2']; rfl) rfl) fun a hK => ?_
    refine sl hK (by decide) rfl rfl (r_un hK rfl (u_not _)) fun a hK => ?_
    refine wpList_nil ?_
    refine wp_cond_true (hK.ev rfl) ?_
    refine wp_seq ?_
    refine par_region (C := fun _ => True) [(0, true), (1, true), (2, true), (3, true), (4, true), (5, true), (6, true), (7, true), (8, false)] mixed (by kernel_rfl) hS (fun _ _ => trivial) fun w hS => ?_
    refine sp (k := 0) rfl hK (by decide) rfl rfl (fun w _ => r_move hK rfl) fun a hK => ?_
    refine sp (k := 1) rfl hK (by decide) rfl rfl (fun w _ => r_move hK rfl) fun a hK => ?_
    refine sp (k := 2) rfl hK (by decide) rfl rfl (fun w _ => r_move hK rfl) fun a hK => ?_
    refine sp (k := 3) rfl hK (by decide) rfl rfl (fun w _ => r_ibin (k := .i64) (v := .int .i64 ((k + m : Nat) : Int)) hK rfl rfl (by rw [← hw2]; rfl)) fun a hK => ?_
    refine sp (k := 4) rfl hK (by decide) rfl rfl (fun w _ => r_slice_Hv (l := k + m) (h := n + m) (o' := (k + m) * 2) (m' := n - k) (c' := cap - (k + m)) Try.underlying22 Try.sizeOf29 (by omega) (by omega) (Or.inl (by omega)) (by omega) (by omega) rfl hK rfl ⟨_, rfl⟩ rfl) fun a hK => ?_
    refine sp (k := 5) rfl hK (by decide) rfl rfl (fun w _ => r_move hK rfl) fun a hK => ?_
    refine sp (k := 6) rfl hK (by decide) rfl rfl (fun w _ => r_move hK rfl) fun a hK => ?_
    refine sp (k := 7) rfl hK (by decide) rfl rfl (fun w _ => r_slice_Hv (l := k) (h := n + m) (o' := k * 2) (m' := n + m - k) (c' := cap - k) Try.underlying22 Try.sizeOf29 (by omega) (by omega) (Or.inl (by omega)) (by omega) rfl rfl hK rfl ⟨_, rfl⟩ rfl) fun a hK => ?_
    refine spw (k := 8) rfl rfl trivial ?_
    refine sl_copy (k := n - k) (news := cs0.drop (k * 2)) Try.underlying22 Try.sizeOf29 (by simp only [Nat.min_def]; split <;> omega) (by rw [List.length_drop]; omega) (fun u hu => hones0 u (List.mem_of_mem_drop hu)) (by rw [hcl]; omega) (fun _ => ⟨b, k * 2, rfl, fun j u hu => by
      rw [List.getElem?_drop] at hu
      exact hS.cell (.head _) (hcell0 _ u hu)⟩) hS hK (by decide) rfl rfl rfl rfl rfl fun a w hS hK => ?_
    refine parK_nil trivial ?_
    refine wpPar_nil (NoP_nil ?_)
    refine wp_seq ?_
    refine wp_region_lit ?_
    refine sl hK (by decide) rfl rfl (r_move hK rfl) fun a hK => ?_
    refine sl hK (by decide) rfl rfl (r_move hK rfl) fun a hK => ?_
    refine sl hK (by decide) rfl rfl (r_slice_Hv (l := k) (h := n + m) (o' := k * 2) (m' := n + m - k) (c' := cap - k) Try.underlying22 Try.sizeOf29 (by omega) (by omega) (Or.inl (by omega)) (by omega) rfl rfl hK rfl ⟨_, rfl⟩ rfl) fun a hK => ?_
    refine sl hK (by decide) rfl rfl (r_move hK rfl) fun a hK => ?_
    have hcl1 : (cur.take ((k + m) * 2) ++ cs0.drop (k * 2) ++ cur.drop ((k + m) * 2 + (cs0.drop (k * 2)).length)).length = cap * 2 := by simp only [List.length_append, List.length_take, List.length_drop, hcl]; omega
    refine sl_copy (k := m) (news := cs2) Try.underlying22 Try.sizeOf29 (by simp only [Nat.min_def]; split <;> omega) hl2 hones2 (by rw [hcl1]; omega) (fun _ => ⟨b2, 0, rfl, hsrc2 hS (.tail _ (.head _))⟩) hS hK (by decide) rfl rfl rfl rfl hv2' fun a w hS hK => ?_
    refine wpList_nil ?_
    refine wp_seq ?_
    refine wp_region_lit ?_
    refine sl hK (by decide) rfl rfl (r_move hK rfl) fun a hK => ?_
    refine sl hK (by decide) rfl rfl (r_assign hK rfl) fun a hK => ?_
    refine wpList_nil ?_
    refine wp_ret ?_
    repeat (first | refine ret_then ?_ | refine ret_block ?_)
    have hS := hS.raw_row (z := 2) (m := n + m) (cap := cap) (by omega) hcm (by simp only [List.length_append, List.length_take, List.length_drop, hcl, hl2]; omega)
    have e5 : ((cur.take ((k + m) * 2) ++ cs0.drop (k * 2) ++ cur.drop ((k + m) * 2 + (cs0.drop (k * 2)).length)).take (k * 2) ++ cs2 ++ (cur.take ((k + m) * 2) ++ cs0.drop (k * 2) ++ cur.drop ((k + m) * 2 + (cs0.drop (k * 2)).length)).drop (k * 2 + cs2.length)).take ((n + m) * 2) = cr := by
      have htl : (cs0.take (k * 2)).length = k * 2 := by rw [List.length_take]; omega
      have hA : (cur.take ((k + m) * 2)).length = (k + m) * 2 := by rw [List.length_take]; omega
      have e6 : (cur.take ((k + m) * 2) ++ cs0.drop (k * 2) ++ cur.drop ((k + m) * 2 + (cs0.drop (k * 2)).length)).take (k * 2) = cs0.take (k * 2) := by
        rw [List.append_assoc, List.take_append_of_le_length (by omega), List.take_take, Nat.min_eq_left (by omega), ← hct, List.take_take, Nat.min_eq_left (by omega)]
      have e7 : (cur.take ((k + m) * 2) ++ cs0.drop (k * 2) ++ cur.drop ((k + m) * 2 + (cs0.drop (k * 2)).length)).drop (k * 2 + cs2.length) = cs0.drop (k * 2) ++ cur.drop ((k + m) * 2 + (cs0.drop (k * 2)).length) := by
        rw [show k * 2 + cs2.length = (cur.take ((k + m) * 2)).length by rw [hA, hl2]; omega, List.append_assoc, List.drop_left]
      rw [e6, e7, ← hcr, List.append_assoc, ← List.append_assoc cs2, ← List.append_assoc]
      have hlen : (cs0.take (k * 2) ++ (cs2 ++ cs0.drop (k * 2))).length = (n + m) * 2 := by simp only [List.length_append, List.length_drop, htl, hl2]; omega
      rw [← hlen, List.take_left]
    rw [e5] at hS
    exact ret_1 Try.results21 hK (rv_tmp hK rfl) ⟨_, rfl, R, _, cr, rfl, hS.trunc 1, RLe.refl _ _, hreps⟩


/-! ### (*catchment/runs.Run).Add: function 8 -/
set_option maxRecDepth 100000 in
theorem runs_Run_Add.calls (a0 : runs_Run) (a1 : Int) (a2 : List api_Value) {w0 : World} {R : Hp} {RA : Hp} {M : List Own} {b0 : Nat} {v0_0 : Value} {cs0_0 : List Value} {v2_0 : Value} (hRA : RA.sub w0) (hRM : ∀ b, blks M b → RA b = none) (hS0 : St M w0 w0 R [.cells b0 [v0_0] 50, .row 29 2 v0_0 a0.l.length cs0_0]) (h0_0 : Reps ty_api_Sample R cs0_0 a0.l) (h2_0 : SlR ty_api_Value RA v2_0 a2) {r : Bool × runs_Run} (H : runs_Run_Add a0 a1 a2 = some r) : Calls Try.prog 8 #[.pointer (some ⟨b0, 0, none⟩), .int .i64 a1, v2_0] w0 (Rets fun v w' => ∃ (R' : Hp) (u0 : Value) (cu0 : List Value), v = .bool r.1 ∧ St M w0 w' R' [.cells b0 [u0] 50, .row 29 2 u0 r.2.l.length cu0] ∧ RLe M w0 R R' ∧ Reps ty_api_Sample R' cu0 r.2.l) := by
  unfold runs_Run_Add at H
  refine enter (args := [.pointer (some ⟨b0, 0, none⟩), .int .i64 a1, v2_0]) Try.func8 rfl Try.ntmps8 rfl fun a hK => ?_
  have hS := hS0
  have hRL := RLe.refl (M := M) w0 R
  refine wp_seq ?_
  refine wp_region_lit ?_
  refine sl hK (by decide) rfl rfl (r_assign hK rfl) fun a hK => ?_
  refine wpList_nil ?_
  refine wp_seq ?_
  refine wp_region_lit ?_
  refine sl hK (by decide) rfl rfl (r_move hK rfl) fun a hK => ?_
  refine sl hK (by decide) rfl rfl (r_move hK rfl) fun a hK => ?_
  obtain ⟨y_1, h_2, H⟩ := bind_some H
  refine sl_callV Try.call20 hS hK (by decide) rfl rfl rfl (runs_Run_place.calls a0 a1 (lentOf_sub [] _) (hS.lend_box0 (.head _)) (hS.lend_row0 (.tail _ (.head _)) h0_0 rfl rfl) h_2) fun a w hS hK => ?_
  refine sl hK (by decide) rfl rfl (r_move hK rfl) fun a hK => ?_
  refine sl hK (by decide) rfl rfl (r_extract hK rfl rfl) fun a hK => ?_
  refine sl hK (by decide) rfl rfl (r_extract hK rfl rfl) fun a hK => ?_
  refine sl hK (by decide) rfl rfl (r_assign hK rfl) fun a hK => ?_
  refine sl hK (by decide) rfl rfl (r_assign hK rfl) fun a hK => ?_
  refine wpList_nil ?_
  refine wp_seq ?_
  refine wp_seq ?_
  refine wp_region_lit ?_
  refine sl hK (by decide) rfl rfl (r_move hK rfl) fun a hK => ?_
  refine wpList_nil ?_
  refine wp_cond_split (hK.ev rfl) (fun (hb_3 : y_1.2 = true) => ?_) (fun (hb_3 : y_1.2 = false) => ?_)
  · rw [ifb_t hb_3] at H
    refine wp_seq ?_
    refine wp_region_lit ?_
    refine sl hK (by decide) rfl rfl (r_assign hK rfl) fun a hK => ?_
    refine wpList_nil ?_
    obtain rfl := Option.some.inj H
    refine wp_ret ?_
    repeat (first | refine ret_then ?_ | refine ret_block ?_ | refine ret_scope ?_)
    exact ret_1 Try.results8 hK (rv_tmp hK rfl) ⟨_, rfl, _, _, _, rfl, hS, hRL, h0_0⟩
  · rw [ifb_f hb_3] at H
    refine wp_skip ?_
    refine wp_seq ?_
    refine parT_region (C := fun w => St M w0 w R [.cells b0 [v0_0] 50]) 12 [(0, true), (1, true), (2, true), (3, true), (4, true), (5, true), (6, true), (7, true), (8, false), (9, true), (10, false), (11, false)] mixed (by kernel_rfl) hS (fun w hS => (hS.trunc 1)) fun w hS => ?_
    refine sp (k := 0) rfl hK (by decide) rfl rfl (fun w hS => r_move hK rfl) fun a hK => ?_
    refine sp (k := 1) rfl hK (by decide) rfl rfl (fun w hS => r_move hK rfl) fun a hK => ?_
    refine sp (k := 2) rfl hK (by decide) rfl rfl (fun w hS => r_nilCheck hK rfl) fun a hK => ?_
    refine sp (k := 3) rfl hK (by decide) rfl rfl (fun w hS => r_fieldAddr Try.underlying50 rfl Try.sizeOf22 hK rfl) fun a hK => ?_
    refine sp (k := 4) rfl hK (by decide) rfl rfl (fun w hS => r_load Try.isAgg22 hK rfl (hS.cell (.head _) rfl)) fun a hK => ?_
    refine sp (k := 5) rfl hK (by decide) rfl rfl (fun w hS => r_move hK rfl) fun a hK => ?_
    refine sp (k := 6) rfl hK (by decide) rfl rfl (fun w hS => r_move hK rfl) fun a hK => ?_
    refine sp (k := 7) rfl hK (by decide) rfl rfl (fun w hS => r_move hK rfl) fun a hK => ?_
    refine spw (k := 8) rfl rfl (hS.trunc 1) ?_
    obtain ⟨y_27, h_28, H⟩ := bind_some H
    refine sl_call Try.call22 hK (by decide) rfl rfl rfl (slices_Clone_api_Value_api_Value.calls a2 (lentOf_sub [] _) hS.sub (h2_0.mono (hS.raLe0 hRA hRM)) h_28) fun a v_ w hv_ hK => ?_
    obtain ⟨R_29, v_32, cs_33, hv_, hr_, hl_30, hq_34⟩ := hv_
    have hv_ := hv_.symm
    subst hv_
    obtain ⟨hS, hl_30⟩ := hS.sp0.back hr_ hl_30
    have hS := hS.un1
    have hRL := hRL.trans hl_30
    refine parK_nil ((hS.pk1.trunc 1).lower hl_30.le) ?_
    have ho_35 := hS.row_one (.head _)
    refine sp (k := 9) rfl hK (by decide) rfl rfl (fun w hS => r_buildC (ps := [(0, .int .i64 a1), (1, v_32)]) (c := [.int .i64 a1, v_32]) Try.underlying29 Try.zeroValue29 places29 hK rfl (pc_cons rfl (pc_cons (cells1 ho_35) pc_nil)) rfl rfl) fun a hK => ?_
    refine spw (k := 10) rfl rfl ((hS.pk1.trunc 1).lower hl_30.le) ?_
    refine sl_buildSliceC (ps := [(0, .agg #[.int .i64 a1, v_32])]) (c := [.int .i64 a1, v_32]) Try.underlying22 Try.sizeOf29 Try.zeroValue29 rfl (pc_cons rfl pc_nil) rfl rfl (by decide) rfl hS hK (by decide) rfl fun a w b_36 hS hK => ?_
    refine parK_nil ((hS.pk2.trunc 1).lower hl_30.le) ?_
    refine spw (k := 11) rfl rfl ((hS.pk2.trunc 1).lower hl_30.le) ?_
    have hS := hS.pk1
    obtain ⟨R_37, hS, hl_39, hs_38⟩ := hS.fz_row hq_34 rfl rfl
    have hRL := hRL.trans hl_39
    have hS := hS.row_lit (size := 2) (m := 1) rfl (by decide)
    have hq_41 : Reps ty_api_Sample R_37 [.int .i64 a1, v_32] [(⟨a1, y_27⟩ : api_Sample)] := (Reps.cons (show Ty.rep ty_api_Sample _ [.int .i64 a1, v_32] (⟨a1, y_27⟩ : api_Sample) from ⟨_, rfl, hs_38⟩) (Reps.nil _ _))
    obtain ⟨y_42, h_43, H⟩ := bind_some H
    have hS := hS.pk2
    have hS1 := hS.sp2
    refine sl_call Try.call21 hK (by decide) rfl rfl rfl (slices_Insert_api_Sample_api_Sample.calls a0.l y_1.1 [(⟨a1, y_27⟩ : api_Sample)] hS1.lend (h0_0.mono (hl_30.le.trans hl_39.le)) hq_41 h_43) fun a v_ w hv_ hK => ?_
    obtain ⟨R_44, v_47, cs_48, hv_, hr_, hl_45, hq_49⟩ := hv_
    have hv_ := hv_.symm
    subst hv_
    obtain ⟨hS, hl_45⟩ := hS1.back hr_ hl_45
    have hS := hS.un1
    have hRL := hRL.trans hl_45
    refine parK_nil ((hS.pk1.trunc 1).lower (hl_30.le.trans (hl_39.le.trans hl_45.le))) ?_
    refine thenL_nil ?_
    refine sl hK (by decide) rfl rfl (r_nilCheck hK rfl) fun a hK => ?_
    refine sl hK (by decide) rfl rfl (r_fieldAddr Try.underlying50 rfl Try.sizeOf22 hK rfl) fun a hK => ?_
    have hS := hS.pk1
    refine sl_store1 (c' := [v_47]) Try.sizeOf22 hS hK rfl rfl rfl (hS.row_one (.tail _ (.head _))) (Nat.le_of_ble_eq_true rfl) rfl fun a w hS hK => ?_
    refine wpList_nil (NoP_nil ?_)
    refine wp_seq ?_
    refine wp_region_lit ?_
    refine sl hK (by decide) rfl rfl (r_assign hK rfl) fun a hK => ?_
    refine wpList_nil ?_
    obtain rfl := Option.some.inj H
    refine wp_ret ?_
    repeat (first | refine ret_then ?_ | refine ret_block ?_ | refine ret_scope ?_)
    exact ret_1 Try.results8 hK (rv_tmp hK rfl) ⟨_, rfl, _, _, _, rfl, hS, hRL, hq_49⟩

/-! ### (*catchment/runs.Run).Get: function 12 -/
set_option maxRecDepth 100000 in
theorem runs_Run_Get.calls (a0 : runs_Run) (a1 : Int) {w0 : World} {R : Hp} {RA : Hp} {b0 : Nat} {o0 : Nat} {v0_0 : Value} (hRA : RA.sub w0) (hR : R.sub w0) (hc0 : ∀ j u, ([v0_0] : List Value)[j]? = some u → RA.cell b0 (o0 + j) = some u) (h0_0 : SlR ty_api_Sample RA v0_0 a0.l) {r : (List api_Value) × Bool} (H : runs_Run_Get a0 a1 = some r) : Calls Try.prog 12 #[.pointer (some ⟨b0, o0, none⟩), .int .i64 a1] w0 (Rets fun v w' => ∃ (R' : Hp) (u0 : Value) (cu0 : List Value), v = .tuple #[u0, .bool r.2] ∧ St [] w0 w' R' [.row 44 11 u0 r.1.length cu0] ∧ RLe [] w0 R R' ∧ Reps ty_api_Value R' cu0 r.1) := by
  unfold runs_Run_Get at H
  refine enter (args := [.pointer (some ⟨b0, o0, none⟩), .int .i64 a1]) Try.func12 rfl Try.ntmps12 rfl fun a hK => ?_
  have hS := St.init hR
  have hRL := RLe.refl (M := []) w0 R
  refine wp_seq ?_
  refine wp_region_lit ?_
  refine sl hK (by decide) rfl rfl (r_assign hK rfl) fun a hK => ?_
  refine sl hK (by decide) rfl rfl (r_assign hK rfl) fun a hK => ?_
  refine wpList_nil ?_
  refine wp_seq ?_
  refine wp_region_lit ?_
  refine sl hK (by decide) rfl rfl (r_move hK rfl) fun a hK => ?_
  refine sl hK (by decide) rfl rfl (r_move hK rfl) fun a hK => ?_
  obtain ⟨y_1, h_2, H⟩ := bind_some H
  refine sl_callV Try.call20 hS hK (by decide) rfl rfl rfl (runs_Run_place.calls a0 a1 (lentOf_sub [] _) (fun j u hu => Hp.cell_le (hS.raLe0 hRA nil_not) (hc0 j u hu)) (h0_0.mono (hS.raLe0 hRA nil_not)) h_2) fun a w hS hK => ?_
  refine sl hK (by decide) rfl rfl (r_move hK rfl) fun a hK => ?_
  refine sl hK (by decide) rfl rfl (r_extract hK rfl rfl) fun a hK => ?_
  refine sl hK (by decide) rfl rfl (r_extract hK rfl rfl) fun a hK => ?_
  refine sl hK (by decide) rfl rfl (r_assign hK rfl) fun a hK => ?_
  refine sl hK (by decide) rfl rfl (r_assign hK rfl) fun a hK => ?_
  refine wpList_nil ?_
  refine wp_seq ?_
  refine wp_seq ?_
  refine wp_region_lit ?_
  refine sl hK (by decide) rfl rfl (r_move hK rfl) fun a hK => ?_
  refine sl hK (by decide) rfl rfl (r_un hK rfl (u_not _)) fun a hK => ?_
  refine wpList_nil ?_
  refine wp_cond_split (hK.ev rfl) (fun (hb_3 : (!y_1.2) = true) => ?_) (fun (hb_3 : (!y_1.2) = false) => ?_)
  · rw [ifb_t hb_3] at H
    refine wp_seq ?_
    refine wp_region_lit ?_
    refine sl hK (by decide) rfl rfl (r_assign hK rfl) fun a hK => ?_
    refine sl hK (by decide) rfl rfl (r_assign hK rfl) fun a hK => ?_
    refine wpList_nil ?_
    have hS := hS.row_nil 44 11
    have hq_5 : Reps ty_api_Value R [] ([] : List api_Value) := Reps.nil _ _
    obtain rfl := Option.some.inj H
    refine wp_ret ?_
    repeat (first | refine ret_then ?_ | refine ret_block ?_ | refine ret_scope ?_)
    exact ret_2 Try.results12 hK (rv_tmp hK rfl) (rv_tmp hK rfl) ⟨_, rfl, _, _, _, rfl, hS, hRL, hq_5⟩
  · rw [ifb_f hb_3] at H
    refine wp_skip ?_
    refine wp_seq ?_
    refine wp_region_lit ?_
    refine sl hK (by decide) rfl rfl (r_move hK rfl) fun a hK => ?_
    refine sl hK (by decide) rfl rfl (r_nilCheck hK rfl) fun a hK => ?_
    refine sl hK (by decide) rfl rfl (r_fieldAddr Try.underlying50 rfl Try.sizeOf22 hK rfl) fun a hK => ?_
    refine sl hK (by decide) rfl rfl (r_load Try.isAgg22 hK rfl ((hS.ra hRA nil_not).cell (hc0 0 _ rfl))) fun a hK => ?_
    refine sl hK (by decide) rfl rfl (r_move hK rfl) fun a hK => ?_
    obtain ⟨y_6, h_7, H⟩ := bind_some H
    obtain ⟨b_8, o_9, c_10, cs_11, hv_12, hr_13, hc_14, h_70, h_71⟩ := h0_0.ix h_7
    obtain ⟨v_15, rfl, hs_16⟩ := hr_13
    refine sl hK (by decide) rfl rfl (r_indexAddr_R Try.underlying22 Try.sizeOf29 hv_12 h_70 h_71 hK rfl rfl) fun a hK => ?_
    refine sl hK (by decide) rfl rfl (r_fieldAddr Try.underlying29 rfl Try.sizeOf27 hK rfl) fun a hK => ?_
    refine sl hK (by decide) rfl rfl (r_load Try.isAgg27 hK rfl ((hS.ra hRA nil_not).cell (hc_14 1 _ rfl))) fun a hK => ?_
    obtain ⟨y_17, h_18, H⟩ := bind_some H
    refine sl_call Try.call22 hK (by decide) rfl rfl rfl (slices_Clone_api_Value_api_Value.calls y_6.Vals (lentOf_sub [] _) hS.sub (hs_16.mono (hS.raLe0 hRA nil_not)) h_18) fun a v_ w hv_ hK => ?_
    obtain ⟨R_19, v_22, cs_23, hv_, hr_, hl_20, hq_24⟩ := hv_
    have hv_ := hv_.symm
    subst hv_
    obtain ⟨hS, hl_20⟩ := hS.sp0.back hr_ hl_20
    have hS := hS.un1
    have hRL := hRL.trans hl_20
    refine sl hK (by decide) rfl rfl (r_assign hK rfl) fun a hK => ?_
    refine sl hK (by decide) rfl rfl (r_assign hK rfl) fun a hK => ?_
    refine wpList_nil ?_
    obtain rfl := Option.some.inj H
    refine wp_ret ?_
    repeat (first | refine ret_then ?_ | refine ret_block ?_ | refine ret_scope ?_)
    exact ret_2 Try.results12 hK (rv_tmp hK rfl) (rv_tmp hK rfl) ⟨_, rfl, _, _, _, rfl, hS, hRL, hq_24⟩

/-! ### (*catchment/runs.Run).Range: function 10 -/
set_option maxRecDepth 100000 in
theorem runs_Run_Range.calls (a0 : runs_Run) (a1 : Int) (a2 : Int) {w0 : World} {R : Hp} {RA : Hp} {b0 : Nat} {o0 : Nat} {v0_0 : Value} (hRA : RA.sub w0) (hR : R.sub w0) (hc0 : ∀ j u, ([v0_0] : List Value)[j]? = some u → RA.cell b0 (o0 + j) = some u) (h0_0 : SlR ty_api_Sample RA v0_0 a0.l) {r : List api_Sample} (H : runs_Run_Range a0 a1 a2 = some r) : Calls Try.prog 10 #[.pointer (some ⟨b0, o0, none⟩), .int .i64 a1, .int .i64 a2] w0 (Rets fun v w' => ∃ (R' : Hp) (u0 : Value) (cu0 : List Value), v = u0 ∧ St [] w0 w' R' [.row 29 2 u0 r.length cu0] ∧ RLe [] w0 R R' ∧ Reps ty_api_Sample R' cu0 r) := by
  unfold runs_Run_Range at H
  refine enter (args := [.pointer (some ⟨b0, o0, none⟩), .int .i64 a1, .int .i64 a2]) Try.func10 rfl Try.ntmps10 rfl fun a hK => ?_
  have hS := St.init hR
  have hRL := RLe.refl (M := []) w0 R
  refine wp_seq ?_
  refine wp_region_lit ?_
  refine sl hK (by decide) rfl rfl (r_assign hK rfl) fun a hK => ?_
  refine wpList_nil ?_
  refine wp_scope_straight ?_
  refine wp_seq ?_
  refine wp_region_lit ?_
  refine sl hK (by decide) rfl rfl (r_move hK rfl) fun a hK => ?_
  refine sl hK (by decide) rfl rfl (r_move hK rfl) fun a hK => ?_
  obtain ⟨y_1, h_2, H⟩ := bind_some H
  refine sl_callV Try.call20 hS hK (by decide) rfl rfl rfl (runs_Run_place.calls a0 a1 (lentOf_sub [] _) (fun j u hu => Hp.cell_le (hS.raLe0 hRA nil_not) (hc0 j u hu)) (h0_0.mono (hS.raLe0 hRA nil_not)) h_2) fun a w hS hK => ?_
  refine sl hK (by decide) rfl rfl (r_move hK rfl) fun a hK => ?_
  refine sl hK (by decide) rfl rfl (r_extract hK rfl rfl) fun a hK => ?_
  refine sl hK (by decide) rfl rfl (r_extract hK rfl rfl) fun a hK => ?_
  refine sl hK (by decide) rfl rfl (r_assign hK rfl) fun a hK => ?_
  refine sl hK (by decide) rfl rfl (r_assign hK rfl) fun a hK => ?_
  refine wpList_nil ?_
  refine wp_seq ?_
  refine wp_region_lit ?_
  refine sl hK (by decide) rfl rfl (r_assign hK rfl) fun a hK => ?_
  refine wpList_nil ?_
  refine wp_seq ?_
  refine wp_label ?_
  refine wp_seq ?_
  refine wp_seq ?_
  refine wp_region_lit ?_
  refine sl hK (by decide) rfl rfl (r_move hK rfl) fun a hK => ?_
  refine sl hK (by decide) rfl rfl (r_nilCheck hK rfl) fun a hK => ?_
  refine sl hK (by decide) rfl rfl (r_fieldAddr Try.underlying50 rfl Try.sizeOf22 hK rfl) fun a hK => ?_
  refine sl hK (by decide) rfl rfl (r_load Try.isAgg22 hK rfl ((hS.ra hRA nil_not).cell (hc0 0 _ rfl))) fun a hK => ?_
  refine sl hK (by decide) rfl rfl (r_move hK rfl) fun a hK => ?_
  obtain ⟨y_3, h_4, H⟩ := bind_some H
  obtain ⟨v_5, hs_6, hr_7⟩ := r_slice_R (x := .tmp 21) (lo := some (.tmp 22)) (hi := none) Try.underlying22 Try.sizeOf29 h0_0 h_4 hK rfl ⟨_, rfl⟩ rfl
  refine sl hK (by decide) rfl rfl (hr_7 _ _ _ _ _ _ _ hK) fun a hK => ?_
  refine sl hK (by decide) rfl rfl (r_len_R Try.underlying22 hs_6 hK rfl) fun a hK => ?_
  refine sl hK (by decide) rfl rfl (r_move hK rfl) fun a hK => ?_
  refine wpList_nil ?_
  refine wp_block ?_
  refine wp_loop_k (fun k_l0 a w => ∃ (x_70 : List api_Sample) (x_74 : Int) (R_75 : Hp) (v_71 : Value) (cs_72 : List Value), runs_Run_Range.l0 a2 y_3 k_l0 x_70 x_74 = some r ∧ RLe [] w0 R R_75 ∧ Reps ty_api_Sample R_75 cs_72 x_70 ∧ Kn 45 a [(2, .int .i64 a2), (9, v_71), (23, v_5), (24, .int .i64 (y_3.length : Int)), (25, .int .i64 x_74)] ∧ St [] w0 w R_75 [.row 29 2 v_71 x_70.length cs_72]) (((y_3.length : Int) - 0).toNat + 1) ?_ ?_
  · have hS := hS.row_nil 29 2
    have hq_130 : Reps ty_api_Sample R [] ([] : List api_Sample) := Reps.nil _ _
    exact ⟨[], 0, _, _, _, H, (RLe.refl _ _), hq_130, hK.sub (all_cons rfl (all_cons rfl (all_cons rfl (all_cons rfl (all_cons rfl (all_nil)))))), hS⟩
  · rintro k_l0 a w ⟨x_70, x_74, R_75, v_71, cs_72, H, hl_76, hq_73, hK, hS⟩
    cases k_l0 with
    | zero => cases H
    | succ k_l0 =>
    rw [runs_Run_Range.l0.eq_2] at H
    have hRL := hRL.trans hl_76
    refine wp_seq ?_
    refine wp_region_lit ?_
    refine sl hK (by decide) rfl rfl (r_ibin hK rfl rfl rfl) fun a hK => ?_
    refine wpList_nil ?_
    refine wp_seq ?_
    refine wp_cond_split (hK.ev rfl) (fun (hb_131 : (decide (x_74 < (y_3.length : Int))) = true) => ?_) (fun (hb_131 : (decide (x_74 < (y_3.length : Int))) = false) => ?_)
    · rw [ifb_t hb_131] at H
      refine wp_skip ?_
      refine wp_seq ?_
      refine wp_block ?_
      refine wp_seq ?_
      refine wp_region_lit ?_
      obtain ⟨y_132, h_133, H⟩ := bind_some H
      obtain ⟨b_134, o_135, c_136, cs_137, hv_138, hr_139, hc_140, h_1330, h_1331⟩ := hs_6.ix h_133
      obtain ⟨v_141, rfl, hs_142⟩ := hr_139
      refine sl hK (by decide) rfl rfl (r_indexAddr_R Try.underlying22 Try.sizeOf29 hv_138 h_1330 h_1331 hK rfl rfl) fun a hK => ?_
      refine sl hK (by decide) rfl rfl (r_loadA (cs := [.int .i64 y_132.Time, v_141]) Try.isAgg29 Try.sizeOf29 rfl hK rfl (fun j v hv => (hS.ra hRA nil_not).cell (hc_140 j v hv))) fun a hK => ?_
      refine sl_alloc Try.zeroValue29 hS hK (by decide) rfl rfl fun a w b_143 hS hK => ?_
      refine sl_storeA (vs := [.int .i64 y_132.Time, v_141]) (c' := [.int .i64 y_132.Time, v_141]) Try.sizeOf29 hS hK rfl rfl rfl rfl (all_cons rfl (all_cons hs_142.one (all_nil))) (Nat.le_of_ble_eq_true rfl) rfl fun a w hS hK => ?_
      refine wpList_nil ?_
      refine wp_block ?_
      refine wp_seq ?_
      refine wp_region_lit ?_
      refine sl hK (by decide) rfl rfl (r_fieldAddr Try.underlying29 rfl Try.sizeOf3 hK rfl) fun a hK => ?_
      refine sl hK (by decide) rfl rfl (r_load Try.isAgg3 hK rfl (hS.cell (.head _) rfl)) fun a hK => ?_
      refine sl hK (by decide) rfl rfl (r_move hK rfl) fun a hK => ?_
      refine sl hK (by decide) rfl rfl (r_ibin hK rfl rfl rfl) fun a hK => ?_
      refine sl hK (by decide) rfl rfl (r_assign hK rfl) fun a hK => ?_
      refine wpList_nil ?_
      refine wp_cond_split (hK.ev rfl) (fun (hb_144 : (decide (y_132.Time > a2)) = true) => ?_) (fun (hb_144 : (decide (y_132.Time > a2)) = false) => ?_)
      · rw [ifb_t hb_144] at H
        refine wp_exit ?_
        refine wp_seq ?_
        refine wp_region_lit ?_
        refine sl hK (by decide) rfl rfl (r_move hK rfl) fun a hK => ?_
        refine sl hK (by decide) rfl rfl (r_assign hK rfl) fun a hK => ?_
        refine wpList_nil ?_
        obtain rfl := Option.some.inj H
        refine wp_ret ?_
        repeat (first | refine ret_then ?_ | refine ret_block ?_ | refine ret_scope ?_)
        exact ret_1 Try.results10 hK (rv_tmp hK rfl) ⟨_, rfl, _, _, _, rfl, (hS.pk1.trunc 1), hRL, hq_73⟩
      · rw [ifb_f hb_144] at H
        refine parT_region (C := fun w => St [] w0 w R_75 [.cells b_143 [.int .i64 y_132.Time, v_141] 29, .row 29 2 v_71 x_70.length cs_72]) 8 [(0, true), (1, true), (2, true), (3, true), (4, true), (5, false), (6, true), (7, false)] mixed (by kernel_rfl) hS (fun w hS => hS) fun w hS => ?_
        refine sp (k := 0) rfl hK (by decide) rfl rfl (fun w hS => r_move hK rfl) fun a hK => ?_
        refine sp (k := 1) rfl hK (by decide) rfl rfl (fun w hS => r_fieldAddr Try.underlying29 rfl Try.sizeOf3 hK rfl) fun a hK => ?_
        refine sp (k := 2) rfl hK (by decide) rfl rfl (fun w hS => r_load Try.isAgg3 hK rfl (hS.cell (.head _) rfl)) fun a hK => ?_
        refine sp (k := 3) rfl hK (by decide) rfl rfl (fun w hS => r_fieldAddr Try.underlying29 rfl Try.sizeOf27 hK rfl) fun a hK => ?_
        refine sp (k := 4) rfl hK (by decide) rfl rfl (fun w hS => r_load Try.isAgg27 hK rfl (hS.cell (.head _) rfl)) fun a hK => ?_
        refine spw (k := 5) rfl rfl hS ?_
        obtain ⟨y_164, h_165, H⟩ := bind_some H
        refine sl_call Try.call22 hK (by decide) rfl rfl rfl (slices_Clone_api_Value_api_Value.calls y_132.Vals (lentOf_sub [] _) hS.sub (hs_142.mono (hS.raLe0 hRA nil_not)) h_165) fun a v_ w hv_ hK => ?_
        obtain ⟨R_166, v_169, cs_170, hv_, hr_, hl_167, hq_171⟩ := hv_
        have hv_ := hv_.symm
        subst hv_
        obtain ⟨hS, hl_167⟩ := hS.sp0.back hr_ hl_167
        have hS := hS.un1
        have hRL := hRL.trans hl_167
        refine parK_nil ((hS.pk2.pk2.trunc 2).lower hl_167.le) ?_
        have ho_172 := hS.row_one (.head _)
        refine sp (k := 6) rfl hK (by decide) rfl rfl (fun w hS => r_buildC (ps := [(0, .int .i64 y_132.Time), (1, v_169)]) (c := [.int .i64 y_132.Time, v_169]) Try.underlying29 Try.zeroValue29 places29 hK rfl (pc_cons rfl (pc_cons (cells1 ho_172) pc_nil)) rfl rfl) fun a hK => ?_
        refine spw (k := 7) rfl rfl ((hS.pk2.pk2.trunc 2).lower hl_167.le) ?_
        refine sl_buildSliceC (ps := [(0, .agg #[.int .i64 y_132.Time, v_169])]) (c := [.int .i64 y_132.Time, v_169]) Try.underlying22 Try.sizeOf29 Try.zeroValue29 rfl (pc_cons rfl pc_nil) rfl rfl (by decide) rfl hS hK (by decide) rfl fun a w b_173 hS hK => ?_
        refine parK_nil ((hS.pk3.pk3.trunc 2).lower hl_167.le) ?_
        refine thenL_nil ?_
        have hS := hS.pk3
        have hS := hS.pk2
        obtain ⟨R_174, hS, hl_176, hs_175⟩ := hS.fz_row hq_171 rfl rfl
        have hRL := hRL.trans hl_176
        obtain ⟨y_177, h_178, H⟩ := bind_some H
        refine sl_append_L (ty := ty_api_Sample) (ys := [(⟨y_132.Time, y_164⟩ : api_Sample)]) elT22 (by decide) rfl (hq_73.mono (hl_167.le.trans hl_176.le)) rfl (Reps.cons (show Ty.rep ty_api_Sample _ [.int .i64 y_132.Time, v_169] (⟨y_132.Time, y_164⟩ : api_Sample) from ⟨_, rfl, hs_175⟩) (Reps.nil _ _)) rfl h_178 hS hK (by decide) rfl rfl rfl fun a w v_179 cs_180 hq_181 hS hK => ?_
        refine sl hK (by decide) rfl rfl (r_assign hK rfl) fun a hK => ?_
        refine wpList_nil (NoP_nil ?_)
        refine wp_region_lit ?_
        refine sl hK (by decide) rfl rfl (r_ibin hK rfl rfl rfl) fun a hK => ?_
        refine sl hK (by decide) rfl rfl (r_move hK rfl) fun a hK => ?_
        refine wpList_nil ?_
        exact ⟨_, Nat.lt_succ_self _, y_177, (IntKind.i64.wrap (x_74 + 1)), _, _, _, H, (hl_76.trans (hl_167.trans hl_176)), hq_181, hK.sub (all_cons rfl (all_cons rfl (all_cons rfl (all_cons rfl (all_cons rfl (all_nil)))))), hS.trunc 1⟩
    · rw [ifb_f hb_131] at H
      refine wp_exit ?_
      refine wp_seq ?_
      refine wp_region_lit ?_
      refine sl hK (by decide) rfl rfl (r_move hK rfl) fun a hK => ?_
      refine sl hK (by decide) rfl rfl (r_assign hK rfl) fun a hK => ?_
      refine wpList_nil ?_
      obtain rfl := Option.some.inj H
      refine wp_ret ?_
      repeat (first | refine ret_then ?_ | refine ret_block ?_ | refine ret_scope ?_)
      exact ret_1 Try.results10 hK (rv_tmp hK rfl) ⟨_, rfl, _, _, _, rfl, hS, hRL, hq_73⟩

/-! ### catchment/catchmentlaw07.vals: function 13 -/
set_option maxRecDepth 100000 in
theorem law07_vals.calls (a0 : List api_Value) (a1 : List api_Value) {w0 : World} {RA : Hp} {v0_0 : Value} {v1_0 : Value} (hRA : RA.sub w0) (h0_0 : SlR ty_api_Value RA v0_0 a0) (h1_0 : SlR ty_api_Value RA v1_0 a1) {r : Bool} (H : law07_vals a0 a1 = some r) : CallsV Try.prog 13 #[v0_0, v1_0] w0 (.bool r) := by
  unfold law07_vals at H
  refine enter (args := [v0_0, v1_0]) Try.func13 rfl Try.ntmps13 rfl fun a hK => ?_
  have hS := St.init (R := fun _ => none) (w := w0) (fun _ _ h => by cases h)
  have hRL := RLe.refl (M := []) w0 (fun _ => none)
  refine wp_seq ?_
  refine wp_region_lit ?_
  refine sl hK (by decide) rfl rfl (r_assign hK rfl) fun a hK => ?_
  refine wpList_nil ?_
  refine wp_seq ?_
  refine wp_seq ?_
  refine wp_region_lit ?_
  refine sl hK (by decide) rfl rfl (r_move hK rfl) fun a hK => ?_
  refine sl hK (by decide) rfl rfl (r_len_R Try.underlying27 h0_0 hK rfl) fun a hK => ?_
  refine sl hK (by decide) rfl rfl (r_move hK rfl) fun a hK => ?_
  refine sl hK (by decide) rfl rfl (r_len_R Try.underlying27 h1_0 hK rfl) fun a hK => ?_
  refine sl hK (by decide) rfl rfl (r_ibin hK rfl rfl rfl) fun a hK => ?_
  refine wpList_nil ?_
  refine wp_cond_split (hK.ev rfl) (fun (hb_1 : ((a0.length : Int) != (a1.length : Int)) = true) => ?_) (fun (hb_1 : ((a0.length : Int) != (a1.length : Int)) = false) => ?_)
  · rw [ifb_t hb_1] at H
    refine wp_seq ?_
    refine wp_region_lit ?_
    refine sl hK (by decide) rfl rfl (r_assign hK rfl) fun a hK => ?_
    refine wpList_nil ?_
    obtain rfl := Option.some.inj H
    refine wp_ret ?_
    repeat (first | refine ret_then ?_ | refine ret_block ?_ | refine ret_scope ?_)
    exact ret_1 Try.results13 hK (rv_tmp hK rfl) ⟨rfl, hS.below⟩
  · rw [ifb_f hb_1] at H
    refine wp_skip ?_
    refine wp_seq ?_
    refine wp_seq ?_
    refine wp_region_lit ?_
    refine sl hK (by decide) rfl rfl (r_assign hK rfl) fun a hK => ?_
    refine wpList_nil ?_
    refine wp_block ?_
    refine wp_loop_k (fun k_l0 a w => ∃ (x_41 : Int), law07_vals.l0 a0 a1 k_l0 x_41 = some r ∧ Kn 26 a [(0, v0_0), (1, v1_0), (5, .int .i64 x_41)] ∧ St [] w0 w (fun _ => none) []) (((a0.length : Int) - 0).toNat + 1) ?_ ?_
    · exact ⟨0, H, hK.sub (all_cons rfl (all_cons rfl (all_cons rfl (all_nil)))), hS⟩
    · rintro k_l0 a w ⟨x_41, H, hK, hS⟩
      cases k_l0 with
      | zero => cases H
      | succ k_l0 =>
      rw [law07_vals.l0.eq_2] at H
      refine wp_seq ?_
      refine wp_seq ?_
      refine wp_region_lit ?_
      refine sl hK (by decide) rfl rfl (r_move hK rfl) fun a hK => ?_
      refine sl hK (by decide) rfl rfl (r_move hK rfl) fun a hK => ?_
      refine sl hK (by decide) rfl rfl (r_len_R Try.underlying27 h0_0 hK rfl) fun a hK => ?_
      refine sl hK (by decide) rfl rfl (r_ibin hK rfl rfl rfl) fun a hK => ?_
      refine wpList_nil ?_
      refine wp_cond_split (hK.ev rfl) (fun (hb_81 : (decide (x_41 < (a0.length : Int))) = true) => ?_) (fun (hb_81 : (decide (x_41 < (a0.length : Int))) = false) => ?_)
      · rw [ifb_t hb_81] at H
        refine wp_skip ?_
        refine wp_seq ?_
        refine wp_block ?_
        refine wp_seq ?_
        refine par_region (C := fun w => St [] w0 w (fun _ => none) []) [(0, true), (1, true), (2, true), (3, true), (4, true), (5, true), (6, true), (7, true), (8, true)] mixed (by kernel_rfl) hS (fun w hS => hS) fun w hS => ?_
        refine sp (k := 0) rfl hK (by decide) rfl rfl (fun w hS => r_move hK rfl) fun a hK => ?_
        refine sp (k := 1) rfl hK (by decide) rfl rfl (fun w hS => r_move hK rfl) fun a hK => ?_
        obtain ⟨y_100, h_101, H⟩ := bind_some H
        obtain ⟨b_102, o_103, c_104, cs_105, hv_106, hr_107, hc_108, h_1010, h_1011⟩ := h0_0.ix h_101
        subst hr_107
        refine sp (k := 2) rfl hK (by decide) rfl rfl (fun w hS => r_indexAddr_R Try.underlying27 Try.sizeOf44 hv_106 h_1010 h_1011 hK rfl rfl) fun a hK => ?_
        refine sp (k := 3) rfl hK (by decide) rfl rfl (fun w hS => r_loadA (cs := [.int .i64 y_100.Kind, .int .i64 y_100.N, .string y_100.S, .int .i64 y_100.H.a0, .int .i64 y_100.H.a1, .int .i64 y_100.H.a2, .int .i64 y_100.H.a3, .int .i64 y_100.H.a4, .int .i64 y_100.H.a5, .int .i64 y_100.H.a6, .int .i64 y_100.H.a7]) Try.isAgg44 Try.sizeOf44 rfl hK rfl (fun j v hv => (hS.ra hRA nil_not).cell (hc_108 j v hv))) fun a hK => ?_
        refine sp (k := 4) rfl hK (by decide) rfl rfl (fun w hS => r_move hK rfl) fun a hK => ?_
        refine sp (k := 5) rfl hK (by decide) rfl rfl (fun w hS => r_move hK rfl) fun a hK => ?_
        obtain ⟨y_109, h_110, H⟩ := bind_some H
        obtain ⟨b_111, o_112, c_113, cs_114, hv_115, hr_116, hc_117, h_1100, h_1101⟩ := h1_0.ix h_110
        subst hr_116
        refine sp (k := 6) rfl hK (by decide) rfl rfl (fun w hS => r_indexAddr_R Try.underlying27 Try.sizeOf44 hv_115 h_1100 h_1101 hK rfl rfl) fun a hK => ?_
        refine sp (k := 7) rfl hK (by decide) rfl rfl (fun w hS => r_loadA (cs := [.int .i64 y_109.Kind, .int .i64 y_109.N, .string y_109.S, .int .i64 y_109.H.a0, .int .i64 y_109.H.a1, .int .i64 y_109.H.a2, .int .i64 y_109.H.a3, .int .i64 y_109.H.a4, .int .i64 y_109.H.a5, .int .i64 y_109.H.a6, .int .i64 y_109.H.a7]) Try.isAgg44 Try.sizeOf44 rfl hK rfl (fun j v hv => (hS.ra hRA nil_not).cell (hc_117 j v hv))) fun a hK => ?_
        refine sp (k := 8) rfl hK (by decide) rfl rfl (fun w hS => r_sne (by kernel_rfl) (eqs44 y_100 y_109) hK rfl rfl) fun a hK => ?_
        refine wpPar_nil (NoP_nil ?_)
        refine wp_cond_split (hK.ev rfl) (fun (hb_118 : (!decide (y_100 = y_109)) = true) => ?_) (fun (hb_118 : (!decide (y_100 = y_109)) = false) => ?_)
        · rw [ifb_t hb_118] at H
          refine wp_seq ?_
          refine wp_region_lit ?_
          refine sl hK (by decide) rfl rfl (r_assign hK rfl) fun a hK => ?_
          refine wpList_nil ?_
          obtain rfl := Option.some.inj H
          refine wp_ret ?_
          repeat (first | refine ret_then ?_ | refine ret_block ?_ | refine ret_scope ?_)
          exact ret_1 Try.results13 hK (rv_tmp hK rfl) ⟨rfl, hS.below⟩
        · rw [ifb_f hb_118] at H
          refine wp_skip ?_
          refine wp_region_lit ?_
          refine sl hK (by decide) rfl rfl (r_move hK rfl) fun a hK => ?_
          refine sl hK (by decide) rfl rfl (r_ibin hK rfl rfl rfl) fun a hK => ?_
          refine sl hK (by decide) rfl rfl (r_assign hK rfl) fun a hK => ?_
          refine wpList_nil ?_
          exact ⟨_, Nat.lt_succ_self _, (IntKind.i64.wrap (x_41 + 1)), H, hK.sub (all_cons rfl (all_cons rfl (all_cons rfl (all_nil)))), hS⟩
      · rw [ifb_f hb_81] at H
        refine wp_exit ?_
        refine wp_seq ?_
        refine wp_region_lit ?_
        refine sl hK (by decide) rfl rfl (r_assign hK rfl) fun a hK => ?_
        refine wpList_nil ?_
        obtain rfl := Option.some.inj H
        refine wp_ret ?_
        repeat (first | refine ret_then ?_ | refine ret_block ?_ | refine ret_scope ?_)
        exact ret_1 Try.results13 hK (rv_tmp hK rfl) ⟨rfl, hS.below⟩

/-! ### catchment/catchmentlaw07.same: function 9 -/
set_option maxRecDepth 100000 in
theorem law07_same.calls (a0 : List api_Sample) (a1 : List api_Sample) {w0 : World} {RA : Hp} {v0_0 : Value} {v1_0 : Value} (hRA : RA.sub w0) (h0_0 : SlR ty_api_Sample RA v0_0 a0) (h1_0 : SlR ty_api_Sample RA v1_0 a1) {r : Bool} (H : law07_same a0 a1 = some r) : CallsV Try.prog 9 #[v0_0, v1_0] w0 (.bool r) := by
  unfold law07_same at H
  refine enter (args := [v0_0, v1_0]) Try.func9 rfl Try.ntmps9 rfl fun a hK => ?_
  have hS := St.init (R := fun _ => none) (w := w0) (fun _ _ h => by cases h)
  have hRL := RLe.refl (M := []) w0 (fun _ => none)
  refine wp_seq ?_
  refine wp_region_lit ?_
  refine sl hK (by decide) rfl rfl (r_assign hK rfl) fun a hK => ?_
  refine wpList_nil ?_
  refine wp_seq ?_
  refine wp_seq ?_
  refine wp_region_lit ?_
  refine sl hK (by decide) rfl rfl (r_move hK rfl) fun a hK => ?_
  refine sl hK (by decide) rfl rfl (r_len_R Try.underlying22 h0_0 hK rfl) fun a hK => ?_
  refine sl hK (by decide) rfl rfl (r_move hK rfl) fun a hK => ?_
  refine sl hK (by decide) rfl rfl (r_len_R Try.underlying22 h1_0 hK rfl) fun a hK => ?_
  refine sl hK (by decide) rfl rfl (r_ibin hK rfl rfl rfl) fun a hK => ?_
  refine wpList_nil ?_
  refine wp_cond_split (hK.ev rfl) (fun (hb_1 : ((a0.length : Int) != (a1.length : Int)) = true) => ?_) (fun (hb_1 : ((a0.length : Int) != (a1.length : Int)) = false) => ?_)
  · rw [ifb_t hb_1] at H
    refine wp_seq ?_
    refine wp_region_lit ?_
    refine sl hK (by decide) rfl rfl (r_assign hK rfl) fun a hK => ?_
    refine wpList_nil ?_
    obtain rfl := Option.some.inj H
    refine wp_ret ?_
    repeat (first | refine ret_then ?_ | refine ret_block ?_ | refine ret_scope ?_)
    exact ret_1 Try.results9 hK (rv_tmp hK rfl) ⟨rfl, hS.below⟩
  · rw [ifb_f hb_1] at H
    refine wp_skip ?_
    refine wp_seq ?_
    refine wp_seq ?_
    refine wp_region_lit ?_
    refine sl hK (by decide) rfl rfl (r_assign hK rfl) fun a hK => ?_
    refine wpList_nil ?_
    refine wp_block ?_
    refine wp_loop_k (fun k_l0 a w => ∃ (x_195 : Int), law07_same.l0 a0 a1 k_l0 x_195 = some r ∧ Kn 44 a [(0, v0_0), (1, v1_0), (5, .int .i64 x_195)] ∧ St [] w0 w (fun _ => none) []) (((a0.length : Int) - 0).toNat + 1) ?_ ?_
    · exact ⟨0, H, hK.sub (all_cons rfl (all_cons rfl (all_cons rfl (all_nil)))), hS⟩
    · rintro k_l0 a w ⟨x_195, H, hK, hS⟩
      cases k_l0 with
      | zero => cases H
      | succ k_l0 =>
      rw [law07_same.l0.eq_2] at H
      refine wp_seq ?_
      refine wp_seq ?_
      refine wp_region_lit ?_
      refine sl hK (by decide) rfl rfl (r_move hK rfl) fun a hK => ?_
      refine sl hK (by decide) rfl rfl (r_move hK rfl) fun a hK => ?_
      refine sl hK (by decide) rfl rfl (r_len_R Try.underlying22 h0_0 hK rfl) fun a hK => ?_
      refine sl hK (by decide) rfl rfl (r_ibin hK rfl rfl rfl) fun a hK => ?_
      refine wpList_nil ?_
      refine wp_cond_split (hK.ev rfl) (fun (hb_389 : (decide (x_195 < (a0.length : Int))) = true) => ?_) (fun (hb_389 : (decide (x_195 < (a0.length : Int))) = false) => ?_)
      · rw [ifb_t hb_389] at H
        refine wp_skip ?_
        refine wp_seq ?_
        refine wp_block ?_
        refine wp_seq ?_
        refine wp_mid (fun a w => ∃ (x_484 : Bool), law07_same.j1 (law07_same.l0 a0 a1 k_l0) a0 x_195 x_484 = some r ∧ Kn 44 a [(0, v0_0), (1, v1_0), (5, .int .i64 x_195), (6, .bool x_484)] ∧ St [] w0 w (fun _ => none) []) ?_ ?_
        · refine parT_region (C := fun w => St [] w0 w (fun _ => none) []) 22 [(0, true), (1, true), (2, true), (3, true), (4, true), (5, true), (6, true), (7, true), (8, true), (9, true), (10, true), (11, true), (12, true), (13, true), (14, true), (15, true), (16, true), (17, true), (18, true), (19, true), (20, true), (21, true)] mixed (by kernel_rfl) hS (fun w hS => hS) fun w hS => ?_
          refine sp (k := 0) rfl hK (by decide) rfl rfl (fun w hS => r_move hK rfl) fun a hK => ?_
          refine sp (k := 1) rfl hK (by decide) rfl rfl (fun w hS => r_move hK rfl) fun a hK => ?_
          obtain ⟨y_533, h_534, H⟩ := bind_some H
          obtain ⟨b_535, o_536, c_537, cs_538, hv_539, hr_540, hc_541, h_5340, h_5341⟩ := h0_0.ix h_534
          obtain ⟨v_542, rfl, hs_543⟩ := hr_540
          refine sp (k := 2) rfl hK (by decide) rfl rfl (fun w hS => r_indexAddr_R Try.underlying22 Try.sizeOf29 hv_539 h_5340 h_5341 hK rfl rfl) fun a hK => ?_
          refine sp (k := 3) rfl hK (by decide) rfl rfl (fun w hS => r_fieldAddr Try.underlying29 rfl Try.sizeOf3 hK rfl) fun a hK => ?_
          refine sp (k := 4) rfl hK (by decide) rfl rfl (fun w hS => r_load Try.isAgg3 hK rfl ((hS.ra hRA nil_not).cell (hc_541 0 _ rfl))) fun a hK => ?_
          refine sp (k := 5) rfl hK (by decide) rfl rfl (fun w hS => r_move hK rfl) fun a hK => ?_
          refine sp (k := 6) rfl hK (by decide) rfl rfl (fun w hS => r_move hK rfl) fun a hK => ?_
          obtain ⟨y_544, h_545, H⟩ := bind_some H
          obtain ⟨b_546, o_547, c_548, cs_549, hv_550, hr_551, hc_552, h_5450, h_5451⟩ := h1_0.ix h_545
          obtain ⟨v_553, rfl, hs_554⟩ := hr_551
          refine sp (k := 7) rfl hK (by decide) rfl rfl (fun w hS => r_indexAddr_R Try.underlying22 Try.sizeOf29 hv_550 h_5450 h_5451 hK rfl rfl) fun a hK => ?_
          refine sp (k := 8) rfl hK (by decide) rfl rfl (fun w hS => r_fieldAddr Try.underlying29 rfl Try.sizeOf3 hK rfl) fun a hK => ?_
          refine sp (k := 9) rfl hK (by decide) rfl rfl (fun w hS => r_load Try.isAgg3 hK rfl ((hS.ra hRA nil_not).cell (hc_552 0 _ rfl))) fun a hK => ?_
          refine sp (k := 10) rfl hK (by decide) rfl rfl (fun w hS => r_ibin hK rfl rfl rfl) fun a hK => ?_
          refine sp (k := 11) rfl hK (by decide) rfl rfl (fun w hS => r_move hK rfl) fun a hK => ?_
          rcases or_b (y_533.Time == y_544.Time) with hb_555 | hb_555
          · rw [ifb_t hb_555] at H
            refine sp (k := 12) rfl hK (by decide) (wtt hb_555) rfl (fun w hS => r_move hK rfl) fun a hK => ?_
            refine sp (k := 13) rfl hK (by decide) (wtt hb_555) rfl (fun w hS => r_move hK rfl) fun a hK => ?_
            obtain ⟨y_556, h_557, H⟩ := bind_some H
            obtain ⟨b_558, o_559, c_560, cs_561, hv_562, hr_563, hc_564, h_5570, h_5571⟩ := h0_0.ix h_557
            obtain ⟨v_565, rfl, hs_566⟩ := hr_563
            refine sp (k := 14) rfl hK (by decide) (wtt hb_555) rfl (fun w hS => r_indexAddr_R Try.underlying22 Try.sizeOf29 hv_562 h_5570 h_5571 hK rfl rfl) fun a hK => ?_
            refine sp (k := 15) rfl hK (by decide) (wtt hb_555) rfl (fun w hS => r_fieldAddr Try.underlying29 rfl Try.sizeOf27 hK rfl) fun a hK => ?_
            refine sp (k := 16) rfl hK (by decide) (wtt hb_555) rfl (fun w hS => r_load Try.isAgg27 hK rfl ((hS.ra hRA nil_not).cell (hc_564 1 _ rfl))) fun a hK => ?_
            refine sp (k := 17) rfl hK (by decide) (wtt hb_555) rfl (fun w hS => r_move hK rfl) fun a hK => ?_
            refine sp (k := 18) rfl hK (by decide) (wtt hb_555) rfl (fun w hS => r_move hK rfl) fun a hK => ?_
            obtain ⟨y_567, h_568, H⟩ := bind_some H
            obtain ⟨b_569, o_570, c_571, cs_572, hv_573, hr_574, hc_575, h_5680, h_5681⟩ := h1_0.ix h_568
            obtain ⟨v_576, rfl, hs_577⟩ := hr_574
            refine sp (k := 19) rfl hK (by decide) (wtt hb_555) rfl (fun w hS => r_indexAddr_R Try.underlying22 Try.sizeOf29 hv_573 h_5680 h_5681 hK rfl rfl) fun a hK => ?_
            refine sp (k := 20) rfl hK (by decide) (wtt hb_555) rfl (fun w hS => r_fieldAddr Try.underlying29 rfl Try.sizeOf27 hK rfl) fun a hK => ?_
            refine sp (k := 21) rfl hK (by decide) (wtt hb_555) rfl (fun w hS => r_load Try.isAgg27 hK rfl ((hS.ra hRA nil_not).cell (hc_575 1 _ rfl))) fun a hK => ?_
            refine thenL_nil ?_
            obtain ⟨y_578, h_579, H⟩ := bind_some H
            refine sl_callV Try.call13 hS hK (by decide) (wtt hb_555) rfl rfl (law07_vals.calls y_556.Vals y_567.Vals (lentOf_sub [] _) (hs_566.mono (hS.raLe0 hRA nil_not)) (hs_577.mono (hS.raLe0 hRA nil_not)) h_579) fun a w hS hK => ?_
            refine sl hK (by decide) rfl rfl (r_pick_t hb_555 hK rfl rfl) fun a hK => ?_
            refine sl hK (by decide) rfl rfl (r_assign hK rfl) fun a hK => ?_
            refine wpList_nil (NoP_nil ?_)
            exact ⟨y_578, H, hK.sub (all_cons rfl (all_cons rfl (all_cons rfl (all_cons rfl (all_nil))))), hS⟩
          · rw [ifb_f hb_555] at H
            refine sp_skip (k := 12) rfl hK (by decide) (wtf hb_555) rfl fun a hK => ?_
            refine sp_skip (k := 13) rfl hK (by decide) (wtf hb_555) rfl fun a hK => ?_
            refine sp_skip (k := 14) rfl hK (by decide) (wtf hb_555) rfl fun a hK => ?_
            refine sp_skip (k := 15) rfl hK (by decide) (wtf hb_555) rfl fun a hK => ?_
            refine sp_skip (k := 16) rfl hK (by decide) (wtf hb_555) rfl fun a hK => ?_
            refine sp_skip (k := 17) rfl hK (by decide) (wtf hb_555) rfl fun a hK => ?_
            refine sp_skip (k := 18) rfl hK (by decide) (wtf hb_555) rfl fun a hK => ?_
            refine sp_skip (k := 19) rfl hK (by decide) (wtf hb_555) rfl fun a hK => ?_
            refine sp_skip (k := 20) rfl hK (by decide) (wtf hb_555) rfl fun a hK => ?_
            refine sp_skip (k := 21) rfl hK (by decide) (wtf hb_555) rfl fun a hK => ?_
            refine thenL_nil ?_
            refine sl_skip hK (by decide) (wtf hb_555) rfl fun a hK => ?_
            refine sl hK (by decide) rfl rfl (r_pick_f hb_555 hK rfl rfl) fun a hK => ?_
            refine sl hK (by decide) rfl rfl (r_assign hK rfl) fun a hK => ?_
            refine wpList_nil (NoP_nil ?_)
            exact ⟨false, H, hK.sub (all_cons rfl (all_cons rfl (all_cons rfl (all_cons rfl (all_nil))))), hS⟩
        · rintro a w ⟨x_484, H, hK, hS⟩
          unfold law07_same.j1 at H
          refine wp_seq ?_
          refine wp_region_lit ?_
          refine sl hK (by decide) rfl rfl (r_move hK rfl) fun a hK => ?_
          refine sl hK (by decide) rfl rfl (r_un hK rfl (u_not _)) fun a hK => ?_
          refine wpList_nil ?_
          refine wp_cond_split (hK.ev rfl) (fun (hb_580 : (!x_484) = true) => ?_) (fun (hb_580 : (!x_484) = false) => ?_)
          · rw [ifb_t hb_580] at H
            refine wp_seq ?_
            refine wp_region_lit ?_
            refine sl hK (by decide) rfl rfl (r_assign hK rfl) fun a hK => ?_
            refine wpList_nil ?_
            obtain rfl := Option.some.inj H
            refine wp_ret ?_
            repeat (first | refine ret_then ?_ | refine ret_block ?_ | refine ret_scope ?_)
            exact ret_1 Try.results9 hK (rv_tmp hK rfl) ⟨rfl, hS.below⟩
          · rw [ifb_f hb_580] at H
            refine wp_skip ?_
            refine wp_region_lit ?_
            refine sl hK (by decide) rfl rfl (r_move hK rfl) fun a hK => ?_
            refine sl hK (by decide) rfl rfl (r_ibin hK rfl rfl rfl) fun a hK => ?_
            refine sl hK (by decide) rfl rfl (r_assign hK rfl) fun a hK => ?_
            refine wpList_nil ?_
            exact ⟨_, Nat.lt_succ_self _, (IntKind.i64.wrap (x_195 + 1)), H, hK.sub (all_cons rfl (all_cons rfl (all_cons rfl (all_nil)))), hS⟩
      · rw [ifb_f hb_389] at H
        refine wp_exit ?_
        refine wp_seq ?_
        refine wp_region_lit ?_
        refine sl hK (by decide) rfl rfl (r_assign hK rfl) fun a hK => ?_
        refine wpList_nil ?_
        obtain rfl := Option.some.inj H
        refine wp_ret ?_
        repeat (first | refine ret_then ?_ | refine ret_block ?_ | refine ret_scope ?_)
        exact ret_1 Try.results9 hK (rv_tmp hK rfl) ⟨rfl, hS.below⟩

/-! ### (*catchment/runs.Run).Len: function 11 -/
set_option maxRecDepth 100000 in
theorem runs_Run_Len.calls (a0 : runs_Run) {w0 : World} {RA : Hp} {b0 : Nat} {o0 : Nat} {v0_0 : Value} (hRA : RA.sub w0) (hc0 : ∀ j u, ([v0_0] : List Value)[j]? = some u → RA.cell b0 (o0 + j) = some u) (h0_0 : SlR ty_api_Sample RA v0_0 a0.l) {r : Int} (H : runs_Run_Len a0 = some r) : CallsV Try.prog 11 #[.pointer (some ⟨b0, o0, none⟩)] w0 (.int .i64 r) := by
  unfold runs_Run_Len at H
  refine enter (args := [.pointer (some ⟨b0, o0, none⟩)]) Try.func11 rfl Try.ntmps11 rfl fun a hK => ?_
  have hS := St.init (R := fun _ => none) (w := w0) (fun _ _ h => by cases h)
  have hRL := RLe.refl (M := []) w0 (fun _ => none)
  refine wp_seq ?_
  refine wp_region_lit ?_
  refine sl hK (by decide) rfl rfl (r_assign hK rfl) fun a hK => ?_
  refine wpList_nil ?_
  refine wp_seq ?_
  refine wp_region_lit ?_
  refine sl hK (by decide) rfl rfl (r_move hK rfl) fun a hK => ?_
  refine sl hK (by decide) rfl rfl (r_nilCheck hK rfl) fun a hK => ?_
  refine sl hK (by decide) rfl rfl (r_fieldAddr Try.underlying50 rfl Try.sizeOf22 hK rfl) fun a hK => ?_
  refine sl hK (by decide) rfl rfl (r_load Try.isAgg22 hK rfl ((hS.ra hRA nil_not).cell (hc0 0 _ rfl))) fun a hK => ?_
  refine sl hK (by decide) rfl rfl (r_len_R Try.underlying22 h0_0 hK rfl) fun a hK => ?_
  refine sl hK (by decide) rfl rfl (r_assign hK rfl) fun a hK => ?_
  refine wpList_nil ?_
  obtain rfl := Option.some.inj H
  refine wp_ret ?_
  repeat (first | refine ret_then ?_ | refine ret_block ?_ | refine ret_scope ?_)
  exact ret_1 Try.results11 hK (rv_tmp hK rfl) ⟨rfl, hS.below⟩

/-! ### catchment/catchmentlaw07.shown: function 6 -/
set_option maxRecDepth 100000 in
theorem law07_shown.calls {r : Bool} (H : law07_shown  = some r) (w0 : World) : CallsV Try.prog 6 #[] w0 (.bool r) := by
  unfold law07_shown at H
  refine enter (args := []) Try.func6 rfl Try.ntmps6 rfl fun a hK => ?_
  have hS := St.init (R := fun _ => none) (w := w0) (fun _ _ h => by cases h)
  have hRL := RLe.refl (M := []) w0 (fun _ => none)
  refine wp_seq ?_
  refine wp_region_lit ?_
  refine sl hK (by decide) rfl rfl (r_assign hK rfl) fun a hK => ?_
  refine wpList_nil ?_
  refine wp_seq ?_
  refine wp_region_lit ?_
  obtain ⟨y_1, h_2, H⟩ := bind_some H
  refine sl_call Try.call7 hK (by decide) rfl rfl rfl (runs_New.calls hS.sub h_2) fun a v_ w hv_ hK => ?_
  obtain ⟨R_3, b_5, v_7, cs_8, hv_, hr_, hl_4, hq_9⟩ := hv_
  have hv_ := hv_.symm
  subst hv_
  obtain ⟨hS, hl_4⟩ := hS.sp0.back hr_ hl_4
  have hS := hS.un2
  have hRL := hRL.trans hl_4
  refine sl hK (by decide) rfl rfl (r_assign hK rfl) fun a hK => ?_
  refine wpList_nil ?_
  refine wp_seq ?_
  refine wp_seq ?_
  refine wp_region_lit ?_
  refine sl hK (by decide) rfl rfl (r_move hK rfl) fun a hK => ?_
  refine sl hK (by decide) rfl rfl (r_peq Try.underlying24 hK rfl rfl) fun a hK => ?_
  refine wpList_nil ?_
  refine wp_cond_false (hK.ev rfl) ?_
  refine wp_skip ?_
  refine wp_seq ?_
  refine wp_region_lit ?_
  refine sl hK (by decide) rfl rfl (r_move hK rfl) fun a hK => ?_
  obtain ⟨y_10, h_11, H⟩ := bind_some H
  refine sl_callV Try.call18 hS hK (by decide) rfl rfl rfl (runs_Run_Span.calls y_1 (lentOf_sub [] _) (hS.lend_box0 (.head _)) (hS.lend_row0 (.tail _ (.head _)) hq_9 rfl rfl) h_11) fun a w hS hK => ?_
  refine sl hK (by decide) rfl rfl (r_move hK rfl) fun a hK => ?_
  refine sl hK (by decide) rfl rfl (r_extract hK rfl rfl) fun a hK => ?_
  refine sl hK (by decide) rfl rfl (r_extract hK rfl rfl) fun a hK => ?_
  refine sl hK (by decide) rfl rfl (r_extract hK rfl rfl) fun a hK => ?_
  refine sl hK (by decide) rfl rfl (r_assign hK rfl) fun a hK => ?_
  refine sl hK (by decide) rfl rfl (r_assign hK rfl) fun a hK => ?_
  refine sl hK (by decide) rfl rfl (r_assign hK rfl) fun a hK => ?_
  refine wpList_nil ?_
  refine wp_seq ?_
  refine wp_region_lit ?_
  refine sl hK (by decide) rfl rfl (r_move hK rfl) fun a hK => ?_
  obtain ⟨y_12, h_13, H⟩ := bind_some H
  refine sl_call Try.call19 hK (by decide) rfl rfl rfl (law07_word.calls (⟨#[97]⟩ : ByteArray) hS.sub h_13) fun a v_ w hv_ hK => ?_
  obtain ⟨R_14, v_17, cs_18, hv_, hr_, hl_15, hq_19⟩ := hv_
  have hv_ := hv_.symm
  subst hv_
  obtain ⟨hS, hl_15⟩ := hS.sp0.back hr_ hl_15
  have hS := hS.un1
  have hRL := hRL.trans hl_15
  obtain ⟨y_20, h_21, H⟩ := bind_some H
  have hS := hS.pk2
  have hS := hS.pk2
  have hS1 := hS.sp2
  refine sl_call Try.call8 hK (by decide) rfl rfl rfl (runs_Run_Add.calls y_1 5 y_12 (lentOf_sub _ _) lentOf_not hS1.lend (hq_9.mono hl_15.le) (hS1.lend_row (.head _) hq_19 rfl rfl) h_21) fun a v_ w hv_ hK => ?_
  obtain ⟨R_22, v_25, cs_26, hv_, hr_, hl_23, hq_27⟩ := hv_
  have hv_ := hv_.symm
  subst hv_
  obtain ⟨hS, hl_23⟩ := hS1.back hr_ hl_23
  have hS := hS.un2
  have hRL := hRL.trans hl_23
  refine sl hK (by decide) rfl rfl (r_assign hK rfl) fun a hK => ?_
  refine wpList_nil ?_
  refine wp_seq ?_
  refine wp_region_lit ?_
  refine sl hK (by decide) rfl rfl (r_move hK rfl) fun a hK => ?_
  obtain ⟨y_28, h_29, H⟩ := bind_some H
  refine sl_call Try.call19 hK (by decide) rfl rfl rfl (law07_word.calls (⟨#[98]⟩ : ByteArray) hS.sub h_29) fun a v_ w hv_ hK => ?_
  obtain ⟨R_30, v_33, cs_34, hv_, hr_, hl_31, hq_35⟩ := hv_
  have hv_ := hv_.symm
  subst hv_
  obtain ⟨hS, hl_31⟩ := hS.sp0.back hr_ hl_31
  have hS := hS.un1
  have hRL := hRL.trans hl_31
  obtain ⟨y_36, h_37, H⟩ := bind_some H
  have hS := hS.pk2
  have hS := hS.pk2
  have hS1 := hS.sp2
  refine sl_call Try.call8 hK (by decide) rfl rfl rfl (runs_Run_Add.calls y_20.2 3 y_28 (lentOf_sub _ _) lentOf_not hS1.lend (hq_27.mono hl_31.le) (hS1.lend_row (.head _) hq_35 rfl rfl) h_37) fun a v_ w hv_ hK => ?_
  obtain ⟨R_38, v_41, cs_42, hv_, hr_, hl_39, hq_43⟩ := hv_
  have hv_ := hv_.symm
  subst hv_
  obtain ⟨hS, hl_39⟩ := hS1.back hr_ hl_39
  have hS := hS.un2
  have hRL := hRL.trans hl_39
  refine sl hK (by decide) rfl rfl (r_assign hK rfl) fun a hK => ?_
  refine wpList_nil ?_
  refine wp_seq ?_
  refine wp_region_lit ?_
  refine sl hK (by decide) rfl rfl (r_move hK rfl) fun a hK => ?_
  obtain ⟨y_44, h_45, H⟩ := bind_some H
  refine sl_call Try.call19 hK (by decide) rfl rfl rfl (law07_word.calls (⟨#[99]⟩ : ByteArray) hS.sub h_45) fun a v_ w hv_ hK => ?_
  obtain ⟨R_46, v_49, cs_50, hv_, hr_, hl_47, hq_51⟩ := hv_
  have hv_ := hv_.symm
  subst hv_
  obtain ⟨hS, hl_47⟩ := hS.sp0.back hr_ hl_47
  have hS := hS.un1
  have hRL := hRL.trans hl_47
  obtain ⟨y_52, h_53, H⟩ := bind_some H
  have hS := hS.pk2
  have hS := hS.pk2
  have hS1 := hS.sp2
  refine sl_call Try.call8 hK (by decide) rfl rfl rfl (runs_Run_Add.calls y_36.2 5 y_44 (lentOf_sub _ _) lentOf_not hS1.lend (hq_43.mono hl_47.le) (hS1.lend_row (.head _) hq_51 rfl rfl) h_53) fun a v_ w hv_ hK => ?_
  obtain ⟨R_54, v_57, cs_58, hv_, hr_, hl_55, hq_59⟩ := hv_
  have hv_ := hv_.symm
  subst hv_
  obtain ⟨hS, hl_55⟩ := hS1.back hr_ hl_55
  have hS := hS.un2
  have hRL := hRL.trans hl_55
  refine sl hK (by decide) rfl rfl (r_assign hK rfl) fun a hK => ?_
  refine wpList_nil ?_
  refine wp_seq ?_
  refine wp_region_lit ?_
  refine sl hK (by decide) rfl rfl (r_move hK rfl) fun a hK => ?_
  obtain ⟨y_60, h_61, H⟩ := bind_some H
  refine sl_call Try.call12 hK (by decide) rfl rfl rfl (runs_Run_Get.calls y_52.2 5 (lentOf_sub [] _) hS.sub (hS.lend_box0 (.head _)) (hS.lend_row0 (.tail _ (.head _)) hq_59 rfl rfl) h_61) fun a v_ w hv_ hK => ?_
  obtain ⟨R_62, v_65, cs_66, hv_, hr_, hl_63, hq_67⟩ := hv_
  have hv_ := hv_.symm
  subst hv_
  obtain ⟨hS, hl_63⟩ := hS.sp0.back hr_ hl_63
  have hS := hS.un1
  have hRL := hRL.trans hl_63
  refine sl hK (by decide) rfl rfl (r_move hK rfl) fun a hK => ?_
  refine sl hK (by decide) rfl rfl (r_extract hK rfl rfl) fun a hK => ?_
  refine sl hK (by decide) rfl rfl (r_extract hK rfl rfl) fun a hK => ?_
  refine sl hK (by decide) rfl rfl (r_assign hK rfl) fun a hK => ?_
  refine sl hK (by decide) rfl rfl (r_assign hK rfl) fun a hK => ?_
  refine wpList_nil ?_
  refine wp_seq ?_
  refine wp_region_lit ?_
  refine sl hK (by decide) rfl rfl (r_move hK rfl) fun a hK => ?_
  obtain ⟨y_68, h_69, H⟩ := bind_some H
  refine sl_call Try.call10 hK (by decide) rfl rfl rfl (runs_Run_Range.calls y_52.2 3 5 (lentOf_sub [] _) hS.sub (hS.lend_box0 (.tail _ (.head _))) (hS.lend_row0 (.tail _ (.tail _ (.head _))) (hq_59.mono hl_63.le) rfl rfl) h_69) fun a v_ w hv_ hK => ?_
  obtain ⟨R_70, v_73, cs_74, hv_, hr_, hl_71, hq_75⟩ := hv_
  have hv_ := hv_.symm
  subst hv_
  obtain ⟨hS, hl_71⟩ := hS.sp0.back hr_ hl_71
  have hS := hS.un1
  have hRL := hRL.trans hl_71
  obtain ⟨y_76, h_77, H⟩ := bind_some H
  refine sl_call Try.call19 hK (by decide) rfl rfl rfl (law07_word.calls (⟨#[98]⟩ : ByteArray) hS.sub h_77) fun a v_ w hv_ hK => ?_
  obtain ⟨R_78, v_81, cs_82, hv_, hr_, hl_79, hq_83⟩ := hv_
  have hv_ := hv_.symm
  subst hv_
  obtain ⟨hS, hl_79⟩ := hS.sp0.back hr_ hl_79
  have hS := hS.un1
  have hRL := hRL.trans hl_79
  have ho_84 := hS.row_one (.head _)
  refine sl hK (by decide) rfl rfl (r_buildC (ps := [(0, .int .i64 3), (1, v_81)]) (c := [.int .i64 3, v_81]) Try.underlying29 Try.zeroValue29 places29 hK rfl (pc_cons rfl (pc_cons (cells1 ho_84) pc_nil)) rfl rfl) fun a hK => ?_
  obtain ⟨y_85, h_86, H⟩ := bind_some H
  refine sl_call Try.call19 hK (by decide) rfl rfl rfl (law07_word.calls (⟨#[97]⟩ : ByteArray) hS.sub h_86) fun a v_ w hv_ hK => ?_
  obtain ⟨R_87, v_90, cs_91, hv_, hr_, hl_88, hq_92⟩ := hv_
  have hv_ := hv_.symm
  subst hv_
  obtain ⟨hS, hl_88⟩ := hS.sp0.back hr_ hl_88
  have hS := hS.un1
  have hRL := hRL.trans hl_88
  have ho_93 := hS.row_one (.head _)
  refine sl hK (by decide) rfl rfl (r_buildC (ps := [(0, .int .i64 5), (1, v_90)]) (c := [.int .i64 5, v_90]) Try.underlying29 Try.zeroValue29 places29 hK rfl (pc_cons rfl (pc_cons (cells1 ho_93) pc_nil)) rfl rfl) fun a hK => ?_
  refine sl_buildSliceC (ps := [(0, .agg #[.int .i64 3, v_81]), (1, .agg #[.int .i64 5, v_90])]) (c := [.int .i64 3, v_81, .int .i64 5, v_90]) Try.underlying22 Try.sizeOf29 Try.zeroValue29 rfl (pc_cons rfl (pc_cons rfl pc_nil)) rfl rfl (by decide) rfl hS hK (by decide) rfl fun a w b_94 hS hK => ?_
  have hS := hS.pk2
  obtain ⟨R_95, hS, hl_97, hs_96⟩ := hS.fz_row (hq_83.mono hl_88.le) rfl rfl
  have hRL := hRL.trans hl_97
  have hS := hS.pk1
  obtain ⟨R_98, hS, hl_100, hs_99⟩ := hS.fz_row (hq_92.mono hl_97.le) rfl rfl
  have hRL := hRL.trans hl_100
  obtain ⟨y_101, h_102, H⟩ := bind_some H
  refine sl_callV Try.call9 hS hK (by decide) rfl rfl rfl (law07_same.calls y_68 [(⟨3, y_76⟩ : api_Sample), (⟨5, y_85⟩ : api_Sample)] (lentOf_sub [] _) (hS.lend_row0 (.tail _ (.head _)) (hq_75.mono (hl_79.le.trans (hl_88.le.trans (hl_97.le.trans hl_100.le)))) rfl rfl) (hS.lend_lit0 (ty := ty_api_Sample) (xs := [(⟨3, y_76⟩ : api_Sample), (⟨5, y_85⟩ : api_Sample)]) (.head _) (Reps.cons (show Ty.rep ty_api_Sample _ [.int .i64 3, v_81] (⟨3, y_76⟩ : api_Sample) from ⟨_, rfl, (hs_96.mono hl_100.le)⟩) (Reps.cons (show Ty.rep ty_api_Sample _ [.int .i64 5, v_90] (⟨5, y_85⟩ : api_Sample) from ⟨_, rfl, hs_99⟩) (Reps.nil _ _))) rfl) h_102) fun a w hS hK => ?_
  refine sl hK (by decide) rfl rfl (r_assign hK rfl) fun a hK => ?_
  refine wpList_nil ?_
  refine wp_seq ?_
  refine wp_region_lit ?_
  refine sl hK (by decide) rfl rfl (r_move hK rfl) fun a hK => ?_
  obtain ⟨y_103, h_104, H⟩ := bind_some H
  refine sl_call Try.call10 hK (by decide) rfl rfl rfl (runs_Run_Range.calls y_52.2 4 9 (lentOf_sub [] _) hS.sub (hS.lend_box0 (.tail _ (.tail _ (.tail _ (.head _))))) (hS.lend_row0 (.tail _ (.tail _ (.tail _ (.tail _ (.head _))))) (hq_59.mono (hl_63.le.trans (hl_71.le.trans (hl_79.le.trans (hl_88.le.trans (hl_97.le.trans hl_100.le)))))) rfl rfl) h_104) fun a v_ w hv_ hK => ?_
  obtain ⟨R_105, v_108, cs_109, hv_, hr_, hl_106, hq_110⟩ := hv_
  have hv_ := hv_.symm
  subst hv_
  obtain ⟨hS, hl_106⟩ := hS.sp0.back hr_ hl_106
  have hS := hS.un1
  have hRL := hRL.trans hl_106
  obtain ⟨y_111, h_112, H⟩ := bind_some H
  refine sl_call Try.call19 hK (by decide) rfl rfl rfl (law07_word.calls (⟨#[97]⟩ : ByteArray) hS.sub h_112) fun a v_ w hv_ hK => ?_
  obtain ⟨R_113, v_116, cs_117, hv_, hr_, hl_114, hq_118⟩ := hv_
  have hv_ := hv_.symm
  subst hv_
  obtain ⟨hS, hl_114⟩ := hS.sp0.back hr_ hl_114
  have hS := hS.un1
  have hRL := hRL.trans hl_114
  have ho_119 := hS.row_one (.head _)
  refine sl hK (by decide) rfl rfl (r_buildC (ps := [(0, .int .i64 5), (1, v_116)]) (c := [.int .i64 5, v_116]) Try.underlying29 Try.zeroValue29 places29 hK rfl (pc_cons rfl (pc_cons (cells1 ho_119) pc_nil)) rfl rfl) fun a hK => ?_
  refine sl_buildSliceC (ps := [(0, .agg #[.int .i64 5, v_116])]) (c := [.int .i64 5, v_116]) Try.underlying22 Try.sizeOf29 Try.zeroValue29 rfl (pc_cons rfl pc_nil) rfl rfl (by decide) rfl hS hK (by decide) rfl fun a w b_120 hS hK => ?_
  have hS := hS.pk1
  obtain ⟨R_121, hS, hl_123, hs_122⟩ := hS.fz_row hq_118 rfl rfl
  have hRL := hRL.trans hl_123
  obtain ⟨y_124, h_125, H⟩ := bind_some H
  refine sl_callV Try.call9 hS hK (by decide) rfl rfl rfl (law07_same.calls y_103 [(⟨5, y_111⟩ : api_Sample)] (lentOf_sub [] _) (hS.lend_row0 (.tail _ (.head _)) (hq_110.mono (hl_114.le.trans hl_123.le)) rfl rfl) (hS.lend_lit0 (ty := ty_api_Sample) (xs := [(⟨5, y_111⟩ : api_Sample)]) (.head _) (Reps.cons (show Ty.rep ty_api_Sample _ [.int .i64 5, v_116] (⟨5, y_111⟩ : api_Sample) from ⟨_, rfl, hs_122⟩) (Reps.nil _ _)) rfl) h_125) fun a w hS hK => ?_
  refine sl hK (by decide) rfl rfl (r_assign hK rfl) fun a hK => ?_
  refine wpList_nil ?_
  refine wp_seq ?_
  refine wp_region_lit ?_
  refine sl hK (by decide) rfl rfl (r_move hK rfl) fun a hK => ?_
  obtain ⟨y_126, h_127, H⟩ := bind_some H
  refine sl_callV Try.call18 hS hK (by decide) rfl rfl rfl (runs_Run_Span.calls y_52.2 (lentOf_sub [] _) (hS.lend_box0 (.tail _ (.tail _ (.tail _ (.tail _ (.tail _ (.head _))))))) (hS.lend_row0 (.tail _ (.tail _ (.tail _ (.tail _ (.tail _ (.tail _ (.head _))))))) (hq_59.mono (hl_63.le.trans (hl_71.le.trans (hl_79.le.trans (hl_88.le.trans (hl_97.le.trans (hl_100.le.trans (hl_106.le.trans (hl_114.le.trans hl_123.le))))))))) rfl rfl) h_127) fun a w hS hK => ?_
  refine sl hK (by decide) rfl rfl (r_move hK rfl) fun a hK => ?_
  refine sl hK (by decide) rfl rfl (r_extract hK rfl rfl) fun a hK => ?_
  refine sl hK (by decide) rfl rfl (r_extract hK rfl rfl) fun a hK => ?_
  refine sl hK (by decide) rfl rfl (r_extract hK rfl rfl) fun a hK => ?_
  refine sl hK (by decide) rfl rfl (r_assign hK rfl) fun a hK => ?_
  refine sl hK (by decide) rfl rfl (r_assign hK rfl) fun a hK => ?_
  refine sl hK (by decide) rfl rfl (r_assign hK rfl) fun a hK => ?_
  refine wpList_nil ?_
  refine wp_seq ?_
  refine wp_region_lit ?_
  refine sl hK (by decide) rfl rfl (r_move hK rfl) fun a hK => ?_
  refine sl hK (by decide) rfl rfl (r_un hK rfl (u_not _)) fun a hK => ?_
  refine sl hK (by decide) rfl rfl (r_move hK rfl) fun a hK => ?_
  rcases or_b (!y_10.2.2) with hb_128 | hb_128
  · rw [ifb_t hb_128] at H
    refine sl hK (by decide) (wtt hb_128) rfl (r_move hK rfl) fun a hK => ?_
    refine sl hK (by decide) rfl rfl (r_pick_t hb_128 hK rfl rfl) fun a hK => ?_
    refine sl hK (by decide) rfl rfl (r_move hK rfl) fun a hK => ?_
    rcases or_b y_20.1 with hb_129 | hb_129
    · rw [ifb_t hb_129] at H
      refine sl hK (by decide) (wtt hb_129) rfl (r_move hK rfl) fun a hK => ?_
      refine sl hK (by decide) rfl rfl (r_pick_t hb_129 hK rfl rfl) fun a hK => ?_
      refine sl hK (by decide) rfl rfl (r_move hK rfl) fun a hK => ?_
      rcases or_b y_36.1 with hb_130 | hb_130
      · rw [ifb_t hb_130] at H
        refine sl hK (by decide) (wtt hb_130) rfl (r_move hK rfl) fun a hK => ?_
        refine sl hK (by decide) (wtt hb_130) rfl (r_un hK rfl (u_not _)) fun a hK => ?_
        refine sl hK (by decide) rfl rfl (r_pick_t hb_130 hK rfl rfl) fun a hK => ?_
        refine sl hK (by decide) rfl rfl (r_move hK rfl) fun a hK => ?_
        rcases or_b (!y_52.1) with hb_131 | hb_131
        · rw [ifb_t hb_131] at H
          refine sl hK (by decide) (wtt hb_131) rfl (r_move hK rfl) fun a hK => ?_
          refine sl hK (by decide) (wtt hb_131) rfl (r_len_O Try.underlying27 hS (.tail _ (.tail _ (.tail _ (.tail _ (.head _))))) hK rfl) fun a hK => ?_
          refine sl hK (by decide) (wtt hb_131) rfl (r_ibin hK rfl rfl rfl) fun a hK => ?_
          refine sl hK (by decide) rfl rfl (r_pick_t hb_131 hK rfl rfl) fun a hK => ?_
          refine sl hK (by decide) rfl rfl (r_move hK rfl) fun a hK => ?_
          rcases or_b ((y_60.1.length : Int) == 1) with hb_132 | hb_132
          · rw [ifb_t hb_132] at H
            refine sl hK (by decide) (wtt hb_132) rfl (r_move hK rfl) fun a hK => ?_
            obtain ⟨y_133, h_134, H⟩ := bind_some H
            obtain ⟨b_136, c_137, cs_138, hv_135, hr_139, hc_140, h_1340, h_1341⟩ := hS.row_ix (.tail _ (.tail _ (.tail _ (.tail _ (.head _))))) (hq_67.mono (hl_71.le.trans (hl_79.le.trans (hl_88.le.trans (hl_97.le.trans (hl_100.le.trans (hl_106.le.trans (hl_114.le.trans hl_123.le)))))))) rfl rfl h_134
            subst hr_139
            refine sl hK (by decide) (wtt hb_132) rfl (r_indexAddr_R Try.underlying27 Try.sizeOf44 hv_135 h_1340 h_1341 hK rfl rfl) fun a hK => ?_
            refine sl hK (by decide) (wtt hb_132) rfl (r_fieldAddr Try.underlying44 rfl Try.sizeOf9 hK rfl) fun a hK => ?_
            refine sl hK (by decide) (wtt hb_132) rfl (r_load Try.isAgg9 hK rfl (by have h_ := hS.row_cell (.tail _ (.tail _ (.tail _ (.tail _ (.head _))))) hv_135 (hc_140 2 _ rfl); simpa [Nat.add_assoc] using h_)) fun a hK => ?_
            refine sl hK (by decide) (wtt hb_132) rfl (r_sbin hK rfl rfl rfl) fun a hK => ?_
            refine sl hK (by decide) rfl rfl (r_pick_t hb_132 hK rfl rfl) fun a hK => ?_
            refine sl hK (by decide) rfl rfl (r_move hK rfl) fun a hK => ?_
            rcases or_b (y_133.S.toList == (⟨#[97]⟩ : ByteArray).toList) with hb_141 | hb_141
            · rw [ifb_t hb_141] at H
              refine sl hK (by decide) (wtt hb_141) rfl (r_move hK rfl) fun a hK => ?_
              refine sl hK (by decide) rfl rfl (r_pick_t hb_141 hK rfl rfl) fun a hK => ?_
              refine sl hK (by decide) rfl rfl (r_move hK rfl) fun a hK => ?_
              rcases or_b y_60.2 with hb_142 | hb_142
              · rw [ifb_t hb_142] at H
                refine sl hK (by decide) (wtt hb_142) rfl (r_move hK rfl) fun a hK => ?_
                obtain ⟨y_143, h_144, H⟩ := bind_some H
                refine sl_callV Try.call11 hS hK (by decide) (wtt hb_142) rfl rfl (runs_Run_Len.calls y_52.2 (lentOf_sub [] _) (hS.lend_box0 (.tail _ (.tail _ (.tail _ (.tail _ (.tail _ (.head _))))))) (hS.lend_row0 (.tail _ (.tail _ (.tail _ (.tail _ (.tail _ (.tail _ (.head _))))))) (hq_59.mono (hl_63.le.trans (hl_71.le.trans (hl_79.le.trans (hl_88.le.trans (hl_97.le.trans (hl_100.le.trans (hl_106.le.trans (hl_114.le.trans hl_123.le))))))))) rfl rfl) h_144) fun a w hS hK => ?_
                refine sl hK (by decide) (wtt hb_142) rfl (r_ibin hK rfl rfl rfl) fun a hK => ?_
                refine sl hK (by decide) rfl rfl (r_pick_t hb_142 hK rfl rfl) fun a hK => ?_
                refine sl hK (by decide) rfl rfl (r_move hK rfl) fun a hK => ?_
                rcases or_b (y_143 == 2) with hb_145 | hb_145
                · rw [ifb_t hb_145] at H
                  refine sl hK (by decide) (wtt hb_145) rfl (r_move hK rfl) fun a hK => ?_
                  refine sl hK (by decide) rfl rfl (r_pick_t hb_145 hK rfl rfl) fun a hK => ?_
                  refine sl hK (by decide) rfl rfl (r_move hK rfl) fun a hK => ?_
                  rcases or_b y_101 with hb_146 | hb_146
                  · rw [ifb_t hb_146] at H
                    refine sl hK (by decide) (wtt hb_146) rfl (r_move hK rfl) fun a hK => ?_
                    refine sl hK (by decide) rfl rfl (r_pick_t hb_146 hK rfl rfl) fun a hK => ?_
                    refine sl hK (by decide) rfl rfl (r_move hK rfl) fun a hK => ?_
                    rcases or_b y_124 with hb_147 | hb_147
                    · rw [ifb_t hb_147] at H
                      refine sl hK (by decide) (wtt hb_147) rfl (r_move hK rfl) fun a hK => ?_
                      obtain ⟨y_148, h_149, H⟩ := bind_some H
                      refine sl_call Try.call10 hK (by decide) (wtt hb_147) rfl rfl (runs_Run_Range.calls y_52.2 9 3 (lentOf_sub [] _) hS.sub (hS.lend_box0 (.tail _ (.tail _ (.tail _ (.tail _ (.tail _ (.head _))))))) (hS.lend_row0 (.tail _ (.tail _ (.tail _ (.tail _ (.tail _ (.tail _ (.head _))))))) (hq_59.mono (hl_63.le.trans (hl_71.le.trans (hl_79.le.trans (hl_88.le.trans (hl_97.le.trans (hl_100.le.trans (hl_106.le.trans (hl_114.le.trans hl_123.le))))))))) rfl rfl) h_149) fun a v_ w hv_ hK => ?_
                      obtain ⟨R_150, v_153, cs_154, hv_, hr_, hl_151, hq_155⟩ := hv_
                      have hv_ := hv_.symm
                      subst hv_
                      obtain ⟨hS, hl_151⟩ := hS.sp0.back hr_ hl_151
                      have hS := hS.un1
                      have hRL := hRL.trans hl_151
                      refine sl hK (by decide) (wtt hb_147) rfl (r_len_O Try.underlying22 hS (.head _) hK rfl) fun a hK => ?_
                      refine sl hK (by decide) (wtt hb_147) rfl (r_ibin hK rfl rfl rfl) fun a hK => ?_
                      refine sl hK (by decide) rfl rfl (r_pick_t hb_147 hK rfl rfl) fun a hK => ?_
                      refine sl hK (by decide) rfl rfl (r_move hK rfl) fun a hK => ?_
                      rcases or_b ((y_148.length : Int) == 0) with hb_156 | hb_156
                      · rw [ifb_t hb_156] at H
                        refine sl hK (by decide) (wtt hb_156) rfl (r_move hK rfl) fun a hK => ?_
                        refine sl hK (by decide) (wtt hb_156) rfl (r_ibin hK rfl rfl rfl) fun a hK => ?_
                        refine sl hK (by decide) rfl rfl (r_pick_t hb_156 hK rfl rfl) fun a hK => ?_
                        refine sl hK (by decide) rfl rfl (r_move hK rfl) fun a hK => ?_
                        rcases or_b (y_126.1 == 3) with hb_157 | hb_157
                        · rw [ifb_t hb_157] at H
                          refine sl hK (by decide) (wtt hb_157) rfl (r_move hK rfl) fun a hK => ?_
                          refine sl hK (by decide) (wtt hb_157) rfl (r_ibin hK rfl rfl rfl) fun a hK => ?_
                          refine sl hK (by decide) rfl rfl (r_pick_t hb_157 hK rfl rfl) fun a hK => ?_
                          refine sl hK (by decide) rfl rfl (r_move hK rfl) fun a hK => ?_
                          rcases or_b (y_126.2.1 == 5) with hb_158 | hb_158
                          · rw [ifb_t hb_158] at H
                            refine sl hK (by decide) (wtt hb_158) rfl (r_move hK rfl) fun a hK => ?_
                            refine sl hK (by decide) rfl rfl (r_pick_t hb_158 hK rfl rfl) fun a hK => ?_
                            refine sl hK (by decide) rfl rfl (r_assign hK rfl) fun a hK => ?_
                            refine wpList_nil ?_
                            obtain rfl := Option.some.inj H
                            refine wp_ret ?_
                            repeat (first | refine ret_then ?_ | refine ret_block ?_ | refine ret_scope ?_)
                            exact ret_1 Try.results6 hK (rv_tmp hK rfl) ⟨rfl, hS.below⟩
                          · rw [ifb_f hb_158] at H
                            refine sl_skip hK (by decide) (wtf hb_158) rfl fun a hK => ?_
                            refine sl hK (by decide) rfl rfl (r_pick_f hb_158 hK rfl rfl) fun a hK => ?_
                            refine sl hK (by decide) rfl rfl (r_assign hK rfl) fun a hK => ?_
                            refine wpList_nil ?_
                            obtain rfl := Option.some.inj H
                            refine wp_ret ?_
                            repeat (first | refine ret_then ?_ | refine ret_block ?_ | refine ret_scope ?_)
                            exact ret_1 Try.results6 hK (rv_tmp hK rfl) ⟨rfl, hS.below⟩
                        · rw [ifb_f hb_157] at H
                          refine sl_skip hK (by decide) (wtf hb_157) rfl fun a hK => ?_
                          refine sl_skip hK (by decide) (wtf hb_157) rfl fun a hK => ?_
                          refine sl hK (by decide) rfl rfl (r_pick_f hb_157 hK rfl rfl) fun a hK => ?_
                          refine sl hK (by decide) rfl rfl (r_move hK rfl) fun a hK => ?_
                          refine sl_skip hK (by decide) rfl rfl fun a hK => ?_
                          refine sl hK (by decide) rfl rfl (r_pick hK rfl rfl rfl) fun a hK => ?_
                          refine sl hK (by decide) rfl rfl (r_assign hK rfl) fun a hK => ?_
                          refine wpList_nil ?_
                          obtain rfl := Option.some.inj H
                          refine wp_ret ?_
                          repeat (first | refine ret_then ?_ | refine ret_block ?_ | refine ret_scope ?_)
                          exact ret_1 Try.results6 hK (rv_tmp hK rfl) ⟨rfl, hS.below⟩
                      · rw [ifb_f hb_156] at H
                        refine sl_skip hK (by decide) (wtf hb_156) rfl fun a hK => ?_
                        refine sl_skip hK (by decide) (wtf hb_156) rfl fun a hK => ?_
                        refine sl hK (by decide) rfl rfl (r_pick_f hb_156 hK rfl rfl) fun a hK => ?_
                        refine sl hK (by decide) rfl rfl (r_move hK rfl) fun a hK => ?_
                        refine sl_skip hK (by decide) rfl rfl fun a hK => ?_
                        refine sl_skip hK (by decide) rfl rfl fun a hK => ?_
                        refine sl hK (by decide) rfl rfl (r_pick hK rfl rfl rfl) fun a hK => ?_
                        refine sl hK (by decide) rfl rfl (r_move hK rfl) fun a hK => ?_
                        refine sl_skip hK (by decide) rfl rfl fun a hK => ?_
                        refine sl hK (by decide) rfl rfl (r_pick hK rfl rfl rfl) fun a hK => ?_
                        refine sl hK (by decide) rfl rfl (r_assign hK rfl) fun a hK => ?_
                        refine wpList_nil ?_
                        obtain rfl := Option.some.inj H
                        refine wp_ret ?_
                        repeat (first | refine ret_then ?_ | refine ret_block ?_ | refine ret_scope ?_)
                        exact ret_1 Try.results6 hK (rv_tmp hK rfl) ⟨rfl, hS.below⟩
                    · rw [ifb_f hb_147] at H
                      refine sl_skip hK (by decide) (wtf hb_147) rfl fun a hK => ?_
                      refine sl_skip hK (by decide) (wtf hb_147) rfl fun a hK => ?_
                      refine sl_skip hK (by decide) (wtf hb_147) rfl fun a hK => ?_
                      refine sl_skip hK (by decide) (wtf hb_147) rfl fun a hK => ?_
                      refine sl hK (by decide) rfl rfl (r_pick_f hb_147 hK rfl rfl) fun a hK => ?_
                      refine sl hK (by decide) rfl rfl (r_move hK rfl) fun a hK => ?_
                      refine sl_skip hK (by decide) rfl rfl fun a hK => ?_
                      refine sl_skip hK (by decide) rfl rfl fun a hK => ?_
                      refine sl hK (by decide) rfl rfl (r_pick hK rfl rfl rfl) fun a hK => ?_
                      refine sl hK (by decide) rfl rfl (r_move hK rfl) fun a hK => ?_
                      refine sl_skip hK (by decide) rfl rfl fun a hK => ?_
                      refine sl_skip hK (by decide) rfl rfl fun a hK => ?_
                      refine sl hK (by decide) rfl rfl (r_pick hK rfl rfl rfl) fun a hK => ?_
                      refine sl hK (by decide) rfl rfl (r_move hK rfl) fun a hK => ?_
                      refine sl_skip hK (by decide) rfl rfl fun a hK => ?_
                      refine sl hK (by decide) rfl rfl (r_pick hK rfl rfl rfl) fun a hK => ?_
                      refine sl hK (by decide) rfl rfl (r_assign hK rfl) fun a hK => ?_
                      refine wpList_nil ?_
                      obtain rfl := Option.some.inj H
                      refine wp_ret ?_
                      repeat (first | refine ret_then ?_ | refine ret_block ?_ | refine ret_scope ?_)
                      exact ret_1 Try.results6 hK (rv_tmp hK rfl) ⟨rfl, hS.below⟩
                  · rw [ifb_f hb_146] at H
                    refine sl_skip hK (by decide) (wtf hb_146) rfl fun a hK => ?_
                    refine sl hK (by decide) rfl rfl (r_pick_f hb_146 hK rfl rfl) fun a hK => ?_
                    refine sl hK (by decide) rfl rfl (r_move hK rfl) fun a hK => ?_
                    refine sl_skip hK (by decide) rfl rfl fun a hK => ?_
                    refine sl_skip hK (by decide) rfl rfl fun a hK => ?_
                    refine sl_skip hK (by decide) rfl rfl fun a hK => ?_
                    refine sl_skip hK (by decide) rfl rfl fun a hK => ?_
                    refine sl hK (by decide) rfl rfl (r_pick hK rfl rfl rfl) fun a hK => ?_
                    refine sl hK (by decide) rfl rfl (r_move hK rfl) fun a hK => ?_
                    refine sl_skip hK (by decide) rfl rfl fun a hK => ?_
                    refine sl_skip hK (by decide) rfl rfl fun a hK => ?_
                    refine sl hK (by decide) rfl rfl (r_pick hK rfl rfl rfl) fun a hK => ?_
                    refine sl hK (by decide) rfl rfl (r_move hK rfl) fun a hK => ?_
                    refine sl_skip hK (by decide) rfl rfl fun a hK => ?_
                    refine sl_skip hK (by decide) rfl rfl fun a hK => ?_
                    refine sl hK (by decide) rfl rfl (r_pick hK rfl rfl rfl) fun a hK => ?_
                    refine sl hK (by decide) rfl rfl (r_move hK rfl) fun a hK => ?_
                    refine sl_skip hK (by decide) rfl rfl fun a hK => ?_
                    refine sl hK (by decide) rfl rfl (r_pick hK rfl rfl rfl) fun a hK => ?_
                    refine sl hK (by decide) rfl rfl (r_assign hK rfl) fun a hK => ?_
                    refine wpList_nil ?_
                    obtain rfl := Option.some.inj H
                    refine wp_ret ?_
                    repeat (first | refine ret_then ?_ | refine ret_block ?_ | refine ret_scope ?_)
                    exact ret_1 Try.results6 hK (rv_tmp hK rfl) ⟨rfl, hS.below⟩
                · rw [ifb_f hb_145] at H
                  refine sl_skip hK (by decide) (wtf hb_145) rfl fun a hK => ?_
                  refine sl hK (by decide) rfl rfl (r_pick_f hb_145 hK rfl rfl) fun a hK => ?_
                  refine sl hK (by decide) rfl rfl (r_move hK rfl) fun a hK => ?_
                  refine sl_skip hK (by decide) rfl rfl fun a hK => ?_
                  refine sl hK (by decide) rfl rfl (r_pick hK rfl rfl rfl) fun a hK => ?_
                  refine sl hK (by decide) rfl rfl (r_move hK rfl) fun a hK => ?_
                  refine sl_skip hK (by decide) rfl rfl fun a hK => ?_
                  refine sl_skip hK (by decide) rfl rfl fun a hK => ?_
                  refine sl_skip hK (by decide) rfl rfl fun a hK => ?_
                  refine sl_skip hK (by decide) rfl rfl fun a hK => ?_
                  refine sl hK (by decide) rfl rfl (r_pick hK rfl rfl rfl) fun a hK => ?_
                  refine sl hK (by decide) rfl rfl (r_move hK rfl) fun a hK => ?_
                  refine sl_skip hK (by decide) rfl rfl fun a hK => ?_
                  refine sl_skip hK (by decide) rfl rfl fun a hK => ?_
                  refine sl hK (by decide) rfl rfl (r_pick hK rfl rfl rfl) fun a hK => ?_
                  refine sl hK (by decide) rfl rfl (r_move hK rfl) fun a hK => ?_
                  refine sl_skip hK (by decide) rfl rfl fun a hK => ?_
                  refine sl_skip hK (by decide) rfl rfl fun a hK => ?_
                  refine sl hK (by decide) rfl rfl (r_pick hK rfl rfl rfl) fun a hK => ?_
                  refine sl hK (by decide) rfl rfl (r_move hK rfl) fun a hK => ?_
                  refine sl_skip hK (by decide) rfl rfl fun a hK => ?_
                  refine sl hK (by decide) rfl rfl (r_pick hK rfl rfl rfl) fun a hK => ?_
                  refine sl hK (by decide) rfl rfl (r_assign hK rfl) fun a hK => ?_
                  refine wpList_nil ?_
                  obtain rfl := Option.some.inj H
                  refine wp_ret ?_
                  repeat (first | refine ret_then ?_ | refine ret_block ?_ | refine ret_scope ?_)
                  exact ret_1 Try.results6 hK (rv_tmp hK rfl) ⟨rfl, hS.below⟩
              · rw [ifb_f hb_142] at H
                refine sl_skip hK (by decide) (wtf hb_142) rfl fun a hK => ?_
                refine sl_skip hK (by decide) (wtf hb_142) rfl fun a hK => ?_
                refine sl_skip hK (by decide) (wtf hb_142) rfl fun a hK => ?_
                refine sl hK (by decide) rfl rfl (r_pick_f hb_142 hK rfl rfl) fun a hK => ?_
                refine sl hK (by decide) rfl rfl (r_move hK rfl) fun a hK => ?_
                refine sl_skip hK (by decide) rfl rfl fun a hK => ?_
                refine sl hK (by decide) rfl rfl (r_pick hK rfl rfl rfl) fun a hK => ?_
                refine sl hK (by decide) rfl rfl (r_move hK rfl) fun a hK => ?_
                refine sl_skip hK (by decide) rfl rfl fun a hK => ?_
                refine sl hK (by decide) rfl rfl (r_pick hK rfl rfl rfl) fun a hK => ?_
                refine sl hK (by decide) rfl rfl (r_move hK rfl) fun a hK => ?_
                refine sl_skip hK (by decide) rfl rfl fun a hK => ?_
                refine sl_skip hK (by decide) rfl rfl fun a hK => ?_
                refine sl_skip hK (by decide) rfl rfl fun a hK => ?_
                refine sl_skip hK (by decide) rfl rfl fun a hK => ?_
                refine sl hK (by decide) rfl rfl (r_pick hK rfl rfl rfl) fun a hK => ?_
                refine sl hK (by decide) rfl rfl (r_move hK rfl) fun a hK => ?_
                refine sl_skip hK (by decide) rfl rfl fun a hK => ?_
                refine sl_skip hK (by decide) rfl rfl fun a hK => ?_
                refine sl hK (by decide) rfl rfl (r_pick hK rfl rfl rfl) fun a hK => ?_
                refine sl hK (by decide) rfl rfl (r_move hK rfl) fun a hK => ?_
                refine sl_skip hK (by decide) rfl rfl fun a hK => ?_
                refine sl_skip hK (by decide) rfl rfl fun a hK => ?_
                refine sl hK (by decide) rfl rfl (r_pick hK rfl rfl rfl) fun a hK => ?_
                refine sl hK (by decide) rfl rfl (r_move hK rfl) fun a hK => ?_
                refine sl_skip hK (by decide) rfl rfl fun a hK => ?_
                refine sl hK (by decide) rfl rfl (r_pick hK rfl rfl rfl) fun a hK => ?_
                refine sl hK (by decide) rfl rfl (r_assign hK rfl) fun a hK => ?_
                refine wpList_nil ?_
                obtain rfl := Option.some.inj H
                refine wp_ret ?_
                repeat (first | refine ret_then ?_ | refine ret_block ?_ | refine ret_scope ?_)
                exact ret_1 Try.results6 hK (rv_tmp hK rfl) ⟨rfl, hS.below⟩
            · rw [ifb_f hb_141] at H
              refine sl_skip hK (by decide) (wtf hb_141) rfl fun a hK => ?_
              refine sl hK (by decide) rfl rfl (r_pick_f hb_141 hK rfl rfl) fun a hK => ?_
              refine sl hK (by decide) rfl rfl (r_move hK rfl) fun a hK => ?_
              refine sl_skip hK (by decide) rfl rfl fun a hK => ?_
              refine sl_skip hK (by decide) rfl rfl fun a hK => ?_
              refine sl_skip hK (by decide) rfl rfl fun a hK => ?_
              refine sl hK (by decide) rfl rfl (r_pick hK rfl rfl rfl) fun a hK => ?_
              refine sl hK (by decide) rfl rfl (r_move hK rfl) fun a hK => ?_
              refine sl_skip hK (by decide) rfl rfl fun a hK => ?_
              refine sl hK (by decide) rfl rfl (r_pick hK rfl rfl rfl) fun a hK => ?_
              refine sl hK (by decide) rfl rfl (r_move hK rfl) fun a hK => ?_
              refine sl_skip hK (by decide) rfl rfl fun a hK => ?_
              refine sl hK (by decide) rfl rfl (r_pick hK rfl rfl rfl) fun a hK => ?_
              refine sl hK (by decide) rfl rfl (r_move hK rfl) fun a hK => ?_
              refine sl_skip hK (by decide) rfl rfl fun a hK => ?_
              refine sl_skip hK (by decide) rfl rfl fun a hK => ?_
              refine sl_skip hK (by decide) rfl rfl fun a hK => ?_
              refine sl_skip hK (by decide) rfl rfl fun a hK => ?_
              refine sl hK (by decide) rfl rfl (r_pick hK rfl rfl rfl) fun a hK => ?_
              refine sl hK (by decide) rfl rfl (r_move hK rfl) fun a hK => ?_
              refine sl_skip hK (by decide) rfl rfl fun a hK => ?_
              refine sl_skip hK (by decide) rfl rfl fun a hK => ?_
              refine sl hK (by decide) rfl rfl (r_pick hK rfl rfl rfl) fun a hK => ?_
              refine sl hK (by decide) rfl rfl (r_move hK rfl) fun a hK => ?_
              refine sl_skip hK (by decide) rfl rfl fun a hK => ?_
              refine sl_skip hK (by decide) rfl rfl fun a hK => ?_
              refine sl hK (by decide) rfl rfl (r_pick hK rfl rfl rfl) fun a hK => ?_
              refine sl hK (by decide) rfl rfl (r_move hK rfl) fun a hK => ?_
              refine sl_skip hK (by decide) rfl rfl fun a hK => ?_
              refine sl hK (by decide) rfl rfl (r_pick hK rfl rfl rfl) fun a hK => ?_
              refine sl hK (by decide) rfl rfl (r_assign hK rfl) fun a hK => ?_
              refine wpList_nil ?_
              obtain rfl := Option.some.inj H
              refine wp_ret ?_
              repeat (first | refine ret_then ?_ | refine ret_block ?_ | refine ret_scope ?_)
              exact ret_1 Try.results6 hK (rv_tmp hK rfl) ⟨rfl, hS.below⟩
          · rw [ifb_f hb_132] at H
            refine sl_skip hK (by decide) (wtf hb_132) rfl fun a hK => ?_
            refine sl_skip hK (by decide) (wtf hb_132) rfl fun a hK => ?_
            refine sl_skip hK (by decide) (wtf hb_132) rfl fun a hK => ?_
            refine sl_skip hK (by decide) (wtf hb_132) rfl fun a hK => ?_
            refine sl_skip hK (by decide) (wtf hb_132) rfl fun a hK => ?_
            refine sl hK (by decide) rfl rfl (r_pick_f hb_132 hK rfl rfl) fun a hK => ?_
            refine sl hK (by decide) rfl rfl (r_move hK rfl) fun a hK => ?_
            refine sl_skip hK (by decide) rfl rfl fun a hK => ?_
            refine sl hK (by decide) rfl rfl (r_pick hK rfl rfl rfl) fun a hK => ?_
            refine sl hK (by decide) rfl rfl (r_move hK rfl) fun a hK => ?_
            refine sl_skip hK (by decide) rfl rfl fun a hK => ?_
            refine sl_skip hK (by decide) rfl rfl fun a hK => ?_
            refine sl_skip hK (by decide) rfl rfl fun a hK => ?_
            refine sl hK (by decide) rfl rfl (r_pick hK rfl rfl rfl) fun a hK => ?_
            refine sl hK (by decide) rfl rfl (r_move hK rfl) fun a hK => ?_
            refine sl_skip hK (by decide) rfl rfl fun a hK => ?_
            refine sl hK (by decide) rfl rfl (r_pick hK rfl rfl rfl) fun a hK => ?_
            refine sl hK (by decide) rfl rfl (r_move hK rfl) fun a hK => ?_
            refine sl_skip hK (by decide) rfl rfl fun a hK => ?_
            refine sl hK (by decide) rfl rfl (r_pick hK rfl rfl rfl) fun a hK => ?_
            refine sl hK (by decide) rfl rfl (r_move hK rfl) fun a hK => ?_
            refine sl_skip hK (by decide) rfl rfl fun a hK => ?_
            refine sl_skip hK (by decide) rfl rfl fun a hK => ?_
            refine sl_skip hK (by decide) rfl rfl fun a hK => ?_
            refine sl_skip hK (by decide) rfl rfl fun a hK => ?_
            refine sl hK (by decide) rfl rfl (r_pick hK rfl rfl rfl) fun a hK => ?_
            refine sl hK (by decide) rfl rfl (r_move hK rfl) fun a hK => ?_
            refine sl_skip hK (by decide) rfl rfl fun a hK => ?_
            refine sl_skip hK (by decide) rfl rfl fun a hK => ?_
            refine sl hK (by decide) rfl rfl (r_pick hK rfl rfl rfl) fun a hK => ?_
            refine sl hK (by decide) rfl rfl (r_move hK rfl) fun a hK => ?_
            refine sl_skip hK (by decide) rfl rfl fun a hK => ?_
            refine sl_skip hK (by decide) rfl rfl fun a hK => ?_
            refine sl hK (by decide) rfl rfl (r_pick hK rfl rfl rfl) fun a hK => ?_
            refine sl hK (by decide) rfl rfl (r_move hK rfl) fun a hK => ?_
            refine sl_skip hK (by decide) rfl rfl fun a hK => ?_
            refine sl hK (by decide) rfl rfl (r_pick hK rfl rfl rfl) fun a hK => ?_
            refine sl hK (by decide) rfl rfl (r_assign hK rfl) fun a hK => ?_
            refine wpList_nil ?_
            obtain rfl := Option.some.inj H
            refine wp_ret ?_
            repeat (first | refine ret_then ?_ | refine ret_block ?_ | refine ret_scope ?_)
            exact ret_1 Try.results6 hK (rv_tmp hK rfl) ⟨rfl, hS.below⟩
        · rw [ifb_f hb_131] at H
          refine sl_skip hK (by decide) (wtf hb_131) rfl fun a hK => ?_
          refine sl_skip hK (by decide) (wtf hb_131) rfl fun a hK => ?_
          refine sl_skip hK (by decide) (wtf hb_131) rfl fun a hK => ?_
          refine sl hK (by decide) rfl rfl (r_pick_f hb_131 hK rfl rfl) fun a hK => ?_
          refine sl hK (by decide) rfl rfl (r_move hK rfl) fun a hK => ?_
          refine sl_skip hK (by decide) rfl rfl fun a hK => ?_
          refine sl_skip hK (by decide) rfl rfl fun a hK => ?_
          refine sl_skip hK (by decide) rfl rfl fun a hK => ?_
          refine sl_skip hK (by decide) rfl rfl fun a hK => ?_
          refine sl_skip hK (by decide) rfl rfl fun a hK => ?_
          refine sl hK (by decide) rfl rfl (r_pick hK rfl rfl rfl) fun a hK => ?_
          refine sl hK (by decide) rfl rfl (r_move hK rfl) fun a hK => ?_
          refine sl_skip hK (by decide) rfl rfl fun a hK => ?_
          refine sl hK (by decide) rfl rfl (r_pick hK rfl rfl rfl) fun a hK => ?_
          refine sl hK (by decide) rfl rfl (r_move hK rfl) fun a hK => ?_
          refine sl_skip hK (by decide) rfl rfl fun a hK => ?_
          refine sl_skip hK (by decide) rfl rfl fun a hK => ?_
          refine sl_skip hK (by decide) rfl rfl fun a hK => ?_
          refine sl hK (by decide) rfl rfl (r_pick hK rfl rfl rfl) fun a hK => ?_
          refine sl hK (by decide) rfl rfl (r_move hK rfl) fun a hK => ?_
          refine sl_skip hK (by decide) rfl rfl fun a hK => ?_
          refine sl hK (by decide) rfl rfl (r_pick hK rfl rfl rfl) fun a hK => ?_
          refine sl hK (by decide) rfl rfl (r_move hK rfl) fun a hK => ?_
          refine sl_skip hK (by decide) rfl rfl fun a hK => ?_
          refine sl hK (by decide) rfl rfl (r_pick hK rfl rfl rfl) fun a hK => ?_
          refine sl hK (by decide) rfl rfl (r_move hK rfl) fun a hK => ?_
          refine sl_skip hK (by decide) rfl rfl fun a hK => ?_
          refine sl_skip hK (by decide) rfl rfl fun a hK => ?_
          refine sl_skip hK (by decide) rfl rfl fun a hK => ?_
          refine sl_skip hK (by decide) rfl rfl fun a hK => ?_
          refine sl hK (by decide) rfl rfl (r_pick hK rfl rfl rfl) fun a hK => ?_
          refine sl hK (by decide) rfl rfl (r_move hK rfl) fun a hK => ?_
          refine sl_skip hK (by decide) rfl rfl fun a hK => ?_
          refine sl_skip hK (by decide) rfl rfl fun a hK => ?_
          refine sl hK (by decide) rfl rfl (r_pick hK rfl rfl rfl) fun a hK => ?_
          refine sl hK (by decide) rfl rfl (r_move hK rfl) fun a hK => ?_
          refine sl_skip hK (by decide) rfl rfl fun a hK => ?_
          refine sl_skip hK (by decide) rfl rfl fun a hK => ?_
          refine sl hK (by decide) rfl rfl (r_pick hK rfl rfl rfl) fun a hK => ?_
          refine sl hK (by decide) rfl rfl (r_move hK rfl) fun a hK => ?_
          refine sl_skip hK (by decide) rfl rfl fun a hK => ?_
          refine sl hK (by decide) rfl rfl (r_pick hK rfl rfl rfl) fun a hK => ?_
          refine sl hK (by decide) rfl rfl (r_assign hK rfl) fun a hK => ?_
          refine wpList_nil ?_
          obtain rfl := Option.some.inj H
          refine wp_ret ?_
          repeat (first | refine ret_then ?_ | refine ret_block ?_ | refine ret_scope ?_)
          exact ret_1 Try.results6 hK (rv_tmp hK rfl) ⟨rfl, hS.below⟩
      · rw [ifb_f hb_130] at H
        refine sl_skip hK (by decide) (wtf hb_130) rfl fun a hK => ?_
        refine sl_skip hK (by decide) (wtf hb_130) rfl fun a hK => ?_
        refine sl hK (by decide) rfl rfl (r_pick_f hb_130 hK rfl rfl) fun a hK => ?_
        refine sl hK (by decide) rfl rfl (r_move hK rfl) fun a hK => ?_
        refine sl_skip hK (by decide) rfl rfl fun a hK => ?_
        refine sl_skip hK (by decide) rfl rfl fun a hK => ?_
        refine sl_skip hK (by decide) rfl rfl fun a hK => ?_
        refine sl hK (by decide) rfl rfl (r_pick hK rfl rfl rfl) fun a hK => ?_
        refine sl hK (by decide) rfl rfl (r_move hK rfl) fun a hK => ?_
        refine sl_skip hK (by decide) rfl rfl fun a hK => ?_
        refine sl_skip hK (by decide) rfl rfl fun a hK => ?_
        refine sl_skip hK (by decide) rfl rfl fun a hK => ?_
        refine sl_skip hK (by decide) rfl rfl fun a hK => ?_
        refine sl_skip hK (by decide) rfl rfl fun a hK => ?_
        refine sl hK (by decide) rfl rfl (r_pick hK rfl rfl rfl) fun a hK => ?_
        refine sl hK (by decide) rfl rfl (r_move hK rfl) fun a hK => ?_
        refine sl_skip hK (by decide) rfl rfl fun a hK => ?_
        refine sl hK (by decide) rfl rfl (r_pick hK rfl rfl rfl) fun a hK => ?_
        refine sl hK (by decide) rfl rfl (r_move hK rfl) fun a hK => ?_
        refine sl_skip hK (by decide) rfl rfl fun a hK => ?_
        refine sl_skip hK (by decide) rfl rfl fun a hK => ?_
        refine sl_skip hK (by decide) rfl rfl fun a hK => ?_
        refine sl hK (by decide) rfl rfl (r_pick hK rfl rfl rfl) fun a hK => ?_
        refine sl hK (by decide) rfl rfl (r_move hK rfl) fun a hK => ?_
        refine sl_skip hK (by decide) rfl rfl fun a hK => ?_
        refine sl hK (by decide) rfl rfl (r_pick hK rfl rfl rfl) fun a hK => ?_
        refine sl hK (by decide) rfl rfl (r_move hK rfl) fun a hK => ?_
        refine sl_skip hK (by decide) rfl rfl fun a hK => ?_
        refine sl hK (by decide) rfl rfl (r_pick hK rfl rfl rfl) fun a hK => ?_
        refine sl hK (by decide) rfl rfl (r_move hK rfl) fun a hK => ?_
        refine sl_skip hK (by decide) rfl rfl fun a hK => ?_
        refine sl_skip hK (by decide) rfl rfl fun a hK => ?_
        refine sl_skip hK (by decide) rfl rfl fun a hK => ?_
        refine sl_skip hK (by decide) rfl rfl fun a hK => ?_
        refine sl hK (by decide) rfl rfl (r_pick hK rfl rfl rfl) fun a hK => ?_
        refine sl hK (by decide) rfl rfl (r_move hK rfl) fun a hK => ?_
        refine sl_skip hK (by decide) rfl rfl fun a hK => ?_
        refine sl_skip hK (by decide) rfl rfl fun a hK => ?_
        refine sl hK (by decide) rfl rfl (r_pick hK rfl rfl rfl) fun a hK => ?_
        refine sl hK (by decide) rfl rfl (r_move hK rfl) fun a hK => ?_
        refine sl_skip hK (by decide) rfl rfl fun a hK => ?_
        refine sl_skip hK (by decide) rfl rfl fun a hK => ?_
        refine sl hK (by decide) rfl rfl (r_pick hK rfl rfl rfl) fun a hK => ?_
        refine sl hK (by decide) rfl rfl (r_move hK rfl) fun a hK => ?_
        refine sl_skip hK (by decide) rfl rfl fun a hK => ?_
        refine sl hK (by decide) rfl rfl (r_pick hK rfl rfl rfl) fun a hK => ?_
        refine sl hK (by decide) rfl rfl (r_assign hK rfl) fun a hK => ?_
        refine wpList_nil ?_
        obtain rfl := Option.some.inj H
        refine wp_ret ?_
        repeat (first | refine ret_then ?_ | refine ret_block ?_ | refine ret_scope ?_)
        exact ret_1 Try.results6 hK (rv_tmp hK rfl) ⟨rfl, hS.below⟩
    · rw [ifb_f hb_129] at H
      refine sl_skip hK (by decide) (wtf hb_129) rfl fun a hK => ?_
      refine sl hK (by decide) rfl rfl (r_pick_f hb_129 hK rfl rfl) fun a hK => ?_
      refine sl hK (by decide) rfl rfl (r_move hK rfl) fun a hK => ?_
      refine sl_skip hK (by decide) rfl rfl fun a hK => ?_
      refine sl_skip hK (by decide) rfl rfl fun a hK => ?_
      refine sl hK (by decide) rfl rfl (r_pick hK rfl rfl rfl) fun a hK => ?_
      refine sl hK (by decide) rfl rfl (r_move hK rfl) fun a hK => ?_
      refine sl_skip hK (by decide) rfl rfl fun a hK => ?_
      refine sl_skip hK (by decide) rfl rfl fun a hK => ?_
      refine sl_skip hK (by decide) rfl rfl fun a hK => ?_
      refine sl hK (by decide) rfl rfl (r_pick hK rfl rfl rfl) fun a hK => ?_
      refine sl hK (by decide) rfl rfl (r_move hK rfl) fun a hK => ?_
      refine sl_skip hK (by decide) rfl rfl fun a hK => ?_
      refine sl_skip hK (by decide) rfl rfl fun a hK => ?_
      refine sl_skip hK (by decide) rfl rfl fun a hK => ?_
      refine sl_skip hK (by decide) rfl rfl fun a hK => ?_
      refine sl_skip hK (by decide) rfl rfl fun a hK => ?_
      refine sl hK (by decide) rfl rfl (r_pick hK rfl rfl rfl) fun a hK => ?_
      refine sl hK (by decide) rfl rfl (r_move hK rfl) fun a hK => ?_
      refine sl_skip hK (by decide) rfl rfl fun a hK => ?_
      refine sl hK (by decide) rfl rfl (r_pick hK rfl rfl rfl) fun a hK => ?_
      refine sl hK (by decide) rfl rfl (r_move hK rfl) fun a hK => ?_
      refine sl_skip hK (by decide) rfl rfl fun a hK => ?_
      refine sl_skip hK (by decide) rfl rfl fun a hK => ?_
      refine sl_skip hK (by decide) rfl rfl fun a hK => ?_
      refine sl hK (by decide) rfl rfl (r_pick hK rfl rfl rfl) fun a hK => ?_
      refine sl hK (by decide) rfl rfl (r_move hK rfl) fun a hK => ?_
      refine sl_skip hK (by decide) rfl rfl fun a hK => ?_
      refine sl hK (by decide) rfl rfl (r_pick hK rfl rfl rfl) fun a hK => ?_
      refine sl hK (by decide) rfl rfl (r_move hK rfl) fun a hK => ?_
      refine sl_skip hK (by decide) rfl rfl fun a hK => ?_
      refine sl hK (by decide) rfl rfl (r_pick hK rfl rfl rfl) fun a hK => ?_
      refine sl hK (by decide) rfl rfl (r_move hK rfl) fun a hK => ?_
      refine sl_skip hK (by decide) rfl rfl fun a hK => ?_
      refine sl_skip hK (by decide) rfl rfl fun a hK => ?_
      refine sl_skip hK (by decide) rfl rfl fun a hK => ?_
      refine sl_skip hK (by decide) rfl rfl fun a hK => ?_
      refine sl hK (by decide) rfl rfl (r_pick hK rfl rfl rfl) fun a hK => ?_
      refine sl hK (by decide) rfl rfl (r_move hK rfl) fun a hK => ?_
      refine sl_skip hK (by decide) rfl rfl fun a hK => ?_
      refine sl_skip hK (by decide) rfl rfl fun a hK => ?_
      refine sl hK (by decide) rfl rfl (r_pick hK rfl rfl rfl) fun a hK => ?_
      refine sl hK (by decide) rfl rfl (r_move hK rfl) fun a hK => ?_
      refine sl_skip hK (by decide) rfl rfl fun a hK => ?_
      refine sl_skip hK (by decide) rfl rfl fun a hK => ?_
      refine sl hK (by decide) rfl rfl (r_pick hK rfl rfl rfl) fun a hK => ?_
      refine sl hK (by decide) rfl rfl (r_move hK rfl) fun a hK => ?_
      refine sl_skip hK (by decide) rfl rfl fun a hK => ?_
      refine sl hK (by decide) rfl rfl (r_pick hK rfl rfl rfl) fun a hK => ?_
      refine sl hK (by decide) rfl rfl (r_assign hK rfl) fun a hK => ?_
      refine wpList_nil ?_
      obtain rfl := Option.some.inj H
      refine wp_ret ?_
      repeat (first | refine ret_then ?_ | refine ret_block ?_ | refine ret_scope ?_)
      exact ret_1 Try.results6 hK (rv_tmp hK rfl) ⟨rfl, hS.below⟩
  · rw [ifb_f hb_128] at H
    refine sl_skip hK (by decide) (wtf hb_128) rfl fun a hK => ?_
    refine sl hK (by decide) rfl rfl (r_pick_f hb_128 hK rfl rfl) fun a hK => ?_
    refine sl hK (by decide) rfl rfl (r_move hK rfl) fun a hK => ?_
    refine sl_skip hK (by decide) rfl rfl fun a hK => ?_
    refine sl hK (by decide) rfl rfl (r_pick hK rfl rfl rfl) fun a hK => ?_
    refine sl hK (by decide) rfl rfl (r_move hK rfl) fun a hK => ?_
    refine sl_skip hK (by decide) rfl rfl fun a hK => ?_
    refine sl_skip hK (by decide) rfl rfl fun a hK => ?_
    refine sl hK (by decide) rfl rfl (r_pick hK rfl rfl rfl) fun a hK => ?_
    refine sl hK (by decide) rfl rfl (r_move hK rfl) fun a hK => ?_
    refine sl_skip hK (by decide) rfl rfl fun a hK => ?_
    refine sl_skip hK (by decide) rfl rfl fun a hK => ?_
    refine sl_skip hK (by decide) rfl rfl fun a hK => ?_
    refine sl hK (by decide) rfl rfl (r_pick hK rfl rfl rfl) fun a hK => ?_
    refine sl hK (by decide) rfl rfl (r_move hK rfl) fun a hK => ?_
    refine sl_skip hK (by decide) rfl rfl fun a hK => ?_
    refine sl_skip hK (by decide) rfl rfl fun a hK => ?_
    refine sl_skip hK (by decide) rfl rfl fun a hK => ?_
    refine sl_skip hK (by decide) rfl rfl fun a hK => ?_
    refine sl_skip hK (by decide) rfl rfl fun a hK => ?_
    refine sl hK (by decide) rfl rfl (r_pick hK rfl rfl rfl) fun a hK => ?_
    refine sl hK (by decide) rfl rfl (r_move hK rfl) fun a hK => ?_
    refine sl_skip hK (by decide) rfl rfl fun a hK => ?_
    refine sl hK (by decide) rfl rfl (r_pick hK rfl rfl rfl) fun a hK => ?_
    refine sl hK (by decide) rfl rfl (r_move hK rfl) fun a hK => ?_
    refine sl_skip hK (by decide) rfl rfl fun a hK => ?_
    refine sl_skip hK (by decide) rfl rfl fun a hK => ?_
    refine sl_skip hK (by decide) rfl rfl fun a hK => ?_
    refine sl hK (by decide) rfl rfl (r_pick hK rfl rfl rfl) fun a hK => ?_
    refine sl hK (by decide) rfl rfl (r_move hK rfl) fun a hK => ?_
    refine sl_skip hK (by decide) rfl rfl fun a hK => ?_
    refine sl hK (by decide) rfl rfl (r_pick hK rfl rfl rfl) fun a hK => ?_
    refine sl hK (by decide) rfl rfl (r_move hK rfl) fun a hK => ?_
    refine sl_skip hK (by decide) rfl rfl fun a hK => ?_
    refine sl hK (by decide) rfl rfl (r_pick hK rfl rfl rfl) fun a hK => ?_
    refine sl hK (by decide) rfl rfl (r_move hK rfl) fun a hK => ?_
    refine sl_skip hK (by decide) rfl rfl fun a hK => ?_
    refine sl_skip hK (by decide) rfl rfl fun a hK => ?_
    refine sl_skip hK (by decide) rfl rfl fun a hK => ?_
    refine sl_skip hK (by decide) rfl rfl fun a hK => ?_
    refine sl hK (by decide) rfl rfl (r_pick hK rfl rfl rfl) fun a hK => ?_
    refine sl hK (by decide) rfl rfl (r_move hK rfl) fun a hK => ?_
    refine sl_skip hK (by decide) rfl rfl fun a hK => ?_
    refine sl_skip hK (by decide) rfl rfl fun a hK => ?_
    refine sl hK (by decide) rfl rfl (r_pick hK rfl rfl rfl) fun a hK => ?_
    refine sl hK (by decide) rfl rfl (r_move hK rfl) fun a hK => ?_
    refine sl_skip hK (by decide) rfl rfl fun a hK => ?_
    refine sl_skip hK (by decide) rfl rfl fun a hK => ?_
    refine sl hK (by decide) rfl rfl (r_pick hK rfl rfl rfl) fun a hK => ?_
    refine sl hK (by decide) rfl rfl (r_move hK rfl) fun a hK => ?_
    refine sl_skip hK (by decide) rfl rfl fun a hK => ?_
    refine sl hK (by decide) rfl rfl (r_pick hK rfl rfl rfl) fun a hK => ?_
    refine sl hK (by decide) rfl rfl (r_assign hK rfl) fun a hK => ?_
    refine wpList_nil ?_
    obtain rfl := Option.some.inj H
    refine wp_ret ?_
    repeat (first | refine ret_then ?_ | refine ret_block ?_ | refine ret_scope ?_)
    exact ret_1 Try.results6 hK (rv_tmp hK rfl) ⟨rfl, hS.below⟩

/-! ### catchment/catchmentlaw07.RunsOrder: function 3 -/
set_option maxRecDepth 100000 in
theorem law07_RunsOrder.calls (a0 : List api_Sample) (a1 : Int) {w0 : World} {R : Hp} {v0_0 : Value} (hR : R.sub w0) (h0_0 : SlR ty_api_Sample R v0_0 a0) (H : law07_RunsOrder a0 a1 = some true) : CallsV Try.prog 3 #[v0_0, .int .i64 a1] w0 (.bool true) := by
  unfold law07_RunsOrder at H
  refine enter (args := [v0_0, .int .i64 a1]) Try.func3 rfl Try.ntmps3 rfl fun a hK => ?_
  have hS := St.init hR
  have hRL := RLe.refl (M := []) w0 R
  refine wp_seq ?_
  refine wp_region_lit ?_
  refine sl hK (by decide) rfl rfl (r_assign hK rfl) fun a hK => ?_
  refine wpList_nil ?_
  refine wp_seq ?_
  refine wp_region_lit ?_
  obtain ⟨y_1, h_2, H⟩ := bind_some H
  refine sl_callV Try.call6 hS hK (by decide) rfl rfl rfl (law07_shown.calls h_2 _) fun a w hS hK => ?_
  refine sl hK (by decide) rfl rfl (r_assign hK rfl) fun a hK => ?_
  refine wpList_nil ?_
  refine wp_seq ?_
  refine wp_region_lit ?_
  obtain ⟨y_3, h_4, H⟩ := bind_some H
  refine sl_call Try.call7 hK (by decide) rfl rfl rfl (runs_New.calls hS.sub h_4) fun a v_ w hv_ hK => ?_
  obtain ⟨R_5, b_7, v_9, cs_10, hv_, hr_, hl_6, hq_11⟩ := hv_
  have hv_ := hv_.symm
  subst hv_
  obtain ⟨hS, hl_6⟩ := hS.sp0.back hr_ hl_6
  have hS := hS.un2
  have hRL := hRL.trans hl_6
  refine sl hK (by decide) rfl rfl (r_assign hK rfl) fun a hK => ?_
  refine wpList_nil ?_
  refine wp_seq ?_
  refine wp_region_lit ?_
  obtain ⟨y_12, h_13, H⟩ := bind_some H
  refine sl_call Try.call7 hK (by decide) rfl rfl rfl (runs_New.calls hS.sub h_13) fun a v_ w hv_ hK => ?_
  obtain ⟨R_14, b_16, v_18, cs_19, hv_, hr_, hl_15, hq_20⟩ := hv_
  have hv_ := hv_.symm
  subst hv_
  obtain ⟨hS, hl_15⟩ := hS.sp0.back hr_ hl_15
  have hS := hS.un2
  have hRL := hRL.trans hl_15
  refine sl hK (by decide) rfl rfl (r_assign hK rfl) fun a hK => ?_
  refine wpList_nil ?_
  refine wp_seq ?_
  refine wp_seq ?_
  refine wp_mid (fun a w => ∃ (x_22 : Bool), law07_RunsOrder.j0 a0 a1 y_3 y_12 x_22 = some true ∧ Kn 97 a [(0, v0_0), (1, .int .i64 a1), (6, .pointer (some ⟨b_7, 0, none⟩)), (7, .pointer (some ⟨b_16, 0, none⟩)), (24, .bool x_22)] ∧ St [] w0 w R_14 [.row 29 2 v_9 y_3.l.length cs_10, .cells b_7 [v_9] 50, .row 29 2 v_18 y_12.l.length cs_19, .cells b_16 [v_18] 50]) ?_ ?_
  · refine wp_region_lit ?_
    refine sl hK (by decide) rfl rfl (r_move hK rfl) fun a hK => ?_
    refine sl hK (by decide) rfl rfl (r_un hK rfl (u_not _)) fun a hK => ?_
    refine sl hK (by decide) rfl rfl (r_move hK rfl) fun a hK => ?_
    rcases or_b (!y_1) with hb_24 | hb_24
    · rw [ifb_t hb_24] at H
      refine sl_skip hK (by decide) (wft hb_24) rfl fun a hK => ?_
      refine sl_skip hK (by decide) (wft hb_24) rfl fun a hK => ?_
      refine sl hK (by decide) rfl rfl (r_pick_t hb_24 hK rfl rfl) fun a hK => ?_
      refine sl hK (by decide) rfl rfl (r_move hK rfl) fun a hK => ?_
      refine sl_skip hK (by decide) rfl rfl fun a hK => ?_
      refine sl_skip hK (by decide) rfl rfl fun a hK => ?_
      refine sl hK (by decide) rfl rfl (r_pick hK rfl rfl rfl) fun a hK => ?_
      refine wpList_nil ?_
      have hS := hS.pk1
      have hS := hS.pk2
      have hS := hS.pk3
      exact ⟨true, H, hK.sub (all_cons rfl (all_cons rfl (all_cons rfl (all_cons rfl (all_cons rfl (all_nil)))))), hS⟩
    · rw [ifb_f hb_24] at H
      refine sl hK (by decide) (wff hb_24) rfl (r_move hK rfl) fun a hK => ?_
      refine sl hK (by decide) (wff hb_24) rfl (r_peq Try.underlying24 hK rfl rfl) fun a hK => ?_
      refine sl hK (by decide) rfl rfl (r_pick_f hb_24 hK rfl rfl) fun a hK => ?_
      refine sl hK (by decide) rfl rfl (r_move hK rfl) fun a hK => ?_
      refine sl hK (by decide) rfl rfl (r_move hK rfl) fun a hK => ?_
      refine sl hK (by decide) rfl rfl (r_peq Try.underlying24 hK rfl rfl) fun a hK => ?_
      refine sl hK (by decide) rfl rfl (r_pick hK rfl rfl rfl) fun a hK => ?_
      refine wpList_nil ?_
      have hS := hS.pk1
      have hS := hS.pk2
      have hS := hS.pk3
      exact ⟨false, H, hK.sub (all_cons rfl (all_cons rfl (all_cons rfl (all_cons rfl (all_cons rfl (all_nil)))))), hS⟩
  · rintro a w ⟨x_22, H, hK, hS⟩
    unfold law07_RunsOrder.j0 at H
    refine wp_cond_split (hK.ev rfl) (fun (hb_25 : x_22 = true) => ?_) (fun (hb_25 : x_22 = false) => ?_)
    · rw [ifb_t hb_25] at H
      refine wp_seq ?_
      refine wp_region_lit ?_
      refine sl hK (by decide) rfl rfl (r_assign hK rfl) fun a hK => ?_
      refine wpList_nil ?_
      exact absurd (Option.some.inj H) (by decide)
    · rw [ifb_f hb_25] at H
      refine wp_skip ?_
      refine wp_seq ?_
      refine wp_region_lit ?_
      refine sl_buildSliceC (ps := []) (c := []) Try.underlying22 Try.sizeOf29 Try.zeroValue29 rfl pc_nil rfl rfl (by decide) rfl hS hK (by decide) rfl fun a w b_26 hS hK => ?_
      refine sl hK (by decide) rfl rfl (r_assign hK rfl) fun a hK => ?_
      refine wpList_nil ?_
      refine wp_seq ?_
      refine wp_seq ?_
      refine wp_region_lit ?_
      refine sl hK (by decide) rfl rfl (r_assign hK rfl) fun a hK => ?_
      refine wpList_nil ?_
      refine wp_block ?_
      refine wp_loop_k (fun k_l1 a w => ∃ (x_143 : List api_Sample) (x_148 : List api_Sample) (x_152 : Int) (R_153 : Hp) (v_144 : Value) (cs_145 : List Value) (v_149 : Value) (cs_150 : List Value), law07_RunsOrder.l1 a0 a1 y_12 k_l1 x_143 x_148 x_152 = some true ∧ RLe [] w0 R_14 R_153 ∧ Reps ty_api_Sample R_153 cs_145 x_143 ∧ Reps ty_api_Sample R_153 cs_150 x_148 ∧ Kn 97 a [(0, v0_0), (1, .int .i64 a1), (6, .pointer (some ⟨b_7, 0, none⟩)), (7, .pointer (some ⟨b_16, 0, none⟩)), (8, v_149), (9, .int .i64 x_152)] ∧ St [] w0 w R_153 [.row 29 2 v_144 x_143.length cs_145, .cells b_7 [v_144] 50, .row 29 2 v_18 y_12.l.length cs_19, .cells b_16 [v_18] 50, .row 29 2 v_149 x_148.length cs_150]) (((a0.length : Int) - 0).toNat + 1) ?_ ?_
      · have hS := hS.row_lit (size := 2) (m := 0) rfl (by decide)
        have hq_266 : Reps ty_api_Sample R_14 [] ([] : List api_Sample) := (Reps.nil _ _)
        have hS := hS.pk4
        have hS := hS.pk4
        have hS := hS.pk4
        have hS := hS.pk4
        exact ⟨y_3.l, [], 0, _, _, _, _, _, H, (RLe.refl _ _), (hq_11.mono hl_15.le), hq_266, hK.sub (all_cons rfl (all_cons rfl (all_cons rfl (all_cons rfl (all_cons rfl (all_cons rfl (all_nil))))))), hS⟩
      · rintro k_l1 a w ⟨x_143, x_148, x_152, R_153, v_144, cs_145, v_149, cs_150, H, hl_154, hq_146, hq_151, hK, hS⟩
        cases k_l1 with
        | zero => cases H
        | succ k_l1 =>
        rw [law07_RunsOrder.l1.eq_2] at H
        have hRL := hRL.trans hl_154
        refine wp_seq ?_
        refine wp_seq ?_
        refine wp_mid (fun a w => ∃ (x_268 : Bool), law07_RunsOrder.j2 (law07_RunsOrder.l1 a0 a1 y_12 k_l1) a0 a1 y_12 x_143 x_148 x_152 x_268 = some true ∧ Kn 97 a [(0, v0_0), (1, .int .i64 a1), (6, .pointer (some ⟨b_7, 0, none⟩)), (7, .pointer (some ⟨b_16, 0, none⟩)), (8, v_149), (9, .int .i64 x_152), (33, .bool x_268)] ∧ St [] w0 w R_153 [.row 29 2 v_144 x_143.length cs_145, .cells b_7 [v_144] 50, .row 29 2 v_18 y_12.l.length cs_19, .cells b_16 [v_18] 50, .row 29 2 v_149 x_148.length cs_150]) ?_ ?_
        · refine wp_region_lit ?_
          refine sl hK (by decide) rfl rfl (r_move hK rfl) fun a hK => ?_
          refine sl hK (by decide) rfl rfl (r_move hK rfl) fun a hK => ?_
          refine sl hK (by decide) rfl rfl (r_len_R Try.underlying22 h0_0 hK rfl) fun a hK => ?_
          refine sl hK (by decide) rfl rfl (r_ibin hK rfl rfl rfl) fun a hK => ?_
          refine sl hK (by decide) rfl rfl (r_move hK rfl) fun a hK => ?_
          rcases or_b (decide (x_152 < (a0.length : Int))) with hb_270 | hb_270
          · rw [ifb_t hb_270] at H
            refine sl hK (by decide) (wtt hb_270) rfl (r_move hK rfl) fun a hK => ?_
            refine sl hK (by decide) (wtt hb_270) rfl (r_ibin hK rfl rfl rfl) fun a hK => ?_
            refine sl hK (by decide) rfl rfl (r_pick_t hb_270 hK rfl rfl) fun a hK => ?_
            refine wpList_nil ?_
            have hS := hS.pk4
            have hS := hS.pk4
            have hS := hS.pk4
            have hS := hS.pk4
            have hS := hS.pk4
            exact ⟨(decide (x_152 < 150)), H, hK.sub (all_cons rfl (all_cons rfl (all_cons rfl (all_cons rfl (all_cons rfl (all_cons rfl (all_cons rfl (all_nil)))))))), hS⟩
          · rw [ifb_f hb_270] at H
            refine sl_skip hK (by decide) (wtf hb_270) rfl fun a hK => ?_
            refine sl_skip hK (by decide) (wtf hb_270) rfl fun a hK => ?_
            refine sl hK (by decide) rfl rfl (r_pick_f hb_270 hK rfl rfl) fun a hK => ?_
            refine wpList_nil ?_
            have hS := hS.pk4
            have hS := hS.pk4
            have hS := hS.pk4
            have hS := hS.pk4
            have hS := hS.pk4
            exact ⟨false, H, hK.sub (all_cons rfl (all_cons rfl (all_cons rfl (all_cons rfl (all_cons rfl (all_cons rfl (all_cons rfl (all_nil)))))))), hS⟩
        · rintro a w ⟨x_268, H, hK, hS⟩
          unfold law07_RunsOrder.j2 at H
          refine wp_cond_split (hK.ev rfl) (fun (hb_271 : x_268 = true) => ?_) (fun (hb_271 : x_268 = false) => ?_)
          · rw [ifb_t hb_271] at H
            refine wp_skip ?_
            refine wp_seq ?_
            refine wp_block ?_
            refine wp_seq ?_
            refine parT_region (C := fun w => St [] w0 w R_153 [.row 29 2 v_144 x_143.length cs_145, .cells b_7 [v_144] 50, .row 29 2 v_18 y_12.l.length cs_19, .cells b_16 [v_18] 50, .row 29 2 v_149 x_148.length cs_150]) 11 [(0, true), (1, true), (2, true), (3, true), (4, true), (5, true), (6, true), (7, true), (8, true), (9, true), (10, true)] mixed (by kernel_rfl) hS (fun w hS => hS) fun w hS => ?_
            refine sp (k := 0) rfl hK (by decide) rfl rfl (fun w hS => r_move hK rfl) fun a hK => ?_
            refine sp (k := 1) rfl hK (by decide) rfl rfl (fun w hS => r_move hK rfl) fun a hK => ?_
            refine sp (k := 2) rfl hK (by decide) rfl rfl (fun w hS => r_move hK rfl) fun a hK => ?_
            obtain ⟨y_302, h_303, H⟩ := bind_some H
            obtain ⟨b_304, o_305, c_306, cs_307, hv_308, hr_309, hc_310, h_3030, h_3031⟩ := h0_0.ix h_303
            obtain ⟨v_311, rfl, hs_312⟩ := hr_309
            refine sp (k := 3) rfl hK (by decide) rfl rfl (fun w hS => r_indexAddr_R Try.underlying22 Try.sizeOf29 hv_308 h_3030 h_3031 hK rfl rfl) fun a hK => ?_
            refine sp (k := 4) rfl hK (by decide) rfl rfl (fun w hS => r_fieldAddr Try.underlying29 rfl Try.sizeOf3 hK rfl) fun a hK => ?_
            refine sp (k := 5) rfl hK (by decide) rfl rfl (fun w hS => r_load Try.isAgg3 hK rfl ((hS.sub.le (hl_6.le.trans (hl_15.le.trans hl_154.le))).cell (hc_310 0 _ rfl))) fun a hK => ?_
            refine sp (k := 6) rfl hK (by decide) rfl rfl (fun w hS => r_move hK rfl) fun a hK => ?_
            refine sp (k := 7) rfl hK (by decide) rfl rfl (fun w hS => r_move hK rfl) fun a hK => ?_
            obtain ⟨y_313, h_314, H⟩ := bind_some H
            obtain ⟨b_315, o_316, c_317, cs_318, hv_319, hr_320, hc_321, h_3140, h_3141⟩ := h0_0.ix h_314
            obtain ⟨v_322, rfl, hs_323⟩ := hr_320
            refine sp (k := 8) rfl hK (by decide) rfl rfl (fun w hS => r_indexAddr_R Try.underlying22 Try.sizeOf29 hv_319 h_3140 h_3141 hK rfl rfl) fun a hK => ?_
            refine sp (k := 9) rfl hK (by decide) rfl rfl (fun w hS => r_fieldAddr Try.underlying29 rfl Try.sizeOf27 hK rfl) fun a hK => ?_
            refine sp (k := 10) rfl hK (by decide) rfl rfl (fun w hS => r_load Try.isAgg27 hK rfl ((hS.sub.le (hl_6.le.trans (hl_15.le.trans hl_154.le))).cell (hc_321 1 _ rfl))) fun a hK => ?_
            refine thenL_nil ?_
            obtain ⟨y_324, h_325, H⟩ := bind_some H
            have hS := hS.pk1
            have hS1 := hS.sp2
            refine sl_call Try.call8 hK (by decide) rfl rfl rfl (runs_Run_Add.calls (⟨x_143⟩ : runs_Run) y_302.Time y_313.Vals (lentOf_sub _ _) lentOf_not hS1.lend hq_146 (hs_323.mono ((hl_6.le.trans (hl_15.le.trans hl_154.le)).trans hS1.rLe)) h_325) fun a v_ w hv_ hK => ?_
            obtain ⟨R_326, v_329, cs_330, hv_, hr_, hl_327, hq_331⟩ := hv_
            have hv_ := hv_.symm
            subst hv_
            obtain ⟨hS, hl_327⟩ := hS1.back hr_ hl_327
            have hS := hS.un2
            have hRL := hRL.trans hl_327
            refine wpList_nil (NoP_nil ?_)
            refine wp_mid (fun a w => ∃ (x_352 : List api_Sample) (v_353 : Value) (cs_354 : List Value), law07_RunsOrder.j3 (law07_RunsOrder.l1 a0 a1 y_12 k_l1) a0 x_152 y_324 x_352 = some true ∧ Reps ty_api_Sample R_326 cs_354 x_352 ∧ Kn 97 a [(0, v0_0), (1, .int .i64 a1), (6, .pointer (some ⟨b_7, 0, none⟩)), (7, .pointer (some ⟨b_16, 0, none⟩)), (8, v_353), (9, .int .i64 x_152)] ∧ St [] w0 w R_326 [.row 29 2 v_329 y_324.2.l.length cs_330, .cells b_7 [v_329] 50, .row 29 2 v_18 y_12.l.length cs_19, .cells b_16 [v_18] 50, .row 29 2 v_353 x_352.length cs_354]) ?_ ?_
            · refine wp_cond_split (hK.ev rfl) (fun (hb_357 : y_324.1 = true) => ?_) (fun (hb_357 : y_324.1 = false) => ?_)
              · rw [ifb_t hb_357] at H
                refine wp_region_lit ?_
                refine sl hK (by decide) rfl rfl (r_move hK rfl) fun a hK => ?_
                refine sl hK (by decide) rfl rfl (r_move hK rfl) fun a hK => ?_
                refine sl hK (by decide) rfl rfl (r_move hK rfl) fun a hK => ?_
                obtain ⟨y_358, h_359, H⟩ := bind_some H
                obtain ⟨b_360, o_361, c_362, cs_363, hv_364, hr_365, hc_366, h_3590, h_3591⟩ := h0_0.ix h_359
                obtain ⟨v_367, rfl, hs_368⟩ := hr_365
                refine sl hK (by decide) rfl rfl (r_indexAddr_R Try.underlying22 Try.sizeOf29 hv_364 h_3590 h_3591 hK rfl rfl) fun a hK => ?_
                refine sl hK (by decide) rfl rfl (r_loadA (cs := [.int .i64 y_358.Time, v_367]) Try.isAgg29 Try.sizeOf29 rfl hK rfl (fun j v hv => (hS.sub.le (hl_6.le.trans (hl_15.le.trans (hl_154.le.trans hl_327.le)))).cell (hc_366 j v hv))) fun a hK => ?_
                refine sl_buildSliceC (ps := [(0, .agg #[.int .i64 y_358.Time, v_367])]) (c := [.int .i64 y_358.Time, v_367]) Try.underlying22 Try.sizeOf29 Try.zeroValue29 rfl (pc_cons rfl pc_nil) rfl rfl (by decide) rfl hS hK (by decide) rfl fun a w b_369 hS hK => ?_
                obtain ⟨y_370, h_371, H⟩ := bind_some H
                have hS := hS.pk5
                refine sl_append_L (ty := ty_api_Sample) (ys := [y_358]) elT22 (by decide) rfl (hq_151.mono hl_327.le) rfl (Reps.cons (show Ty.rep ty_api_Sample _ [.int .i64 y_358.Time, v_367] y_358 from ⟨_, rfl, (hs_368.mono (hl_6.le.trans (hl_15.le.trans (hl_154.le.trans hl_327.le))))⟩) (Reps.nil _ _)) rfl h_371 hS hK (by decide) rfl rfl rfl fun a w v_372 cs_373 hq_374 hS hK => ?_
                refine sl hK (by decide) rfl rfl (r_assign hK rfl) fun a hK => ?_
                refine wpList_nil ?_
                have hS := hS.pk4
                have hS := hS.pk4
                have hS := hS.pk3
                have hS := hS.pk4
                exact ⟨y_370, _, _, H, hq_374, hK.sub (all_cons rfl (all_cons rfl (all_cons rfl (all_cons rfl (all_cons rfl (all_cons rfl (all_nil))))))), hS⟩
              · rw [ifb_f hb_357] at H
                refine wp_skip ?_
                have hS := hS.pk4
                have hS := hS.pk4
                have hS := hS.pk4
                have hS := hS.pk3
                have hS := hS.pk4
                exact ⟨x_148, _, _, H, (hq_151.mono hl_327.le), hK.sub (all_cons rfl (all_cons rfl (all_cons rfl (all_cons rfl (all_cons rfl (all_cons rfl (all_nil))))))), hS⟩
            · rintro a w ⟨x_352, v_353, cs_354, H, hq_355, hK, hS⟩
              unfold law07_RunsOrder.j3 at H
              refine wp_region_lit ?_
              refine sl hK (by decide) rfl rfl (r_move hK rfl) fun a hK => ?_
              refine sl hK (by decide) rfl rfl (r_ibin hK rfl rfl rfl) fun a hK => ?_
              refine sl hK (by decide) rfl rfl (r_assign hK rfl) fun a hK => ?_
              refine wpList_nil ?_
              have hS := hS.pk4
              have hS := hS.pk4
              have hS := hS.pk4
              have hS := hS.pk4
              have hS := hS.pk4
              exact ⟨_, Nat.lt_succ_self _, y_324.2.l, x_352, (IntKind.i64.wrap (x_152 + 1)), _, _, _, _, _, H, (hl_154.trans hl_327), hq_331, hq_355, hK.sub (all_cons rfl (all_cons rfl (all_cons rfl (all_cons rfl (all_cons rfl (all_cons rfl (all_nil))))))), hS⟩
          · rw [ifb_f hb_271] at H
            refine wp_exit ?_
            refine wp_seq ?_
            refine wp_seq ?_
            refine wp_region_lit ?_
            refine sl hK (by decide) rfl rfl (r_move hK rfl) fun a hK => ?_
            refine sl hK (by decide) rfl rfl (r_ibin hK rfl rfl rfl) fun a hK => ?_
            refine wpList_nil ?_
            refine wp_mid (fun a w => ∃ (x_377 : Int), law07_RunsOrder.j4 y_12 x_143 x_148 x_377 = some true ∧ Kn 97 a [(1, .int .i64 x_377), (6, .pointer (some ⟨b_7, 0, none⟩)), (7, .pointer (some ⟨b_16, 0, none⟩)), (8, v_149)] ∧ St [] w0 w R_153 [.row 29 2 v_144 x_143.length cs_145, .cells b_7 [v_144] 50, .row 29 2 v_18 y_12.l.length cs_19, .cells b_16 [v_18] 50, .row 29 2 v_149 x_148.length cs_150]) ?_ ?_
            · refine wp_cond_split (hK.ev rfl) (fun (hb_379 : (decide (a1 < 0)) = true) => ?_) (fun (hb_379 : (decide (a1 < 0)) = false) => ?_)
              · rw [ifb_t hb_379] at H
                refine wp_region_lit ?_
                refine sl hK (by decide) rfl rfl (r_move hK rfl) fun a hK => ?_
                refine sl hK (by decide) rfl rfl (r_ibin hK rfl rfl rfl) fun a hK => ?_
                refine sl hK (by decide) rfl rfl (r_un hK rfl (u_neg _ _)) fun a hK => ?_
                refine sl hK (by decide) rfl rfl (r_assign hK rfl) fun a hK => ?_
                refine wpList_nil ?_
                have hS := hS.pk4
                have hS := hS.pk4
                have hS := hS.pk4
                have hS := hS.pk4
                have hS := hS.pk4
                exact ⟨(IntKind.i64.wrap (0 - (IntKind.i64.wrap (a1 + 1)))), H, hK.sub (all_cons rfl (all_cons rfl (all_cons rfl (all_cons rfl (all_nil))))), hS⟩
              · rw [ifb_f hb_379] at H
                refine wp_skip ?_
                have hS := hS.pk4
                have hS := hS.pk4
                have hS := hS.pk4
                have hS := hS.pk4
                have hS := hS.pk4
                exact ⟨a1, H, hK.sub (all_cons rfl (all_cons rfl (all_cons rfl (all_cons rfl (all_nil))))), hS⟩
            · rintro a w ⟨x_377, H, hK, hS⟩
              unfold law07_RunsOrder.j4 at H
              refine wp_seq ?_
              refine wp_seq ?_
              refine wp_region_lit ?_
              refine sl hK (by decide) rfl rfl (r_assign hK rfl) fun a hK => ?_
              refine wpList_nil ?_
              refine wp_block ?_
              refine wp_loop_k (fun k_l5 a w => ∃ (x_405 : List api_Sample) (x_409 : Int) (R_410 : Hp) (v_406 : Value) (cs_407 : List Value), law07_RunsOrder.l5 x_143 x_148 x_377 k_l5 x_405 x_409 = some true ∧ RLe [] w0 R_153 R_410 ∧ Reps ty_api_Sample R_410 cs_407 x_405 ∧ Kn 97 a [(1, .int .i64 x_377), (6, .pointer (some ⟨b_7, 0, none⟩)), (7, .pointer (some ⟨b_16, 0, none⟩)), (8, v_149), (10, .int .i64 x_409)] ∧ St [] w0 w R_410 [.row 29 2 v_144 x_143.length cs_145, .cells b_7 [v_144] 50, .row 29 2 v_406 x_405.length cs_407, .cells b_16 [v_406] 50, .row 29 2 v_149 x_148.length cs_150]) (((x_148.length : Int) - 0).toNat + 1) ?_ ?_
              · have hS := hS.pk4
                have hS := hS.pk4
                have hS := hS.pk4
                have hS := hS.pk4
                have hS := hS.pk4
                exact ⟨y_12.l, 0, _, _, _, H, (RLe.refl _ _), (hq_20.mono hl_154.le), hK.sub (all_cons rfl (all_cons rfl (all_cons rfl (all_cons rfl (all_cons rfl (all_nil)))))), hS⟩
              · rintro k_l5 a w ⟨x_405, x_409, R_410, v_406, cs_407, H, hl_411, hq_408, hK, hS⟩
                cases k_l5 with
                | zero => cases H
                | succ k_l5 =>
                rw [law07_RunsOrder.l5.eq_2] at H
                have hRL := hRL.trans hl_411
                refine wp_seq ?_
                refine wp_seq ?_
                refine wp_region_lit ?_
                refine sl hK (by decide) rfl rfl (r_move hK rfl) fun a hK => ?_
                refine sl hK (by decide) rfl rfl (r_move hK rfl) fun a hK => ?_
                refine sl hK (by decide) rfl rfl (r_len_O Try.underlying22 hS (.tail _ (.tail _ (.tail _ (.tail _ (.head _))))) hK rfl) fun a hK => ?_
                refine sl hK (by decide) rfl rfl (r_ibin hK rfl rfl rfl) fun a hK => ?_
                refine wpList_nil ?_
                refine wp_cond_split (hK.ev rfl) (fun (hb_435 : (decide (x_409 < (x_148.length : Int))) = true) => ?_) (fun (hb_435 : (decide (x_409 < (x_148.length : Int))) = false) => ?_)
                · rw [ifb_t hb_435] at H
                  refine wp_skip ?_
                  refine wp_seq ?_
                  refine wp_block ?_
                  refine wp_seq ?_
                  refine wp_region_lit ?_
                  refine sl hK (by decide) rfl rfl (r_move hK rfl) fun a hK => ?_
                  refine sl hK (by decide) rfl rfl (r_move hK rfl) fun a hK => ?_
                  refine sl hK (by decide) rfl rfl (r_move hK rfl) fun a hK => ?_
                  refine sl hK (by decide) rfl rfl (r_move hK rfl) fun a hK => ?_
                  refine sl hK (by decide) rfl rfl (r_len_O Try.underlying22 hS (.tail _ (.tail _ (.tail _ (.tail _ (.head _))))) hK rfl) fun a hK => ?_
                  rcases or_b ((x_148.length : Int) != 0) with hn_436 | hn_436
                  · rw [ifb_t hn_436] at H
                    refine sl hK (by decide) rfl rfl (r_rem hK rfl rfl (ne_of_bne hn_436)) fun a hK => ?_
                    refine sl hK (by decide) rfl rfl (r_ibin hK rfl rfl rfl) fun a hK => ?_
                    refine sl hK (by decide) rfl rfl (r_move hK rfl) fun a hK => ?_
                    refine sl hK (by decide) rfl rfl (r_len_O Try.underlying22 hS (.tail _ (.tail _ (.tail _ (.tail _ (.head _))))) hK rfl) fun a hK => ?_
                    rcases or_b ((x_148.length : Int) != 0) with hn_437 | hn_437
                    · rw [ifb_t hn_437] at H
                      refine sl hK (by decide) rfl rfl (r_rem hK rfl rfl (ne_of_bne hn_437)) fun a hK => ?_
                      obtain ⟨y_438, h_439, H⟩ := bind_some H
                      obtain ⟨b_441, c_442, cs_443, hv_440, hr_444, hc_445, h_4390, h_4391⟩ := hS.row_ix (.tail _ (.tail _ (.tail _ (.tail _ (.head _))))) (hq_151.mono hl_411.le) rfl rfl h_439
                      obtain ⟨v_446, rfl, hs_447⟩ := hr_444
                      refine sl hK (by decide) rfl rfl (r_indexAddr_R Try.underlying22 Try.sizeOf29 hv_440 h_4390 h_4391 hK rfl rfl) fun a hK => ?_
                      refine sl hK (by decide) rfl rfl (r_loadA (cs := [.int .i64 y_438.Time, v_446]) Try.isAgg29 Try.sizeOf29 rfl hK rfl (fun j v hv => by have := hS.row_cell (.tail _ (.tail _ (.tail _ (.tail _ (.head _))))) hv_440 (hc_445 j v hv); simpa [Nat.add_assoc] using this)) fun a hK => ?_
                      refine sl_alloc Try.zeroValue29 hS hK (by decide) rfl rfl fun a w b_448 hS hK => ?_
                      refine sl_storeA (vs := [.int .i64 y_438.Time, v_446]) (c' := [.int .i64 y_438.Time, v_446]) Try.sizeOf29 hS hK rfl rfl rfl rfl (all_cons rfl (all_cons hs_447.one (all_nil))) (Nat.le_of_ble_eq_true rfl) rfl fun a w hS hK => ?_
                      refine wpList_nil ?_
                      refine wp_seq ?_
                      refine wp_region_lit ?_
                      refine sl hK (by decide) rfl rfl (r_move hK rfl) fun a hK => ?_
                      refine sl hK (by decide) rfl rfl (r_fieldAddr Try.underlying29 rfl Try.sizeOf3 hK rfl) fun a hK => ?_
                      refine sl hK (by decide) rfl rfl (r_load Try.isAgg3 hK rfl (hS.cell (.head _) rfl)) fun a hK => ?_
                      refine sl hK (by decide) rfl rfl (r_fieldAddr Try.underlying29 rfl Try.sizeOf27 hK rfl) fun a hK => ?_
                      refine sl hK (by decide) rfl rfl (r_load Try.isAgg27 hK rfl (hS.cell (.head _) rfl)) fun a hK => ?_
                      obtain ⟨y_449, h_450, H⟩ := bind_some H
                      have hS := hS.pk3
                      have hS := hS.pk4
                      have hS1 := hS.sp2
                      refine sl_call Try.call8 hK (by decide) rfl rfl rfl (runs_Run_Add.calls (⟨x_405⟩ : runs_Run) y_438.Time y_438.Vals (lentOf_sub _ _) lentOf_not hS1.lend hq_408 (hs_447.mono hS1.rLe) h_450) fun a v_ w hv_ hK => ?_
                      obtain ⟨R_451, v_454, cs_455, hv_, hr_, hl_452, hq_456⟩ := hv_
                      have hv_ := hv_.symm
                      subst hv_
                      obtain ⟨hS, hl_452⟩ := hS1.back hr_ hl_452
                      have hS := hS.un2
                      have hRL := hRL.trans hl_452
                      refine sl hK (by decide) rfl rfl (r_un hK rfl (u_not _)) fun a hK => ?_
                      refine wpList_nil ?_
                      refine wp_cond_split (hK.ev rfl) (fun (hb_457 : (!y_449.1) = true) => ?_) (fun (hb_457 : (!y_449.1) = false) => ?_)
                      · rw [ifb_t hb_457] at H
                        refine wp_seq ?_
                        refine wp_region_lit ?_
                        refine sl hK (by decide) rfl rfl (r_assign hK rfl) fun a hK => ?_
                        refine wpList_nil ?_
                        exact absurd (Option.some.inj H) (by decide)
                      · rw [ifb_f hb_457] at H
                        refine wp_skip ?_
                        refine wp_region_lit ?_
                        refine sl hK (by decide) rfl rfl (r_move hK rfl) fun a hK => ?_
                        refine sl hK (by decide) rfl rfl (r_ibin hK rfl rfl rfl) fun a hK => ?_
                        refine sl hK (by decide) rfl rfl (r_assign hK rfl) fun a hK => ?_
                        refine wpList_nil ?_
                        have hS := hS.pk5
                        have hS := hS.pk1
                        have hS := hS.pk2
                        have hS := hS.pk5
                        have hS := hS.pk5
                        exact ⟨_, Nat.lt_succ_self _, y_449.2.l, (IntKind.i64.wrap (x_409 + 1)), _, _, _, H, (hl_411.trans hl_452), hq_456, hK.sub (all_cons rfl (all_cons rfl (all_cons rfl (all_cons rfl (all_cons rfl (all_nil)))))), hS.trunc 5⟩
                    · rw [ifb_f hn_437] at H
                      cases H
                  · rw [ifb_f hn_436] at H
                    cases H
                · rw [ifb_f hb_435] at H
                  refine wp_exit ?_
                  refine wp_seq ?_
                  refine wp_region_lit ?_
                  refine sl hK (by decide) rfl rfl (r_move hK rfl) fun a hK => ?_
                  obtain ⟨y_458, h_459, H⟩ := bind_some H
                  refine sl_call Try.call10 hK (by decide) rfl rfl rfl (runs_Run_Range.calls (⟨x_143⟩ : runs_Run) (-9223372036854775808) 9223372036854775807 (lentOf_sub [] _) hS.sub (hS.lend_box0 (.tail _ (.head _))) (hS.lend_row0 (.head _) (hq_146.mono hl_411.le) rfl rfl) h_459) fun a v_ w hv_ hK => ?_
                  obtain ⟨R_460, v_463, cs_464, hv_, hr_, hl_461, hq_465⟩ := hv_
                  have hv_ := hv_.symm
                  subst hv_
                  obtain ⟨hS, hl_461⟩ := hS.sp0.back hr_ hl_461
                  have hS := hS.un1
                  have hRL := hRL.trans hl_461
                  refine sl hK (by decide) rfl rfl (r_move hK rfl) fun a hK => ?_
                  obtain ⟨y_466, h_467, H⟩ := bind_some H
                  refine sl_call Try.call10 hK (by decide) rfl rfl rfl (runs_Run_Range.calls (⟨x_405⟩ : runs_Run) (-9223372036854775808) 9223372036854775807 (lentOf_sub [] _) hS.sub (hS.lend_box0 (.tail _ (.tail _ (.tail _ (.tail _ (.head _)))))) (hS.lend_row0 (.tail _ (.tail _ (.tail _ (.head _)))) (hq_408.mono hl_461.le) rfl rfl) h_467) fun a v_ w hv_ hK => ?_
                  obtain ⟨R_468, v_471, cs_472, hv_, hr_, hl_469, hq_473⟩ := hv_
                  have hv_ := hv_.symm
                  subst hv_
                  obtain ⟨hS, hl_469⟩ := hS.sp0.back hr_ hl_469
                  have hS := hS.un1
                  have hRL := hRL.trans hl_469
                  obtain ⟨y_474, h_475, H⟩ := bind_some H
                  refine sl_callV Try.call9 hS hK (by decide) rfl rfl rfl (law07_same.calls y_458 y_466 (lentOf_sub [] _) (hS.lend_row0 (.tail _ (.head _)) (hq_465.mono hl_469.le) rfl rfl) (hS.lend_row0 (.head _) hq_473 rfl rfl) h_475) fun a w hS hK => ?_
                  refine sl hK (by decide) rfl rfl (r_move hK rfl) fun a hK => ?_
                  rcases or_b y_474 with hb_476 | hb_476
                  · rw [ifb_t hb_476] at H
                    refine sl hK (by decide) (wtt hb_476) rfl (r_move hK rfl) fun a hK => ?_
                    obtain ⟨y_477, h_478, H⟩ := bind_some H
                    refine sl_callV Try.call11 hS hK (by decide) (wtt hb_476) rfl rfl (runs_Run_Len.calls (⟨x_143⟩ : runs_Run) (lentOf_sub [] _) (hS.lend_box0 (.tail _ (.tail _ (.tail _ (.head _))))) (hS.lend_row0 (.tail _ (.tail _ (.head _))) (hq_146.mono (hl_411.le.trans (hl_461.le.trans hl_469.le))) rfl rfl) h_478) fun a w hS hK => ?_
                    refine sl hK (by decide) (wtt hb_476) rfl (r_move hK rfl) fun a hK => ?_
                    refine sl hK (by decide) (wtt hb_476) rfl (r_len_O Try.underlying22 hS (.tail _ (.tail _ (.tail _ (.tail _ (.tail _ (.tail _ (.head _))))))) hK rfl) fun a hK => ?_
                    refine sl hK (by decide) (wtt hb_476) rfl (r_ibin hK rfl rfl rfl) fun a hK => ?_
                    refine sl hK (by decide) rfl rfl (r_pick_t hb_476 hK rfl rfl) fun a hK => ?_
                    refine sl hK (by decide) rfl rfl (r_assign hK rfl) fun a hK => ?_
                    refine wpList_nil ?_
                    have hr_ := Option.some.inj H
                    refine wp_ret ?_
                    repeat (first | refine ret_then ?_ | refine ret_block ?_ | refine ret_scope ?_)
                    exact ret_1 Try.results3 hK (rv_tmp hK rfl) ⟨congrArg (fun b => Ending.returned (Value.bool b)) hr_, hS.below⟩
                  · rw [ifb_f hb_476] at H
                    refine sl_skip hK (by decide) (wtf hb_476) rfl fun a hK => ?_
                    refine sl_skip hK (by decide) (wtf hb_476) rfl fun a hK => ?_
                    refine sl_skip hK (by decide) (wtf hb_476) rfl fun a hK => ?_
                    refine sl_skip hK (by decide) (wtf hb_476) rfl fun a hK => ?_
                    refine sl_skip hK (by decide) (wtf hb_476) rfl fun a hK => ?_
                    refine sl hK (by decide) rfl rfl (r_pick_f hb_476 hK rfl rfl) fun a hK => ?_
                    refine sl hK (by decide) rfl rfl (r_assign hK rfl) fun a hK => ?_
                    refine wpList_nil ?_
                    exact absurd (Option.some.inj H) (by decide)

/-! ### catchment/catchmentlaw07.RunsCuts: function 4 -/
set_option maxRecDepth 100000 in
theorem law07_RunsCuts.calls (a0 : List api_Sample) (a1 : Int) (a2 : Int) {w0 : World} {RA : Hp} {v0_0 : Value} (hRA : RA.sub w0) (h0_0 : SlR ty_api_Sample RA v0_0 a0) (H : law07_RunsCuts a0 a1 a2 = some true) : CallsV Try.prog 4 #[v0_0, .int .i64 a1, .int .i64 a2] w0 (.bool true) := by
  unfold law07_RunsCuts at H
  refine enter (args := [v0_0, .int .i64 a1, .int .i64 a2]) Try.func4 rfl Try.ntmps4 rfl fun a hK => ?_
  have hS := St.init (R := fun _ => none) (w := w0) (fun _ _ h => by cases h)
  have hRL := RLe.refl (M := []) w0 (fun _ => none)
  refine wp_seq ?_
  refine wp_region_lit ?_
  refine sl hK (by decide) rfl rfl (r_assign hK rfl) fun a hK => ?_
  refine wpList_nil ?_
  refine wp_seq ?_
  refine wp_region_lit ?_
  obtain ⟨y_1, h_2, H⟩ := bind_some H
  refine sl_callV Try.call6 hS hK (by decide) rfl rfl rfl (law07_shown.calls h_2 _) fun a w hS hK => ?_
  refine sl hK (by decide) rfl rfl (r_assign hK rfl) fun a hK => ?_
  refine wpList_nil ?_
  refine wp_seq ?_
  refine wp_region_lit ?_
  obtain ⟨y_3, h_4, H⟩ := bind_some H
  refine sl_call Try.call7 hK (by decide) rfl rfl rfl (runs_New.calls hS.sub h_4) fun a v_ w hv_ hK => ?_
  obtain ⟨R_5, b_7, v_9, cs_10, hv_, hr_, hl_6, hq_11⟩ := hv_
  have hv_ := hv_.symm
  subst hv_
  obtain ⟨hS, hl_6⟩ := hS.sp0.back hr_ hl_6
  have hS := hS.un2
  have hRL := hRL.trans hl_6
  refine sl hK (by decide) rfl rfl (r_assign hK rfl) fun a hK => ?_
  refine wpList_nil ?_
  refine wp_seq ?_
  refine wp_seq ?_
  refine wp_mid (fun a w => ∃ (x_13 : Bool), law07_RunsCuts.j0 a0 a1 a2 y_3 x_13 = some true ∧ Kn 160 a [(0, v0_0), (1, .int .i64 a1), (2, .int .i64 a2), (8, .pointer (some ⟨b_7, 0, none⟩)), (25, .bool x_13)] ∧ St [] w0 w R_5 [.row 29 2 v_9 y_3.l.length cs_10, .cells b_7 [v_9] 50]) ?_ ?_
  · refine wp_region_lit ?_
    refine sl hK (by decide) rfl rfl (r_move hK rfl) fun a hK => ?_
    refine sl hK (by decide) rfl rfl (r_un hK rfl (u_not _)) fun a hK => ?_
    refine sl hK (by decide) rfl rfl (r_move hK rfl) fun a hK => ?_
    rcases or_b (!y_1) with hb_15 | hb_15
    · rw [ifb_t hb_15] at H
      refine sl_skip hK (by decide) (wft hb_15) rfl fun a hK => ?_
      refine sl_skip hK (by decide) (wft hb_15) rfl fun a hK => ?_
      refine sl hK (by decide) rfl rfl (r_pick_t hb_15 hK rfl rfl) fun a hK => ?_
      refine wpList_nil ?_
      have hS := hS.pk1
      exact ⟨true, H, hK.sub (all_cons rfl (all_cons rfl (all_cons rfl (all_cons rfl (all_cons rfl (all_nil)))))), hS⟩
    · rw [ifb_f hb_15] at H
      refine sl hK (by decide) (wff hb_15) rfl (r_move hK rfl) fun a hK => ?_
      refine sl hK (by decide) (wff hb_15) rfl (r_peq Try.underlying24 hK rfl rfl) fun a hK => ?_
      refine sl hK (by decide) rfl rfl (r_pick_f hb_15 hK rfl rfl) fun a hK => ?_
      refine wpList_nil ?_
      have hS := hS.pk1
      exact ⟨false, H, hK.sub (all_cons rfl (all_cons rfl (all_cons rfl (all_cons rfl (all_cons rfl (all_nil)))))), hS⟩
  · rintro a w ⟨x_13, H, hK, hS⟩
    unfold law07_RunsCuts.j0 at H
    refine wp_cond_split (hK.ev rfl) (fun (hb_16 : x_13 = true) => ?_) (fun (hb_16 : x_13 = false) => ?_)
    · rw [ifb_t hb_16] at H
      refine wp_seq ?_
      refine wp_region_lit ?_
      refine sl hK (by decide) rfl rfl (r_assign hK rfl) fun a hK => ?_
      refine wpList_nil ?_
      exact absurd (Option.some.inj H) (by decide)
    · rw [ifb_f hb_16] at H
      refine wp_skip ?_
      refine wp_seq ?_
      refine wp_seq ?_
      refine wp_region_lit ?_
      refine sl hK (by decide) rfl rfl (r_assign hK rfl) fun a hK => ?_
      refine wpList_nil ?_
      refine wp_block ?_
      refine wp_loop_k (fun k_l1 a w => ∃ (x_84 : List api_Sample) (x_88 : Int) (R_89 : Hp) (v_85 : Value) (cs_86 : List Value), law07_RunsCuts.l1 a0 a1 a2 k_l1 x_84 x_88 = some true ∧ RLe [] w0 R_5 R_89 ∧ Reps ty_api_Sample R_89 cs_86 x_84 ∧ Kn 160 a [(0, v0_0), (1, .int .i64 a1), (2, .int .i64 a2), (8, .pointer (some ⟨b_7, 0, none⟩)), (9, .int .i64 x_88)] ∧ St [] w0 w R_89 [.row 29 2 v_85 x_84.length cs_86, .cells b_7 [v_85] 50]) (((a0.length : Int) - 0).toNat + 1) ?_ ?_
      · have hS := hS.pk1
        have hS := hS.pk1
        exact ⟨y_3.l, 0, _, _, _, H, (RLe.refl _ _), hq_11, hK.sub (all_cons rfl (all_cons rfl (all_cons rfl (all_cons rfl (all_cons rfl (all_nil)))))), hS⟩
      · rintro k_l1 a w ⟨x_84, x_88, R_89, v_85, cs_86, H, hl_90, hq_87, hK, hS⟩
        cases k_l1 with
        | zero => cases H
        | succ k_l1 =>
        rw [law07_RunsCuts.l1.eq_2] at H
        have hRL := hRL.trans hl_90
        refine wp_seq ?_
        refine wp_seq ?_
        refine wp_mid (fun a w => ∃ (x_158 : Bool), law07_RunsCuts.j2 (law07_RunsCuts.l1 a0 a1 a2 k_l1) a0 a1 a2 x_84 x_88 x_158 = some true ∧ Kn 160 a [(0, v0_0), (1, .int .i64 a1), (2, .int .i64 a2), (8, .pointer (some ⟨b_7, 0, none⟩)), (9, .int .i64 x_88), (33, .bool x_158)] ∧ St [] w0 w R_89 [.row 29 2 v_85 x_84.length cs_86, .cells b_7 [v_85] 50]) ?_ ?_
        · refine wp_region_lit ?_
          refine sl hK (by decide) rfl rfl (r_move hK rfl) fun a hK => ?_
          refine sl hK (by decide) rfl rfl (r_move hK rfl) fun a hK => ?_
          refine sl hK (by decide) rfl rfl (r_len_R Try.underlying22 h0_0 hK rfl) fun a hK => ?_
          refine sl hK (by decide) rfl rfl (r_ibin hK rfl rfl rfl) fun a hK => ?_
          refine sl hK (by decide) rfl rfl (r_move hK rfl) fun a hK => ?_
          rcases or_b (decide (x_88 < (a0.length : Int))) with hb_160 | hb_160
          · rw [ifb_t hb_160] at H
            refine sl hK (by decide) (wtt hb_160) rfl (r_move hK rfl) fun a hK => ?_
            refine sl hK (by decide) (wtt hb_160) rfl (r_ibin hK rfl rfl rfl) fun a hK => ?_
            refine sl hK (by decide) rfl rfl (r_pick_t hb_160 hK rfl rfl) fun a hK => ?_
            refine wpList_nil ?_
            have hS := hS.pk1
            have hS := hS.pk1
            exact ⟨(decide (x_88 < 150)), H, hK.sub (all_cons rfl (all_cons rfl (all_cons rfl (all_cons rfl (all_cons rfl (all_cons rfl (all_nil))))))), hS⟩
          · rw [ifb_f hb_160] at H
            refine sl_skip hK (by decide) (wtf hb_160) rfl fun a hK => ?_
            refine sl_skip hK (by decide) (wtf hb_160) rfl fun a hK => ?_
            refine sl hK (by decide) rfl rfl (r_pick_f hb_160 hK rfl rfl) fun a hK => ?_
            refine wpList_nil ?_
            have hS := hS.pk1
            have hS := hS.pk1
            exact ⟨false, H, hK.sub (all_cons rfl (all_cons rfl (all_cons rfl (all_cons rfl (all_cons rfl (all_cons rfl (all_nil))))))), hS⟩
        · rintro a w ⟨x_158, H, hK, hS⟩
          unfold law07_RunsCuts.j2 at H
          refine wp_cond_split (hK.ev rfl) (fun (hb_161 : x_158 = true) => ?_) (fun (hb_161 : x_158 = false) => ?_)
          · rw [ifb_t hb_161] at H
            refine wp_skip ?_
            refine wp_seq ?_
            refine wp_block ?_
            refine parT_region (C := fun w => St [] w0 w R_89 [.row 29 2 v_85 x_84.length cs_86, .cells b_7 [v_85] 50]) 11 [(0, true), (1, true), (2, true), (3, true), (4, true), (5, true), (6, true), (7, true), (8, true), (9, true), (10, true)] mixed (by kernel_rfl) hS (fun w hS => hS) fun w hS => ?_
            refine sp (k := 0) rfl hK (by decide) rfl rfl (fun w hS => r_move hK rfl) fun a hK => ?_
            refine sp (k := 1) rfl hK (by decide) rfl rfl (fun w hS => r_move hK rfl) fun a hK => ?_
            refine sp (k := 2) rfl hK (by decide) rfl rfl (fun w hS => r_move hK rfl) fun a hK => ?_
            obtain ⟨y_192, h_193, H⟩ := bind_some H
            obtain ⟨b_194, o_195, c_196, cs_197, hv_198, hr_199, hc_200, h_1930, h_1931⟩ := h0_0.ix h_193
            obtain ⟨v_201, rfl, hs_202⟩ := hr_199
            refine sp (k := 3) rfl hK (by decide) rfl rfl (fun w hS => r_indexAddr_R Try.underlying22 Try.sizeOf29 hv_198 h_1930 h_1931 hK rfl rfl) fun a hK => ?_
            refine sp (k := 4) rfl hK (by decide) rfl rfl (fun w hS => r_fieldAddr Try.underlying29 rfl Try.sizeOf3 hK rfl) fun a hK => ?_
            refine sp (k := 5) rfl hK (by decide) rfl rfl (fun w hS => r_load Try.isAgg3 hK rfl ((hS.ra hRA nil_not).cell (hc_200 0 _ rfl))) fun a hK => ?_
            refine sp (k := 6) rfl hK (by decide) rfl rfl (fun w hS => r_move hK rfl) fun a hK => ?_
            refine sp (k := 7) rfl hK (by decide) rfl rfl (fun w hS => r_move hK rfl) fun a hK => ?_
            obtain ⟨y_203, h_204, H⟩ := bind_some H
            obtain ⟨b_205, o_206, c_207, cs_208, hv_209, hr_210, hc_211, h_2040, h_2041⟩ := h0_0.ix h_204
            obtain ⟨v_212, rfl, hs_213⟩ := hr_210
            refine sp (k := 8) rfl hK (by decide) rfl rfl (fun w hS => r_indexAddr_R Try.underlying22 Try.sizeOf29 hv_209 h_2040 h_2041 hK rfl rfl) fun a hK => ?_
            refine sp (k := 9) rfl hK (by decide) rfl rfl (fun w hS => r_fieldAddr Try.underlying29 rfl Try.sizeOf27 hK rfl) fun a hK => ?_
            refine sp (k := 10) rfl hK (by decide) rfl rfl (fun w hS => r_load Try.isAgg27 hK rfl ((hS.ra hRA nil_not).cell (hc_211 1 _ rfl))) fun a hK => ?_
            refine thenL_nil ?_
            obtain ⟨y_214, h_215, H⟩ := bind_some H
            have hS := hS.pk1
            have hS1 := hS.sp2
            refine sl_call Try.call8 hK (by decide) rfl rfl rfl (runs_Run_Add.calls (⟨x_84⟩ : runs_Run) y_192.Time y_203.Vals (lentOf_sub _ _) lentOf_not hS1.lend hq_87 (hs_213.mono (hS1.raLe hRA nil_not)) h_215) fun a v_ w hv_ hK => ?_
            obtain ⟨R_216, v_219, cs_220, hv_, hr_, hl_217, hq_221⟩ := hv_
            have hv_ := hv_.symm
            subst hv_
            obtain ⟨hS, hl_217⟩ := hS1.back hr_ hl_217
            have hS := hS.un2
            have hRL := hRL.trans hl_217
            refine wpList_nil (NoP_nil ?_)
            refine wp_region_lit ?_
            refine sl hK (by decide) rfl rfl (r_move hK rfl) fun a hK => ?_
            refine sl hK (by decide) rfl rfl (r_ibin hK rfl rfl rfl) fun a hK => ?_
            refine sl hK (by decide) rfl rfl (r_assign hK rfl) fun a hK => ?_
            refine wpList_nil ?_
            have hS := hS.pk1
            exact ⟨_, Nat.lt_succ_self _, y_214.2.l, (IntKind.i64.wrap (x_88 + 1)), _, _, _, H, (hl_90.trans hl_217), hq_221, hK.sub (all_cons rfl (all_cons rfl (all_cons rfl (all_cons rfl (all_cons rfl (all_nil)))))), hS⟩
          · rw [ifb_f hb_161] at H
            refine wp_exit ?_
            refine wp_seq ?_
            refine wp_seq ?_
            refine wp_region_lit ?_
            refine sl hK (by decide) rfl rfl (r_move hK rfl) fun a hK => ?_
            refine sl hK (by decide) rfl rfl (r_move hK rfl) fun a hK => ?_
            refine sl hK (by decide) rfl rfl (r_ibin hK rfl rfl rfl) fun a hK => ?_
            refine wpList_nil ?_
            refine wp_cond_split (hK.ev rfl) (fun (hb_222 : (decide (a1 > a2)) = true) => ?_) (fun (hb_222 : (decide (a1 > a2)) = false) => ?_)
            · rw [ifb_t hb_222] at H
              refine wp_seq ?_
              refine wp_region_lit ?_
              refine sl hK (by decide) rfl rfl (r_move hK rfl) fun a hK => ?_
              refine sl hK (by decide) rfl rfl (r_move hK rfl) fun a hK => ?_
              refine sl hK (by decide) rfl rfl (r_move hK rfl) fun a hK => ?_
              obtain ⟨y_223, h_224, H⟩ := bind_some H
              refine sl_call Try.call10 hK (by decide) rfl rfl rfl (runs_Run_Range.calls (⟨x_84⟩ : runs_Run) a1 a2 (lentOf_sub [] _) hS.sub (hS.lend_box0 (.tail _ (.head _))) (hS.lend_row0 (.head _) hq_87 rfl rfl) h_224) fun a v_ w hv_ hK => ?_
              obtain ⟨R_225, v_228, cs_229, hv_, hr_, hl_226, hq_230⟩ := hv_
              have hv_ := hv_.symm
              subst hv_
              obtain ⟨hS, hl_226⟩ := hS.sp0.back hr_ hl_226
              have hS := hS.un1
              have hRL := hRL.trans hl_226
              refine sl hK (by decide) rfl rfl (r_len_O Try.underlying22 hS (.head _) hK rfl) fun a hK => ?_
              refine sl hK (by decide) rfl rfl (r_ibin hK rfl rfl rfl) fun a hK => ?_
              refine sl hK (by decide) rfl rfl (r_assign hK rfl) fun a hK => ?_
              refine wpList_nil ?_
              have hr_ := Option.some.inj H
              refine wp_ret ?_
              repeat (first | refine ret_then ?_ | refine ret_block ?_ | refine ret_scope ?_)
              exact ret_1 Try.results4 hK (rv_tmp hK rfl) ⟨congrArg (fun b => Ending.returned (Value.bool b)) hr_, hS.below⟩
            · rw [ifb_f hb_222] at H
              refine wp_skip ?_
              refine wp_seq ?_
              refine wp_region_lit ?_
              refine sl hK (by decide) rfl rfl (r_move hK rfl) fun a hK => ?_
              refine sl hK (by decide) rfl rfl (r_quo hK rfl rfl (by decide)) fun a hK => ?_
              refine sl hK (by decide) rfl rfl (r_move hK rfl) fun a hK => ?_
              refine sl hK (by decide) rfl rfl (r_quo hK rfl rfl (by decide)) fun a hK => ?_
              refine sl hK (by decide) rfl rfl (r_ibin hK rfl rfl rfl) fun a hK => ?_
              refine sl hK (by decide) rfl rfl (r_assign hK rfl) fun a hK => ?_
              refine wpList_nil ?_
              refine wp_seq ?_
              refine wp_seq ?_
              refine wp_mid (fun a w => ∃ (x_232 : Bool), law07_RunsCuts.j3 a1 a2 x_84 x_232 = some true ∧ Kn 160 a [(1, .int .i64 a1), (2, .int .i64 a2), (8, .pointer (some ⟨b_7, 0, none⟩)), (10, .int .i64 (IntKind.i64.wrap ((IntKind.i64.wrap (a1.tdiv 2)) + (IntKind.i64.wrap (a2.tdiv 2))))), (69, .bool x_232)] ∧ St [] w0 w R_89 [.row 29 2 v_85 x_84.length cs_86, .cells b_7 [v_85] 50]) ?_ ?_
              · refine wp_region_lit ?_
                refine sl hK (by decide) rfl rfl (r_move hK rfl) fun a hK => ?_
                refine sl hK (by decide) rfl rfl (r_move hK rfl) fun a hK => ?_
                refine sl hK (by decide) rfl rfl (r_ibin hK rfl rfl rfl) fun a hK => ?_
                refine sl hK (by decide) rfl rfl (r_move hK rfl) fun a hK => ?_
                rcases or_b (decide ((IntKind.i64.wrap ((IntKind.i64.wrap (a1.tdiv 2)) + (IntKind.i64.wrap (a2.tdiv 2)))) < a1)) with hb_234 | hb_234
                · rw [ifb_t hb_234] at H
                  refine sl_skip hK (by decide) (wft hb_234) rfl fun a hK => ?_
                  refine sl_skip hK (by decide) (wft hb_234) rfl fun a hK => ?_
                  refine sl_skip hK (by decide) (wft hb_234) rfl fun a hK => ?_
                  refine sl hK (by decide) rfl rfl (r_pick_t hb_234 hK rfl rfl) fun a hK => ?_
                  refine wpList_nil ?_
                  have hS := hS.pk1
                  have hS := hS.pk1
                  exact ⟨true, H, hK.sub (all_cons rfl (all_cons rfl (all_cons rfl (all_cons rfl (all_cons rfl (all_nil)))))), hS⟩
                · rw [ifb_f hb_234] at H
                  refine sl hK (by decide) (wff hb_234) rfl (r_move hK rfl) fun a hK => ?_
                  refine sl hK (by decide) (wff hb_234) rfl (r_move hK rfl) fun a hK => ?_
                  refine sl hK (by decide) (wff hb_234) rfl (r_ibin hK rfl rfl rfl) fun a hK => ?_
                  refine sl hK (by decide) rfl rfl (r_pick_f hb_234 hK rfl rfl) fun a hK => ?_
                  refine wpList_nil ?_
                  have hS := hS.pk1
                  have hS := hS.pk1
                  exact ⟨(decide ((IntKind.i64.wrap ((IntKind.i64.wrap (a1.tdiv 2)) + (IntKind.i64.wrap (a2.tdiv 2)))) ≥ a2)), H, hK.sub (all_cons rfl (all_cons rfl (all_cons rfl (all_cons rfl (all_cons rfl (all_nil)))))), hS⟩
              · rintro a w ⟨x_232, H, hK, hS⟩
                unfold law07_RunsCuts.j3 at H
                refine wp_mid (fun a w => ∃ (x_236 : Int), law07_RunsCuts.j4 a1 a2 x_84 x_236 = some true ∧ Kn 160 a [(1, .int .i64 a1), (2, .int .i64 a2), (8, .pointer (some ⟨b_7, 0, none⟩)), (10, .int .i64 x_236)] ∧ St [] w0 w R_89 [.row 29 2 v_85 x_84.length cs_86, .cells b_7 [v_85] 50]) ?_ ?_
                · refine wp_cond_split (hK.ev rfl) (fun (hb_238 : x_232 = true) => ?_) (fun (hb_238 : x_232 = false) => ?_)
                  · rw [ifb_t hb_238] at H
                    refine wp_region_lit ?_
                    refine sl hK (by decide) rfl rfl (r_move hK rfl) fun a hK => ?_
                    refine sl hK (by decide) rfl rfl (r_assign hK rfl) fun a hK => ?_
                    refine wpList_nil ?_
                    have hS := hS.pk1
                    have hS := hS.pk1
                    exact ⟨a1, H, hK.sub (all_cons rfl (all_cons rfl (all_cons rfl (all_cons rfl (all_nil))))), hS⟩
                  · rw [ifb_f hb_238] at H
                    refine wp_skip ?_
                    have hS := hS.pk1
                    have hS := hS.pk1
                    exact ⟨(IntKind.i64.wrap ((IntKind.i64.wrap (a1.tdiv 2)) + (IntKind.i64.wrap (a2.tdiv 2)))), H, hK.sub (all_cons rfl (all_cons rfl (all_cons rfl (all_cons rfl (all_nil))))), hS⟩
                · rintro a w ⟨x_236, H, hK, hS⟩
                  unfold law07_RunsCuts.j4 at H
                  refine wp_seq ?_
                  refine wp_region_lit ?_
                  refine sl hK (by decide) rfl rfl (r_move hK rfl) fun a hK => ?_
                  refine sl hK (by decide) rfl rfl (r_move hK rfl) fun a hK => ?_
                  refine sl hK (by decide) rfl rfl (r_move hK rfl) fun a hK => ?_
                  obtain ⟨y_239, h_240, H⟩ := bind_some H
                  refine sl_call Try.call10 hK (by decide) rfl rfl rfl (runs_Run_Range.calls (⟨x_84⟩ : runs_Run) a1 a2 (lentOf_sub [] _) hS.sub (hS.lend_box0 (.tail _ (.head _))) (hS.lend_row0 (.head _) hq_87 rfl rfl) h_240) fun a v_ w hv_ hK => ?_
                  obtain ⟨R_241, v_244, cs_245, hv_, hr_, hl_242, hq_246⟩ := hv_
                  have hv_ := hv_.symm
                  subst hv_
                  obtain ⟨hS, hl_242⟩ := hS.sp0.back hr_ hl_242
                  have hS := hS.un1
                  have hRL := hRL.trans hl_242
                  refine sl hK (by decide) rfl rfl (r_assign hK rfl) fun a hK => ?_
                  refine wpList_nil ?_
                  refine wp_seq ?_
                  refine wp_region_lit ?_
                  refine sl hK (by decide) rfl rfl (r_move hK rfl) fun a hK => ?_
                  refine sl hK (by decide) rfl rfl (r_move hK rfl) fun a hK => ?_
                  refine sl hK (by decide) rfl rfl (r_move hK rfl) fun a hK => ?_
                  obtain ⟨y_247, h_248, H⟩ := bind_some H
                  refine sl_call Try.call10 hK (by decide) rfl rfl rfl (runs_Run_Range.calls (⟨x_84⟩ : runs_Run) a1 x_236 (lentOf_sub [] _) hS.sub (hS.lend_box0 (.tail _ (.tail _ (.head _)))) (hS.lend_row0 (.tail _ (.head _)) (hq_87.mono hl_242.le) rfl rfl) h_248) fun a v_ w hv_ hK => ?_
                  obtain ⟨R_249, v_252, cs_253, hv_, hr_, hl_250, hq_254⟩ := hv_
                  have hv_ := hv_.symm
                  subst hv_
                  obtain ⟨hS, hl_250⟩ := hS.sp0.back hr_ hl_250
                  have hS := hS.un1
                  have hRL := hRL.trans hl_250
                  refine sl hK (by decide) rfl rfl (r_assign hK rfl) fun a hK => ?_
                  refine wpList_nil ?_
                  refine wp_seq ?_
                  refine wp_seq ?_
                  refine wp_region_lit ?_
                  refine sl hK (by decide) rfl rfl (r_move hK rfl) fun a hK => ?_
                  refine sl hK (by decide) rfl rfl (r_move hK rfl) fun a hK => ?_
                  refine sl hK (by decide) rfl rfl (r_ibin hK rfl rfl rfl) fun a hK => ?_
                  refine wpList_nil ?_
                  refine wp_mid (fun a w => ∃ (x_286 : List api_Sample) (R_290 : Hp) (v_287 : Value) (cs_288 : List Value), law07_RunsCuts.j5 a1 a2 x_84 y_239 x_286 = some true ∧ RLe [] w0 R_249 R_290 ∧ Reps ty_api_Sample R_290 cs_288 x_286 ∧ Kn 160 a [(1, .int .i64 a1), (2, .int .i64 a2), (8, .pointer (some ⟨b_7, 0, none⟩)), (11, v_244), (12, v_287)] ∧ St [] w0 w R_290 [.row 29 2 v_85 x_84.length cs_86, .cells b_7 [v_85] 50, .row 29 2 v_244 y_239.length cs_245, .row 29 2 v_287 x_286.length cs_288]) ?_ ?_
                  · refine wp_cond_split (hK.ev rfl) (fun (hb_292 : (decide (x_236 < a2)) = true) => ?_) (fun (hb_292 : (decide (x_236 < a2)) = false) => ?_)
                    · rw [ifb_t hb_292] at H
                      refine wp_region_lit ?_
                      refine sl_buildSliceC (ps := []) (c := []) Try.underlying22 Try.sizeOf29 Try.zeroValue29 rfl pc_nil rfl rfl (by decide) rfl hS hK (by decide) rfl fun a w b_293 hS hK => ?_
                      refine sl hK (by decide) rfl rfl (r_move hK rfl) fun a hK => ?_
                      have hS := hS.row_lit (size := 2) (m := 0) rfl (by decide)
                      have hq_295 : Reps ty_api_Sample R_249 [] ([] : List api_Sample) := (Reps.nil _ _)
                      have hS := hS.pk1
                      obtain ⟨R_296, hS, hl_298, hs_297⟩ := hS.fz_row hq_254 rfl rfl
                      have hRL := hRL.trans hl_298
                      obtain ⟨y_299, h_300, H⟩ := bind_some H
                      refine sl_append_R elT22 (by decide) rfl (hq_295.mono hl_298.le) rfl hs_297 h_300 hS hK (by decide) rfl rfl rfl fun a w v_301 cs_302 hq_303 hS hK => ?_
                      refine sl hK (by decide) rfl rfl (r_move hK rfl) fun a hK => ?_
                      refine sl hK (by decide) rfl rfl (r_move hK rfl) fun a hK => ?_
                      refine sl hK (by decide) rfl rfl (r_ibin hK rfl rfl rfl) fun a hK => ?_
                      refine sl hK (by decide) rfl rfl (r_move hK rfl) fun a hK => ?_
                      obtain ⟨y_305, h_306, H⟩ := bind_some H
                      refine sl_call Try.call10 hK (by decide) rfl rfl rfl (runs_Run_Range.calls (⟨x_84⟩ : runs_Run) (IntKind.i64.wrap (x_236 + 1)) a2 (lentOf_sub [] _) hS.sub (hS.lend_box0 (.tail _ (.tail _ (.tail _ (.head _))))) (hS.lend_row0 (.tail _ (.tail _ (.head _))) (hq_87.mono (hl_242.le.trans (hl_250.le.trans hl_298.le))) rfl rfl) h_306) fun a v_ w hv_ hK => ?_
                      obtain ⟨R_307, v_310, cs_311, hv_, hr_, hl_308, hq_312⟩ := hv_
                      have hv_ := hv_.symm
                      subst hv_
                      obtain ⟨hS, hl_308⟩ := hS.sp0.back hr_ hl_308
                      have hS := hS.un1
                      have hRL := hRL.trans hl_308
                      have hS := hS.pk1
                      have hS := hS.pk1
                      obtain ⟨R_313, hS, hl_315, hs_314⟩ := hS.fz_row hq_312 rfl rfl
                      have hRL := hRL.trans hl_315
                      obtain ⟨y_316, h_317, H⟩ := bind_some H
                      refine sl_append_R elT22 (by decide) rfl (hq_303.mono (hl_308.le.trans hl_315.le)) rfl hs_314 h_317 hS hK (by decide) rfl rfl rfl fun a w v_318 cs_319 hq_320 hS hK => ?_
                      refine sl hK (by decide) rfl rfl (r_assign hK rfl) fun a hK => ?_
                      refine wpList_nil ?_
                      have hS := hS.pk1
                      have hS := hS.pk3
                      have hS := hS.pk3
                      exact ⟨y_316, _, _, _, H, (hl_298.trans (hl_308.trans hl_315)), hq_320, hK.sub (all_cons rfl (all_cons rfl (all_cons rfl (all_cons rfl (all_cons rfl (all_nil)))))), hS⟩
                    · rw [ifb_f hb_292] at H
                      refine wp_skip ?_
                      have hS := hS.pk1
                      have hS := hS.pk3
                      have hS := hS.pk3
                      exact ⟨y_247, _, _, _, H, (RLe.refl _ _), hq_254, hK.sub (all_cons rfl (all_cons rfl (all_cons rfl (all_cons rfl (all_cons rfl (all_nil)))))), hS⟩
                  · rintro a w ⟨x_286, R_290, v_287, cs_288, H, hl_291, hq_289, hK, hS⟩
                    unfold law07_RunsCuts.j5 at H
                    have hRL := hRL.trans hl_291
                    refine wp_seq ?_
                    refine wp_region_lit ?_
                    refine sl hK (by decide) rfl rfl (r_move hK rfl) fun a hK => ?_
                    refine sl hK (by decide) rfl rfl (r_move hK rfl) fun a hK => ?_
                    obtain ⟨y_322, h_323, H⟩ := bind_some H
                    refine sl_callV Try.call9 hS hK (by decide) rfl rfl rfl (law07_same.calls y_239 x_286 (lentOf_sub [] _) (hS.lend_row0 (.tail _ (.tail _ (.head _))) (hq_246.mono (hl_250.le.trans hl_291.le)) rfl rfl) (hS.lend_row0 (.tail _ (.tail _ (.tail _ (.head _)))) hq_289 rfl rfl) h_323) fun a w hS hK => ?_
                    refine sl hK (by decide) rfl rfl (r_assign hK rfl) fun a hK => ?_
                    refine wpList_nil ?_
                    refine wp_seq ?_
                    refine wp_seq ?_
                    refine wp_region_lit ?_
                    refine sl hK (by decide) rfl rfl (r_assign hK rfl) fun a hK => ?_
                    refine wpList_nil ?_
                    refine wp_block ?_
                    refine wp_loop_k (fun k_l6 a w => ∃ (x_455 : Int) (R_456 : Hp), law07_RunsCuts.l6 a1 a2 x_84 y_239 y_322 k_l6 x_455 = some true ∧ RLe [] w0 R_290 R_456 ∧ Kn 160 a [(1, .int .i64 a1), (2, .int .i64 a2), (8, .pointer (some ⟨b_7, 0, none⟩)), (11, v_244), (13, .bool y_322), (14, .int .i64 x_455)] ∧ St [] w0 w R_456 [.row 29 2 v_85 x_84.length cs_86, .cells b_7 [v_85] 50, .row 29 2 v_244 y_239.length cs_245]) (((y_239.length : Int) - 0).toNat + 1) ?_ ?_
                    · have hS := hS.pk2
                      have hS := hS.pk2
                      have hS := hS.pk2
                      exact ⟨0, _, H, (RLe.refl _ _), hK.sub (all_cons rfl (all_cons rfl (all_cons rfl (all_cons rfl (all_cons rfl (all_cons rfl (all_nil))))))), hS.trunc 3⟩
                    · rintro k_l6 a w ⟨x_455, R_456, H, hl_457, hK, hS⟩
                      cases k_l6 with
                      | zero => cases H
                      | succ k_l6 =>
                      rw [law07_RunsCuts.l6.eq_2] at H
                      have hRL := hRL.trans hl_457
                      refine wp_seq ?_
                      refine wp_seq ?_
                      refine wp_region_lit ?_
                      refine sl hK (by decide) rfl rfl (r_move hK rfl) fun a hK => ?_
                      refine sl hK (by decide) rfl rfl (r_move hK rfl) fun a hK => ?_
                      refine sl hK (by decide) rfl rfl (r_len_O Try.underlying22 hS (.tail _ (.tail _ (.head _))) hK rfl) fun a hK => ?_
                      refine sl hK (by decide) rfl rfl (r_ibin hK rfl rfl rfl) fun a hK => ?_
                      refine wpList_nil ?_
                      refine wp_cond_split (hK.ev rfl) (fun (hb_672 : (decide (x_455 < (y_239.length : Int))) = true) => ?_) (fun (hb_672 : (decide (x_455 < (y_239.length : Int))) = false) => ?_)
                      · rw [ifb_t hb_672] at H
                        refine wp_skip ?_
                        refine wp_seq ?_
                        refine wp_block ?_
                        refine wp_seq ?_
                        refine wp_region_lit ?_
                        refine sl hK (by decide) rfl rfl (r_move hK rfl) fun a hK => ?_
                        refine sl hK (by decide) rfl rfl (r_move hK rfl) fun a hK => ?_
                        refine sl hK (by decide) rfl rfl (r_move hK rfl) fun a hK => ?_
                        obtain ⟨y_673, h_674, H⟩ := bind_some H
                        obtain ⟨b_676, c_677, cs_678, hv_675, hr_679, hc_680, h_6740, h_6741⟩ := hS.row_ix (.tail _ (.tail _ (.head _))) (hq_246.mono (hl_250.le.trans (hl_291.le.trans hl_457.le))) rfl rfl h_674
                        obtain ⟨v_681, rfl, hs_682⟩ := hr_679
                        refine sl hK (by decide) rfl rfl (r_indexAddr_R Try.underlying22 Try.sizeOf29 hv_675 h_6740 h_6741 hK rfl rfl) fun a hK => ?_
                        refine sl hK (by decide) rfl rfl (r_fieldAddr Try.underlying29 rfl Try.sizeOf3 hK rfl) fun a hK => ?_
                        refine sl hK (by decide) rfl rfl (r_load Try.isAgg3 hK rfl (by have h_ := hS.row_cell (.tail _ (.tail _ (.head _))) hv_675 (hc_680 0 _ rfl); simpa [Nat.add_assoc] using h_)) fun a hK => ?_
                        obtain ⟨y_683, h_684, H⟩ := bind_some H
                        refine sl_call Try.call12 hK (by decide) rfl rfl rfl (runs_Run_Get.calls (⟨x_84⟩ : runs_Run) y_673.Time (lentOf_sub [] _) hS.sub (hS.lend_box0 (.tail _ (.head _))) (hS.lend_row0 (.head _) (hq_87.mono (hl_242.le.trans (hl_250.le.trans (hl_291.le.trans hl_457.le)))) rfl rfl) h_684) fun a v_ w hv_ hK => ?_
                        obtain ⟨R_685, v_688, cs_689, hv_, hr_, hl_686, hq_690⟩ := hv_
                        have hv_ := hv_.symm
                        subst hv_
                        obtain ⟨hS, hl_686⟩ := hS.sp0.back hr_ hl_686
                        have hS := hS.un1
                        have hRL := hRL.trans hl_686
                        refine sl hK (by decide) rfl rfl (r_move hK rfl) fun a hK => ?_
                        refine sl hK (by decide) rfl rfl (r_extract hK rfl rfl) fun a hK => ?_
                        refine sl hK (by decide) rfl rfl (r_extract hK rfl rfl) fun a hK => ?_
                        refine sl hK (by decide) rfl rfl (r_assign hK rfl) fun a hK => ?_
                        refine sl hK (by decide) rfl rfl (r_assign hK rfl) fun a hK => ?_
                        refine wpList_nil ?_
                        refine wp_seq ?_
                        refine wp_region_lit ?_
                        refine sl hK (by decide) rfl rfl (r_move hK rfl) fun a hK => ?_
                        refine sl hK (by decide) rfl rfl (r_move hK rfl) fun a hK => ?_
                        refine sl hK (by decide) rfl rfl (r_move hK rfl) fun a hK => ?_
                        obtain ⟨y_691, h_692, H⟩ := bind_some H
                        obtain ⟨b_694, c_695, cs_696, hv_693, hr_697, hc_698, h_6920, h_6921⟩ := hS.row_ix (.tail _ (.tail _ (.tail _ (.head _)))) (hq_246.mono (hl_250.le.trans (hl_291.le.trans (hl_457.le.trans hl_686.le)))) rfl rfl h_692
                        obtain ⟨v_699, rfl, hs_700⟩ := hr_697
                        refine sl hK (by decide) rfl rfl (r_indexAddr_R Try.underlying22 Try.sizeOf29 hv_693 h_6920 h_6921 hK rfl rfl) fun a hK => ?_
                        refine sl hK (by decide) rfl rfl (r_fieldAddr Try.underlying29 rfl Try.sizeOf27 hK rfl) fun a hK => ?_
                        refine sl hK (by decide) rfl rfl (r_load Try.isAgg27 hK rfl (by have h_ := hS.row_cell (.tail _ (.tail _ (.tail _ (.head _)))) hv_693 (hc_698 1 _ rfl); simpa [Nat.add_assoc] using h_)) fun a hK => ?_
                        obtain ⟨y_701, h_702, H⟩ := bind_some H
                        refine sl_callV Try.call13 hS hK (by decide) rfl rfl rfl (law07_vals.calls y_683.1 y_691.Vals (lentOf_sub [] _) (hS.lend_row0 (.head _) hq_690 rfl rfl) (hs_700.mono hS.rLe0) h_702) fun a w hS hK => ?_
                        refine sl hK (by decide) rfl rfl (r_assign hK rfl) fun a hK => ?_
                        refine wpList_nil ?_
                        refine wp_seq ?_
                        refine wp_mid (fun a w => ∃ (x_793 : Bool), law07_RunsCuts.j7 (law07_RunsCuts.l6 a1 a2 x_84 y_239 y_322 k_l6) y_239 x_455 x_793 = some true ∧ Kn 160 a [(1, .int .i64 a1), (2, .int .i64 a2), (8, .pointer (some ⟨b_7, 0, none⟩)), (11, v_244), (13, .bool y_322), (14, .int .i64 x_455), (158, .bool x_793)] ∧ St [] w0 w R_685 [.row 29 2 v_85 x_84.length cs_86, .cells b_7 [v_85] 50, .row 29 2 v_244 y_239.length cs_245]) ?_ ?_
                        · refine par_region (C := fun w => St [] w0 w R_685 [.row 44 11 v_688 y_683.1.length cs_689, .row 29 2 v_85 x_84.length cs_86, .cells b_7 [v_85] 50, .row 29 2 v_244 y_239.length cs_245]) [(0, true), (1, true), (2, true), (3, true), (4, true), (5, true), (6, true), (7, true), (8, true), (9, true), (10, true), (11, true), (12, true), (13, true), (14, true), (15, true), (16, true), (17, true), (18, true), (19, true), (20, true), (21, true), (22, true), (23, true), (24, true), (25, true), (26, true), (27, true), (28, true), (29, true), (30, true), (31, true), (32, true), (33, true), (34, true), (35, true), (36, true), (37, true), (38, true), (39, true), (40, true), (41, true)] mixed (by kernel_rfl) hS (fun w hS => hS) fun w hS => ?_
                          refine sp (k := 0) rfl hK (by decide) rfl rfl (fun w hS => r_move hK rfl) fun a hK => ?_
                          refine sp (k := 1) rfl hK (by decide) rfl rfl (fun w hS => r_un hK rfl (u_not _)) fun a hK => ?_
                          refine sp (k := 2) rfl hK (by decide) rfl rfl (fun w hS => r_move hK rfl) fun a hK => ?_
                          rcases or_b (!y_683.2) with hb_840 | hb_840
                          · rw [ifb_t hb_840] at H
                            refine sp_skip (k := 3) rfl hK (by decide) (wft hb_840) rfl fun a hK => ?_
                            refine sp_skip (k := 4) rfl hK (by decide) (wft hb_840) rfl fun a hK => ?_
                            refine sp (k := 5) rfl hK (by decide) rfl rfl (fun w hS => r_pick_t hb_840 hK rfl rfl) fun a hK => ?_
                            refine sp (k := 6) rfl hK (by decide) rfl rfl (fun w hS => r_move hK rfl) fun a hK => ?_
                            refine sp_skip (k := 7) rfl hK (by decide) rfl rfl fun a hK => ?_
                            refine sp_skip (k := 8) rfl hK (by decide) rfl rfl fun a hK => ?_
                            refine sp_skip (k := 9) rfl hK (by decide) rfl rfl fun a hK => ?_
                            refine sp_skip (k := 10) rfl hK (by decide) rfl rfl fun a hK => ?_
                            refine sp_skip (k := 11) rfl hK (by decide) rfl rfl fun a hK => ?_
                            refine sp_skip (k := 12) rfl hK (by decide) rfl rfl fun a hK => ?_
                            refine sp_skip (k := 13) rfl hK (by decide) rfl rfl fun a hK => ?_
                            refine sp (k := 14) rfl hK (by decide) rfl rfl (fun w hS => r_pick hK rfl rfl rfl) fun a hK => ?_
                            refine sp (k := 15) rfl hK (by decide) rfl rfl (fun w hS => r_move hK rfl) fun a hK => ?_
                            refine sp_skip (k := 16) rfl hK (by decide) rfl rfl fun a hK => ?_
                            refine sp_skip (k := 17) rfl hK (by decide) rfl rfl fun a hK => ?_
                            refine sp_skip (k := 18) rfl hK (by decide) rfl rfl fun a hK => ?_
                            refine sp_skip (k := 19) rfl hK (by decide) rfl rfl fun a hK => ?_
                            refine sp_skip (k := 20) rfl hK (by decide) rfl rfl fun a hK => ?_
                            refine sp_skip (k := 21) rfl hK (by decide) rfl rfl fun a hK => ?_
                            refine sp_skip (k := 22) rfl hK (by decide) rfl rfl fun a hK => ?_
                            refine sp (k := 23) rfl hK (by decide) rfl rfl (fun w hS => r_pick hK rfl rfl rfl) fun a hK => ?_
                            refine sp (k := 24) rfl hK (by decide) rfl rfl (fun w hS => r_move hK rfl) fun a hK => ?_
                            refine sp_skip (k := 25) rfl hK (by decide) rfl rfl fun a hK => ?_
                            refine sp_skip (k := 26) rfl hK (by decide) rfl rfl fun a hK => ?_
                            refine sp_skip (k := 27) rfl hK (by decide) rfl rfl fun a hK => ?_
                            refine sp_skip (k := 28) rfl hK (by decide) rfl rfl fun a hK => ?_
                            refine sp_skip (k := 29) rfl hK (by decide) rfl rfl fun a hK => ?_
                            refine sp_skip (k := 30) rfl hK (by decide) rfl rfl fun a hK => ?_
                            refine sp_skip (k := 31) rfl hK (by decide) rfl rfl fun a hK => ?_
                            refine sp_skip (k := 32) rfl hK (by decide) rfl rfl fun a hK => ?_
                            refine sp_skip (k := 33) rfl hK (by decide) rfl rfl fun a hK => ?_
                            refine sp_skip (k := 34) rfl hK (by decide) rfl rfl fun a hK => ?_
                            refine sp_skip (k := 35) rfl hK (by decide) rfl rfl fun a hK => ?_
                            refine sp_skip (k := 36) rfl hK (by decide) rfl rfl fun a hK => ?_
                            refine sp_skip (k := 37) rfl hK (by decide) rfl rfl fun a hK => ?_
                            refine sp_skip (k := 38) rfl hK (by decide) rfl rfl fun a hK => ?_
                            refine sp_skip (k := 39) rfl hK (by decide) rfl rfl fun a hK => ?_
                            refine sp_skip (k := 40) rfl hK (by decide) rfl rfl fun a hK => ?_
                            refine sp (k := 41) rfl hK (by decide) rfl rfl (fun w hS => r_pick hK rfl rfl rfl) fun a hK => ?_
                            refine wpPar_nil (NoP_nil ?_)
                            have hS := hS.pk3
                            have hS := hS.pk3
                            have hS := hS.pk3
                            exact ⟨true, H, hK.sub (all_cons rfl (all_cons rfl (all_cons rfl (all_cons rfl (all_cons rfl (all_cons rfl (all_cons rfl (all_nil)))))))), hS.trunc 3⟩
                          · rw [ifb_f hb_840] at H
                            refine sp (k := 3) rfl hK (by decide) (wff hb_840) rfl (fun w hS => r_move hK rfl) fun a hK => ?_
                            refine sp (k := 4) rfl hK (by decide) (wff hb_840) rfl (fun w hS => r_un hK rfl (u_not _)) fun a hK => ?_
                            refine sp (k := 5) rfl hK (by decide) rfl rfl (fun w hS => r_pick_f hb_840 hK rfl rfl) fun a hK => ?_
                            refine sp (k := 6) rfl hK (by decide) rfl rfl (fun w hS => r_move hK rfl) fun a hK => ?_
                            rcases or_b (!y_701) with hb_841 | hb_841
                            · rw [ifb_t hb_841] at H
                              refine sp_skip (k := 7) rfl hK (by decide) (wft hb_841) rfl fun a hK => ?_
                              refine sp_skip (k := 8) rfl hK (by decide) (wft hb_841) rfl fun a hK => ?_
                              refine sp_skip (k := 9) rfl hK (by decide) (wft hb_841) rfl fun a hK => ?_
                              refine sp_skip (k := 10) rfl hK (by decide) (wft hb_841) rfl fun a hK => ?_
                              refine sp_skip (k := 11) rfl hK (by decide) (wft hb_841) rfl fun a hK => ?_
                              refine sp_skip (k := 12) rfl hK (by decide) (wft hb_841) rfl fun a hK => ?_
                              refine sp_skip (k := 13) rfl hK (by decide) (wft hb_841) rfl fun a hK => ?_
                              refine sp (k := 14) rfl hK (by decide) rfl rfl (fun w hS => r_pick_t hb_841 hK rfl rfl) fun a hK => ?_
                              refine sp (k := 15) rfl hK (by decide) rfl rfl (fun w hS => r_move hK rfl) fun a hK => ?_
                              refine sp_skip (k := 16) rfl hK (by decide) rfl rfl fun a hK => ?_
                              refine sp_skip (k := 17) rfl hK (by decide) rfl rfl fun a hK => ?_
                              refine sp_skip (k := 18) rfl hK (by decide) rfl rfl fun a hK => ?_
                              refine sp_skip (k := 19) rfl hK (by decide) rfl rfl fun a hK => ?_
                              refine sp_skip (k := 20) rfl hK (by decide) rfl rfl fun a hK => ?_
                              refine sp_skip (k := 21) rfl hK (by decide) rfl rfl fun a hK => ?_
                              refine sp_skip (k := 22) rfl hK (by decide) rfl rfl fun a hK => ?_
                              refine sp (k := 23) rfl hK (by decide) rfl rfl (fun w hS => r_pick hK rfl rfl rfl) fun a hK => ?_
                              refine sp (k := 24) rfl hK (by decide) rfl rfl (fun w hS => r_move hK rfl) fun a hK => ?_
                              refine sp_skip (k := 25) rfl hK (by decide) rfl rfl fun a hK => ?_
                              refine sp_skip (k := 26) rfl hK (by decide) rfl rfl fun a hK => ?_
                              refine sp_skip (k := 27) rfl hK (by decide) rfl rfl fun a hK => ?_
                              refine sp_skip (k := 28) rfl hK (by decide) rfl rfl fun a hK => ?_
                              refine sp_skip (k := 29) rfl hK (by decide) rfl rfl fun a hK => ?_
                              refine sp_skip (k := 30) rfl hK (by decide) rfl rfl fun a hK => ?_
                              refine sp_skip (k := 31) rfl hK (by decide) rfl rfl fun a hK => ?_
                              refine sp_skip (k := 32) rfl hK (by decide) rfl rfl fun a hK => ?_
                              refine sp_skip (k := 33) rfl hK (by decide) rfl rfl fun a hK => ?_
                              refine sp_skip (k := 34) rfl hK (by decide) rfl rfl fun a hK => ?_
                              refine sp_skip (k := 35) rfl hK (by decide) rfl rfl fun a hK => ?_
                              refine sp_skip (k := 36) rfl hK (by decide) rfl rfl fun a hK => ?_
                              refine sp_skip (k := 37) rfl hK (by decide) rfl rfl fun a hK => ?_
                              refine sp_skip (k := 38) rfl hK (by decide) rfl rfl fun a hK => ?_
                              refine sp_skip (k := 39) rfl hK (by decide) rfl rfl fun a hK => ?_
                              refine sp_skip (k := 40) rfl hK (by decide) rfl rfl fun a hK => ?_
                              refine sp (k := 41) rfl hK (by decide) rfl rfl (fun w hS => r_pick hK rfl rfl rfl) fun a hK => ?_
                              refine wpPar_nil (NoP_nil ?_)
                              have hS := hS.pk3
                              have hS := hS.pk3
                              have hS := hS.pk3
                              exact ⟨true, H, hK.sub (all_cons rfl (all_cons rfl (all_cons rfl (all_cons rfl (all_cons rfl (all_cons rfl (all_cons rfl (all_nil)))))))), hS.trunc 3⟩
                            · rw [ifb_f hb_841] at H
                              refine sp (k := 7) rfl hK (by decide) (wff hb_841) rfl (fun w hS => r_move hK rfl) fun a hK => ?_
                              refine sp (k := 8) rfl hK (by decide) (wff hb_841) rfl (fun w hS => r_move hK rfl) fun a hK => ?_
                              obtain ⟨y_842, h_843, H⟩ := bind_some H
                              obtain ⟨b_845, c_846, cs_847, hv_844, hr_848, hc_849, h_8430, h_8431⟩ := hS.row_ix (.tail _ (.tail _ (.tail _ (.head _)))) (hq_246.mono (hl_250.le.trans (hl_291.le.trans (hl_457.le.trans hl_686.le)))) rfl rfl h_843
                              obtain ⟨v_850, rfl, hs_851⟩ := hr_848
                              refine sp (k := 9) rfl hK (by decide) (wff hb_841) rfl (fun w hS => r_indexAddr_R Try.underlying22 Try.sizeOf29 hv_844 h_8430 h_8431 hK rfl rfl) fun a hK => ?_
                              refine sp (k := 10) rfl hK (by decide) (wff hb_841) rfl (fun w hS => r_fieldAddr Try.underlying29 rfl Try.sizeOf3 hK rfl) fun a hK => ?_
                              refine sp (k := 11) rfl hK (by decide) (wff hb_841) rfl (fun w hS => r_load Try.isAgg3 hK rfl (by have h_ := hS.row_cell (.tail _ (.tail _ (.tail _ (.head _)))) hv_844 (hc_849 0 _ rfl); simpa [Nat.add_assoc] using h_)) fun a hK => ?_
                              refine sp (k := 12) rfl hK (by decide) (wff hb_841) rfl (fun w hS => r_move hK rfl) fun a hK => ?_
                              refine sp (k := 13) rfl hK (by decide) (wff hb_841) rfl (fun w hS => r_ibin hK rfl rfl rfl) fun a hK => ?_
                              refine sp (k := 14) rfl hK (by decide) rfl rfl (fun w hS => r_pick_f hb_841 hK rfl rfl) fun a hK => ?_
                              refine sp (k := 15) rfl hK (by decide) rfl rfl (fun w hS => r_move hK rfl) fun a hK => ?_
                              rcases or_b (decide (y_842.Time < a1)) with hb_852 | hb_852
                              · rw [ifb_t hb_852] at H
                                refine sp_skip (k := 16) rfl hK (by decide) (wft hb_852) rfl fun a hK => ?_
                                refine sp_skip (k := 17) rfl hK (by decide) (wft hb_852) rfl fun a hK => ?_
                                refine sp_skip (k := 18) rfl hK (by decide) (wft hb_852) rfl fun a hK => ?_
                                refine sp_skip (k := 19) rfl hK (by decide) (wft hb_852) rfl fun a hK => ?_
                                refine sp_skip (k := 20) rfl hK (by decide) (wft hb_852) rfl fun a hK => ?_
                                refine sp_skip (k := 21) rfl hK (by decide) (wft hb_852) rfl fun a hK => ?_
                                refine sp_skip (k := 22) rfl hK (by decide) (wft hb_852) rfl fun a hK => ?_
                                refine sp (k := 23) rfl hK (by decide) rfl rfl (fun w hS => r_pick_t hb_852 hK rfl rfl) fun a hK => ?_
                                refine sp (k := 24) rfl hK (by decide) rfl rfl (fun w hS => r_move hK rfl) fun a hK => ?_
                                refine sp_skip (k := 25) rfl hK (by decide) rfl rfl fun a hK => ?_
                                refine sp_skip (k := 26) rfl hK (by decide) rfl rfl fun a hK => ?_
                                refine sp_skip (k := 27) rfl hK (by decide) rfl rfl fun a hK => ?_
                                refine sp_skip (k := 28) rfl hK (by decide) rfl rfl fun a hK => ?_
                                refine sp_skip (k := 29) rfl hK (by decide) rfl rfl fun a hK => ?_
                                refine sp_skip (k := 30) rfl hK (by decide) rfl rfl fun a hK => ?_
                                refine sp_skip (k := 31) rfl hK (by decide) rfl rfl fun a hK => ?_
                                refine sp_skip (k := 32) rfl hK (by decide) rfl rfl fun a hK => ?_
                                refine sp_skip (k := 33) rfl hK (by decide) rfl rfl fun a hK => ?_
                                refine sp_skip (k := 34) rfl hK (by decide) rfl rfl fun a hK => ?_
                                refine sp_skip (k := 35) rfl hK (by decide) rfl rfl fun a hK => ?_
                                refine sp_skip (k := 36) rfl hK (by decide) rfl rfl fun a hK => ?_
                                refine sp_skip (k := 37) rfl hK (by decide) rfl rfl fun a hK => ?_
                                refine sp_skip (k := 38) rfl hK (by decide) rfl rfl fun a hK => ?_
                                refine sp_skip (k := 39) rfl hK (by decide) rfl rfl fun a hK => ?_
                                refine sp_skip (k := 40) rfl hK (by decide) rfl rfl fun a hK => ?_
                                refine sp (k := 41) rfl hK (by decide) rfl rfl (fun w hS => r_pick hK rfl rfl rfl) fun a hK => ?_
                                refine wpPar_nil (NoP_nil ?_)
                                have hS := hS.pk3
                                have hS := hS.pk3
                                have hS := hS.pk3
                                exact ⟨true, H, hK.sub (all_cons rfl (all_cons rfl (all_cons rfl (all_cons rfl (all_cons rfl (all_cons rfl (all_cons rfl (all_nil)))))))), hS.trunc 3⟩
                              · rw [ifb_f hb_852] at H
                                refine sp (k := 16) rfl hK (by decide) (wff hb_852) rfl (fun w hS => r_move hK rfl) fun a hK => ?_
                                refine sp (k := 17) rfl hK (by decide) (wff hb_852) rfl (fun w hS => r_move hK rfl) fun a hK => ?_
                                obtain ⟨y_853, h_854, H⟩ := bind_some H
                                obtain ⟨b_856, c_857, cs_858, hv_855, hr_859, hc_860, h_8540, h_8541⟩ := hS.row_ix (.tail _ (.tail _ (.tail _ (.head _)))) (hq_246.mono (hl_250.le.trans (hl_291.le.trans (hl_457.le.trans hl_686.le)))) rfl rfl h_854
                                obtain ⟨v_861, rfl, hs_862⟩ := hr_859
                                refine sp (k := 18) rfl hK (by decide) (wff hb_852) rfl (fun w hS => r_indexAddr_R Try.underlying22 Try.sizeOf29 hv_855 h_8540 h_8541 hK rfl rfl) fun a hK => ?_
                                refine sp (k := 19) rfl hK (by decide) (wff hb_852) rfl (fun w hS => r_fieldAddr Try.underlying29 rfl Try.sizeOf3 hK rfl) fun a hK => ?_
                                refine sp (k := 20) rfl hK (by decide) (wff hb_852) rfl (fun w hS => r_load Try.isAgg3 hK rfl (by have h_ := hS.row_cell (.tail _ (.tail _ (.tail _ (.head _)))) hv_855 (hc_860 0 _ rfl); simpa [Nat.add_assoc] using h_)) fun a hK => ?_
                                refine sp (k := 21) rfl hK (by decide) (wff hb_852) rfl (fun w hS => r_move hK rfl) fun a hK => ?_
                                refine sp (k := 22) rfl hK (by decide) (wff hb_852) rfl (fun w hS => r_ibin hK rfl rfl rfl) fun a hK => ?_
                                refine sp (k := 23) rfl hK (by decide) rfl rfl (fun w hS => r_pick_f hb_852 hK rfl rfl) fun a hK => ?_
                                refine sp (k := 24) rfl hK (by decide) rfl rfl (fun w hS => r_move hK rfl) fun a hK => ?_
                                rcases or_b (decide (y_853.Time > a2)) with hb_863 | hb_863
                                · rw [ifb_t hb_863] at H
                                  refine sp_skip (k := 25) rfl hK (by decide) (wft hb_863) rfl fun a hK => ?_
                                  refine sp_skip (k := 26) rfl hK (by decide) (wft hb_863) rfl fun a hK => ?_
                                  refine sp_skip (k := 27) rfl hK (by decide) (wft hb_863) rfl fun a hK => ?_
                                  refine sp_skip (k := 28) rfl hK (by decide) rfl rfl fun a hK => ?_
                                  refine sp_skip (k := 29) rfl hK (by decide) rfl rfl fun a hK => ?_
                                  refine sp_skip (k := 30) rfl hK (by decide) rfl rfl fun a hK => ?_
                                  refine sp_skip (k := 31) rfl hK (by decide) rfl rfl fun a hK => ?_
                                  refine sp_skip (k := 32) rfl hK (by decide) rfl rfl fun a hK => ?_
                                  refine sp_skip (k := 33) rfl hK (by decide) rfl rfl fun a hK => ?_
                                  refine sp_skip (k := 34) rfl hK (by decide) rfl rfl fun a hK => ?_
                                  refine sp_skip (k := 35) rfl hK (by decide) rfl rfl fun a hK => ?_
                                  refine sp_skip (k := 36) rfl hK (by decide) rfl rfl fun a hK => ?_
                                  refine sp_skip (k := 37) rfl hK (by decide) rfl rfl fun a hK => ?_
                                  refine sp_skip (k := 38) rfl hK (by decide) rfl rfl fun a hK => ?_
                                  refine sp_skip (k := 39) rfl hK (by decide) rfl rfl fun a hK => ?_
                                  refine sp_skip (k := 40) rfl hK (by decide) (wft hb_863) rfl fun a hK => ?_
                                  refine sp (k := 41) rfl hK (by decide) rfl rfl (fun w hS => r_pick_t hb_863 hK rfl rfl) fun a hK => ?_
                                  refine wpPar_nil (NoP_nil ?_)
                                  have hS := hS.pk3
                                  have hS := hS.pk3
                                  have hS := hS.pk3
                                  exact ⟨true, H, hK.sub (all_cons rfl (all_cons rfl (all_cons rfl (all_cons rfl (all_cons rfl (all_cons rfl (all_cons rfl (all_nil)))))))), hS.trunc 3⟩
                                · rw [ifb_f hb_863] at H
                                  refine sp (k := 25) rfl hK (by decide) (wff hb_863) rfl (fun w hS => r_move hK rfl) fun a hK => ?_
                                  refine sp (k := 26) rfl hK (by decide) (wff hb_863) rfl (fun w hS => r_ibin hK rfl rfl rfl) fun a hK => ?_
                                  refine sp (k := 27) rfl hK (by decide) (wff hb_863) rfl (fun w hS => r_move hK rfl) fun a hK => ?_
                                  rcases or_b (decide (x_455 > 0)) with hb_864 | hb_864
                                  · rw [ifb_t hb_864] at H
                                    refine sp (k := 28) rfl hK (by decide) (wtt hb_864) rfl (fun w hS => r_move hK rfl) fun a hK => ?_
                                    refine sp (k := 29) rfl hK (by decide) (wtt hb_864) rfl (fun w hS => r_move hK rfl) fun a hK => ?_
                                    obtain ⟨y_865, h_866, H⟩ := bind_some H
                                    obtain ⟨b_868, c_869, cs_870, hv_867, hr_871, hc_872, h_8660, h_8661⟩ := hS.row_ix (.tail _ (.tail _ (.tail _ (.head _)))) (hq_246.mono (hl_250.le.trans (hl_291.le.trans (hl_457.le.trans hl_686.le)))) rfl rfl h_866
                                    obtain ⟨v_873, rfl, hs_874⟩ := hr_871
                                    refine sp (k := 30) rfl hK (by decide) (wtt hb_864) rfl (fun w hS => r_indexAddr_R Try.underlying22 Try.sizeOf29 hv_867 h_8660 h_8661 hK rfl rfl) fun a hK => ?_
                                    refine sp (k := 31) rfl hK (by decide) (wtt hb_864) rfl (fun w hS => r_fieldAddr Try.underlying29 rfl Try.sizeOf3 hK rfl) fun a hK => ?_
                                    refine sp (k := 32) rfl hK (by decide) (wtt hb_864) rfl (fun w hS => r_load Try.isAgg3 hK rfl (by have h_ := hS.row_cell (.tail _ (.tail _ (.tail _ (.head _)))) hv_867 (hc_872 0 _ rfl); simpa [Nat.add_assoc] using h_)) fun a hK => ?_
                                    refine sp (k := 33) rfl hK (by decide) (wtt hb_864) rfl (fun w hS => r_move hK rfl) fun a hK => ?_
                                    refine sp (k := 34) rfl hK (by decide) (wtt hb_864) rfl (fun w hS => r_move hK rfl) fun a hK => ?_
                                    refine sp (k := 35) rfl hK (by decide) (wtt hb_864) rfl (fun w hS => r_ibin hK rfl rfl rfl) fun a hK => ?_
                                    obtain ⟨y_875, h_876, H⟩ := bind_some H
                                    obtain ⟨b_878, c_879, cs_880, hv_877, hr_881, hc_882, h_8760, h_8761⟩ := hS.row_ix (.tail _ (.tail _ (.tail _ (.head _)))) (hq_246.mono (hl_250.le.trans (hl_291.le.trans (hl_457.le.trans hl_686.le)))) rfl rfl h_876
                                    obtain ⟨v_883, rfl, hs_884⟩ := hr_881
                                    refine sp (k := 36) rfl hK (by decide) (wtt hb_864) rfl (fun w hS => r_indexAddr_R Try.underlying22 Try.sizeOf29 hv_877 h_8760 h_8761 hK rfl rfl) fun a hK => ?_
                                    refine sp (k := 37) rfl hK (by decide) (wtt hb_864) rfl (fun w hS => r_fieldAddr Try.underlying29 rfl Try.sizeOf3 hK rfl) fun a hK => ?_
                                    refine sp (k := 38) rfl hK (by decide) (wtt hb_864) rfl (fun w hS => r_load Try.isAgg3 hK rfl (by have h_ := hS.row_cell (.tail _ (.tail _ (.tail _ (.head _)))) hv_877 (hc_882 0 _ rfl); simpa [Nat.add_assoc] using h_)) fun a hK => ?_
                                    refine sp (k := 39) rfl hK (by decide) (wtt hb_864) rfl (fun w hS => r_ibin hK rfl rfl rfl) fun a hK => ?_
                                    refine sp (k := 40) rfl hK (by decide) (wff hb_863) rfl (fun w hS => r_pick_t hb_864 hK rfl rfl) fun a hK => ?_
                                    refine sp (k := 41) rfl hK (by decide) rfl rfl (fun w hS => r_pick_f hb_863 hK rfl rfl) fun a hK => ?_
                                    refine wpPar_nil (NoP_nil ?_)
                                    have hS := hS.pk3
                                    have hS := hS.pk3
                                    have hS := hS.pk3
                                    exact ⟨(decide (y_865.Time ≤ y_875.Time)), H, hK.sub (all_cons rfl (all_cons rfl (all_cons rfl (all_cons rfl (all_cons rfl (all_cons rfl (all_cons rfl (all_nil)))))))), hS.trunc 3⟩
                                  · rw [ifb_f hb_864] at H
                                    refine sp_skip (k := 28) rfl hK (by decide) (wtf hb_864) rfl fun a hK => ?_
                                    refine sp_skip (k := 29) rfl hK (by decide) (wtf hb_864) rfl fun a hK => ?_
                                    refine sp_skip (k := 30) rfl hK (by decide) (wtf hb_864) rfl fun a hK => ?_
                                    refine sp_skip (k := 31) rfl hK (by decide) (wtf hb_864) rfl fun a hK => ?_
                                    refine sp_skip (k := 32) rfl hK (by decide) (wtf hb_864) rfl fun a hK => ?_
                                    refine sp_skip (k := 33) rfl hK (by decide) (wtf hb_864) rfl fun a hK => ?_
                                    refine sp_skip (k := 34) rfl hK (by decide) (wtf hb_864) rfl fun a hK => ?_
                                    refine sp_skip (k := 35) rfl hK (by decide) (wtf hb_864) rfl fun a hK => ?_
                                    refine sp_skip (k := 36) rfl hK (by decide) (wtf hb_864) rfl fun a hK => ?_
                                    refine sp_skip (k := 37) rfl hK (by decide) (wtf hb_864) rfl fun a hK => ?_
                                    refine sp_skip (k := 38) rfl hK (by decide) (wtf hb_864) rfl fun a hK => ?_
                                    refine sp_skip (k := 39) rfl hK (by decide) (wtf hb_864) rfl fun a hK => ?_
                                    refine sp (k := 40) rfl hK (by decide) (wff hb_863) rfl (fun w hS => r_pick_f hb_864 hK rfl rfl) fun a hK => ?_
                                    refine sp (k := 41) rfl hK (by decide) rfl rfl (fun w hS => r_pick_f hb_863 hK rfl rfl) fun a hK => ?_
                                    refine wpPar_nil (NoP_nil ?_)
                                    have hS := hS.pk3
                                    have hS := hS.pk3
                                    have hS := hS.pk3
                                    exact ⟨false, H, hK.sub (all_cons rfl (all_cons rfl (all_cons rfl (all_cons rfl (all_cons rfl (all_cons rfl (all_cons rfl (all_nil)))))))), hS.trunc 3⟩
                        · rintro a w ⟨x_793, H, hK, hS⟩
                          unfold law07_RunsCuts.j7 at H
                          refine wp_cond_split (hK.ev rfl) (fun (hb_885 : x_793 = true) => ?_) (fun (hb_885 : x_793 = false) => ?_)
                          · rw [ifb_t hb_885] at H
                            refine wp_seq ?_
                            refine wp_region_lit ?_
                            refine sl hK (by decide) rfl rfl (r_assign hK rfl) fun a hK => ?_
                            refine wpList_nil ?_
                            exact absurd (Option.some.inj H) (by decide)
                          · rw [ifb_f hb_885] at H
                            refine wp_skip ?_
                            refine wp_region_lit ?_
                            refine sl hK (by decide) rfl rfl (r_move hK rfl) fun a hK => ?_
                            refine sl hK (by decide) rfl rfl (r_ibin hK rfl rfl rfl) fun a hK => ?_
                            refine sl hK (by decide) rfl rfl (r_assign hK rfl) fun a hK => ?_
                            refine wpList_nil ?_
                            have hS := hS.pk2
                            have hS := hS.pk2
                            have hS := hS.pk2
                            exact ⟨_, Nat.lt_succ_self _, (IntKind.i64.wrap (x_455 + 1)), _, H, (hl_457.trans hl_686), hK.sub (all_cons rfl (all_cons rfl (all_cons rfl (all_cons rfl (all_cons rfl (all_cons rfl (all_nil))))))), hS⟩
                      · rw [ifb_f hb_672] at H
                        refine wp_exit ?_
                        refine wp_seq ?_
                        refine wp_region_lit ?_
                        refine sl hK (by decide) rfl rfl (r_move hK rfl) fun a hK => ?_
                        refine sl hK (by decide) rfl rfl (r_assign hK rfl) fun a hK => ?_
                        refine wpList_nil ?_
                        have hr_ := Option.some.inj H
                        refine wp_ret ?_
                        repeat (first | refine ret_then ?_ | refine ret_block ?_ | refine ret_scope ?_)
                        exact ret_1 Try.results4 hK (rv_tmp hK rfl) ⟨congrArg (fun b => Ending.returned (Value.bool b)) hr_, hS.below⟩

end Go.Proofs.Ytafkcbacdfiniaa.M
