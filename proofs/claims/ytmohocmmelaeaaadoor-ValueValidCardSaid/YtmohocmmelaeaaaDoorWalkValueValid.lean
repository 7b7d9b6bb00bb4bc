/- Each Go function of the laws answers as its plain Lean function tells, wherever that tells something. Printed by wip/eng/gen.py. -/
import Derived.Test.YtmohocmmelaeaaaDoorWalk1
namespace Go.Proofs.YtmohocmmelaeaaaDoor.M
open Go Go.Eng Go.Proofs Go.RowKit
set_option linter.unusedVariables false
set_option linter.unusedSimpArgs false

/-! ### catchment/catchmentref01.Digits: function 36 -/
set_option maxHeartbeats 4000000 in
set_option maxRecDepth 100000 in
theorem ref01_Digits.calls (a0 : Int) {r : ByteArray} (H : ref01_Digits a0 = some r) (w0 : World) : CallsV Tryd.prog 36 #[.int .i64 a0] w0 (.string r) := by
  unfold ref01_Digits at H
  refine enter (args := [.int .i64 a0]) Tryd.func36 rfl Tryd.ntmps36 rfl fun a hK => ?_
  have hS := St.init (R := fun _ => none) (w := w0) (fun _ _ h => by cases h)
  have hRL := RLe.refl (M := []) w0 (fun _ => none)
  refine wp_seq ?_
  refine wp_region_lit ?_
  refine sl hK (by decide) rfl rfl (r_assign hK rfl) fun a hK => ?_
  refine wpList_nil ?_
  refine wp_seq ?_
  refine wp_region_lit ?_
  refine sl hK (by decide) rfl rfl (r_assign hK rfl) fun a hK => ?_
  refine wpList_nil ?_
  refine wp_seq ?_
  refine wp_region_lit ?_
  refine sl hK (by decide) rfl rfl (r_move hK rfl) fun a hK => ?_
  refine sl hK (by decide) rfl rfl (r_assign hK rfl) fun a hK => ?_
  refine wpList_nil ?_
  refine wp_seq ?_
  refine wp_block ?_
  refine wp_loop_k (fun k_l0 a w => ∃ (x_16 : ByteArray) (x_17 : Int) (R_18 : Hp), ref01_Digits.l0 a0 k_l0 x_16 x_17 = some r ∧ RLe [] w0 (fun _ => none) R_18 ∧ Kn 44 a [(0, .int .i64 a0), (3, .string x_16), (4, .int .i64 x_17)] ∧ St [] w0 w R_18 []) 25 ?_ ?_
  · exact ⟨(⟨#[]⟩ : ByteArray), a0, _, H, (RLe.refl _ _), hK.sub (all_cons rfl (all_cons rfl (all_cons rfl (all_nil)))), hS⟩
  · rintro k_l0 a w ⟨x_16, x_17, R_18, H, hl_19, hK, hS⟩
    cases k_l0 with
    | zero => cases H
    | succ k_l0 =>
    rw [ref01_Digits.l0.eq_2] at H
    have hRL := hRL.trans hl_19
    refine wp_seq ?_
    refine wp_seq ?_
    refine wp_mid (fun a w => ∃ (x_35 : Bool), ref01_Digits.j1 (ref01_Digits.l0 a0 k_l0) a0 x_16 x_17 x_35 = some r ∧ Kn 44 a [(0, .int .i64 a0), (3, .string x_16), (4, .int .i64 x_17), (12, .bool x_35)] ∧ St [] w0 w R_18 []) ?_ ?_
    · refine wp_region_lit ?_
      refine sl hK (by decide) rfl rfl (r_move hK rfl) fun a hK => ?_
      refine sl hK (by decide) rfl rfl (r_ibin hK rfl rfl rfl) fun a hK => ?_
      refine sl hK (by decide) rfl rfl (r_move hK rfl) fun a hK => ?_
      rcases or_b (decide (x_17 < (-9))) with hb_37 | hb_37
      · rw [ifb_t hb_37] at H
        refine sl_skip hK (by decide) (wft hb_37) rfl fun a hK => ?_
        refine sl_skip hK (by decide) (wft hb_37) rfl fun a hK => ?_
        refine sl hK (by decide) rfl rfl (r_pick_t hb_37 hK rfl rfl) fun a hK => ?_
        refine wpList_nil ?_
        exact ⟨true, H, hK.sub (all_cons rfl (all_cons rfl (all_cons rfl (all_cons rfl (all_nil))))), hS⟩
      · rw [ifb_f hb_37] at H
        refine sl hK (by decide) (wff hb_37) rfl (r_move hK rfl) fun a hK => ?_
        refine sl hK (by decide) (wff hb_37) rfl (r_ibin hK rfl rfl rfl) fun a hK => ?_
        refine sl hK (by decide) rfl rfl (r_pick_f hb_37 hK rfl rfl) fun a hK => ?_
        refine wpList_nil ?_
        exact ⟨(decide (x_17 > 9)), H, hK.sub (all_cons rfl (all_cons rfl (all_cons rfl (all_cons rfl (all_nil))))), hS⟩
    · rintro a w ⟨x_35, H, hK, hS⟩
      unfold ref01_Digits.j1 at H
      refine wp_cond_split (hK.ev rfl) (fun (hb_38 : x_35 = true) => ?_) (fun (hb_38 : x_35 = false) => ?_)
      · rw [ifb_t hb_38] at H
        refine wp_skip ?_
        refine wp_block ?_
        refine wp_seq ?_
        refine wp_region_lit ?_
        refine sl hK (by decide) rfl rfl (r_move hK rfl) fun a hK => ?_
        refine sl hK (by decide) rfl rfl (r_rem hK rfl rfl (by decide)) fun a hK => ?_
        refine sl hK (by decide) rfl rfl (r_assign hK rfl) fun a hK => ?_
        refine wpList_nil ?_
        refine wp_seq ?_
        refine wp_seq ?_
        refine wp_region_lit ?_
        refine sl hK (by decide) rfl rfl (r_move hK rfl) fun a hK => ?_
        refine sl hK (by decide) rfl rfl (r_ibin hK rfl rfl rfl) fun a hK => ?_
        refine wpList_nil ?_
        refine wp_mid (fun a w => ∃ (x_40 : Int), ref01_Digits.j2 (ref01_Digits.l0 a0 k_l0) x_16 x_17 x_40 = some r ∧ Kn 44 a [(0, .int .i64 a0), (3, .string x_16), (4, .int .i64 x_17), (5, .int .i64 x_40)] ∧ St [] w0 w R_18 []) ?_ ?_
        · refine wp_cond_split (hK.ev rfl) (fun (hb_42 : (decide ((x_17.tmod 10) < 0)) = true) => ?_) (fun (hb_42 : (decide ((x_17.tmod 10) < 0)) = false) => ?_)
          · rw [ifb_t hb_42] at H
            refine wp_region_lit ?_
            refine sl hK (by decide) rfl rfl (r_move hK rfl) fun a hK => ?_
            refine sl hK (by decide) rfl rfl (r_un hK rfl (u_neg _ _)) fun a hK => ?_
            refine sl hK (by decide) rfl rfl (r_assign hK rfl) fun a hK => ?_
            refine wpList_nil ?_
            exact ⟨(IntKind.i64.wrap (0 - (x_17.tmod 10))), H, hK.sub (all_cons rfl (all_cons rfl (all_cons rfl (all_cons rfl (all_nil))))), hS⟩
          · rw [ifb_f hb_42] at H
            refine wp_skip ?_
            exact ⟨(x_17.tmod 10), H, hK.sub (all_cons rfl (all_cons rfl (all_cons rfl (all_cons rfl (all_nil))))), hS⟩
        · rintro a w ⟨x_40, H, hK, hS⟩
          unfold ref01_Digits.j2 at H
          refine wp_seq ?_
          refine wp_region_lit ?_
          refine sl hK (by decide) rfl rfl (r_move hK rfl) fun a hK => ?_
          refine sl hK (by decide) rfl rfl (r_ibin hK rfl rfl rfl) fun a hK => ?_
          refine sl hK (by decide) rfl rfl (r_conv Tryd.underlying3 Tryd.underlying5 hK rfl) fun a hK => ?_
          refine sl_buildSliceF (zc := [.int .u8 0]) (ps := [(0, .int .u8 (IntKind.u8.wrap (IntKind.i64.wrap (48 + x_40))))]) (c := [.int .u8 (IntKind.u8.wrap (IntKind.i64.wrap (48 + x_40)))]) [[.int .u8 (IntKind.u8.wrap (IntKind.i64.wrap (48 + x_40)))]] Tryd.underlying48 Tryd.sizeOf5 Tryd.zeroValue5 rfl (pc_cons rfl pc_nil) rfl rfl (Nat.le_of_ble_eq_true rfl) rfl (all_cons rfl (all_nil)) rfl hS hK (by decide) rfl fun a w b_43 hS hK => ?_
          obtain ⟨R_44, hS, hl_46, hs_45⟩ := hS.fz_lit (ty := (tyInt .u8)) (xs := [IntKind.u8.wrap (IntKind.i64.wrap (48 + x_40))]) (Reps.cons (show Ty.rep (tyInt .u8) _ [.int .u8 (IntKind.u8.wrap (IntKind.i64.wrap (48 + x_40)))] (IntKind.u8.wrap (IntKind.i64.wrap (48 + x_40))) from rfl) (Reps.nil _ _)) rfl
          have hRL := hRL.trans hl_46
          refine sl hK (by decide) rfl rfl (r_conv_bs Tryd.underlying48 Tryd.underlying9 Tryd.underlying5 hs_45 hK rfl hS.sub) fun a hK => ?_
          refine sl hK (by decide) rfl rfl (r_move hK rfl) fun a hK => ?_
          rcases or_b (decide ((bstr [IntKind.u8.wrap (IntKind.i64.wrap (48 + x_40))]).size + x_16.size ≤ 9223372036854775807)) with hn_47 | hn_47
          · rw [ifb_t hn_47] at H
            refine sl hK (by decide) rfl rfl (r_sadd hK rfl rfl (of_decide_eq_true hn_47)) fun a hK => ?_
            refine sl hK (by decide) rfl rfl (r_assign hK rfl) fun a hK => ?_
            refine wpList_nil ?_
            refine wp_region_lit ?_
            refine sl hK (by decide) rfl rfl (r_move hK rfl) fun a hK => ?_
            refine sl hK (by decide) rfl rfl (r_quo hK rfl rfl (by decide)) fun a hK => ?_
            refine sl hK (by decide) rfl rfl (r_assign hK rfl) fun a hK => ?_
            refine wpList_nil ?_
            exact ⟨_, Nat.lt_succ_self _, ((bstr [IntKind.u8.wrap (IntKind.i64.wrap (48 + x_40))]) ++ x_16), (IntKind.i64.wrap (x_17.tdiv 10)), _, H, (hl_19.trans hl_46), hK.sub (all_cons rfl (all_cons rfl (all_cons rfl (all_nil)))), hS⟩
          · rw [ifb_f hn_47] at H
            cases H
      · rw [ifb_f hb_38] at H
        refine wp_exit ?_
        refine wp_seq ?_
        refine wp_seq ?_
        refine wp_region_lit ?_
        refine sl hK (by decide) rfl rfl (r_move hK rfl) fun a hK => ?_
        refine sl hK (by decide) rfl rfl (r_ibin hK rfl rfl rfl) fun a hK => ?_
        refine wpList_nil ?_
        refine wp_mid (fun a w => ∃ (x_49 : Int), ref01_Digits.j3 a0 x_16 x_49 = some r ∧ Kn 44 a [(0, .int .i64 a0), (3, .string x_16), (4, .int .i64 x_49)] ∧ St [] w0 w R_18 []) ?_ ?_
        · refine wp_cond_split (hK.ev rfl) (fun (hb_51 : (decide (x_17 < 0)) = true) => ?_) (fun (hb_51 : (decide (x_17 < 0)) = false) => ?_)
          · rw [ifb_t hb_51] at H
            refine wp_region_lit ?_
            refine sl hK (by decide) rfl rfl (r_move hK rfl) fun a hK => ?_
            refine sl hK (by decide) rfl rfl (r_un hK rfl (u_neg _ _)) fun a hK => ?_
            refine sl hK (by decide) rfl rfl (r_assign hK rfl) fun a hK => ?_
            refine wpList_nil ?_
            exact ⟨(IntKind.i64.wrap (0 - x_17)), H, hK.sub (all_cons rfl (all_cons rfl (all_cons rfl (all_nil)))), hS⟩
          · rw [ifb_f hb_51] at H
            refine wp_skip ?_
            exact ⟨x_17, H, hK.sub (all_cons rfl (all_cons rfl (all_cons rfl (all_nil)))), hS⟩
        · rintro a w ⟨x_49, H, hK, hS⟩
          unfold ref01_Digits.j3 at H
          refine wp_seq ?_
          refine wp_region_lit ?_
          refine sl hK (by decide) rfl rfl (r_move hK rfl) fun a hK => ?_
          refine sl hK (by decide) rfl rfl (r_ibin hK rfl rfl rfl) fun a hK => ?_
          refine sl hK (by decide) rfl rfl (r_conv Tryd.underlying3 Tryd.underlying5 hK rfl) fun a hK => ?_
          refine sl_buildSliceF (zc := [.int .u8 0]) (ps := [(0, .int .u8 (IntKind.u8.wrap (IntKind.i64.wrap (48 + x_49))))]) (c := [.int .u8 (IntKind.u8.wrap (IntKind.i64.wrap (48 + x_49)))]) [[.int .u8 (IntKind.u8.wrap (IntKind.i64.wrap (48 + x_49)))]] Tryd.underlying48 Tryd.sizeOf5 Tryd.zeroValue5 rfl (pc_cons rfl pc_nil) rfl rfl (Nat.le_of_ble_eq_true rfl) rfl (all_cons rfl (all_nil)) rfl hS hK (by decide) rfl fun a w b_52 hS hK => ?_
          obtain ⟨R_53, hS, hl_55, hs_54⟩ := hS.fz_lit (ty := (tyInt .u8)) (xs := [IntKind.u8.wrap (IntKind.i64.wrap (48 + x_49))]) (Reps.cons (show Ty.rep (tyInt .u8) _ [.int .u8 (IntKind.u8.wrap (IntKind.i64.wrap (48 + x_49)))] (IntKind.u8.wrap (IntKind.i64.wrap (48 + x_49))) from rfl) (Reps.nil _ _)) rfl
          have hRL := hRL.trans hl_55
          refine sl hK (by decide) rfl rfl (r_conv_bs Tryd.underlying48 Tryd.underlying9 Tryd.underlying5 hs_54 hK rfl hS.sub) fun a hK => ?_
          refine sl hK (by decide) rfl rfl (r_move hK rfl) fun a hK => ?_
          rcases or_b (decide ((bstr [IntKind.u8.wrap (IntKind.i64.wrap (48 + x_49))]).size + x_16.size ≤ 9223372036854775807)) with hn_56 | hn_56
          · rw [ifb_t hn_56] at H
            refine sl hK (by decide) rfl rfl (r_sadd hK rfl rfl (of_decide_eq_true hn_56)) fun a hK => ?_
            refine sl hK (by decide) rfl rfl (r_assign hK rfl) fun a hK => ?_
            refine wpList_nil ?_
            refine wp_seq ?_
            refine wp_seq ?_
            refine wp_region_lit ?_
            refine sl hK (by decide) rfl rfl (r_move hK rfl) fun a hK => ?_
            refine sl hK (by decide) rfl rfl (r_ibin hK rfl rfl rfl) fun a hK => ?_
            refine wpList_nil ?_
            refine wp_cond_split (hK.ev rfl) (fun (hb_57 : (decide (a0 < 0)) = true) => ?_) (fun (hb_57 : (decide (a0 < 0)) = false) => ?_)
            · rw [ifb_t hb_57] at H
              refine wp_region_lit ?_
              refine sl hK (by decide) rfl rfl (r_move hK rfl) fun a hK => ?_
              rcases or_b (decide ((⟨#[45]⟩ : ByteArray).size + ((bstr [IntKind.u8.wrap (IntKind.i64.wrap (48 + x_49))]) ++ x_16).size ≤ 9223372036854775807)) with hn_58 | hn_58
              · rw [ifb_t hn_58] at H
                refine sl hK (by decide) rfl rfl (r_sadd hK rfl rfl (of_decide_eq_true hn_58)) fun a hK => ?_
                refine sl hK (by decide) rfl rfl (r_assign hK rfl) fun a hK => ?_
                refine wpList_nil ?_
                refine wp_seq ?_
                refine wp_region_lit ?_
                refine sl hK (by decide) rfl rfl (r_move hK rfl) fun a hK => ?_
                refine sl hK (by decide) rfl rfl (r_assign hK rfl) fun a hK => ?_
                refine wpList_nil ?_
                obtain rfl := Option.some.inj H
                refine wp_ret ?_
                repeat (first | refine ret_then ?_ | refine ret_block ?_ | refine ret_scope ?_)
                exact ret_1 Tryd.results36 hK (rv_tmp hK rfl) ⟨rfl, hS.bel⟩
              · rw [ifb_f hn_58] at H
                cases H
            · rw [ifb_f hb_57] at H
              refine wp_skip ?_
              refine wp_seq ?_
              refine wp_region_lit ?_
              refine sl hK (by decide) rfl rfl (r_move hK rfl) fun a hK => ?_
              refine sl hK (by decide) rfl rfl (r_assign hK rfl) fun a hK => ?_
              refine wpList_nil ?_
              obtain rfl := Option.some.inj H
              refine wp_ret ?_
              repeat (first | refine ret_then ?_ | refine ret_block ?_ | refine ret_scope ?_)
              exact ret_1 Tryd.results36 hK (rv_tmp hK rfl) ⟨rfl, hS.bel⟩
          · rw [ifb_f hn_56] at H
            cases H

/-! ### catchment/catchmentref01.Text: function 17 -/
set_option maxHeartbeats 4000000 in
set_option maxRecDepth 100000 in
theorem ref01_Text.calls (a0 : api_Value) {r : ByteArray} (H : ref01_Text a0 = some r) (w0 : World) : CallsV Tryd.prog 17 #[.agg #[.int .i64 a0.Kind, .int .i64 a0.N, .string a0.S, .int .i64 a0.H.a0, .int .i64 a0.H.a1, .int .i64 a0.H.a2, .int .i64 a0.H.a3, .int .i64 a0.H.a4, .int .i64 a0.H.a5, .int .i64 a0.H.a6, .int .i64 a0.H.a7]] w0 (.string r) := by
  unfold ref01_Text at H
  refine enter (args := [.agg #[.int .i64 a0.Kind, .int .i64 a0.N, .string a0.S, .int .i64 a0.H.a0, .int .i64 a0.H.a1, .int .i64 a0.H.a2, .int .i64 a0.H.a3, .int .i64 a0.H.a4, .int .i64 a0.H.a5, .int .i64 a0.H.a6, .int .i64 a0.H.a7]]) Tryd.func17 rfl Tryd.ntmps17 rfl fun a hK => ?_
  have hS := St.init (R := fun _ => none) (w := w0) (fun _ _ h => by cases h)
  have hRL := RLe.refl (M := []) w0 (fun _ => none)
  refine wp_seq ?_
  refine wp_region_lit ?_
  refine sl_box hS hK (by decide) rfl rfl (c := [.int .i64 a0.Kind, .int .i64 a0.N, .string a0.S, .int .i64 a0.H.a0, .int .i64 a0.H.a1, .int .i64 a0.H.a2, .int .i64 a0.H.a3, .int .i64 a0.H.a4, .int .i64 a0.H.a5, .int .i64 a0.H.a6, .int .i64 a0.H.a7]) rfl fun a w b_1 hS hK => ?_
  refine sl hK (by decide) rfl rfl (r_assign hK rfl) fun a hK => ?_
  refine wpList_nil ?_
  refine wp_seq ?_
  refine wp_seq ?_
  refine wp_region_lit ?_
  refine sl hK (by decide) rfl rfl (r_loadA (cs := [.int .i64 a0.Kind, .int .i64 a0.N, .string a0.S, .int .i64 a0.H.a0, .int .i64 a0.H.a1, .int .i64 a0.H.a2, .int .i64 a0.H.a3, .int .i64 a0.H.a4, .int .i64 a0.H.a5, .int .i64 a0.H.a6, .int .i64 a0.H.a7]) Tryd.isAgg24 Tryd.sizeOf24 rfl hK rfl (hS.cells_of (m := 11) (.head _) rfl)) fun a hK => ?_
  obtain ⟨y_2, h_3, H⟩ := bind_some H
  refine sl_callV Tryd.call15 hS hK (by decide) rfl rfl rfl (ref01_Valid.calls a0 h_3 _) fun a w hS hK => ?_
  refine sl hK (by decide) rfl rfl (r_un hK rfl (u_not _)) fun a hK => ?_
  refine wpList_nil ?_
  refine wp_cond_split (hK.ev rfl) (fun (hb_4 : (!y_2) = true) => ?_) (fun (hb_4 : (!y_2) = false) => ?_)
  · rw [ifb_t hb_4] at H
    refine wp_seq ?_
    refine wp_region_lit ?_
    refine sl hK (by decide) rfl rfl (r_assign hK rfl) fun a hK => ?_
    refine wpList_nil ?_
    obtain rfl := Option.some.inj H
    refine wp_ret ?_
    repeat (first | refine ret_then ?_ | refine ret_block ?_ | refine ret_scope ?_)
    exact ret_1 Tryd.results17 hK (rv_tmp hK rfl) ⟨rfl, hS.bel⟩
  · rw [ifb_f hb_4] at H
    refine wp_skip ?_
    refine wp_seq ?_
    refine wp_seq ?_
    refine wp_region_lit ?_
    refine sl hK (by decide) rfl rfl (r_fieldAddr Tryd.underlying24 rfl Tryd.sizeOf3 hK rfl) fun a hK => ?_
    refine sl hK (by decide) rfl rfl (r_load Tryd.isAgg3 hK rfl (hS.cell (.head _) rfl)) fun a hK => ?_
    refine wpList_nil ?_
    refine wp_block ?_
    refine wp_seq ?_
    refine wp_region_lit ?_
    refine sl hK (by decide) rfl rfl (r_ibin hK rfl rfl rfl) fun a hK => ?_
    refine sl hK (by decide) rfl rfl (r_assign hK rfl) fun a hK => ?_
    refine wpList_nil ?_
    refine wp_cond_split (hK.ev rfl) (fun (hb_5 : (a0.Kind == 1) = true) => ?_) (fun (hb_5 : (a0.Kind == 1) = false) => ?_)
    · rw [ifb_t hb_5] at H
      refine wp_seq ?_
      refine wp_region_lit ?_
      refine sl hK (by decide) rfl rfl (r_fieldAddr Tryd.underlying24 rfl Tryd.sizeOf3 hK rfl) fun a hK => ?_
      refine sl hK (by decide) rfl rfl (r_load Tryd.isAgg3 hK rfl (hS.cell (.head _) rfl)) fun a hK => ?_
      obtain ⟨y_6, h_7, H⟩ := bind_some H
      refine sl_callV Tryd.call36 hS hK (by decide) rfl rfl rfl (ref01_Digits.calls a0.N h_7 _) fun a w hS hK => ?_
      refine sl hK (by decide) rfl rfl (r_assign hK rfl) fun a hK => ?_
      refine wpList_nil ?_
      obtain rfl := Option.some.inj H
      refine wp_ret ?_
      repeat (first | refine ret_then ?_ | refine ret_block ?_ | refine ret_scope ?_)
      exact ret_1 Tryd.results17 hK (rv_tmp hK rfl) ⟨rfl, hS.bel⟩
    · rw [ifb_f hb_5] at H
      refine wp_seq ?_
      refine wp_region_lit ?_
      refine sl hK (by decide) rfl rfl (r_ibin hK rfl rfl rfl) fun a hK => ?_
      refine sl hK (by decide) rfl rfl (r_assign hK rfl) fun a hK => ?_
      refine wpList_nil ?_
      refine wp_cond_split (hK.ev rfl) (fun (hb_8 : (a0.Kind == 3) = true) => ?_) (fun (hb_8 : (a0.Kind == 3) = false) => ?_)
      · rw [ifb_t hb_8] at H
        refine wp_seq ?_
        refine wp_seq ?_
        refine wp_region_lit ?_
        refine sl hK (by decide) rfl rfl (r_fieldAddr Tryd.underlying24 rfl Tryd.sizeOf3 hK rfl) fun a hK => ?_
        refine sl hK (by decide) rfl rfl (r_load Tryd.isAgg3 hK rfl (hS.cell (.head _) rfl)) fun a hK => ?_
        refine sl hK (by decide) rfl rfl (r_ibin hK rfl rfl rfl) fun a hK => ?_
        refine wpList_nil ?_
        refine wp_cond_split (hK.ev rfl) (fun (hb_9 : (a0.N == 1) = true) => ?_) (fun (hb_9 : (a0.N == 1) = false) => ?_)
        · rw [ifb_t hb_9] at H
          refine wp_seq ?_
          refine wp_region_lit ?_
          refine sl hK (by decide) rfl rfl (r_assign hK rfl) fun a hK => ?_
          refine wpList_nil ?_
          obtain rfl := Option.some.inj H
          refine wp_ret ?_
          repeat (first | refine ret_then ?_ | refine ret_block ?_ | refine ret_scope ?_)
          exact ret_1 Tryd.results17 hK (rv_tmp hK rfl) ⟨rfl, hS.bel⟩
        · rw [ifb_f hb_9] at H
          refine wp_skip ?_
          refine wp_seq ?_
          refine wp_region_lit ?_
          refine sl hK (by decide) rfl rfl (r_assign hK rfl) fun a hK => ?_
          refine wpList_nil ?_
          obtain rfl := Option.some.inj H
          refine wp_ret ?_
          repeat (first | refine ret_then ?_ | refine ret_block ?_ | refine ret_scope ?_)
          exact ret_1 Tryd.results17 hK (rv_tmp hK rfl) ⟨rfl, hS.bel⟩
      · rw [ifb_f hb_8] at H
        refine wp_seq ?_
        refine wp_region_lit ?_
        refine sl hK (by decide) rfl rfl (r_ibin hK rfl rfl rfl) fun a hK => ?_
        refine sl hK (by decide) rfl rfl (r_assign hK rfl) fun a hK => ?_
        refine wpList_nil ?_
        refine wp_cond_split (hK.ev rfl) (fun (hb_10 : (a0.Kind == 4) = true) => ?_) (fun (hb_10 : (a0.Kind == 4) = false) => ?_)
        · rw [ifb_t hb_10] at H
          refine wp_seq ?_
          refine wp_region_lit ?_
          refine sl hK (by decide) rfl rfl (r_assign hK rfl) fun a hK => ?_
          refine wpList_nil ?_
          refine wp_seq ?_
          refine wp_seq ?_
          refine wp_region_lit ?_
          refine sl hK (by decide) rfl rfl (r_assign hK rfl) fun a hK => ?_
          refine wpList_nil ?_
          refine wp_block ?_
          refine wp_loop_k (fun k_l0 a w => ∃ (x_15 : ByteArray) (x_16 : Int), ref01_Text.l0 a0 k_l0 x_15 x_16 = some r ∧ Kn 75 a [(1, .pointer (some ⟨b_1, 0, none⟩)), (3, .string x_15), (4, .int .i64 x_16)] ∧ St [] w0 w (fun _ => none) [.cells b_1 [.int .i64 a0.Kind, .int .i64 a0.N, .string a0.S, .int .i64 a0.H.a0, .int .i64 a0.H.a1, .int .i64 a0.H.a2, .int .i64 a0.H.a3, .int .i64 a0.H.a4, .int .i64 a0.H.a5, .int .i64 a0.H.a6, .int .i64 a0.H.a7] 24]) (((8 : Int) - 0).toNat + 1) ?_ ?_
          · exact ⟨(⟨#[91]⟩ : ByteArray), 0, H, hK.sub (all_cons rfl (all_cons rfl (all_cons rfl (all_nil)))), hS⟩
          · rintro k_l0 a w ⟨x_15, x_16, H, hK, hS⟩
            cases k_l0 with
            | zero => cases H
            | succ k_l0 =>
            rw [ref01_Text.l0.eq_2] at H
            refine wp_seq ?_
            refine wp_seq ?_
            refine wp_region_lit ?_
            refine sl hK (by decide) rfl rfl (r_move hK rfl) fun a hK => ?_
            refine sl hK (by decide) rfl rfl (r_ibin hK rfl rfl rfl) fun a hK => ?_
            refine wpList_nil ?_
            refine wp_cond_split (hK.ev rfl) (fun (hb_30 : (decide (x_16 < 8)) = true) => ?_) (fun (hb_30 : (decide (x_16 < 8)) = false) => ?_)
            · rw [ifb_t hb_30] at H
              refine wp_skip ?_
              refine wp_seq ?_
              refine wp_block ?_
              refine wp_seq ?_
              refine wp_seq ?_
              refine wp_region_lit ?_
              refine sl hK (by decide) rfl rfl (r_move hK rfl) fun a hK => ?_
              refine sl hK (by decide) rfl rfl (r_ibin hK rfl rfl rfl) fun a hK => ?_
              refine wpList_nil ?_
              refine wp_mid (fun a w => ∃ (x_33 : ByteArray), ref01_Text.j1 (ref01_Text.l0 a0 k_l0) a0 x_16 x_33 = some r ∧ Kn 75 a [(1, .pointer (some ⟨b_1, 0, none⟩)), (3, .string x_33), (4, .int .i64 x_16)] ∧ St [] w0 w (fun _ => none) [.cells b_1 [.int .i64 a0.Kind, .int .i64 a0.N, .string a0.S, .int .i64 a0.H.a0, .int .i64 a0.H.a1, .int .i64 a0.H.a2, .int .i64 a0.H.a3, .int .i64 a0.H.a4, .int .i64 a0.H.a5, .int .i64 a0.H.a6, .int .i64 a0.H.a7] 24]) ?_ ?_
              · refine wp_cond_split (hK.ev rfl) (fun (hb_35 : (decide (x_16 > 0)) = true) => ?_) (fun (hb_35 : (decide (x_16 > 0)) = false) => ?_)
                · rw [ifb_t hb_35] at H
                  refine wp_region_lit ?_
                  refine sl hK (by decide) rfl rfl (r_move hK rfl) fun a hK => ?_
                  rcases or_b (decide (x_15.size + (⟨#[32]⟩ : ByteArray).size ≤ 9223372036854775807)) with hn_36 | hn_36
                  · rw [ifb_t hn_36] at H
                    refine sl hK (by decide) rfl rfl (r_sadd hK rfl rfl (of_decide_eq_true hn_36)) fun a hK => ?_
                    refine sl hK (by decide) rfl rfl (r_assign hK rfl) fun a hK => ?_
                    refine wpList_nil ?_
                    exact ⟨(x_15 ++ (⟨#[32]⟩ : ByteArray)), H, hK.sub (all_cons rfl (all_cons rfl (all_cons rfl (all_nil)))), hS⟩
                  · rw [ifb_f hn_36] at H
                    cases H
                · rw [ifb_f hb_35] at H
                  refine wp_skip ?_
                  exact ⟨x_15, H, hK.sub (all_cons rfl (all_cons rfl (all_cons rfl (all_nil)))), hS⟩
              · rintro a w ⟨x_33, H, hK, hS⟩
                unfold ref01_Text.j1 at H
                refine wp_region_lit ?_
                refine sl hK (by decide) rfl rfl (r_move hK rfl) fun a hK => ?_
                refine sl hK (by decide) rfl rfl (r_move hK rfl) fun a hK => ?_
                refine sl hK (by decide) rfl rfl (r_fieldAddr Tryd.underlying24 rfl Tryd.sizeOf22 hK rfl) fun a hK => ?_
                obtain ⟨y_37, h_38, H⟩ := bind_some H
                refine sl hK (by decide) rfl rfl (r_indexAddr_arr Tryd.underlying22 Tryd.sizeOf3 hK rfl rfl (Arr8.ix_lt h_38).1 (Arr8.ix_lt h_38).2) fun a hK => ?_
                refine sl hK (by decide) rfl rfl (r_load Tryd.isAgg3 hK rfl (hS.cell (.head _) (Arr8.ix_cells h_38 [.int .i64 a0.Kind, .int .i64 a0.N, .string a0.S] [] rfl))) fun a hK => ?_
                obtain ⟨y_39, h_40, H⟩ := bind_some H
                refine sl_callV Tryd.call36 hS hK (by decide) rfl rfl rfl (ref01_Digits.calls y_37 h_40 _) fun a w hS hK => ?_
                rcases or_b (decide (x_33.size + y_39.size ≤ 9223372036854775807)) with hn_41 | hn_41
                · rw [ifb_t hn_41] at H
                  refine sl hK (by decide) rfl rfl (r_sadd hK rfl rfl (of_decide_eq_true hn_41)) fun a hK => ?_
                  refine sl hK (by decide) rfl rfl (r_assign hK rfl) fun a hK => ?_
                  refine wpList_nil ?_
                  refine wp_region_lit ?_
                  refine sl hK (by decide) rfl rfl (r_move hK rfl) fun a hK => ?_
                  refine sl hK (by decide) rfl rfl (r_ibin hK rfl rfl rfl) fun a hK => ?_
                  refine sl hK (by decide) rfl rfl (r_assign hK rfl) fun a hK => ?_
                  refine wpList_nil ?_
                  exact ⟨_, Nat.lt_succ_self _, (x_33 ++ y_39), (IntKind.i64.wrap (x_16 + 1)), H, hK.sub (all_cons rfl (all_cons rfl (all_cons rfl (all_nil)))), hS⟩
                · rw [ifb_f hn_41] at H
                  cases H
            · rw [ifb_f hb_30] at H
              refine wp_exit ?_
              refine wp_seq ?_
              refine wp_region_lit ?_
              refine sl hK (by decide) rfl rfl (r_move hK rfl) fun a hK => ?_
              rcases or_b (decide (x_15.size + (⟨#[93]⟩ : ByteArray).size ≤ 9223372036854775807)) with hn_42 | hn_42
              · rw [ifb_t hn_42] at H
                refine sl hK (by decide) rfl rfl (r_sadd hK rfl rfl (of_decide_eq_true hn_42)) fun a hK => ?_
                refine sl hK (by decide) rfl rfl (r_assign hK rfl) fun a hK => ?_
                refine wpList_nil ?_
                obtain rfl := Option.some.inj H
                refine wp_ret ?_
                repeat (first | refine ret_then ?_ | refine ret_block ?_ | refine ret_scope ?_)
                exact ret_1 Tryd.results17 hK (rv_tmp hK rfl) ⟨rfl, hS.bel⟩
              · rw [ifb_f hn_42] at H
                cases H
        · rw [ifb_f hb_10] at H
          refine wp_skip ?_
          refine wp_seq ?_
          refine wp_region_lit ?_
          refine sl_buildSliceF (zc := [.int .u8 0]) (ps := [(0, .int .u8 34)]) (c := [.int .u8 34]) [[.int .u8 34]] Tryd.underlying48 Tryd.sizeOf5 Tryd.zeroValue5 rfl (pc_cons rfl pc_nil) rfl rfl (Nat.le_of_ble_eq_true rfl) rfl (all_cons rfl (all_nil)) rfl hS hK (by decide) rfl fun a w b_43 hS hK => ?_
          refine sl hK (by decide) rfl rfl (r_assign hK rfl) fun a hK => ?_
          refine wpList_nil ?_
          refine wp_seq ?_
          refine wp_seq ?_
          refine wp_region_lit ?_
          refine sl hK (by decide) rfl rfl (r_assign hK rfl) fun a hK => ?_
          refine wpList_nil ?_
          refine wp_block ?_
          refine wp_loop_k (fun k_l2 a w => ∃ (x_95 : List Int) (x_99 : Int) (v_96 : Value) (cs_97 : List Value), ref01_Text.l2 a0 k_l2 x_95 x_99 = some r ∧ Reps (tyInt .u8) (fun _ => none) cs_97 x_95 ∧ Kn 75 a [(1, .pointer (some ⟨b_1, 0, none⟩)), (5, v_96), (6, .int .i64 x_99)] ∧ St [] w0 w (fun _ => none) [.cells b_1 [.int .i64 a0.Kind, .int .i64 a0.N, .string a0.S, .int .i64 a0.H.a0, .int .i64 a0.H.a1, .int .i64 a0.H.a2, .int .i64 a0.H.a3, .int .i64 a0.H.a4, .int .i64 a0.H.a5, .int .i64 a0.H.a6, .int .i64 a0.H.a7] 24, .row 5 1 v_96 x_95.length cs_97]) (((a0.S.size : Int) - 0).toNat + 1) ?_ ?_
          · have hS := hS.row_lit (size := 1) (m := 1) rfl (by decide)
            have hq_146 : Reps (tyInt .u8) (fun _ => none) [.int .u8 34] [34] := (Reps.cons (show Ty.rep (tyInt .u8) _ [.int .u8 34] 34 from rfl) (Reps.nil _ _))
            have hS := hS.pk1
            exact ⟨[34], 0, _, _, H, hq_146, hK.sub (all_cons rfl (all_cons rfl (all_cons rfl (all_nil)))), hS⟩
          · rintro k_l2 a w ⟨x_95, x_99, v_96, cs_97, H, hq_98, hK, hS⟩
            cases k_l2 with
            | zero => cases H
            | succ k_l2 =>
            rw [ref01_Text.l2.eq_2] at H
            refine wp_seq ?_
            refine wp_seq ?_
            refine wp_region_lit ?_
            refine sl hK (by decide) rfl rfl (r_move hK rfl) fun a hK => ?_
            refine sl hK (by decide) rfl rfl (r_fieldAddr Tryd.underlying24 rfl Tryd.sizeOf9 hK rfl) fun a hK => ?_
            refine sl hK (by decide) rfl rfl (r_load Tryd.isAgg9 hK rfl (hS.cell (.head _) rfl)) fun a hK => ?_
            refine sl hK (by decide) rfl rfl (r_len_str Tryd.underlying9 hK rfl) fun a hK => ?_
            refine sl hK (by decide) rfl rfl (r_ibin hK rfl rfl rfl) fun a hK => ?_
            refine wpList_nil ?_
            refine wp_cond_split (hK.ev rfl) (fun (hb_147 : (decide (x_99 < (a0.S.size : Int))) = true) => ?_) (fun (hb_147 : (decide (x_99 < (a0.S.size : Int))) = false) => ?_)
            · rw [ifb_t hb_147] at H
              refine wp_skip ?_
              refine wp_seq ?_
              refine wp_block ?_
              refine wp_seq ?_
              refine wp_seq ?_
              refine wp_mid (fun a w => ∃ (x_153 : Bool), ref01_Text.j3 (ref01_Text.l2 a0 k_l2) a0 x_95 x_99 x_153 = some r ∧ Kn 75 a [(1, .pointer (some ⟨b_1, 0, none⟩)), (5, v_96), (6, .int .i64 x_99), (60, .bool x_153)] ∧ St [] w0 w (fun _ => none) [.cells b_1 [.int .i64 a0.Kind, .int .i64 a0.N, .string a0.S, .int .i64 a0.H.a0, .int .i64 a0.H.a1, .int .i64 a0.H.a2, .int .i64 a0.H.a3, .int .i64 a0.H.a4, .int .i64 a0.H.a5, .int .i64 a0.H.a6, .int .i64 a0.H.a7] 24, .row 5 1 v_96 x_95.length cs_97]) ?_ ?_
              · refine wp_region_lit ?_
                refine sl hK (by decide) rfl rfl (r_fieldAddr Tryd.underlying24 rfl Tryd.sizeOf9 hK rfl) fun a hK => ?_
                refine sl hK (by decide) rfl rfl (r_load Tryd.isAgg9 hK rfl (hS.cell (.head _) rfl)) fun a hK => ?_
                refine sl hK (by decide) rfl rfl (r_move hK rfl) fun a hK => ?_
                obtain ⟨y_155, h_156, H⟩ := bind_some H
                refine sl hK (by decide) rfl rfl (r_index_str' Tryd.underlying9 h_156 hK rfl rfl) fun a hK => ?_
                refine sl hK (by decide) rfl rfl (r_ibin hK rfl rfl rfl) fun a hK => ?_
                refine sl hK (by decide) rfl rfl (r_move hK rfl) fun a hK => ?_
                rcases or_b (y_155 == 34) with hb_157 | hb_157
                · rw [ifb_t hb_157] at H
                  refine sl_skip hK (by decide) (wft hb_157) rfl fun a hK => ?_
                  refine sl_skip hK (by decide) (wft hb_157) rfl fun a hK => ?_
                  refine sl_skip hK (by decide) (wft hb_157) rfl fun a hK => ?_
                  refine sl_skip hK (by decide) (wft hb_157) rfl fun a hK => ?_
                  refine sl_skip hK (by decide) (wft hb_157) rfl fun a hK => ?_
                  refine sl hK (by decide) rfl rfl (r_pick_t hb_157 hK rfl rfl) fun a hK => ?_
                  refine wpList_nil ?_
                  have hS := hS.pk1
                  have hS := hS.pk1
                  exact ⟨true, H, hK.sub (all_cons rfl (all_cons rfl (all_cons rfl (all_cons rfl (all_nil))))), hS⟩
                · rw [ifb_f hb_157] at H
                  refine sl hK (by decide) (wff hb_157) rfl (r_fieldAddr Tryd.underlying24 rfl Tryd.sizeOf9 hK rfl) fun a hK => ?_
                  refine sl hK (by decide) (wff hb_157) rfl (r_load Tryd.isAgg9 hK rfl (hS.cell (.head _) rfl)) fun a hK => ?_
                  refine sl hK (by decide) (wff hb_157) rfl (r_move hK rfl) fun a hK => ?_
                  obtain ⟨y_158, h_159, H⟩ := bind_some H
                  refine sl hK (by decide) (wff hb_157) rfl (r_index_str' Tryd.underlying9 h_159 hK rfl rfl) fun a hK => ?_
                  refine sl hK (by decide) (wff hb_157) rfl (r_ibin hK rfl rfl rfl) fun a hK => ?_
                  refine sl hK (by decide) rfl rfl (r_pick_f hb_157 hK rfl rfl) fun a hK => ?_
                  refine wpList_nil ?_
                  have hS := hS.pk1
                  have hS := hS.pk1
                  exact ⟨(y_158 == 92), H, hK.sub (all_cons rfl (all_cons rfl (all_cons rfl (all_cons rfl (all_nil))))), hS⟩
              · rintro a w ⟨x_153, H, hK, hS⟩
                unfold ref01_Text.j3 at H
                refine wp_mid (fun a w => ∃ (x_169 : List Int) (v_170 : Value) (cs_171 : List Value), ref01_Text.j4 (ref01_Text.l2 a0 k_l2) a0 x_99 x_169 = some r ∧ Reps (tyInt .u8) (fun _ => none) cs_171 x_169 ∧ Kn 75 a [(1, .pointer (some ⟨b_1, 0, none⟩)), (5, v_170), (6, .int .i64 x_99)] ∧ St [] w0 w (fun _ => none) [.cells b_1 [.int .i64 a0.Kind, .int .i64 a0.N, .string a0.S, .int .i64 a0.H.a0, .int .i64 a0.H.a1, .int .i64 a0.H.a2, .int .i64 a0.H.a3, .int .i64 a0.H.a4, .int .i64 a0.H.a5, .int .i64 a0.H.a6, .int .i64 a0.H.a7] 24, .row 5 1 v_170 x_169.length cs_171]) ?_ ?_
                · refine wp_cond_split (hK.ev rfl) (fun (hb_174 : x_153 = true) => ?_) (fun (hb_174 : x_153 = false) => ?_)
                  · rw [ifb_t hb_174] at H
                    refine wp_region_lit ?_
                    refine sl hK (by decide) rfl rfl (r_move hK rfl) fun a hK => ?_
                    refine sl_buildSliceF (zc := [.int .u8 0]) (ps := [(0, .int .u8 92)]) (c := [.int .u8 92]) [[.int .u8 92]] Tryd.underlying48 Tryd.sizeOf5 Tryd.zeroValue5 rfl (pc_cons rfl pc_nil) rfl rfl (Nat.le_of_ble_eq_true rfl) rfl (all_cons rfl (all_nil)) rfl hS hK (by decide) rfl fun a w b_175 hS hK => ?_
                    obtain ⟨y_176, h_177, H⟩ := bind_some H
                    have hS := hS.pk2
                    refine sl_append_L (ty := (tyInt .u8)) (ys := [92]) elT48 (by decide) rfl hq_98 rfl (Reps.cons (show Ty.rep (tyInt .u8) _ [.int .u8 92] 92 from rfl) (Reps.nil _ _)) rfl h_177 hS hK (by decide) rfl rfl rfl fun a w v_178 cs_179 hq_180 hS hK => ?_
                    refine sl hK (by decide) rfl rfl (r_assign hK rfl) fun a hK => ?_
                    refine wpList_nil ?_
                    have hS := hS.pk1
                    exact ⟨y_176, _, _, H, hq_180, hK.sub (all_cons rfl (all_cons rfl (all_cons rfl (all_nil)))), hS⟩
                  · rw [ifb_f hb_174] at H
                    refine wp_skip ?_
                    have hS := hS.pk1
                    have hS := hS.pk1
                    exact ⟨x_95, _, _, H, hq_98, hK.sub (all_cons rfl (all_cons rfl (all_cons rfl (all_nil)))), hS⟩
                · rintro a w ⟨x_169, v_170, cs_171, H, hq_172, hK, hS⟩
                  unfold ref01_Text.j4 at H
                  refine wp_region_lit ?_
                  refine sl hK (by decide) rfl rfl (r_move hK rfl) fun a hK => ?_
                  refine sl hK (by decide) rfl rfl (r_fieldAddr Tryd.underlying24 rfl Tryd.sizeOf9 hK rfl) fun a hK => ?_
                  refine sl hK (by decide) rfl rfl (r_load Tryd.isAgg9 hK rfl (hS.cell (.head _) rfl)) fun a hK => ?_
                  refine sl hK (by decide) rfl rfl (r_move hK rfl) fun a hK => ?_
                  obtain ⟨y_182, h_183, H⟩ := bind_some H
                  refine sl hK (by decide) rfl rfl (r_index_str' Tryd.underlying9 h_183 hK rfl rfl) fun a hK => ?_
                  refine sl_buildSliceF (zc := [.int .u8 0]) (ps := [(0, .int .u8 y_182)]) (c := [.int .u8 y_182]) [[.int .u8 y_182]] Tryd.underlying48 Tryd.sizeOf5 Tryd.zeroValue5 rfl (pc_cons rfl pc_nil) rfl rfl (Nat.le_of_ble_eq_true rfl) rfl (all_cons rfl (all_nil)) rfl hS hK (by decide) rfl fun a w b_184 hS hK => ?_
                  obtain ⟨y_185, h_186, H⟩ := bind_some H
                  have hS := hS.pk2
                  refine sl_append_L (ty := (tyInt .u8)) (ys := [y_182]) elT48 (by decide) rfl hq_172 rfl (Reps.cons (show Ty.rep (tyInt .u8) _ [.int .u8 y_182] y_182 from rfl) (Reps.nil _ _)) rfl h_186 hS hK (by decide) rfl rfl rfl fun a w v_187 cs_188 hq_189 hS hK => ?_
                  refine sl hK (by decide) rfl rfl (r_assign hK rfl) fun a hK => ?_
                  refine wpList_nil ?_
                  refine wp_region_lit ?_
                  refine sl hK (by decide) rfl rfl (r_move hK rfl) fun a hK => ?_
                  refine sl hK (by decide) rfl rfl (r_ibin hK rfl rfl rfl) fun a hK => ?_
                  refine sl hK (by decide) rfl rfl (r_assign hK rfl) fun a hK => ?_
                  refine wpList_nil ?_
                  have hS := hS.pk1
                  exact ⟨_, Nat.lt_succ_self _, y_185, (IntKind.i64.wrap (x_99 + 1)), _, _, H, hq_189, hK.sub (all_cons rfl (all_cons rfl (all_cons rfl (all_nil)))), hS⟩
            · rw [ifb_f hb_147] at H
              refine wp_exit ?_
              refine wp_seq ?_
              refine wp_region_lit ?_
              refine sl hK (by decide) rfl rfl (r_move hK rfl) fun a hK => ?_
              refine sl_buildSliceF (zc := [.int .u8 0]) (ps := [(0, .int .u8 34)]) (c := [.int .u8 34]) [[.int .u8 34]] Tryd.underlying48 Tryd.sizeOf5 Tryd.zeroValue5 rfl (pc_cons rfl pc_nil) rfl rfl (Nat.le_of_ble_eq_true rfl) rfl (all_cons rfl (all_nil)) rfl hS hK (by decide) rfl fun a w b_191 hS hK => ?_
              obtain ⟨y_192, h_193, H⟩ := bind_some H
              have hS := hS.pk2
              refine sl_append_L (ty := (tyInt .u8)) (ys := [34]) elT48 (by decide) rfl hq_98 rfl (Reps.cons (show Ty.rep (tyInt .u8) _ [.int .u8 34] 34 from rfl) (Reps.nil _ _)) rfl h_193 hS hK (by decide) rfl rfl rfl fun a w v_194 cs_195 hq_196 hS hK => ?_
              refine sl hK (by decide) rfl rfl (r_conv_bo Tryd.underlying48 Tryd.underlying9 Tryd.underlying5 hq_196 rfl hS (.head _) hK rfl) fun a hK => ?_
              refine sl hK (by decide) rfl rfl (r_assign hK rfl) fun a hK => ?_
              refine wpList_nil ?_
              obtain rfl := Option.some.inj H
              refine wp_ret ?_
              repeat (first | refine ret_then ?_ | refine ret_block ?_ | refine ret_scope ?_)
              exact ret_1 Tryd.results17 hK (rv_tmp hK rfl) ⟨rfl, hS.bel⟩

/-! ### catchment/catchmentlaw01.ValueValid: function 3 -/
set_option maxHeartbeats 4000000 in
set_option maxRecDepth 100000 in
theorem law01_ValueValid.calls (a0 : api_Value) {w0 : World} {RA : Hp} (hRA : RA.sub w0) (hG : GF RA) (H : law01_ValueValid a0 = some true) : CallsV Tryd.prog 3 #[.agg #[.int .i64 a0.Kind, .int .i64 a0.N, .string a0.S, .int .i64 a0.H.a0, .int .i64 a0.H.a1, .int .i64 a0.H.a2, .int .i64 a0.H.a3, .int .i64 a0.H.a4, .int .i64 a0.H.a5, .int .i64 a0.H.a6, .int .i64 a0.H.a7]] w0 (.bool true) := by
  unfold law01_ValueValid at H
  refine enter (args := [.agg #[.int .i64 a0.Kind, .int .i64 a0.N, .string a0.S, .int .i64 a0.H.a0, .int .i64 a0.H.a1, .int .i64 a0.H.a2, .int .i64 a0.H.a3, .int .i64 a0.H.a4, .int .i64 a0.H.a5, .int .i64 a0.H.a6, .int .i64 a0.H.a7]]) Tryd.func3 rfl Tryd.ntmps3 rfl fun a hK => ?_
  have hS := St.init (R := fun _ => none) (w := w0) (fun _ _ h => by cases h)
  have hRL := RLe.refl (M := []) w0 (fun _ => none)
  refine wp_seq ?_
  refine wp_region_lit ?_
  refine sl_box hS hK (by decide) rfl rfl (c := [.int .i64 a0.Kind, .int .i64 a0.N, .string a0.S, .int .i64 a0.H.a0, .int .i64 a0.H.a1, .int .i64 a0.H.a2, .int .i64 a0.H.a3, .int .i64 a0.H.a4, .int .i64 a0.H.a5, .int .i64 a0.H.a6, .int .i64 a0.H.a7]) rfl fun a w b_1 hS hK => ?_
  refine sl hK (by decide) rfl rfl (r_assign hK rfl) fun a hK => ?_
  refine wpList_nil ?_
  refine wp_seq ?_
  refine wp_region_lit ?_
  obtain ⟨y_2, h_3, H⟩ := bind_some H
  refine sl_callV Tryd.call13 hS hK (by decide) rfl rfl rfl (law01_shown.calls (lentOf_sub [] _) (GF.mono (hS.raLe0 hRA nil_not) hG) h_3) fun a w hS hK => ?_
  refine sl hK (by decide) rfl rfl (r_assign hK rfl) fun a hK => ?_
  refine wpList_nil ?_
  refine wp_seq ?_
  refine parT_region (C := fun w => St [] w0 w (fun _ => none) [.cells b_1 [.int .i64 a0.Kind, .int .i64 a0.N, .string a0.S, .int .i64 a0.H.a0, .int .i64 a0.H.a1, .int .i64 a0.H.a2, .int .i64 a0.H.a3, .int .i64 a0.H.a4, .int .i64 a0.H.a5, .int .i64 a0.H.a6, .int .i64 a0.H.a7] 24]) 12 [(0, true), (1, true), (2, true), (4, true), (3, false), (5, false), (6, true), (7, true), (8, true), (9, true), (11, true), (10, false)] mixed (by kernel_rfl) hS (fun w hS => hS) fun w hS => ?_
  refine sp (k := 0) rfl hK (by decide) rfl rfl (fun w hS => r_move hK rfl) fun a hK => ?_
  refine sp (k := 1) rfl hK (by decide) rfl rfl (fun w hS => r_move hK rfl) fun a hK => ?_
  rcases or_b y_2 with hb_14 | hb_14
  · rw [ifb_t hb_14] at H
    refine sp (k := 2) rfl hK (by decide) (wtt hb_14) rfl (fun w hS => r_loadA (cs := [.int .i64 a0.Kind, .int .i64 a0.N, .string a0.S, .int .i64 a0.H.a0, .int .i64 a0.H.a1, .int .i64 a0.H.a2, .int .i64 a0.H.a3, .int .i64 a0.H.a4, .int .i64 a0.H.a5, .int .i64 a0.H.a6, .int .i64 a0.H.a7]) Tryd.isAgg24 Tryd.sizeOf24 rfl hK rfl (hS.cells_of (m := 11) (.head _) rfl)) fun a hK => ?_
    refine sp (k := 4) rfl hK (by decide) (wtt hb_14) rfl (fun w hS => r_loadA (cs := [.int .i64 a0.Kind, .int .i64 a0.N, .string a0.S, .int .i64 a0.H.a0, .int .i64 a0.H.a1, .int .i64 a0.H.a2, .int .i64 a0.H.a3, .int .i64 a0.H.a4, .int .i64 a0.H.a5, .int .i64 a0.H.a6, .int .i64 a0.H.a7]) Tryd.isAgg24 Tryd.sizeOf24 rfl hK rfl (hS.cells_of (m := 11) (.head _) rfl)) fun a hK => ?_
    refine spw (k := 3) rfl rfl hS ?_
    obtain ⟨y_15, h_16, H⟩ := bind_some H
    refine sl_callV Tryd.call14 hS hK (by decide) (wtt hb_14) rfl rfl (value_Valid.calls a0 h_16 _) fun a w hS hK => ?_
    refine parK_nil hS ?_
    refine spw (k := 5) rfl rfl hS ?_
    obtain ⟨y_17, h_18, H⟩ := bind_some H
    refine sl_callV Tryd.call15 hS hK (by decide) (wtt hb_14) rfl rfl (ref01_Valid.calls a0 h_18 _) fun a w hS hK => ?_
    refine parK_nil hS ?_
    refine sp (k := 6) rfl hK (by decide) (wtt hb_14) rfl (fun w hS => r_beq Tryd.underlying4 hK rfl rfl) fun a hK => ?_
    refine sp (k := 7) rfl hK (by decide) rfl rfl (fun w hS => r_pick_t hb_14 hK rfl rfl) fun a hK => ?_
    refine sp (k := 8) rfl hK (by decide) rfl rfl (fun w hS => r_move hK rfl) fun a hK => ?_
    rcases or_b (y_15 == y_17) with hb_19 | hb_19
    · rw [ifb_t hb_19] at H
      refine sp (k := 9) rfl hK (by decide) (wtt hb_19) rfl (fun w hS => r_loadA (cs := [.int .i64 a0.Kind, .int .i64 a0.N, .string a0.S, .int .i64 a0.H.a0, .int .i64 a0.H.a1, .int .i64 a0.H.a2, .int .i64 a0.H.a3, .int .i64 a0.H.a4, .int .i64 a0.H.a5, .int .i64 a0.H.a6, .int .i64 a0.H.a7]) Tryd.isAgg24 Tryd.sizeOf24 rfl hK rfl (hS.cells_of (m := 11) (.head _) rfl)) fun a hK => ?_
      refine sp (k := 11) rfl hK (by decide) (wtt hb_19) rfl (fun w hS => r_loadA (cs := [.int .i64 a0.Kind, .int .i64 a0.N, .string a0.S, .int .i64 a0.H.a0, .int .i64 a0.H.a1, .int .i64 a0.H.a2, .int .i64 a0.H.a3, .int .i64 a0.H.a4, .int .i64 a0.H.a5, .int .i64 a0.H.a6, .int .i64 a0.H.a7]) Tryd.isAgg24 Tryd.sizeOf24 rfl hK rfl (hS.cells_of (m := 11) (.head _) rfl)) fun a hK => ?_
      refine spw (k := 10) rfl rfl hS ?_
      obtain ⟨y_20, h_21, H⟩ := bind_some H
      refine sl_callV Tryd.call16 hS hK (by decide) (wtt hb_19) rfl rfl (value_Text.calls a0 (lentOf_sub [] _) (GF.mono (hS.raLe0 hRA nil_not) hG) h_21) fun a w hS hK => ?_
      refine parK_nil hS ?_
      refine thenL_nil ?_
      obtain ⟨y_22, h_23, H⟩ := bind_some H
      refine sl_callV Tryd.call17 hS hK (by decide) (wtt hb_19) rfl rfl (ref01_Text.calls a0 h_23 _) fun a w hS hK => ?_
      refine sl hK (by decide) (wtt hb_19) rfl (r_sbin hK rfl rfl rfl) fun a hK => ?_
      refine sl hK (by decide) rfl rfl (r_pick_t hb_19 hK rfl rfl) fun a hK => ?_
      refine sl hK (by decide) rfl rfl (r_assign hK rfl) fun a hK => ?_
      refine wpList_nil (NoP_nil ?_)
      have hr_ := Option.some.inj H
      refine wp_ret ?_
      repeat (first | refine ret_then ?_ | refine ret_block ?_ | refine ret_scope ?_)
      exact ret_1 Tryd.results3 hK (rv_tmp hK rfl) ⟨congrArg (fun b => Ending.returned (Value.bool b)) hr_, hS.bel⟩
    · rw [ifb_f hb_19] at H
      refine sp_skip (k := 9) rfl hK (by decide) (wtf hb_19) rfl fun a hK => ?_
      refine sp_skip (k := 11) rfl hK (by decide) (wtf hb_19) rfl fun a hK => ?_
      refine spw (k := 10) rfl rfl hS ?_
      refine sl_skip hK (by decide) (wtf hb_19) rfl fun a hK => ?_
      refine parK_nil hS ?_
      refine thenL_nil ?_
      refine sl_skip hK (by decide) (wtf hb_19) rfl fun a hK => ?_
      refine sl_skip hK (by decide) (wtf hb_19) rfl fun a hK => ?_
      refine sl hK (by decide) rfl rfl (r_pick_f hb_19 hK rfl rfl) fun a hK => ?_
      refine sl hK (by decide) rfl rfl (r_assign hK rfl) fun a hK => ?_
      refine wpList_nil (NoP_nil ?_)
      exact absurd (Option.some.inj H) (by decide)
  · rw [ifb_f hb_14] at H
    refine sp_skip (k := 2) rfl hK (by decide) (wtf hb_14) rfl fun a hK => ?_
    refine sp_skip (k := 4) rfl hK (by decide) (wtf hb_14) rfl fun a hK => ?_
    refine spw (k := 3) rfl rfl hS ?_
    refine sl_skip hK (by decide) (wtf hb_14) rfl fun a hK => ?_
    refine parK_nil hS ?_
    refine spw (k := 5) rfl rfl hS ?_
    refine sl_skip hK (by decide) (wtf hb_14) rfl fun a hK => ?_
    refine parK_nil hS ?_
    refine sp_skip (k := 6) rfl hK (by decide) (wtf hb_14) rfl fun a hK => ?_
    refine sp (k := 7) rfl hK (by decide) rfl rfl (fun w hS => r_pick_f hb_14 hK rfl rfl) fun a hK => ?_
    refine sp (k := 8) rfl hK (by decide) rfl rfl (fun w hS => r_move hK rfl) fun a hK => ?_
    refine sp_skip (k := 9) rfl hK (by decide) rfl rfl fun a hK => ?_
    refine sp_skip (k := 11) rfl hK (by decide) rfl rfl fun a hK => ?_
    refine spw (k := 10) rfl rfl hS ?_
    refine sl_skip hK (by decide) rfl rfl fun a hK => ?_
    refine parK_nil hS ?_
    refine thenL_nil ?_
    refine sl_skip hK (by decide) rfl rfl fun a hK => ?_
    refine sl_skip hK (by decide) rfl rfl fun a hK => ?_
    refine sl hK (by decide) rfl rfl (r_pick hK rfl rfl rfl) fun a hK => ?_
    refine sl hK (by decide) rfl rfl (r_assign hK rfl) fun a hK => ?_
    refine wpList_nil (NoP_nil ?_)
    exact absurd (Option.some.inj H) (by decide)

end Go.Proofs.YtmohocmmelaeaaaDoor.M
