/- Each Go function of the laws answers as its plain Lean function tells, wherever that tells something. Printed by wip/eng/gen.py. -/
import Derived.Test.YtjimddbbpjpgdaaWalk1
namespace Go.Proofs.Ytjimddbbpjpgdaa.M
open Go Go.Eng Go.Proofs Go.RowKit
set_option linter.unusedVariables false
set_option linter.unusedSimpArgs false

/-! ### slices.symMergeCmpFunc[[]catchment/api.Value]: function 62 -/
set_option maxHeartbeats 4000000 in
set_option maxRecDepth 100000 in
theorem slices_symMergeCmpFunc_api_Value_f_rowops_Top_1p.r_calls (fuel : Nat) : ∀ (a0 : List (List api_Value)) (a1 : Int) (a2 : Int) (a3 : Int) (a4_0 : Int) {w0 : World} {R : Hp} {RA : Hp} {M : List Own} {v0_0 : Value} {cs0_0 : List Value} {b4q0 : Nat} {o4q0 : Nat} (hRA : RA.sub w0) (hRM : ∀ b, blks M b → RA b = none) (hS0 : St M w0 w0 R [.row 44 1 v0_0 a0.length cs0_0]) (h0_0 : Reps (tySl ty_api_Value) R cs0_0 a0) (hc4q0 : ∀ j u, ([.int .i64 a4_0] : List Value)[j]? = some u → RA.cell b4q0 (o4q0 + j) = some u) {r : List (List api_Value)} (H : slices_symMergeCmpFunc_api_Value_f_rowops_Top_1p.r fuel a0 a1 a2 a3 a4_0 = some r), Calls Try.prog 62 #[v0_0, .int .i64 a1, .int .i64 a2, .int .i64 a3, .func (.func 34) #[] #[.pointer (some ⟨b4q0, o4q0, none⟩)]] w0 (Rets fun v w' => ∃ (R' : Hp) (cu0 : List Value), v = .tuple #[] ∧ St M w0 w' R' [.row 44 1 v0_0 r.length cu0] ∧ RLe M w0 R R' ∧ Reps (tySl ty_api_Value) R' cu0 r) := by
  induction fuel with
  | zero => intros; rename_i H; exact nomatch (show (none : Option _) = some _ from H)
  | succ fuel ih_62 =>
    intro a0 a1 a2 a3 a4_0 w0 R RA M v0_0 cs0_0 b4q0 o4q0 hRA hRM hS0 h0_0 hc4q0 r H
    rw [slices_symMergeCmpFunc_api_Value_f_rowops_Top_1p.r.eq_2] at H
    generalize slices_symMergeCmpFunc_api_Value_f_rowops_Top_1p.r fuel = kr_62 at ih_62 H
    unfold slices_symMergeCmpFunc_api_Value_f_rowops_Top_1p.b at H
    refine enter (args := [v0_0, .int .i64 a1, .int .i64 a2, .int .i64 a3, .func (.func 34) #[] #[.pointer (some ⟨b4q0, o4q0, none⟩)]]) Try.func62 rfl Try.ntmps62 rfl fun a hK => ?_
    have hS := hS0
    have hRL := RLe.refl (M := M) w0 R
    refine wp_seq ?_
    refine wp_seq ?_
    refine wp_region_lit ?_
    refine sl hK (by decide) rfl rfl (r_move hK rfl) fun a hK => ?_
    refine sl hK (by decide) rfl rfl (r_move hK rfl) fun a hK => ?_
    refine sl hK (by decide) rfl rfl (r_ibin hK rfl rfl rfl) fun a hK => ?_
    refine sl hK (by decide) rfl rfl (r_ibin hK rfl rfl rfl) fun a hK => ?_
    refine wpList_nil ?_
    refine wp_cond_split (hK.ev rfl) (fun (hb_1 : ((IntKind.i64.wrap (a2 - a1)) == 1) = true) => ?_) (fun (hb_1 : ((IntKind.i64.wrap (a2 - a1)) == 1) = false) => ?_)
    · rw [ifb_t hb_1] at H
      refine wp_seq ?_
      refine wp_region_lit ?_
      refine sl hK (by decide) rfl rfl (r_move hK rfl) fun a hK => ?_
      refine sl hK (by decide) rfl rfl (r_assign hK rfl) fun a hK => ?_
      refine wpList_nil ?_
      refine wp_seq ?_
      refine wp_region_lit ?_
      refine sl hK (by decide) rfl rfl (r_move hK rfl) fun a hK => ?_
      refine sl hK (by decide) rfl rfl (r_assign hK rfl) fun a hK => ?_
      refine wpList_nil ?_
      refine wp_seq ?_
      refine wp_block ?_
      refine wp_loop_k (fun k_l0 a w => ∃ (x_53 : Int) (x_54 : Int), slices_symMergeCmpFunc_api_Value_f_rowops_Top_1p.l0 a0 a1 a2 a3 a4_0 k_l0 x_53 x_54 = some r ∧ Kn 220 a [(0, v0_0), (1, .int .i64 a1), (4, .func (.func 34) #[] #[.pointer (some ⟨b4q0, o4q0, none⟩)]), (10, .int .i64 x_53), (11, .int .i64 x_54)] ∧ St M w0 w R [.row 44 1 v0_0 a0.length cs0_0]) ((a3 - a2).toNat + 1) ?_ ?_
      · exact ⟨a2, a3, H, hK.sub (all_cons rfl (all_cons rfl (all_cons rfl (all_cons rfl (all_cons rfl (all_nil)))))), hS⟩
      · rintro k_l0 a w ⟨x_53, x_54, H, hK, hS⟩
        cases k_l0 with
        | zero => cases H
        | succ k_l0 =>
        rw [slices_symMergeCmpFunc_api_Value_f_rowops_Top_1p.l0.eq_2] at H
        refine wp_seq ?_
        refine wp_seq ?_
        refine wp_region_lit ?_
        refine sl hK (by decide) rfl rfl (r_move hK rfl) fun a hK => ?_
        refine sl hK (by decide) rfl rfl (r_move hK rfl) fun a hK => ?_
        refine sl hK (by decide) rfl rfl (r_ibin hK rfl rfl rfl) fun a hK => ?_
        refine wpList_nil ?_
        refine wp_cond_split (hK.ev rfl) (fun (hb_106 : (decide (x_53 < x_54)) = true) => ?_) (fun (hb_106 : (decide (x_53 < x_54)) = false) => ?_)
        · rw [ifb_t hb_106] at H
          refine wp_skip ?_
          refine wp_block ?_
          refine wp_seq ?_
          refine wp_region_lit ?_
          refine sl hK (by decide) rfl rfl (r_move hK rfl) fun a hK => ?_
          refine sl hK (by decide) rfl rfl (r_move hK rfl) fun a hK => ?_
          refine sl hK (by decide) rfl rfl (r_ibin hK rfl rfl rfl) fun a hK => ?_
          refine sl hK (by decide) rfl rfl (r_conv Try.underlying3 Try.underlying77 hK rfl) fun a hK => ?_
          refine sl hK (by decide) rfl rfl (r_shr hK rfl rfl (by decide)) fun a hK => ?_
          refine sl hK (by decide) rfl rfl (r_conv Try.underlying77 Try.underlying3 hK rfl) fun a hK => ?_
          refine sl hK (by decide) rfl rfl (r_assign hK rfl) fun a hK => ?_
          refine wpList_nil ?_
          refine wp_seq ?_
          refine parT_region (C := fun w => St M w0 w R [.row 44 1 v0_0 a0.length cs0_0]) 9 [(0, true), (1, true), (2, true), (3, true), (4, true), (5, true), (6, true), (7, true), (8, true)] mixed (by kernel_rfl) hS (fun w hS => hS) fun w hS => ?_
          refine sp (k := 0) rfl hK (by decide) rfl rfl (fun w hS => r_move hK rfl) fun a hK => ?_
          refine sp (k := 1) rfl hK (by decide) rfl rfl (fun w hS => r_move hK rfl) fun a hK => ?_
          refine sp (k := 2) rfl hK (by decide) rfl rfl (fun w hS => r_move hK rfl) fun a hK => ?_
          obtain ⟨y_129, h_130, H⟩ := bind_some H
          obtain ⟨b_132, c_133, cs_134, hv_131, hr_135, hc_136, h_1300, h_1301⟩ := hS.row_ix (.head _) h0_0 rfl rfl h_130
          obtain ⟨v_137, rfl, hs_138⟩ := hr_135
          refine sp (k := 3) rfl hK (by decide) rfl rfl (fun w hS => r_indexAddr_R Try.underlying23 Try.sizeOf44 hv_131 h_1300 h_1301 hK rfl rfl) fun a hK => ?_
          refine sp (k := 4) rfl hK (by decide) rfl rfl (fun w hS => r_load Try.isAgg44 hK rfl (by have h_ := hS.row_cell (.head _) hv_131 (hc_136 0 _ rfl); simpa [Nat.add_assoc] using h_)) fun a hK => ?_
          refine sp (k := 5) rfl hK (by decide) rfl rfl (fun w hS => r_move hK rfl) fun a hK => ?_
          refine sp (k := 6) rfl hK (by decide) rfl rfl (fun w hS => r_move hK rfl) fun a hK => ?_
          obtain ⟨y_139, h_140, H⟩ := bind_some H
          obtain ⟨b_142, c_143, cs_144, hv_141, hr_145, hc_146, h_1400, h_1401⟩ := hS.row_ix (.head _) h0_0 rfl rfl h_140
          obtain ⟨v_147, rfl, hs_148⟩ := hr_145
          refine sp (k := 7) rfl hK (by decide) rfl rfl (fun w hS => r_indexAddr_R Try.underlying23 Try.sizeOf44 hv_141 h_1400 h_1401 hK rfl rfl) fun a hK => ?_
          refine sp (k := 8) rfl hK (by decide) rfl rfl (fun w hS => r_load Try.isAgg44 hK rfl (hS.row_cell (.head _) hv_141 (hc_146 0 _ rfl))) fun a hK => ?_
          refine thenL_nil ?_
          obtain ⟨y_149, h_150, H⟩ := bind_some H
          refine sl_callV Try.call34 hS hK (by decide) rfl rfl rfl (rowops_Top_1_cp.calls y_129 y_139 a4_0 (lentOf_sub [] _) (hs_138.mono hS.rLe0) (hs_148.mono hS.rLe0) (fun j u hu => Hp.cell_le (hS.raLe0 hRA hRM) (hc4q0 j u hu)) h_150) fun a w hS hK => ?_
          refine sl hK (by decide) rfl rfl (r_ibin hK rfl rfl rfl) fun a hK => ?_
          refine wpList_nil (NoP_nil ?_)
          refine wp_mid (fun a w => ∃ (x_152 : Int) (x_153 : Int), slices_symMergeCmpFunc_api_Value_f_rowops_Top_1p.j1 (slices_symMergeCmpFunc_api_Value_f_rowops_Top_1p.l0 a0 a1 a2 a3 a4_0 k_l0) a2 a3 x_152 x_153 = some r ∧ Kn 220 a [(0, v0_0), (1, .int .i64 a1), (4, .func (.func 34) #[] #[.pointer (some ⟨b4q0, o4q0, none⟩)]), (10, .int .i64 x_152), (11, .int .i64 x_153)] ∧ St M w0 w R [.row 44 1 v0_0 a0.length cs0_0]) ?_ ?_
          · refine wp_cond_split (hK.ev rfl) (fun (hb_155 : (decide (y_149 < 0)) = true) => ?_) (fun (hb_155 : (decide (y_149 < 0)) = false) => ?_)
            · rw [ifb_t hb_155] at H
              refine wp_region_lit ?_
              refine sl hK (by decide) rfl rfl (r_move hK rfl) fun a hK => ?_
              refine sl hK (by decide) rfl rfl (r_ibin hK rfl rfl rfl) fun a hK => ?_
              refine sl hK (by decide) rfl rfl (r_assign hK rfl) fun a hK => ?_
              refine wpList_nil ?_
              exact ⟨(IntKind.i64.wrap ((IntKind.i64.wrap ((IntKind.u64.wrap (IntKind.i64.wrap (x_53 + x_54))).fdiv (2 ^ (min (1 : Int).toNat 64)))) + 1)), x_54, H, hK.sub (all_cons rfl (all_cons rfl (all_cons rfl (all_cons rfl (all_cons rfl (all_nil)))))), hS⟩
            · rw [ifb_f hb_155] at H
              refine wp_region_lit ?_
              refine sl hK (by decide) rfl rfl (r_move hK rfl) fun a hK => ?_
              refine sl hK (by decide) rfl rfl (r_assign hK rfl) fun a hK => ?_
              refine wpList_nil ?_
              exact ⟨x_53, (IntKind.i64.wrap ((IntKind.u64.wrap (IntKind.i64.wrap (x_53 + x_54))).fdiv (2 ^ (min (1 : Int).toNat 64)))), H, hK.sub (all_cons rfl (all_cons rfl (all_cons rfl (all_cons rfl (all_cons rfl (all_nil)))))), hS⟩
          · rintro a w ⟨x_152, x_153, H, hK, hS⟩
            unfold slices_symMergeCmpFunc_api_Value_f_rowops_Top_1p.j1 at H
            exact ⟨_, Nat.lt_succ_self _, x_152, x_153, H, hK.sub (all_cons rfl (all_cons rfl (all_cons rfl (all_cons rfl (all_cons rfl (all_nil)))))), hS⟩
        · rw [ifb_f hb_106] at H
          refine wp_exit ?_
          refine wp_seq ?_
          refine wp_seq ?_
          refine wp_region_lit ?_
          refine sl hK (by decide) rfl rfl (r_move hK rfl) fun a hK => ?_
          refine sl hK (by decide) rfl rfl (r_assign hK rfl) fun a hK => ?_
          refine wpList_nil ?_
          refine wp_block ?_
          refine wp_loop_k (fun k_l2 a w => ∃ (x_275 : List (List api_Value)) (x_279 : Int) (cs_277 : List Value), slices_symMergeCmpFunc_api_Value_f_rowops_Top_1p.l2 a1 x_53 k_l2 x_275 x_279 = some r ∧ Reps (tySl ty_api_Value) R cs_277 x_275 ∧ Kn 220 a [(0, v0_0), (10, .int .i64 x_53), (13, .int .i64 x_279)] ∧ St M w0 w R [.row 44 1 v0_0 x_275.length cs_277]) (((IntKind.i64.wrap (x_53 - 1)) - a1).toNat + 1) ?_ ?_
          · exact ⟨a0, a1, _, H, h0_0, hK.sub (all_cons rfl (all_cons rfl (all_cons rfl (all_nil)))), hS⟩
          · rintro k_l2 a w ⟨x_275, x_279, cs_277, H, hq_278, hK, hS⟩
            cases k_l2 with
            | zero => cases H
            | succ k_l2 =>
            rw [slices_symMergeCmpFunc_api_Value_f_rowops_Top_1p.l2.eq_2] at H
            refine wp_seq ?_
            refine wp_seq ?_
            refine wp_region_lit ?_
            refine sl hK (by decide) rfl rfl (r_move hK rfl) fun a hK => ?_
            refine sl hK (by decide) rfl rfl (r_move hK rfl) fun a hK => ?_
            refine sl hK (by decide) rfl rfl (r_ibin hK rfl rfl rfl) fun a hK => ?_
            refine sl hK (by decide) rfl rfl (r_ibin hK rfl rfl rfl) fun a hK => ?_
            refine wpList_nil ?_
            refine wp_cond_split (hK.ev rfl) (fun (hb_398 : (decide (x_279 < (IntKind.i64.wrap (x_53 - 1)))) = true) => ?_) (fun (hb_398 : (decide (x_279 < (IntKind.i64.wrap (x_53 - 1)))) = false) => ?_)
            · rw [ifb_t hb_398] at H
              refine wp_skip ?_
              refine wp_seq ?_
              refine wp_block ?_
              refine treeTS_region (C0 := (fun w => St M w0 w R [.row 44 1 v0_0 x_275.length cs_277])) (C1 := (fun w => St M w0 w R [])) 16 15 [(0, 2), (1, 2), (2, 1), (3, 1), (4, 1), (5, 2), (6, 2), (7, 2), (8, 2), (9, 2), (10, 2), (11, 2), (12, 2), (13, 2), (14, 2)] (.list []) mixed (by kernel_rfl) (fun w hS => (hS.trunc 0)) hS (fun w hS => hS) fun w hS => ?_
              refine spS2 (k := 0) rfl hK (by decide) rfl rfl (fun w hS => r_move hK rfl) fun a hK => ?_
              refine spS2 (k := 1) rfl hK (by decide) rfl rfl (fun w hS => r_move hK rfl) fun a hK => ?_
              refine spS1 (k := 2) rfl hK (by decide) rfl rfl (fun w hS => r_move hK rfl) fun a hK => ?_
              refine spS1 (k := 3) rfl hK (by decide) rfl rfl (fun w hS => r_move hK rfl) fun a hK => ?_
              refine spS1 (k := 4) rfl hK (by decide) rfl rfl (fun w hS => r_ibin hK rfl rfl rfl) fun a hK => ?_
              refine spS2 (k := 5) rfl hK (by decide) rfl rfl (fun w hS => r_move hK rfl) fun a hK => ?_
              refine spS2 (k := 6) rfl hK (by decide) rfl rfl (fun w hS => r_move hK rfl) fun a hK => ?_
              refine spS2 (k := 7) rfl hK (by decide) rfl rfl (fun w hS => r_ibin hK rfl rfl rfl) fun a hK => ?_
              obtain ⟨y_457, h_458, H⟩ := bind_some H
              obtain ⟨b_460, c_461, cs_462, hv_459, hr_463, hc_464, h_4580, h_4581⟩ := hS.row_ix (.head _) hq_278 rfl rfl h_458
              obtain ⟨v_465, rfl, hs_466⟩ := hr_463
              refine spS2 (k := 8) rfl hK (by decide) rfl rfl (fun w hS => r_indexAddr_R Try.underlying23 Try.sizeOf44 hv_459 h_4580 h_4581 hK rfl rfl) fun a hK => ?_
              refine spS2 (k := 9) rfl hK (by decide) rfl rfl (fun w hS => r_load Try.isAgg44 hK rfl (by have h_ := hS.row_cell (.head _) hv_459 (hc_464 0 _ rfl); simpa [Nat.add_assoc] using h_)) fun a hK => ?_
              refine spS2 (k := 10) rfl hK (by decide) rfl rfl (fun w hS => r_move hK rfl) fun a hK => ?_
              refine spS2 (k := 11) rfl hK (by decide) rfl rfl (fun w hS => r_move hK rfl) fun a hK => ?_
              obtain ⟨y_467, h_468, H⟩ := bind_some H
              obtain ⟨b_470, c_471, cs_472, hv_469, hr_473, hc_474, h_4680, h_4681⟩ := hS.row_ix (.head _) hq_278 rfl rfl h_468
              obtain ⟨v_475, rfl, hs_476⟩ := hr_473
              refine spS2 (k := 12) rfl hK (by decide) rfl rfl (fun w hS => r_indexAddr_R Try.underlying23 Try.sizeOf44 hv_469 h_4680 h_4681 hK rfl rfl) fun a hK => ?_
              refine spS2 (k := 13) rfl hK (by decide) rfl rfl (fun w hS => r_load Try.isAgg44 hK rfl (hS.row_cell (.head _) hv_469 (hc_474 0 _ rfl))) fun a hK => ?_
              obtain ⟨y_477, h_478, H⟩ := bind_some H
              obtain ⟨b_480, c_481, cs_482, hv_479, hr_483, hc_484, h_4780, h_4781⟩ := hS.row_ix (.head _) hq_278 rfl rfl h_478
              obtain ⟨v_485, rfl, hs_486⟩ := hr_483
              refine spS2 (k := 14) rfl hK (by decide) rfl rfl (fun w hS => r_indexAddr_R Try.underlying23 Try.sizeOf44 hv_479 h_4780 h_4781 hK rfl rfl) fun a hK => ?_
              refine parS_nil (spwB (k := 15) rfl rfl (hS.trunc 0) ?_)
              refine sl_store_row Try.sizeOf44 hv_479 h_478 rfl (show Ty.rep (tySl ty_api_Value) _ [v_465] y_457 from ⟨_, rfl, hs_466⟩) hq_278 rfl hS hK rfl rfl rfl hs_466.one fun a w cs_487 hq_488 hS hK => ?_
              obtain ⟨z_492, h_490⟩ := ix_upd x_279 y_457 h_458
              have hv_491 : v0_0 = Value.slice (some ⟨b_460, 0, none⟩) (upd x_275 x_279 y_457).length c_461 := by rw [upd_length]; exact hv_459
              obtain ⟨z_495, h_493⟩ := ix_upd x_279 y_457 h_468
              have hv_494 : v0_0 = Value.slice (some ⟨b_470, 0, none⟩) (upd x_275 x_279 y_457).length c_471 := by rw [upd_length]; exact hv_469
              refine parKK_nil (hS.trunc 0) ?_
              refine tree_list ?_
              refine thenL_nil ?_
              obtain ⟨y_496, h_497, H⟩ := bind_some H
              obtain ⟨b_499, c_500, cs_501, hv_498, hr_502, hc_503, h_4970, h_4971⟩ := hS.row_ix (.head _) hq_488 rfl rfl h_497
              obtain ⟨v_504, rfl, hs_505⟩ := hr_502
              refine sl hK (by decide) rfl rfl (r_indexAddr_R Try.underlying23 Try.sizeOf44 hv_498 h_4970 h_4971 hK rfl rfl) fun a hK => ?_
              refine sl_store_row Try.sizeOf44 hv_498 h_497 rfl (show Ty.rep (tySl ty_api_Value) _ [v_475] y_467 from ⟨_, rfl, hs_476⟩) hq_488 rfl hS hK rfl rfl rfl hs_476.one fun a w cs_506 hq_507 hS hK => ?_
              obtain ⟨z_511, h_509⟩ := ix_upd (IntKind.i64.wrap (x_279 + 1)) y_467 h_490
              have hv_510 : v0_0 = Value.slice (some ⟨b_460, 0, none⟩) (upd (upd x_275 x_279 y_457) (IntKind.i64.wrap (x_279 + 1)) y_467).length c_461 := by rw [upd_length]; exact hv_491
              obtain ⟨z_514, h_512⟩ := ix_upd (IntKind.i64.wrap (x_279 + 1)) y_467 h_493
              have hv_513 : v0_0 = Value.slice (some ⟨b_470, 0, none⟩) (upd (upd x_275 x_279 y_457) (IntKind.i64.wrap (x_279 + 1)) y_467).length c_471 := by rw [upd_length]; exact hv_494
              refine wpList_nil (NoP_nil ?_)
              refine wp_region_lit ?_
              refine sl hK (by decide) rfl rfl (r_move hK rfl) fun a hK => ?_
              refine sl hK (by decide) rfl rfl (r_ibin hK rfl rfl rfl) fun a hK => ?_
              refine sl hK (by decide) rfl rfl (r_assign hK rfl) fun a hK => ?_
              refine wpList_nil ?_
              exact ⟨_, Nat.lt_succ_self _, (upd (upd x_275 x_279 y_457) (IntKind.i64.wrap (x_279 + 1)) y_467), (IntKind.i64.wrap (x_279 + 1)), _, H, hq_507, hK.sub (all_cons rfl (all_cons rfl (all_cons rfl (all_nil)))), hS⟩
            · rw [ifb_f hb_398] at H
              refine wp_exit ?_
              obtain rfl := Option.some.inj H
              refine wp_ret ?_
              repeat (first | refine ret_then ?_ | refine ret_block ?_ | refine ret_scope ?_)
              exact ret_0 Try.results62 hK  ⟨_, rfl, _, _, rfl, hS, hRL, hq_278⟩
    · rw [ifb_f hb_1] at H
      refine wp_skip ?_
      refine wp_seq ?_
      refine wp_seq ?_
      refine wp_region_lit ?_
      refine sl hK (by decide) rfl rfl (r_move hK rfl) fun a hK => ?_
      refine sl hK (by decide) rfl rfl (r_move hK rfl) fun a hK => ?_
      refine sl hK (by decide) rfl rfl (r_ibin hK rfl rfl rfl) fun a hK => ?_
      refine sl hK (by decide) rfl rfl (r_ibin hK rfl rfl rfl) fun a hK => ?_
      refine wpList_nil ?_
      refine wp_cond_split (hK.ev rfl) (fun (hb_515 : ((IntKind.i64.wrap (a3 - a2)) == 1) = true) => ?_) (fun (hb_515 : ((IntKind.i64.wrap (a3 - a2)) == 1) = false) => ?_)
      · rw [ifb_t hb_515] at H
        refine wp_seq ?_
        refine wp_region_lit ?_
        refine sl hK (by decide) rfl rfl (r_move hK rfl) fun a hK => ?_
        refine sl hK (by decide) rfl rfl (r_assign hK rfl) fun a hK => ?_
        refine wpList_nil ?_
        refine wp_seq ?_
        refine wp_region_lit ?_
        refine sl hK (by decide) rfl rfl (r_move hK rfl) fun a hK => ?_
        refine sl hK (by decide) rfl rfl (r_assign hK rfl) fun a hK => ?_
        refine wpList_nil ?_
        refine wp_seq ?_
        refine wp_block ?_
        refine wp_loop_k (fun k_l3 a w => ∃ (x_567 : Int) (x_568 : Int), slices_symMergeCmpFunc_api_Value_f_rowops_Top_1p.l3 a0 a1 a2 a4_0 k_l3 x_567 x_568 = some r ∧ Kn 220 a [(0, v0_0), (2, .int .i64 a2), (4, .func (.func 34) #[] #[.pointer (some ⟨b4q0, o4q0, none⟩)]), (14, .int .i64 x_567), (15, .int .i64 x_568)] ∧ St M w0 w R [.row 44 1 v0_0 a0.length cs0_0]) ((a2 - a1).toNat + 1) ?_ ?_
        · exact ⟨a1, a2, H, hK.sub (all_cons rfl (all_cons rfl (all_cons rfl (all_cons rfl (all_cons rfl (all_nil)))))), hS⟩
        · rintro k_l3 a w ⟨x_567, x_568, H, hK, hS⟩
          cases k_l3 with
          | zero => cases H
          | succ k_l3 =>
          rw [slices_symMergeCmpFunc_api_Value_f_rowops_Top_1p.l3.eq_2] at H
          refine wp_seq ?_
          refine wp_seq ?_
          refine wp_region_lit ?_
          refine sl hK (by decide) rfl rfl (r_move hK rfl) fun a hK => ?_
          refine sl hK (by decide) rfl rfl (r_move hK rfl) fun a hK => ?_
          refine sl hK (by decide) rfl rfl (r_ibin hK rfl rfl rfl) fun a hK => ?_
          refine wpList_nil ?_
          refine wp_cond_split (hK.ev rfl) (fun (hb_620 : (decide (x_567 < x_568)) = true) => ?_) (fun (hb_620 : (decide (x_567 < x_568)) = false) => ?_)
          · rw [ifb_t hb_620] at H
            refine wp_skip ?_
            refine wp_block ?_
            refine wp_seq ?_
            refine wp_region_lit ?_
            refine sl hK (by decide) rfl rfl (r_move hK rfl) fun a hK => ?_
            refine sl hK (by decide) rfl rfl (r_move hK rfl) fun a hK => ?_
            refine sl hK (by decide) rfl rfl (r_ibin hK rfl rfl rfl) fun a hK => ?_
            refine sl hK (by decide) rfl rfl (r_conv Try.underlying3 Try.underlying77 hK rfl) fun a hK => ?_
            refine sl hK (by decide) rfl rfl (r_shr hK rfl rfl (by decide)) fun a hK => ?_
            refine sl hK (by decide) rfl rfl (r_conv Try.underlying77 Try.underlying3 hK rfl) fun a hK => ?_
            refine sl hK (by decide) rfl rfl (r_assign hK rfl) fun a hK => ?_
            refine wpList_nil ?_
            refine wp_seq ?_
            refine parT_region (C := fun w => St M w0 w R [.row 44 1 v0_0 a0.length cs0_0]) 9 [(0, true), (1, true), (2, true), (3, true), (4, true), (5, true), (6, true), (7, true), (8, true)] mixed (by kernel_rfl) hS (fun w hS => hS) fun w hS => ?_
            refine sp (k := 0) rfl hK (by decide) rfl rfl (fun w hS => r_move hK rfl) fun a hK => ?_
            refine sp (k := 1) rfl hK (by decide) rfl rfl (fun w hS => r_move hK rfl) fun a hK => ?_
            refine sp (k := 2) rfl hK (by decide) rfl rfl (fun w hS => r_move hK rfl) fun a hK => ?_
            obtain ⟨y_643, h_644, H⟩ := bind_some H
            obtain ⟨b_646, c_647, cs_648, hv_645, hr_649, hc_650, h_6440, h_6441⟩ := hS.row_ix (.head _) h0_0 rfl rfl h_644
            obtain ⟨v_651, rfl, hs_652⟩ := hr_649
            refine sp (k := 3) rfl hK (by decide) rfl rfl (fun w hS => r_indexAddr_R Try.underlying23 Try.sizeOf44 hv_645 h_6440 h_6441 hK rfl rfl) fun a hK => ?_
            refine sp (k := 4) rfl hK (by decide) rfl rfl (fun w hS => r_load Try.isAgg44 hK rfl (hS.row_cell (.head _) hv_645 (hc_650 0 _ rfl))) fun a hK => ?_
            refine sp (k := 5) rfl hK (by decide) rfl rfl (fun w hS => r_move hK rfl) fun a hK => ?_
            refine sp (k := 6) rfl hK (by decide) rfl rfl (fun w hS => r_move hK rfl) fun a hK => ?_
            obtain ⟨y_653, h_654, H⟩ := bind_some H
            obtain ⟨b_656, c_657, cs_658, hv_655, hr_659, hc_660, h_6540, h_6541⟩ := hS.row_ix (.head _) h0_0 rfl rfl h_654
            obtain ⟨v_661, rfl, hs_662⟩ := hr_659
            refine sp (k := 7) rfl hK (by decide) rfl rfl (fun w hS => r_indexAddr_R Try.underlying23 Try.sizeOf44 hv_655 h_6540 h_6541 hK rfl rfl) fun a hK => ?_
            refine sp (k := 8) rfl hK (by decide) rfl rfl (fun w hS => r_load Try.isAgg44 hK rfl (by have h_ := hS.row_cell (.head _) hv_655 (hc_660 0 _ rfl); simpa [Nat.add_assoc] using h_)) fun a hK => ?_
            refine thenL_nil ?_
            obtain ⟨y_663, h_664, H⟩ := bind_some H
            refine sl_callV Try.call34 hS hK (by decide) rfl rfl rfl (rowops_Top_1_cp.calls y_643 y_653 a4_0 (lentOf_sub [] _) (hs_652.mono hS.rLe0) (hs_662.mono hS.rLe0) (fun j u hu => Hp.cell_le (hS.raLe0 hRA hRM) (hc4q0 j u hu)) h_664) fun a w hS hK => ?_
            refine sl hK (by decide) rfl rfl (r_ibin hK rfl rfl rfl) fun a hK => ?_
            refine sl hK (by decide) rfl rfl (r_un hK rfl (u_not _)) fun a hK => ?_
            refine wpList_nil (NoP_nil ?_)
            refine wp_mid (fun a w => ∃ (x_666 : Int) (x_667 : Int), slices_symMergeCmpFunc_api_Value_f_rowops_Top_1p.j4 (slices_symMergeCmpFunc_api_Value_f_rowops_Top_1p.l3 a0 a1 a2 a4_0 k_l3) a1 a2 x_666 x_667 = some r ∧ Kn 220 a [(0, v0_0), (2, .int .i64 a2), (4, .func (.func 34) #[] #[.pointer (some ⟨b4q0, o4q0, none⟩)]), (14, .int .i64 x_666), (15, .int .i64 x_667)] ∧ St M w0 w R [.row 44 1 v0_0 a0.length cs0_0]) ?_ ?_
            · refine wp_cond_split (hK.ev rfl) (fun (hb_669 : (!(decide (y_663 < 0))) = true) => ?_) (fun (hb_669 : (!(decide (y_663 < 0))) = false) => ?_)
              · rw [ifb_t hb_669] at H
                refine wp_region_lit ?_
                refine sl hK (by decide) rfl rfl (r_move hK rfl) fun a hK => ?_
                refine sl hK (by decide) rfl rfl (r_ibin hK rfl rfl rfl) fun a hK => ?_
                refine sl hK (by decide) rfl rfl (r_assign hK rfl) fun a hK => ?_
                refine wpList_nil ?_
                exact ⟨(IntKind.i64.wrap ((IntKind.i64.wrap ((IntKind.u64.wrap (IntKind.i64.wrap (x_567 + x_568))).fdiv (2 ^ (min (1 : Int).toNat 64)))) + 1)), x_568, H, hK.sub (all_cons rfl (all_cons rfl (all_cons rfl (all_cons rfl (all_cons rfl (all_nil)))))), hS⟩
              · rw [ifb_f hb_669] at H
                refine wp_region_lit ?_
                refine sl hK (by decide) rfl rfl (r_move hK rfl) fun a hK => ?_
                refine sl hK (by decide) rfl rfl (r_assign hK rfl) fun a hK => ?_
                refine wpList_nil ?_
                exact ⟨x_567, (IntKind.i64.wrap ((IntKind.u64.wrap (IntKind.i64.wrap (x_567 + x_568))).fdiv (2 ^ (min (1 : Int).toNat 64)))), H, hK.sub (all_cons rfl (all_cons rfl (all_cons rfl (all_cons rfl (all_cons rfl (all_nil)))))), hS⟩
            · rintro a w ⟨x_666, x_667, H, hK, hS⟩
              unfold slices_symMergeCmpFunc_api_Value_f_rowops_Top_1p.j4 at H
              exact ⟨_, Nat.lt_succ_self _, x_666, x_667, H, hK.sub (all_cons rfl (all_cons rfl (all_cons rfl (all_cons rfl (all_cons rfl (all_nil)))))), hS⟩
          · rw [ifb_f hb_620] at H
            refine wp_exit ?_
            refine wp_seq ?_
            refine wp_seq ?_
            refine wp_region_lit ?_
            refine sl hK (by decide) rfl rfl (r_move hK rfl) fun a hK => ?_
            refine sl hK (by decide) rfl rfl (r_assign hK rfl) fun a hK => ?_
            refine wpList_nil ?_
            refine wp_block ?_
            refine wp_loop_k (fun k_l5 a w => ∃ (x_789 : List (List api_Value)) (x_793 : Int) (cs_791 : List Value), slices_symMergeCmpFunc_api_Value_f_rowops_Top_1p.l5 a2 x_567 k_l5 x_789 x_793 = some r ∧ Reps (tySl ty_api_Value) R cs_791 x_789 ∧ Kn 220 a [(0, v0_0), (14, .int .i64 x_567), (17, .int .i64 x_793)] ∧ St M w0 w R [.row 44 1 v0_0 x_789.length cs_791]) ((a2 - x_567).toNat + 1) ?_ ?_
            · exact ⟨a0, a2, _, H, h0_0, hK.sub (all_cons rfl (all_cons rfl (all_cons rfl (all_nil)))), hS⟩
            · rintro k_l5 a w ⟨x_789, x_793, cs_791, H, hq_792, hK, hS⟩
              cases k_l5 with
              | zero => cases H
              | succ k_l5 =>
              rw [slices_symMergeCmpFunc_api_Value_f_rowops_Top_1p.l5.eq_2] at H
              refine wp_seq ?_
              refine wp_seq ?_
              refine wp_region_lit ?_
              refine sl hK (by decide) rfl rfl (r_move hK rfl) fun a hK => ?_
              refine sl hK (by decide) rfl rfl (r_move hK rfl) fun a hK => ?_
              refine sl hK (by decide) rfl rfl (r_ibin hK rfl rfl rfl) fun a hK => ?_
              refine wpList_nil ?_
              refine wp_cond_split (hK.ev rfl) (fun (hb_912 : (decide (x_793 > x_567)) = true) => ?_) (fun (hb_912 : (decide (x_793 > x_567)) = false) => ?_)
              · rw [ifb_t hb_912] at H
                refine wp_skip ?_
                refine wp_seq ?_
                refine wp_block ?_
                refine treeTS_region (C0 := (fun w => St M w0 w R [.row 44 1 v0_0 x_789.length cs_791])) (C1 := (fun w => St M w0 w R [])) 16 15 [(0, 2), (1, 2), (2, 1), (3, 1), (4, 1), (5, 2), (6, 2), (7, 2), (8, 2), (9, 2), (10, 2), (11, 2), (12, 2), (13, 2), (14, 2)] (.list []) mixed (by kernel_rfl) (fun w hS => (hS.trunc 0)) hS (fun w hS => hS) fun w hS => ?_
                refine spS2 (k := 0) rfl hK (by decide) rfl rfl (fun w hS => r_move hK rfl) fun a hK => ?_
                refine spS2 (k := 1) rfl hK (by decide) rfl rfl (fun w hS => r_move hK rfl) fun a hK => ?_
                refine spS1 (k := 2) rfl hK (by decide) rfl rfl (fun w hS => r_move hK rfl) fun a hK => ?_
                refine spS1 (k := 3) rfl hK (by decide) rfl rfl (fun w hS => r_move hK rfl) fun a hK => ?_
                refine spS1 (k := 4) rfl hK (by decide) rfl rfl (fun w hS => r_ibin hK rfl rfl rfl) fun a hK => ?_
                refine spS2 (k := 5) rfl hK (by decide) rfl rfl (fun w hS => r_move hK rfl) fun a hK => ?_
                refine spS2 (k := 6) rfl hK (by decide) rfl rfl (fun w hS => r_move hK rfl) fun a hK => ?_
                refine spS2 (k := 7) rfl hK (by decide) rfl rfl (fun w hS => r_ibin hK rfl rfl rfl) fun a hK => ?_
                obtain ⟨y_971, h_972, H⟩ := bind_some H
                obtain ⟨b_974, c_975, cs_976, hv_973, hr_977, hc_978, h_9720, h_9721⟩ := hS.row_ix (.head _) hq_792 rfl rfl h_972
                obtain ⟨v_979, rfl, hs_980⟩ := hr_977
                refine spS2 (k := 8) rfl hK (by decide) rfl rfl (fun w hS => r_indexAddr_R Try.underlying23 Try.sizeOf44 hv_973 h_9720 h_9721 hK rfl rfl) fun a hK => ?_
                refine spS2 (k := 9) rfl hK (by decide) rfl rfl (fun w hS => r_load Try.isAgg44 hK rfl (hS.row_cell (.head _) hv_973 (hc_978 0 _ rfl))) fun a hK => ?_
                refine spS2 (k := 10) rfl hK (by decide) rfl rfl (fun w hS => r_move hK rfl) fun a hK => ?_
                refine spS2 (k := 11) rfl hK (by decide) rfl rfl (fun w hS => r_move hK rfl) fun a hK => ?_
                obtain ⟨y_981, h_982, H⟩ := bind_some H
                obtain ⟨b_984, c_985, cs_986, hv_983, hr_987, hc_988, h_9820, h_9821⟩ := hS.row_ix (.head _) hq_792 rfl rfl h_982
                obtain ⟨v_989, rfl, hs_990⟩ := hr_987
                refine spS2 (k := 12) rfl hK (by decide) rfl rfl (fun w hS => r_indexAddr_R Try.underlying23 Try.sizeOf44 hv_983 h_9820 h_9821 hK rfl rfl) fun a hK => ?_
                refine spS2 (k := 13) rfl hK (by decide) rfl rfl (fun w hS => r_load Try.isAgg44 hK rfl (hS.row_cell (.head _) hv_983 (hc_988 0 _ rfl))) fun a hK => ?_
                obtain ⟨y_991, h_992, H⟩ := bind_some H
                obtain ⟨b_994, c_995, cs_996, hv_993, hr_997, hc_998, h_9920, h_9921⟩ := hS.row_ix (.head _) hq_792 rfl rfl h_992
                obtain ⟨v_999, rfl, hs_1000⟩ := hr_997
                refine spS2 (k := 14) rfl hK (by decide) rfl rfl (fun w hS => r_indexAddr_R Try.underlying23 Try.sizeOf44 hv_993 h_9920 h_9921 hK rfl rfl) fun a hK => ?_
                refine parS_nil (spwB (k := 15) rfl rfl (hS.trunc 0) ?_)
                refine sl_store_row Try.sizeOf44 hv_993 h_992 rfl (show Ty.rep (tySl ty_api_Value) _ [v_979] y_971 from ⟨_, rfl, hs_980⟩) hq_792 rfl hS hK rfl rfl rfl hs_980.one fun a w cs_1001 hq_1002 hS hK => ?_
                obtain ⟨z_1006, h_1004⟩ := ix_upd x_793 y_971 h_972
                have hv_1005 : v0_0 = Value.slice (some ⟨b_974, 0, none⟩) (upd x_789 x_793 y_971).length c_975 := by rw [upd_length]; exact hv_973
                obtain ⟨z_1009, h_1007⟩ := ix_upd x_793 y_971 h_982
                have hv_1008 : v0_0 = Value.slice (some ⟨b_984, 0, none⟩) (upd x_789 x_793 y_971).length c_985 := by rw [upd_length]; exact hv_983
                refine parKK_nil (hS.trunc 0) ?_
                refine tree_list ?_
                refine thenL_nil ?_
                obtain ⟨y_1010, h_1011, H⟩ := bind_some H
                obtain ⟨b_1013, c_1014, cs_1015, hv_1012, hr_1016, hc_1017, h_10110, h_10111⟩ := hS.row_ix (.head _) hq_1002 rfl rfl h_1011
                obtain ⟨v_1018, rfl, hs_1019⟩ := hr_1016
                refine sl hK (by decide) rfl rfl (r_indexAddr_R Try.underlying23 Try.sizeOf44 hv_1012 h_10110 h_10111 hK rfl rfl) fun a hK => ?_
                refine sl_store_row Try.sizeOf44 hv_1012 h_1011 rfl (show Ty.rep (tySl ty_api_Value) _ [v_989] y_981 from ⟨_, rfl, hs_990⟩) hq_1002 rfl hS hK rfl rfl rfl hs_990.one fun a w cs_1020 hq_1021 hS hK => ?_
                obtain ⟨z_1025, h_1023⟩ := ix_upd (IntKind.i64.wrap (x_793 - 1)) y_981 h_1004
                have hv_1024 : v0_0 = Value.slice (some ⟨b_974, 0, none⟩) (upd (upd x_789 x_793 y_971) (IntKind.i64.wrap (x_793 - 1)) y_981).length c_975 := by rw [upd_length]; exact hv_1005
                obtain ⟨z_1028, h_1026⟩ := ix_upd (IntKind.i64.wrap (x_793 - 1)) y_981 h_1007
                have hv_1027 : v0_0 = Value.slice (some ⟨b_984, 0, none⟩) (upd (upd x_789 x_793 y_971) (IntKind.i64.wrap (x_793 - 1)) y_981).length c_985 := by rw [upd_length]; exact hv_1008
                refine wpList_nil (NoP_nil ?_)
                refine wp_region_lit ?_
                refine sl hK (by decide) rfl rfl (r_move hK rfl) fun a hK => ?_
                refine sl hK (by decide) rfl rfl (r_ibin hK rfl rfl rfl) fun a hK => ?_
                refine sl hK (by decide) rfl rfl (r_assign hK rfl) fun a hK => ?_
                refine wpList_nil ?_
                exact ⟨_, Nat.lt_succ_self _, (upd (upd x_789 x_793 y_971) (IntKind.i64.wrap (x_793 - 1)) y_981), (IntKind.i64.wrap (x_793 - 1)), _, H, hq_1021, hK.sub (all_cons rfl (all_cons rfl (all_cons rfl (all_nil)))), hS⟩
              · rw [ifb_f hb_912] at H
                refine wp_exit ?_
                obtain rfl := Option.some.inj H
                refine wp_ret ?_
                repeat (first | refine ret_then ?_ | refine ret_block ?_ | refine ret_scope ?_)
                exact ret_0 Try.results62 hK  ⟨_, rfl, _, _, rfl, hS, hRL, hq_792⟩
      · rw [ifb_f hb_515] at H
        refine wp_skip ?_
        refine wp_seq ?_
        refine wp_region_lit ?_
        refine sl hK (by decide) rfl rfl (r_move hK rfl) fun a hK => ?_
        refine sl hK (by decide) rfl rfl (r_move hK rfl) fun a hK => ?_
        refine sl hK (by decide) rfl rfl (r_ibin hK rfl rfl rfl) fun a hK => ?_
        refine sl hK (by decide) rfl rfl (r_conv Try.underlying3 Try.underlying77 hK rfl) fun a hK => ?_
        refine sl hK (by decide) rfl rfl (r_shr hK rfl rfl (by decide)) fun a hK => ?_
        refine sl hK (by decide) rfl rfl (r_conv Try.underlying77 Try.underlying3 hK rfl) fun a hK => ?_
        refine sl hK (by decide) rfl rfl (r_assign hK rfl) fun a hK => ?_
        refine wpList_nil ?_
        refine wp_seq ?_
        refine wp_region_lit ?_
        refine sl hK (by decide) rfl rfl (r_move hK rfl) fun a hK => ?_
        refine sl hK (by decide) rfl rfl (r_move hK rfl) fun a hK => ?_
        refine sl hK (by decide) rfl rfl (r_ibin hK rfl rfl rfl) fun a hK => ?_
        refine sl hK (by decide) rfl rfl (r_assign hK rfl) fun a hK => ?_
        refine wpList_nil ?_
        refine wp_seq ?_
        refine wp_region_lit ?_
        refine sl hK (by decide) rfl rfl (r_assign hK rfl) fun a hK => ?_
        refine sl hK (by decide) rfl rfl (r_assign hK rfl) fun a hK => ?_
        refine wpList_nil ?_
        refine wp_seq ?_
        refine wp_seq ?_
        refine wp_region_lit ?_
        refine sl hK (by decide) rfl rfl (r_move hK rfl) fun a hK => ?_
        refine sl hK (by decide) rfl rfl (r_move hK rfl) fun a hK => ?_
        refine sl hK (by decide) rfl rfl (r_ibin hK rfl rfl rfl) fun a hK => ?_
        refine wpList_nil ?_
        refine wp_mid (fun a w => ∃ (x_1030 : Int) (x_1031 : Int), slices_symMergeCmpFunc_api_Value_f_rowops_Top_1p.j6 a0 a1 a2 a3 a4_0 kr_62 x_1030 x_1031 = some r ∧ Kn 220 a [(0, v0_0), (1, .int .i64 a1), (2, .int .i64 a2), (3, .int .i64 a3), (4, .func (.func 34) #[] #[.pointer (some ⟨b4q0, o4q0, none⟩)]), (18, .int .i64 (IntKind.i64.wrap ((IntKind.u64.wrap (IntKind.i64.wrap (a1 + a3))).fdiv (2 ^ (min (1 : Int).toNat 64))))), (19, .int .i64 (IntKind.i64.wrap ((IntKind.i64.wrap ((IntKind.u64.wrap (IntKind.i64.wrap (a1 + a3))).fdiv (2 ^ (min (1 : Int).toNat 64)))) + a2))), (20, .int .i64 x_1030), (21, .int .i64 x_1031)] ∧ St M w0 w R [.row 44 1 v0_0 a0.length cs0_0]) ?_ ?_
        · refine wp_cond_split (hK.ev rfl) (fun (hb_1033 : (decide (a2 > (IntKind.i64.wrap ((IntKind.u64.wrap (IntKind.i64.wrap (a1 + a3))).fdiv (2 ^ (min (1 : Int).toNat 64)))))) = true) => ?_) (fun (hb_1033 : (decide (a2 > (IntKind.i64.wrap ((IntKind.u64.wrap (IntKind.i64.wrap (a1 + a3))).fdiv (2 ^ (min (1 : Int).toNat 64)))))) = false) => ?_)
          · rw [ifb_t hb_1033] at H
            refine wp_seq ?_
            refine wp_region_lit ?_
            refine sl hK (by decide) rfl rfl (r_move hK rfl) fun a hK => ?_
            refine sl hK (by decide) rfl rfl (r_move hK rfl) fun a hK => ?_
            refine sl hK (by decide) rfl rfl (r_ibin hK rfl rfl rfl) fun a hK => ?_
            refine sl hK (by decide) rfl rfl (r_assign hK rfl) fun a hK => ?_
            refine wpList_nil ?_
            refine wp_region_lit ?_
            refine sl hK (by decide) rfl rfl (r_move hK rfl) fun a hK => ?_
            refine sl hK (by decide) rfl rfl (r_assign hK rfl) fun a hK => ?_
            refine wpList_nil ?_
            exact ⟨(IntKind.i64.wrap ((IntKind.i64.wrap ((IntKind.i64.wrap ((IntKind.u64.wrap (IntKind.i64.wrap (a1 + a3))).fdiv (2 ^ (min (1 : Int).toNat 64)))) + a2)) - a3)), (IntKind.i64.wrap ((IntKind.u64.wrap (IntKind.i64.wrap (a1 + a3))).fdiv (2 ^ (min (1 : Int).toNat 64)))), H, hK.sub (all_cons rfl (all_cons rfl (all_cons rfl (all_cons rfl (all_cons rfl (all_cons rfl (all_cons rfl (all_cons rfl (all_cons rfl (all_nil)))))))))), hS⟩
          · rw [ifb_f hb_1033] at H
            refine wp_seq ?_
            refine wp_region_lit ?_
            refine sl hK (by decide) rfl rfl (r_move hK rfl) fun a hK => ?_
            refine sl hK (by decide) rfl rfl (r_assign hK rfl) fun a hK => ?_
            refine wpList_nil ?_
            refine wp_region_lit ?_
            refine sl hK (by decide) rfl rfl (r_move hK rfl) fun a hK => ?_
            refine sl hK (by decide) rfl rfl (r_assign hK rfl) fun a hK => ?_
            refine wpList_nil ?_
            exact ⟨a1, a2, H, hK.sub (all_cons rfl (all_cons rfl (all_cons rfl (all_cons rfl (all_cons rfl (all_cons rfl (all_cons rfl (all_cons rfl (all_cons rfl (all_nil)))))))))), hS⟩
        · rintro a w ⟨x_1030, x_1031, H, hK, hS⟩
          unfold slices_symMergeCmpFunc_api_Value_f_rowops_Top_1p.j6 at H
          refine wp_seq ?_
          refine wp_region_lit ?_
          refine sl hK (by decide) rfl rfl (r_move hK rfl) fun a hK => ?_
          refine sl hK (by decide) rfl rfl (r_ibin hK rfl rfl rfl) fun a hK => ?_
          refine sl hK (by decide) rfl rfl (r_assign hK rfl) fun a hK => ?_
          refine wpList_nil ?_
          refine wp_seq ?_
          refine wp_block ?_
          refine wp_loop_k (fun k_l7 a w => ∃ (x_1085 : Int) (x_1086 : Int), slices_symMergeCmpFunc_api_Value_f_rowops_Top_1p.l7 a0 a1 a2 a3 a4_0 kr_62 x_1030 x_1031 k_l7 x_1085 x_1086 = some r ∧ Kn 220 a [(0, v0_0), (1, .int .i64 a1), (2, .int .i64 a2), (3, .int .i64 a3), (4, .func (.func 34) #[] #[.pointer (some ⟨b4q0, o4q0, none⟩)]), (18, .int .i64 (IntKind.i64.wrap ((IntKind.u64.wrap (IntKind.i64.wrap (a1 + a3))).fdiv (2 ^ (min (1 : Int).toNat 64))))), (19, .int .i64 (IntKind.i64.wrap ((IntKind.i64.wrap ((IntKind.u64.wrap (IntKind.i64.wrap (a1 + a3))).fdiv (2 ^ (min (1 : Int).toNat 64)))) + a2))), (20, .int .i64 x_1085), (21, .int .i64 x_1086), (22, .int .i64 (IntKind.i64.wrap ((IntKind.i64.wrap ((IntKind.i64.wrap ((IntKind.u64.wrap (IntKind.i64.wrap (a1 + a3))).fdiv (2 ^ (min (1 : Int).toNat 64)))) + a2)) - 1)))] ∧ St M w0 w R [.row 44 1 v0_0 a0.length cs0_0]) ((x_1031 - x_1030).toNat + 1) ?_ ?_
          · exact ⟨x_1030, x_1031, H, hK.sub (all_cons rfl (all_cons rfl (all_cons rfl (all_cons rfl (all_cons rfl (all_cons rfl (all_cons rfl (all_cons rfl (all_cons rfl (all_cons rfl (all_nil))))))))))), hS⟩
          · rintro k_l7 a w ⟨x_1085, x_1086, H, hK, hS⟩
            cases k_l7 with
            | zero => cases H
            | succ k_l7 =>
            rw [slices_symMergeCmpFunc_api_Value_f_rowops_Top_1p.l7.eq_2] at H
            refine wp_seq ?_
            refine wp_seq ?_
            refine wp_region_lit ?_
            refine sl hK (by decide) rfl rfl (r_move hK rfl) fun a hK => ?_
            refine sl hK (by decide) rfl rfl (r_move hK rfl) fun a hK => ?_
            refine sl hK (by decide) rfl rfl (r_ibin hK rfl rfl rfl) fun a hK => ?_
            refine wpList_nil ?_
            refine wp_cond_split (hK.ev rfl) (fun (hb_1138 : (decide (x_1085 < x_1086)) = true) => ?_) (fun (hb_1138 : (decide (x_1085 < x_1086)) = false) => ?_)
            · rw [ifb_t hb_1138] at H
              refine wp_skip ?_
              refine wp_block ?_
              refine wp_seq ?_
              refine wp_region_lit ?_
              refine sl hK (by decide) rfl rfl (r_move hK rfl) fun a hK => ?_
              refine sl hK (by decide) rfl rfl (r_move hK rfl) fun a hK => ?_
              refine sl hK (by decide) rfl rfl (r_ibin hK rfl rfl rfl) fun a hK => ?_
              refine sl hK (by decide) rfl rfl (r_conv Try.underlying3 Try.underlying77 hK rfl) fun a hK => ?_
              refine sl hK (by decide) rfl rfl (r_shr hK rfl rfl (by decide)) fun a hK => ?_
              refine sl hK (by decide) rfl rfl (r_conv Try.underlying77 Try.underlying3 hK rfl) fun a hK => ?_
              refine sl hK (by decide) rfl rfl (r_assign hK rfl) fun a hK => ?_
              refine wpList_nil ?_
              refine wp_seq ?_
              refine parT_region (C := fun w => St M w0 w R [.row 44 1 v0_0 a0.length cs0_0]) 11 [(0, true), (1, true), (2, true), (3, true), (4, true), (5, true), (6, true), (7, true), (8, true), (9, true), (10, true)] mixed (by kernel_rfl) hS (fun w hS => hS) fun w hS => ?_
              refine sp (k := 0) rfl hK (by decide) rfl rfl (fun w hS => r_move hK rfl) fun a hK => ?_
              refine sp (k := 1) rfl hK (by decide) rfl rfl (fun w hS => r_move hK rfl) fun a hK => ?_
              refine sp (k := 2) rfl hK (by decide) rfl rfl (fun w hS => r_move hK rfl) fun a hK => ?_
              refine sp (k := 3) rfl hK (by decide) rfl rfl (fun w hS => r_move hK rfl) fun a hK => ?_
              refine sp (k := 4) rfl hK (by decide) rfl rfl (fun w hS => r_ibin hK rfl rfl rfl) fun a hK => ?_
              obtain ⟨y_1161, h_1162, H⟩ := bind_some H
              obtain ⟨b_1164, c_1165, cs_1166, hv_1163, hr_1167, hc_1168, h_11620, h_11621⟩ := hS.row_ix (.head _) h0_0 rfl rfl h_1162
              obtain ⟨v_1169, rfl, hs_1170⟩ := hr_1167
              refine sp (k := 5) rfl hK (by decide) rfl rfl (fun w hS => r_indexAddr_R Try.underlying23 Try.sizeOf44 hv_1163 h_11620 h_11621 hK rfl rfl) fun a hK => ?_
              refine sp (k := 6) rfl hK (by decide) rfl rfl (fun w hS => r_load Try.isAgg44 hK rfl (by have h_ := hS.row_cell (.head _) hv_1163 (hc_1168 0 _ rfl); simpa [Nat.add_assoc] using h_)) fun a hK => ?_
              refine sp (k := 7) rfl hK (by decide) rfl rfl (fun w hS => r_move hK rfl) fun a hK => ?_
              refine sp (k := 8) rfl hK (by decide) rfl rfl (fun w hS => r_move hK rfl) fun a hK => ?_
              obtain ⟨y_1171, h_1172, H⟩ := bind_some H
              obtain ⟨b_1174, c_1175, cs_1176, hv_1173, hr_1177, hc_1178, h_11720, h_11721⟩ := hS.row_ix (.head _) h0_0 rfl rfl h_1172
              obtain ⟨v_1179, rfl, hs_1180⟩ := hr_1177
              refine sp (k := 9) rfl hK (by decide) rfl rfl (fun w hS => r_indexAddr_R Try.underlying23 Try.sizeOf44 hv_1173 h_11720 h_11721 hK rfl rfl) fun a hK => ?_
              refine sp (k := 10) rfl hK (by decide) rfl rfl (fun w hS => r_load Try.isAgg44 hK rfl (by have h_ := hS.row_cell (.head _) hv_1173 (hc_1178 0 _ rfl); simpa [Nat.add_assoc] using h_)) fun a hK => ?_
              refine thenL_nil ?_
              obtain ⟨y_1181, h_1182, H⟩ := bind_some H
              refine sl_callV Try.call34 hS hK (by decide) rfl rfl rfl (rowops_Top_1_cp.calls y_1161 y_1171 a4_0 (lentOf_sub [] _) (hs_1170.mono hS.rLe0) (hs_1180.mono hS.rLe0) (fun j u hu => Hp.cell_le (hS.raLe0 hRA hRM) (hc4q0 j u hu)) h_1182) fun a w hS hK => ?_
              refine sl hK (by decide) rfl rfl (r_ibin hK rfl rfl rfl) fun a hK => ?_
              refine sl hK (by decide) rfl rfl (r_un hK rfl (u_not _)) fun a hK => ?_
              refine wpList_nil (NoP_nil ?_)
              refine wp_mid (fun a w => ∃ (x_1184 : Int) (x_1185 : Int), slices_symMergeCmpFunc_api_Value_f_rowops_Top_1p.j8 (slices_symMergeCmpFunc_api_Value_f_rowops_Top_1p.l7 a0 a1 a2 a3 a4_0 kr_62 x_1030 x_1031 k_l7) x_1030 x_1031 x_1184 x_1185 = some r ∧ Kn 220 a [(0, v0_0), (1, .int .i64 a1), (2, .int .i64 a2), (3, .int .i64 a3), (4, .func (.func 34) #[] #[.pointer (some ⟨b4q0, o4q0, none⟩)]), (18, .int .i64 (IntKind.i64.wrap ((IntKind.u64.wrap (IntKind.i64.wrap (a1 + a3))).fdiv (2 ^ (min (1 : Int).toNat 64))))), (19, .int .i64 (IntKind.i64.wrap ((IntKind.i64.wrap ((IntKind.u64.wrap (IntKind.i64.wrap (a1 + a3))).fdiv (2 ^ (min (1 : Int).toNat 64)))) + a2))), (20, .int .i64 x_1184), (21, .int .i64 x_1185), (22, .int .i64 (IntKind.i64.wrap ((IntKind.i64.wrap ((IntKind.i64.wrap ((IntKind.u64.wrap (IntKind.i64.wrap (a1 + a3))).fdiv (2 ^ (min (1 : Int).toNat 64)))) + a2)) - 1)))] ∧ St M w0 w R [.row 44 1 v0_0 a0.length cs0_0]) ?_ ?_
              · refine wp_cond_split (hK.ev rfl) (fun (hb_1187 : (!(decide (y_1181 < 0))) = true) => ?_) (fun (hb_1187 : (!(decide (y_1181 < 0))) = false) => ?_)
                · rw [ifb_t hb_1187] at H
                  refine wp_region_lit ?_
                  refine sl hK (by decide) rfl rfl (r_move hK rfl) fun a hK => ?_
                  refine sl hK (by decide) rfl rfl (r_ibin hK rfl rfl rfl) fun a hK => ?_
                  refine sl hK (by decide) rfl rfl (r_assign hK rfl) fun a hK => ?_
                  refine wpList_nil ?_
                  exact ⟨(IntKind.i64.wrap ((IntKind.i64.wrap ((IntKind.u64.wrap (IntKind.i64.wrap (x_1085 + x_1086))).fdiv (2 ^ (min (1 : Int).toNat 64)))) + 1)), x_1086, H, hK.sub (all_cons rfl (all_cons rfl (all_cons rfl (all_cons rfl (all_cons rfl (all_cons rfl (all_cons rfl (all_cons rfl (all_cons rfl (all_cons rfl (all_nil))))))))))), hS⟩
                · rw [ifb_f hb_1187] at H
                  refine wp_region_lit ?_
                  refine sl hK (by decide) rfl rfl (r_move hK rfl) fun a hK => ?_
                  refine sl hK (by decide) rfl rfl (r_assign hK rfl) fun a hK => ?_
                  refine wpList_nil ?_
                  exact ⟨x_1085, (IntKind.i64.wrap ((IntKind.u64.wrap (IntKind.i64.wrap (x_1085 + x_1086))).fdiv (2 ^ (min (1 : Int).toNat 64)))), H, hK.sub (all_cons rfl (all_cons rfl (all_cons rfl (all_cons rfl (all_cons rfl (all_cons rfl (all_cons rfl (all_cons rfl (all_cons rfl (all_cons rfl (all_nil))))))))))), hS⟩
              · rintro a w ⟨x_1184, x_1185, H, hK, hS⟩
                unfold slices_symMergeCmpFunc_api_Value_f_rowops_Top_1p.j8 at H
                exact ⟨_, Nat.lt_succ_self _, x_1184, x_1185, H, hK.sub (all_cons rfl (all_cons rfl (all_cons rfl (all_cons rfl (all_cons rfl (all_cons rfl (all_cons rfl (all_cons rfl (all_cons rfl (all_cons rfl (all_nil))))))))))), hS⟩
            · rw [ifb_f hb_1138] at H
              refine wp_exit ?_
              refine wp_seq ?_
              refine wp_region_lit ?_
              refine sl hK (by decide) rfl rfl (r_move hK rfl) fun a hK => ?_
              refine sl hK (by decide) rfl rfl (r_move hK rfl) fun a hK => ?_
              refine sl hK (by decide) rfl rfl (r_ibin hK rfl rfl rfl) fun a hK => ?_
              refine sl hK (by decide) rfl rfl (r_assign hK rfl) fun a hK => ?_
              refine wpList_nil ?_
              refine wp_seq ?_
              refine wp_seq ?_
              refine wp_mid (fun a w => ∃ (x_1189 : Bool), slices_symMergeCmpFunc_api_Value_f_rowops_Top_1p.j9 a0 a1 a2 a3 a4_0 kr_62 x_1085 x_1189 = some r ∧ Kn 220 a [(0, v0_0), (1, .int .i64 a1), (2, .int .i64 a2), (3, .int .i64 a3), (4, .func (.func 34) #[] #[.pointer (some ⟨b4q0, o4q0, none⟩)]), (18, .int .i64 (IntKind.i64.wrap ((IntKind.u64.wrap (IntKind.i64.wrap (a1 + a3))).fdiv (2 ^ (min (1 : Int).toNat 64))))), (20, .int .i64 x_1085), (24, .int .i64 (IntKind.i64.wrap ((IntKind.i64.wrap ((IntKind.i64.wrap ((IntKind.u64.wrap (IntKind.i64.wrap (a1 + a3))).fdiv (2 ^ (min (1 : Int).toNat 64)))) + a2)) - x_1085))), (185, .bool x_1189)] ∧ St M w0 w R [.row 44 1 v0_0 a0.length cs0_0]) ?_ ?_
              · refine wp_region_lit ?_
                refine sl hK (by decide) rfl rfl (r_move hK rfl) fun a hK => ?_
                refine sl hK (by decide) rfl rfl (r_move hK rfl) fun a hK => ?_
                refine sl hK (by decide) rfl rfl (r_ibin hK rfl rfl rfl) fun a hK => ?_
                refine sl hK (by decide) rfl rfl (r_move hK rfl) fun a hK => ?_
                rcases or_b (decide (x_1085 < a2)) with hb_1191 | hb_1191
                · rw [ifb_t hb_1191] at H
                  refine sl hK (by decide) (wtt hb_1191) rfl (r_move hK rfl) fun a hK => ?_
                  refine sl hK (by decide) (wtt hb_1191) rfl (r_move hK rfl) fun a hK => ?_
                  refine sl hK (by decide) (wtt hb_1191) rfl (r_ibin hK rfl rfl rfl) fun a hK => ?_
                  refine sl hK (by decide) rfl rfl (r_pick_t hb_1191 hK rfl rfl) fun a hK => ?_
                  refine wpList_nil ?_
                  exact ⟨(decide (a2 < (IntKind.i64.wrap ((IntKind.i64.wrap ((IntKind.i64.wrap ((IntKind.u64.wrap (IntKind.i64.wrap (a1 + a3))).fdiv (2 ^ (min (1 : Int).toNat 64)))) + a2)) - x_1085)))), H, hK.sub (all_cons rfl (all_cons rfl (all_cons rfl (all_cons rfl (all_cons rfl (all_cons rfl (all_cons rfl (all_cons rfl (all_cons rfl (all_nil)))))))))), hS⟩
                · rw [ifb_f hb_1191] at H
                  refine sl_skip hK (by decide) (wtf hb_1191) rfl fun a hK => ?_
                  refine sl_skip hK (by decide) (wtf hb_1191) rfl fun a hK => ?_
                  refine sl_skip hK (by decide) (wtf hb_1191) rfl fun a hK => ?_
                  refine sl hK (by decide) rfl rfl (r_pick_f hb_1191 hK rfl rfl) fun a hK => ?_
                  refine wpList_nil ?_
                  exact ⟨false, H, hK.sub (all_cons rfl (all_cons rfl (all_cons rfl (all_cons rfl (all_cons rfl (all_cons rfl (all_cons rfl (all_cons rfl (all_cons rfl (all_nil)))))))))), hS⟩
              · rintro a w ⟨x_1189, H, hK, hS⟩
                unfold slices_symMergeCmpFunc_api_Value_f_rowops_Top_1p.j9 at H
                refine wp_mid (fun a w => ∃ (x_1201 : List (List api_Value)) (R_1205 : Hp) (cs_1203 : List Value), slices_symMergeCmpFunc_api_Value_f_rowops_Top_1p.j10 a1 a2 a3 a4_0 kr_62 x_1085 x_1201 = some r ∧ RLe M w0 R R_1205 ∧ Reps (tySl ty_api_Value) R_1205 cs_1203 x_1201 ∧ Kn 220 a [(0, v0_0), (1, .int .i64 a1), (3, .int .i64 a3), (4, .func (.func 34) #[] #[.pointer (some ⟨b4q0, o4q0, none⟩)]), (18, .int .i64 (IntKind.i64.wrap ((IntKind.u64.wrap (IntKind.i64.wrap (a1 + a3))).fdiv (2 ^ (min (1 : Int).toNat 64))))), (20, .int .i64 x_1085), (24, .int .i64 (IntKind.i64.wrap ((IntKind.i64.wrap ((IntKind.i64.wrap ((IntKind.u64.wrap (IntKind.i64.wrap (a1 + a3))).fdiv (2 ^ (min (1 : Int).toNat 64)))) + a2)) - x_1085)))] ∧ St M w0 w R_1205 [.row 44 1 v0_0 x_1201.length cs_1203]) ?_ ?_
                · refine wp_cond_split (hK.ev rfl) (fun (hb_1207 : x_1189 = true) => ?_) (fun (hb_1207 : x_1189 = false) => ?_)
                  · rw [ifb_t hb_1207] at H
                    refine wp_region_lit ?_
                    refine sl hK (by decide) rfl rfl (r_move hK rfl) fun a hK => ?_
                    refine sl hK (by decide) rfl rfl (r_move hK rfl) fun a hK => ?_
                    refine sl hK (by decide) rfl rfl (r_move hK rfl) fun a hK => ?_
                    refine sl hK (by decide) rfl rfl (r_move hK rfl) fun a hK => ?_
                    refine sl hK (by decide) rfl rfl (r_move hK rfl) fun a hK => ?_
                    obtain ⟨y_1208, h_1209, H⟩ := bind_some H
                    have hS1 := hS.sp1
                    refine sl_call Try.call82 hK (by decide) rfl rfl rfl (slices_rotateCmpFunc_api_Value_f_rowops_Top_1p.calls a0 x_1085 a2 (IntKind.i64.wrap ((IntKind.i64.wrap ((IntKind.i64.wrap ((IntKind.u64.wrap (IntKind.i64.wrap (a1 + a3))).fdiv (2 ^ (min (1 : Int).toNat 64)))) + a2)) - x_1085)) a4_0 (lentOf_sub _ _) lentOf_not hS1.lend h0_0 (fun j u hu => Hp.cell_le (hS1.raLe hRA hRM) (hc4q0 j u hu)) h_1209) fun a v_ w hv_ hK => ?_
                    obtain ⟨R_1210, cs_1213, hv_, hr_, hl_1211, hq_1214⟩ := hv_
                    have hv_ := hv_.symm
                    subst hv_
                    obtain ⟨hS, hl_1211⟩ := hS1.back hr_ hl_1211
                    have hS := hS.un1
                    have hRL := hRL.trans hl_1211
                    refine wpList_nil ?_
                    exact ⟨y_1208, _, _, H, hl_1211, hq_1214, hK.sub (all_cons rfl (all_cons rfl (all_cons rfl (all_cons rfl (all_cons rfl (all_cons rfl (all_cons rfl (all_nil)))))))), hS⟩
                  · rw [ifb_f hb_1207] at H
                    refine wp_skip ?_
                    exact ⟨a0, _, _, H, (RLe.refl _ _), h0_0, hK.sub (all_cons rfl (all_cons rfl (all_cons rfl (all_cons rfl (all_cons rfl (all_cons rfl (all_cons rfl (all_nil)))))))), hS⟩
                · rintro a w ⟨x_1201, R_1205, cs_1203, H, hl_1206, hq_1204, hK, hS⟩
                  unfold slices_symMergeCmpFunc_api_Value_f_rowops_Top_1p.j10 at H
                  have hRL := hRL.trans hl_1206
                  refine wp_seq ?_
                  refine wp_seq ?_
                  refine wp_mid (fun a w => ∃ (x_1216 : Bool), slices_symMergeCmpFunc_api_Value_f_rowops_Top_1p.j11 a1 a2 a3 a4_0 kr_62 x_1085 x_1201 x_1216 = some r ∧ Kn 220 a [(0, v0_0), (1, .int .i64 a1), (3, .int .i64 a3), (4, .func (.func 34) #[] #[.pointer (some ⟨b4q0, o4q0, none⟩)]), (18, .int .i64 (IntKind.i64.wrap ((IntKind.u64.wrap (IntKind.i64.wrap (a1 + a3))).fdiv (2 ^ (min (1 : Int).toNat 64))))), (20, .int .i64 x_1085), (24, .int .i64 (IntKind.i64.wrap ((IntKind.i64.wrap ((IntKind.i64.wrap ((IntKind.u64.wrap (IntKind.i64.wrap (a1 + a3))).fdiv (2 ^ (min (1 : Int).toNat 64)))) + a2)) - x_1085))), (199, .bool x_1216)] ∧ St M w0 w R_1205 [.row 44 1 v0_0 x_1201.length cs_1203]) ?_ ?_
                  · refine wp_region_lit ?_
                    refine sl hK (by decide) rfl rfl (r_move hK rfl) fun a hK => ?_
                    refine sl hK (by decide) rfl rfl (r_move hK rfl) fun a hK => ?_
                    refine sl hK (by decide) rfl rfl (r_ibin hK rfl rfl rfl) fun a hK => ?_
                    refine sl hK (by decide) rfl rfl (r_move hK rfl) fun a hK => ?_
                    rcases or_b (decide (a1 < x_1085)) with hb_1218 | hb_1218
                    · rw [ifb_t hb_1218] at H
                      refine sl hK (by decide) (wtt hb_1218) rfl (r_move hK rfl) fun a hK => ?_
                      refine sl hK (by decide) (wtt hb_1218) rfl (r_move hK rfl) fun a hK => ?_
                      refine sl hK (by decide) (wtt hb_1218) rfl (r_ibin hK rfl rfl rfl) fun a hK => ?_
                      refine sl hK (by decide) rfl rfl (r_pick_t hb_1218 hK rfl rfl) fun a hK => ?_
                      refine wpList_nil ?_
                      exact ⟨(decide (x_1085 < (IntKind.i64.wrap ((IntKind.u64.wrap (IntKind.i64.wrap (a1 + a3))).fdiv (2 ^ (min (1 : Int).toNat 64)))))), H, hK.sub (all_cons rfl (all_cons rfl (all_cons rfl (all_cons rfl (all_cons rfl (all_cons rfl (all_cons rfl (all_cons rfl (all_nil))))))))), hS⟩
                    · rw [ifb_f hb_1218] at H
                      refine sl_skip hK (by decide) (wtf hb_1218) rfl fun a hK => ?_
                      refine sl_skip hK (by decide) (wtf hb_1218) rfl fun a hK => ?_
                      refine sl_skip hK (by decide) (wtf hb_1218) rfl fun a hK => ?_
                      refine sl hK (by decide) rfl rfl (r_pick_f hb_1218 hK rfl rfl) fun a hK => ?_
                      refine wpList_nil ?_
                      exact ⟨false, H, hK.sub (all_cons rfl (all_cons rfl (all_cons rfl (all_cons rfl (all_cons rfl (all_cons rfl (all_cons rfl (all_cons rfl (all_nil))))))))), hS⟩
                  · rintro a w ⟨x_1216, H, hK, hS⟩
                    unfold slices_symMergeCmpFunc_api_Value_f_rowops_Top_1p.j11 at H
                    refine wp_mid (fun a w => ∃ (x_1228 : List (List api_Value)) (R_1232 : Hp) (cs_1230 : List Value), slices_symMergeCmpFunc_api_Value_f_rowops_Top_1p.j12 a1 a2 a3 a4_0 kr_62 x_1085 x_1228 = some r ∧ RLe M w0 R_1205 R_1232 ∧ Reps (tySl ty_api_Value) R_1232 cs_1230 x_1228 ∧ Kn 220 a [(0, v0_0), (3, .int .i64 a3), (4, .func (.func 34) #[] #[.pointer (some ⟨b4q0, o4q0, none⟩)]), (18, .int .i64 (IntKind.i64.wrap ((IntKind.u64.wrap (IntKind.i64.wrap (a1 + a3))).fdiv (2 ^ (min (1 : Int).toNat 64))))), (24, .int .i64 (IntKind.i64.wrap ((IntKind.i64.wrap ((IntKind.i64.wrap ((IntKind.u64.wrap (IntKind.i64.wrap (a1 + a3))).fdiv (2 ^ (min (1 : Int).toNat 64)))) + a2)) - x_1085)))] ∧ St M w0 w R_1232 [.row 44 1 v0_0 x_1228.length cs_1230]) ?_ ?_
                    · refine wp_cond_split (hK.ev rfl) (fun (hb_1234 : x_1216 = true) => ?_) (fun (hb_1234 : x_1216 = false) => ?_)
                      · rw [ifb_t hb_1234] at H
                        refine wp_region_lit ?_
                        refine sl hK (by decide) rfl rfl (r_move hK rfl) fun a hK => ?_
                        refine sl hK (by decide) rfl rfl (r_move hK rfl) fun a hK => ?_
                        refine sl hK (by decide) rfl rfl (r_move hK rfl) fun a hK => ?_
                        refine sl hK (by decide) rfl rfl (r_move hK rfl) fun a hK => ?_
                        refine sl hK (by decide) rfl rfl (r_move hK rfl) fun a hK => ?_
                        obtain ⟨y_1235, h_1236, H⟩ := bind_some H
                        have hS1 := hS.sp1
                        refine sl_call Try.call62 hK (by decide) rfl rfl rfl (ih_62 x_1201 a1 x_1085 (IntKind.i64.wrap ((IntKind.u64.wrap (IntKind.i64.wrap (a1 + a3))).fdiv (2 ^ (min (1 : Int).toNat 64)))) a4_0 (lentOf_sub _ _) lentOf_not hS1.lend hq_1204 (fun j u hu => Hp.cell_le (hS1.raLe hRA hRM) (hc4q0 j u hu)) h_1236) fun a v_ w hv_ hK => ?_
                        obtain ⟨R_1237, cs_1240, hv_, hr_, hl_1238, hq_1241⟩ := hv_
                        have hv_ := hv_.symm
                        subst hv_
                        obtain ⟨hS, hl_1238⟩ := hS1.back hr_ hl_1238
                        have hS := hS.un1
                        have hRL := hRL.trans hl_1238
                        refine wpList_nil ?_
                        exact ⟨y_1235, _, _, H, hl_1238, hq_1241, hK.sub (all_cons rfl (all_cons rfl (all_cons rfl (all_cons rfl (all_cons rfl (all_nil)))))), hS⟩
                      · rw [ifb_f hb_1234] at H
                        refine wp_skip ?_
                        exact ⟨x_1201, _, _, H, (RLe.refl _ _), hq_1204, hK.sub (all_cons rfl (all_cons rfl (all_cons rfl (all_cons rfl (all_cons rfl (all_nil)))))), hS⟩
                    · rintro a w ⟨x_1228, R_1232, cs_1230, H, hl_1233, hq_1231, hK, hS⟩
                      unfold slices_symMergeCmpFunc_api_Value_f_rowops_Top_1p.j12 at H
                      have hRL := hRL.trans hl_1233
                      refine wp_seq ?_
                      refine wp_mid (fun a w => ∃ (x_1243 : Bool), slices_symMergeCmpFunc_api_Value_f_rowops_Top_1p.j13 a1 a2 a3 a4_0 kr_62 x_1085 x_1228 x_1243 = some r ∧ Kn 220 a [(0, v0_0), (3, .int .i64 a3), (4, .func (.func 34) #[] #[.pointer (some ⟨b4q0, o4q0, none⟩)]), (18, .int .i64 (IntKind.i64.wrap ((IntKind.u64.wrap (IntKind.i64.wrap (a1 + a3))).fdiv (2 ^ (min (1 : Int).toNat 64))))), (24, .int .i64 (IntKind.i64.wrap ((IntKind.i64.wrap ((IntKind.i64.wrap ((IntKind.u64.wrap (IntKind.i64.wrap (a1 + a3))).fdiv (2 ^ (min (1 : Int).toNat 64)))) + a2)) - x_1085))), (213, .bool x_1243)] ∧ St M w0 w R_1232 [.row 44 1 v0_0 x_1228.length cs_1230]) ?_ ?_
                      · refine wp_region_lit ?_
                        refine sl hK (by decide) rfl rfl (r_move hK rfl) fun a hK => ?_
                        refine sl hK (by decide) rfl rfl (r_move hK rfl) fun a hK => ?_
                        refine sl hK (by decide) rfl rfl (r_ibin hK rfl rfl rfl) fun a hK => ?_
                        refine sl hK (by decide) rfl rfl (r_move hK rfl) fun a hK => ?_
                        rcases or_b (decide ((IntKind.i64.wrap ((IntKind.u64.wrap (IntKind.i64.wrap (a1 + a3))).fdiv (2 ^ (min (1 : Int).toNat 64)))) < (IntKind.i64.wrap ((IntKind.i64.wrap ((IntKind.i64.wrap ((IntKind.u64.wrap (IntKind.i64.wrap (a1 + a3))).fdiv (2 ^ (min (1 : Int).toNat 64)))) + a2)) - x_1085)))) with hb_1245 | hb_1245
                        · rw [ifb_t hb_1245] at H
                          refine sl hK (by decide) (wtt hb_1245) rfl (r_move hK rfl) fun a hK => ?_
                          refine sl hK (by decide) (wtt hb_1245) rfl (r_move hK rfl) fun a hK => ?_
                          refine sl hK (by decide) (wtt hb_1245) rfl (r_ibin hK rfl rfl rfl) fun a hK => ?_
                          refine sl hK (by decide) rfl rfl (r_pick_t hb_1245 hK rfl rfl) fun a hK => ?_
                          refine wpList_nil ?_
                          exact ⟨(decide ((IntKind.i64.wrap ((IntKind.i64.wrap ((IntKind.i64.wrap ((IntKind.u64.wrap (IntKind.i64.wrap (a1 + a3))).fdiv (2 ^ (min (1 : Int).toNat 64)))) + a2)) - x_1085)) < a3)), H, hK.sub (all_cons rfl (all_cons rfl (all_cons rfl (all_cons rfl (all_cons rfl (all_cons rfl (all_nil))))))), hS⟩
                        · rw [ifb_f hb_1245] at H
                          refine sl_skip hK (by decide) (wtf hb_1245) rfl fun a hK => ?_
                          refine sl_skip hK (by decide) (wtf hb_1245) rfl fun a hK => ?_
                          refine sl_skip hK (by decide) (wtf hb_1245) rfl fun a hK => ?_
                          refine sl hK (by decide) rfl rfl (r_pick_f hb_1245 hK rfl rfl) fun a hK => ?_
                          refine wpList_nil ?_
                          exact ⟨false, H, hK.sub (all_cons rfl (all_cons rfl (all_cons rfl (all_cons rfl (all_cons rfl (all_cons rfl (all_nil))))))), hS⟩
                      · rintro a w ⟨x_1243, H, hK, hS⟩
                        unfold slices_symMergeCmpFunc_api_Value_f_rowops_Top_1p.j13 at H
                        refine wp_cond_split (hK.ev rfl) (fun (hb_1246 : x_1243 = true) => ?_) (fun (hb_1246 : x_1243 = false) => ?_)
                        · rw [ifb_t hb_1246] at H
                          refine wp_region_lit ?_
                          refine sl hK (by decide) rfl rfl (r_move hK rfl) fun a hK => ?_
                          refine sl hK (by decide) rfl rfl (r_move hK rfl) fun a hK => ?_
                          refine sl hK (by decide) rfl rfl (r_move hK rfl) fun a hK => ?_
                          refine sl hK (by decide) rfl rfl (r_move hK rfl) fun a hK => ?_
                          refine sl hK (by decide) rfl rfl (r_move hK rfl) fun a hK => ?_
                          obtain ⟨y_1247, h_1248, H⟩ := bind_some H
                          have hS1 := hS.sp1
                          refine sl_call Try.call62 hK (by decide) rfl rfl rfl (ih_62 x_1228 (IntKind.i64.wrap ((IntKind.u64.wrap (IntKind.i64.wrap (a1 + a3))).fdiv (2 ^ (min (1 : Int).toNat 64)))) (IntKind.i64.wrap ((IntKind.i64.wrap ((IntKind.i64.wrap ((IntKind.u64.wrap (IntKind.i64.wrap (a1 + a3))).fdiv (2 ^ (min (1 : Int).toNat 64)))) + a2)) - x_1085)) a3 a4_0 (lentOf_sub _ _) lentOf_not hS1.lend hq_1231 (fun j u hu => Hp.cell_le (hS1.raLe hRA hRM) (hc4q0 j u hu)) h_1248) fun a v_ w hv_ hK => ?_
                          obtain ⟨R_1249, cs_1252, hv_, hr_, hl_1250, hq_1253⟩ := hv_
                          have hv_ := hv_.symm
                          subst hv_
                          obtain ⟨hS, hl_1250⟩ := hS1.back hr_ hl_1250
                          have hS := hS.un1
                          have hRL := hRL.trans hl_1250
                          refine wpList_nil ?_
                          obtain rfl := Option.some.inj H
                          exact ret_0n Try.results62 hK ⟨_, rfl, _, _, rfl, hS, hRL, hq_1253⟩
                        · rw [ifb_f hb_1246] at H
                          refine wp_skip ?_
                          obtain rfl := Option.some.inj H
                          exact ret_0n Try.results62 hK ⟨_, rfl, _, _, rfl, hS, hRL, hq_1231⟩
theorem slices_symMergeCmpFunc_api_Value_f_rowops_Top_1p.calls (a0 : List (List api_Value)) (a1 : Int) (a2 : Int) (a3 : Int) (a4_0 : Int) {w0 : World} {R : Hp} {RA : Hp} {M : List Own} {v0_0 : Value} {cs0_0 : List Value} {b4q0 : Nat} {o4q0 : Nat} (hRA : RA.sub w0) (hRM : ∀ b, blks M b → RA b = none) (hS0 : St M w0 w0 R [.row 44 1 v0_0 a0.length cs0_0]) (h0_0 : Reps (tySl ty_api_Value) R cs0_0 a0) (hc4q0 : ∀ j u, ([.int .i64 a4_0] : List Value)[j]? = some u → RA.cell b4q0 (o4q0 + j) = some u) {r : List (List api_Value)} (H : slices_symMergeCmpFunc_api_Value_f_rowops_Top_1p a0 a1 a2 a3 a4_0 = some r) : Calls Try.prog 62 #[v0_0, .int .i64 a1, .int .i64 a2, .int .i64 a3, .func (.func 34) #[] #[.pointer (some ⟨b4q0, o4q0, none⟩)]] w0 (Rets fun v w' => ∃ (R' : Hp) (cu0 : List Value), v = .tuple #[] ∧ St M w0 w' R' [.row 44 1 v0_0 r.length cu0] ∧ RLe M w0 R R' ∧ Reps (tySl ty_api_Value) R' cu0 r) := slices_symMergeCmpFunc_api_Value_f_rowops_Top_1p.r_calls _ a0 a1 a2 a3 a4_0 hRA hRM hS0 h0_0 hc4q0 H

/-! ### slices.stableCmpFunc[[]catchment/api.Value]: function 49 -/
set_option maxHeartbeats 4000000 in
set_option maxRecDepth 100000 in
theorem slices_stableCmpFunc_api_Value_f_rowops_Top_1p.calls (a0 : List (List api_Value)) (a1 : Int) (a2_0 : Int) {w0 : World} {R : Hp} {RA : Hp} {M : List Own} {v0_0 : Value} {cs0_0 : List Value} {b2q0 : Nat} {o2q0 : Nat} (hRA : RA.sub w0) (hRM : ∀ b, blks M b → RA b = none) (hS0 : St M w0 w0 R [.row 44 1 v0_0 a0.length cs0_0]) (h0_0 : Reps (tySl ty_api_Value) R cs0_0 a0) (hc2q0 : ∀ j u, ([.int .i64 a2_0] : List Value)[j]? = some u → RA.cell b2q0 (o2q0 + j) = some u) {r : List (List api_Value)} (H : slices_stableCmpFunc_api_Value_f_rowops_Top_1p a0 a1 a2_0 = some r) : Calls Try.prog 49 #[v0_0, .int .i64 a1, .func (.func 34) #[] #[.pointer (some ⟨b2q0, o2q0, none⟩)]] w0 (Rets fun v w' => ∃ (R' : Hp) (cu0 : List Value), v = .tuple #[] ∧ St M w0 w' R' [.row 44 1 v0_0 r.length cu0] ∧ RLe M w0 R R' ∧ Reps (tySl ty_api_Value) R' cu0 r) := by
  unfold slices_stableCmpFunc_api_Value_f_rowops_Top_1p at H
  refine enter (args := [v0_0, .int .i64 a1, .func (.func 34) #[] #[.pointer (some ⟨b2q0, o2q0, none⟩)]]) Try.func49 rfl Try.ntmps49 rfl fun a hK => ?_
  have hS := hS0
  have hRL := RLe.refl (M := M) w0 R
  refine wp_seq ?_
  refine wp_region_lit ?_
  refine sl hK (by decide) rfl rfl (r_assign hK rfl) fun a hK => ?_
  refine wpList_nil ?_
  refine wp_seq ?_
  refine wp_region_lit ?_
  refine sl hK (by decide) rfl rfl (r_move hK rfl) fun a hK => ?_
  refine sl hK (by decide) rfl rfl (r_assign hK rfl) fun a hK => ?_
  refine sl hK (by decide) rfl rfl (r_assign hK rfl) fun a hK => ?_
  refine wpList_nil ?_
  refine wp_seq ?_
  refine wp_block ?_
  refine wp_loop_k (fun k_l0 a w => ∃ (x_11 : List (List api_Value)) (x_15 : Int) (x_16 : Int) (R_17 : Hp) (cs_13 : List Value), slices_stableCmpFunc_api_Value_f_rowops_Top_1p.l0 a1 a2_0 k_l0 x_11 x_15 x_16 = some r ∧ RLe M w0 R R_17 ∧ Reps (tySl ty_api_Value) R_17 cs_13 x_11 ∧ Kn 63 a [(0, v0_0), (1, .int .i64 a1), (2, .func (.func 34) #[] #[.pointer (some ⟨b2q0, o2q0, none⟩)]), (6, .int .i64 20), (7, .int .i64 x_15), (8, .int .i64 x_16)] ∧ St M w0 w R_17 [.row 44 1 v0_0 x_11.length cs_13]) ((a1 - 20).toNat + 2) ?_ ?_
  · exact ⟨a0, 0, 20, _, _, H, (RLe.refl _ _), h0_0, hK.sub (all_cons rfl (all_cons rfl (all_cons rfl (all_cons rfl (all_cons rfl (all_cons rfl (all_nil))))))), hS⟩
  · rintro k_l0 a w ⟨x_11, x_15, x_16, R_17, cs_13, H, hl_18, hq_14, hK, hS⟩
    cases k_l0 with
    | zero => cases H
    | succ k_l0 =>
    rw [slices_stableCmpFunc_api_Value_f_rowops_Top_1p.l0.eq_2] at H
    have hRL := hRL.trans hl_18
    refine wp_seq ?_
    refine wp_seq ?_
    refine wp_region_lit ?_
    refine sl hK (by decide) rfl rfl (r_move hK rfl) fun a hK => ?_
    refine sl hK (by decide) rfl rfl (r_move hK rfl) fun a hK => ?_
    refine sl hK (by decide) rfl rfl (r_ibin hK rfl rfl rfl) fun a hK => ?_
    refine wpList_nil ?_
    refine wp_cond_split (hK.ev rfl) (fun (hb_27 : (decide (x_16 ≤ a1)) = true) => ?_) (fun (hb_27 : (decide (x_16 ≤ a1)) = false) => ?_)
    · rw [ifb_t hb_27] at H
      refine wp_skip ?_
      refine wp_block ?_
      refine wp_seq ?_
      refine wp_region_lit ?_
      refine sl hK (by decide) rfl rfl (r_move hK rfl) fun a hK => ?_
      refine sl hK (by decide) rfl rfl (r_move hK rfl) fun a hK => ?_
      refine sl hK (by decide) rfl rfl (r_move hK rfl) fun a hK => ?_
      refine sl hK (by decide) rfl rfl (r_move hK rfl) fun a hK => ?_
      obtain ⟨y_28, h_29, H⟩ := bind_some H
      have hS1 := hS.sp1
      refine sl_call Try.call61 hK (by decide) rfl rfl rfl (slices_insertionSortCmpFunc_api_Value_f_rowops_Top_1p.calls x_11 x_15 x_16 a2_0 (lentOf_sub _ _) lentOf_not hS1.lend hq_14 (fun j u hu => Hp.cell_le (hS1.raLe hRA hRM) (hc2q0 j u hu)) h_29) fun a v_ w hv_ hK => ?_
      obtain ⟨R_30, cs_33, hv_, hr_, hl_31, hq_34⟩ := hv_
      have hv_ := hv_.symm
      subst hv_
      obtain ⟨hS, hl_31⟩ := hS1.back hr_ hl_31
      have hS := hS.un1
      have hRL := hRL.trans hl_31
      refine wpList_nil ?_
      refine wp_seq ?_
      refine wp_region_lit ?_
      refine sl hK (by decide) rfl rfl (r_move hK rfl) fun a hK => ?_
      refine sl hK (by decide) rfl rfl (r_assign hK rfl) fun a hK => ?_
      refine wpList_nil ?_
      refine wp_region_lit ?_
      refine sl hK (by decide) rfl rfl (r_move hK rfl) fun a hK => ?_
      refine sl hK (by decide) rfl rfl (r_move hK rfl) fun a hK => ?_
      refine sl hK (by decide) rfl rfl (r_ibin hK rfl rfl rfl) fun a hK => ?_
      refine sl hK (by decide) rfl rfl (r_assign hK rfl) fun a hK => ?_
      refine wpList_nil ?_
      exact ⟨_, Nat.lt_succ_self _, y_28, x_16, (IntKind.i64.wrap (x_16 + 20)), _, _, H, (hl_18.trans hl_31), hq_34, hK.sub (all_cons rfl (all_cons rfl (all_cons rfl (all_cons rfl (all_cons rfl (all_cons rfl (all_nil))))))), hS⟩
    · rw [ifb_f hb_27] at H
      refine wp_exit ?_
      refine wp_seq ?_
      refine wp_region_lit ?_
      refine sl hK (by decide) rfl rfl (r_move hK rfl) fun a hK => ?_
      refine sl hK (by decide) rfl rfl (r_move hK rfl) fun a hK => ?_
      refine sl hK (by decide) rfl rfl (r_move hK rfl) fun a hK => ?_
      refine sl hK (by decide) rfl rfl (r_move hK rfl) fun a hK => ?_
      obtain ⟨y_35, h_36, H⟩ := bind_some H
      have hS1 := hS.sp1
      refine sl_call Try.call61 hK (by decide) rfl rfl rfl (slices_insertionSortCmpFunc_api_Value_f_rowops_Top_1p.calls x_11 x_15 a1 a2_0 (lentOf_sub _ _) lentOf_not hS1.lend hq_14 (fun j u hu => Hp.cell_le (hS1.raLe hRA hRM) (hc2q0 j u hu)) h_36) fun a v_ w hv_ hK => ?_
      obtain ⟨R_37, cs_40, hv_, hr_, hl_38, hq_41⟩ := hv_
      have hv_ := hv_.symm
      subst hv_
      obtain ⟨hS, hl_38⟩ := hS1.back hr_ hl_38
      have hS := hS.un1
      have hRL := hRL.trans hl_38
      refine wpList_nil ?_
      refine wp_block ?_
      refine wp_loop_k (fun k_l1 a w => ∃ (x_102 : List (List api_Value)) (x_106 : Int) (R_107 : Hp) (cs_104 : List Value), slices_stableCmpFunc_api_Value_f_rowops_Top_1p.l1 a1 a2_0 k_l1 x_102 x_106 = some r ∧ RLe M w0 R_37 R_107 ∧ Reps (tySl ty_api_Value) R_107 cs_104 x_102 ∧ Kn 63 a [(0, v0_0), (1, .int .i64 a1), (2, .func (.func 34) #[] #[.pointer (some ⟨b2q0, o2q0, none⟩)]), (6, .int .i64 x_106)] ∧ St M w0 w R_107 [.row 44 1 v0_0 x_102.length cs_104]) ((a1 - 20).toNat + 1) ?_ ?_
      · exact ⟨y_35, 20, _, _, H, (RLe.refl _ _), hq_41, hK.sub (all_cons rfl (all_cons rfl (all_cons rfl (all_cons rfl (all_nil))))), hS⟩
      · rintro k_l1 a w ⟨x_102, x_106, R_107, cs_104, H, hl_108, hq_105, hK, hS⟩
        cases k_l1 with
        | zero => cases H
        | succ k_l1 =>
        rw [slices_stableCmpFunc_api_Value_f_rowops_Top_1p.l1.eq_2] at H
        have hRL := hRL.trans hl_108
        refine wp_seq ?_
        refine wp_seq ?_
        refine wp_region_lit ?_
        refine sl hK (by decide) rfl rfl (r_move hK rfl) fun a hK => ?_
        refine sl hK (by decide) rfl rfl (r_move hK rfl) fun a hK => ?_
        refine sl hK (by decide) rfl rfl (r_ibin hK rfl rfl rfl) fun a hK => ?_
        refine wpList_nil ?_
        refine wp_cond_split (hK.ev rfl) (fun (hb_167 : (decide (x_106 < a1)) = true) => ?_) (fun (hb_167 : (decide (x_106 < a1)) = false) => ?_)
        · rw [ifb_t hb_167] at H
          refine wp_skip ?_
          refine wp_block ?_
          refine wp_seq ?_
          refine wp_region_lit ?_
          refine sl hK (by decide) rfl rfl (r_move hK rfl) fun a hK => ?_
          refine sl hK (by decide) rfl rfl (r_ibin hK rfl rfl rfl) fun a hK => ?_
          refine sl hK (by decide) rfl rfl (r_assign hK rfl) fun a hK => ?_
          refine sl hK (by decide) rfl rfl (r_assign hK rfl) fun a hK => ?_
          refine wpList_nil ?_
          refine wp_seq ?_
          refine wp_block ?_
          refine wp_loop_k (fun k_l2 a w => ∃ (x_178 : List (List api_Value)) (x_182 : Int) (x_183 : Int) (R_184 : Hp) (cs_180 : List Value), slices_stableCmpFunc_api_Value_f_rowops_Top_1p.l2 (slices_stableCmpFunc_api_Value_f_rowops_Top_1p.l1 a1 a2_0 k_l1) a1 a2_0 x_106 k_l2 x_178 x_182 x_183 = some r ∧ RLe M w0 R_107 R_184 ∧ Reps (tySl ty_api_Value) R_184 cs_180 x_178 ∧ Kn 63 a [(0, v0_0), (1, .int .i64 a1), (2, .func (.func 34) #[] #[.pointer (some ⟨b2q0, o2q0, none⟩)]), (6, .int .i64 x_106), (7, .int .i64 x_182), (8, .int .i64 x_183)] ∧ St M w0 w R_184 [.row 44 1 v0_0 x_178.length cs_180]) ((a1 - (IntKind.i64.wrap (2 * x_106))).toNat + 2) ?_ ?_
          · exact ⟨x_102, 0, (IntKind.i64.wrap (2 * x_106)), _, _, H, (RLe.refl _ _), hq_105, hK.sub (all_cons rfl (all_cons rfl (all_cons rfl (all_cons rfl (all_cons rfl (all_cons rfl (all_nil))))))), hS⟩
          · rintro k_l2 a w ⟨x_178, x_182, x_183, R_184, cs_180, H, hl_185, hq_181, hK, hS⟩
            cases k_l2 with
            | zero => cases H
            | succ k_l2 =>
            rw [slices_stableCmpFunc_api_Value_f_rowops_Top_1p.l2.eq_2] at H
            have hRL := hRL.trans hl_185
            refine wp_seq ?_
            refine wp_seq ?_
            refine wp_region_lit ?_
            refine sl hK (by decide) rfl rfl (r_move hK rfl) fun a hK => ?_
            refine sl hK (by decide) rfl rfl (r_move hK rfl) fun a hK => ?_
            refine sl hK (by decide) rfl rfl (r_ibin hK rfl rfl rfl) fun a hK => ?_
            refine wpList_nil ?_
            refine wp_cond_split (hK.ev rfl) (fun (hb_194 : (decide (x_183 ≤ a1)) = true) => ?_) (fun (hb_194 : (decide (x_183 ≤ a1)) = false) => ?_)
            · rw [ifb_t hb_194] at H
              refine wp_skip ?_
              refine wp_block ?_
              refine wp_seq ?_
              refine wp_region_lit ?_
              refine sl hK (by decide) rfl rfl (r_move hK rfl) fun a hK => ?_
              refine sl hK (by decide) rfl rfl (r_move hK rfl) fun a hK => ?_
              refine sl hK (by decide) rfl rfl (r_move hK rfl) fun a hK => ?_
              refine sl hK (by decide) rfl rfl (r_move hK rfl) fun a hK => ?_
              refine sl hK (by decide) rfl rfl (r_ibin hK rfl rfl rfl) fun a hK => ?_
              refine sl hK (by decide) rfl rfl (r_move hK rfl) fun a hK => ?_
              refine sl hK (by decide) rfl rfl (r_move hK rfl) fun a hK => ?_
              obtain ⟨y_195, h_196, H⟩ := bind_some H
              have hS1 := hS.sp1
              refine sl_call Try.call62 hK (by decide) rfl rfl rfl (slices_symMergeCmpFunc_api_Value_f_rowops_Top_1p.calls x_178 x_182 (IntKind.i64.wrap (x_182 + x_106)) x_183 a2_0 (lentOf_sub _ _) lentOf_not hS1.lend hq_181 (fun j u hu => Hp.cell_le (hS1.raLe hRA hRM) (hc2q0 j u hu)) h_196) fun a v_ w hv_ hK => ?_
              obtain ⟨R_197, cs_200, hv_, hr_, hl_198, hq_201⟩ := hv_
              have hv_ := hv_.symm
              subst hv_
              obtain ⟨hS, hl_198⟩ := hS1.back hr_ hl_198
              have hS := hS.un1
              have hRL := hRL.trans hl_198
              refine wpList_nil ?_
              refine wp_seq ?_
              refine wp_region_lit ?_
              refine sl hK (by decide) rfl rfl (r_move hK rfl) fun a hK => ?_
              refine sl hK (by decide) rfl rfl (r_assign hK rfl) fun a hK => ?_
              refine wpList_nil ?_
              refine wp_region_lit ?_
              refine sl hK (by decide) rfl rfl (r_move hK rfl) fun a hK => ?_
              refine sl hK (by decide) rfl rfl (r_move hK rfl) fun a hK => ?_
              refine sl hK (by decide) rfl rfl (r_ibin hK rfl rfl rfl) fun a hK => ?_
              refine sl hK (by decide) rfl rfl (r_ibin hK rfl rfl rfl) fun a hK => ?_
              refine sl hK (by decide) rfl rfl (r_assign hK rfl) fun a hK => ?_
              refine wpList_nil ?_
              exact ⟨_, Nat.lt_succ_self _, y_195, x_183, (IntKind.i64.wrap (x_183 + (IntKind.i64.wrap (2 * x_106)))), _, _, H, (hl_185.trans hl_198), hq_201, hK.sub (all_cons rfl (all_cons rfl (all_cons rfl (all_cons rfl (all_cons rfl (all_cons rfl (all_nil))))))), hS⟩
            · rw [ifb_f hb_194] at H
              refine wp_exit ?_
              refine wp_seq ?_
              refine wp_seq ?_
              refine wp_region_lit ?_
              refine sl hK (by decide) rfl rfl (r_move hK rfl) fun a hK => ?_
              refine sl hK (by decide) rfl rfl (r_move hK rfl) fun a hK => ?_
              refine sl hK (by decide) rfl rfl (r_ibin hK rfl rfl rfl) fun a hK => ?_
              refine sl hK (by decide) rfl rfl (r_assign hK rfl) fun a hK => ?_
              refine wpList_nil ?_
              refine wp_seq ?_
              refine wp_region_lit ?_
              refine sl hK (by decide) rfl rfl (r_move hK rfl) fun a hK => ?_
              refine sl hK (by decide) rfl rfl (r_move hK rfl) fun a hK => ?_
              refine sl hK (by decide) rfl rfl (r_ibin hK rfl rfl rfl) fun a hK => ?_
              refine wpList_nil ?_
              refine wp_mid (fun a w => ∃ (x_211 : List (List api_Value)) (R_215 : Hp) (cs_213 : List Value), slices_stableCmpFunc_api_Value_f_rowops_Top_1p.j3 (slices_stableCmpFunc_api_Value_f_rowops_Top_1p.l1 a1 a2_0 k_l1) a1 x_106 x_211 = some r ∧ RLe M w0 R_184 R_215 ∧ Reps (tySl ty_api_Value) R_215 cs_213 x_211 ∧ Kn 63 a [(0, v0_0), (1, .int .i64 a1), (2, .func (.func 34) #[] #[.pointer (some ⟨b2q0, o2q0, none⟩)]), (6, .int .i64 x_106)] ∧ St M w0 w R_215 [.row 44 1 v0_0 x_211.length cs_213]) ?_ ?_
              · refine wp_cond_split (hK.ev rfl) (fun (hb_217 : (decide ((IntKind.i64.wrap (x_182 + x_106)) < a1)) = true) => ?_) (fun (hb_217 : (decide ((IntKind.i64.wrap (x_182 + x_106)) < a1)) = false) => ?_)
                · rw [ifb_t hb_217] at H
                  refine wp_region_lit ?_
                  refine sl hK (by decide) rfl rfl (r_move hK rfl) fun a hK => ?_
                  refine sl hK (by decide) rfl rfl (r_move hK rfl) fun a hK => ?_
                  refine sl hK (by decide) rfl rfl (r_move hK rfl) fun a hK => ?_
                  refine sl hK (by decide) rfl rfl (r_move hK rfl) fun a hK => ?_
                  refine sl hK (by decide) rfl rfl (r_move hK rfl) fun a hK => ?_
                  obtain ⟨y_218, h_219, H⟩ := bind_some H
                  have hS1 := hS.sp1
                  refine sl_call Try.call62 hK (by decide) rfl rfl rfl (slices_symMergeCmpFunc_api_Value_f_rowops_Top_1p.calls x_178 x_182 (IntKind.i64.wrap (x_182 + x_106)) a1 a2_0 (lentOf_sub _ _) lentOf_not hS1.lend hq_181 (fun j u hu => Hp.cell_le (hS1.raLe hRA hRM) (hc2q0 j u hu)) h_219) fun a v_ w hv_ hK => ?_
                  obtain ⟨R_220, cs_223, hv_, hr_, hl_221, hq_224⟩ := hv_
                  have hv_ := hv_.symm
                  subst hv_
                  obtain ⟨hS, hl_221⟩ := hS1.back hr_ hl_221
                  have hS := hS.un1
                  have hRL := hRL.trans hl_221
                  refine wpList_nil ?_
                  exact ⟨y_218, _, _, H, hl_221, hq_224, hK.sub (all_cons rfl (all_cons rfl (all_cons rfl (all_cons rfl (all_nil))))), hS⟩
                · rw [ifb_f hb_217] at H
                  refine wp_skip ?_
                  exact ⟨x_178, _, _, H, (RLe.refl _ _), hq_181, hK.sub (all_cons rfl (all_cons rfl (all_cons rfl (all_cons rfl (all_nil))))), hS⟩
              · rintro a w ⟨x_211, R_215, cs_213, H, hl_216, hq_214, hK, hS⟩
                unfold slices_stableCmpFunc_api_Value_f_rowops_Top_1p.j3 at H
                have hRL := hRL.trans hl_216
                refine wp_region_lit ?_
                refine sl hK (by decide) rfl rfl (r_move hK rfl) fun a hK => ?_
                refine sl hK (by decide) rfl rfl (r_ibin hK rfl rfl rfl) fun a hK => ?_
                refine sl hK (by decide) rfl rfl (r_assign hK rfl) fun a hK => ?_
                refine wpList_nil ?_
                exact ⟨_, Nat.lt_succ_self _, x_211, (IntKind.i64.wrap (x_106 * 2)), _, _, H, (hl_108.trans (hl_185.trans hl_216)), hq_214, hK.sub (all_cons rfl (all_cons rfl (all_cons rfl (all_cons rfl (all_nil))))), hS⟩
        · rw [ifb_f hb_167] at H
          refine wp_exit ?_
          obtain rfl := Option.some.inj H
          exact ret_0n Try.results49 hK ⟨_, rfl, _, _, rfl, hS, hRL, hq_105⟩

/-! ### slices.SortStableFunc[[][]catchment/api.Value,[]catchment/api.Value]: function 33 -/
set_option maxHeartbeats 4000000 in
set_option maxRecDepth 100000 in
theorem slices_SortStableFunc_api_Value_api_Value_f_rowops_Top_1p.calls (a0 : List (List api_Value)) (a1_0 : Int) {w0 : World} {R : Hp} {RA : Hp} {M : List Own} {v0_0 : Value} {cs0_0 : List Value} {b1q0 : Nat} {o1q0 : Nat} (hRA : RA.sub w0) (hRM : ∀ b, blks M b → RA b = none) (hS0 : St M w0 w0 R [.row 44 1 v0_0 a0.length cs0_0]) (h0_0 : Reps (tySl ty_api_Value) R cs0_0 a0) (hc1q0 : ∀ j u, ([.int .i64 a1_0] : List Value)[j]? = some u → RA.cell b1q0 (o1q0 + j) = some u) {r : List (List api_Value)} (H : slices_SortStableFunc_api_Value_api_Value_f_rowops_Top_1p a0 a1_0 = some r) : Calls Try.prog 33 #[v0_0, .func (.func 34) #[] #[.pointer (some ⟨b1q0, o1q0, none⟩)]] w0 (Rets fun v w' => ∃ (R' : Hp) (cu0 : List Value), v = .tuple #[] ∧ St M w0 w' R' [.row 44 1 v0_0 r.length cu0] ∧ RLe M w0 R R' ∧ Reps (tySl ty_api_Value) R' cu0 r) := by
  unfold slices_SortStableFunc_api_Value_api_Value_f_rowops_Top_1p at H
  refine enter (args := [v0_0, .func (.func 34) #[] #[.pointer (some ⟨b1q0, o1q0, none⟩)]]) Try.func33 rfl Try.ntmps33 rfl fun a hK => ?_
  have hS := hS0
  have hRL := RLe.refl (M := M) w0 R
  refine wp_region_lit ?_
  refine sl hK (by decide) rfl rfl (r_move hK rfl) fun a hK => ?_
  refine sl hK (by decide) rfl rfl (r_move hK rfl) fun a hK => ?_
  refine sl hK (by decide) rfl rfl (r_len_O Try.underlying23 hS (.head _) hK rfl) fun a hK => ?_
  refine sl hK (by decide) rfl rfl (r_move hK rfl) fun a hK => ?_
  obtain ⟨y_1, h_2, H⟩ := bind_some H
  have hS1 := hS.sp1
  refine sl_call Try.call49 hK (by decide) rfl rfl rfl (slices_stableCmpFunc_api_Value_f_rowops_Top_1p.calls a0 (a0.length : Int) a1_0 (lentOf_sub _ _) lentOf_not hS1.lend h0_0 (fun j u hu => Hp.cell_le (hS1.raLe hRA hRM) (hc1q0 j u hu)) h_2) fun a v_ w hv_ hK => ?_
  obtain ⟨R_3, cs_6, hv_, hr_, hl_4, hq_7⟩ := hv_
  have hv_ := hv_.symm
  subst hv_
  obtain ⟨hS, hl_4⟩ := hS1.back hr_ hl_4
  have hS := hS.un1
  have hRL := hRL.trans hl_4
  refine wpList_nil ?_
  obtain rfl := Option.some.inj H
  exact ret_0n Try.results33 hK ⟨_, rfl, _, _, rfl, hS, hRL, hq_7⟩

/-! ### catchment/rowops.Top: function 15 -/
set_option maxHeartbeats 4000000 in
set_option maxRecDepth 100000 in
theorem rowops_Top.calls (a0 : api_Table) (a1 : Int) (a2 : ByteArray) {w0 : World} {R : Hp} {RA : Hp} {v0_0 : Value} {v0_1 : Value} (hRA : RA.sub w0) (hR : R.sub w0) (h0_0 : SlR ty_api_Col RA v0_0 a0.Cols) (h0_1 : SlR (tySl ty_api_Value) RA v0_1 a0.Rows) {r : api_Table × Int} (H : rowops_Top a0 a1 a2 = some r) : Calls Try.prog 15 #[.agg #[v0_0, v0_1], .int .i64 a1, .string a2] w0 (Rets fun v w' => ∃ (R' : Hp) (u0 : Value) (cu0 : List Value) (u1 : Value) (cu1 : List Value), v = .tuple #[.agg #[u0, u1], .int .i64 r.2] ∧ St [] w0 w' R' [.row 38 2 u0 r.1.Cols.length cu0, .row 44 1 u1 r.1.Rows.length cu1] ∧ RLe [] w0 R R' ∧ Reps ty_api_Col R' cu0 r.1.Cols ∧ Reps (tySl ty_api_Value) R' cu1 r.1.Rows) := by
  unfold rowops_Top at H
  refine enter (args := [.agg #[v0_0, v0_1], .int .i64 a1, .string a2]) Try.func15 rfl Try.ntmps15 rfl fun a hK => ?_
  have hS := St.init hR
  have hRL := RLe.refl (M := []) w0 R
  refine wp_seq ?_
  refine wp_region_lit ?_
  refine sl_box hS hK (by decide) rfl rfl (c := [v0_0, v0_1]) rfl fun a w b_1 hS hK => ?_
  refine sl_alloc Try.zeroValue25 hS hK (by decide) rfl rfl fun a w b_2 hS hK => ?_
  refine sl hK (by decide) rfl rfl (r_assign hK rfl) fun a hK => ?_
  refine wpList_nil ?_
  refine wp_seq ?_
  refine wp_seq ?_
  refine wp_region_lit ?_
  refine sl hK (by decide) rfl rfl (r_loadA (cs := [v0_0, v0_1]) Try.isAgg25 Try.sizeOf25 rfl hK rfl (hS.cells_of (m := 2) (.tail _ (.head _)) rfl)) fun a hK => ?_
  obtain ⟨y_3, h_4, H⟩ := bind_some H
  refine sl_callV Try.call24 hS hK (by decide) rfl rfl rfl (table_Check.calls a0 (lentOf_sub [] _) (h0_0.mono (hS.raLe0 hRA nil_not)) (h0_1.mono (hS.raLe0 hRA nil_not)) h_4) fun a w hS hK => ?_
  refine sl hK (by decide) rfl rfl (r_assign hK rfl) fun a hK => ?_
  refine wpList_nil ?_
  refine wp_seq ?_
  refine wp_region_lit ?_
  refine sl hK (by decide) rfl rfl (r_move hK rfl) fun a hK => ?_
  refine sl hK (by decide) rfl rfl (r_ibin hK rfl rfl rfl) fun a hK => ?_
  refine wpList_nil ?_
  refine wp_cond_split (hK.ev rfl) (fun (hb_5 : (y_3 != 0) = true) => ?_) (fun (hb_5 : (y_3 != 0) = false) => ?_)
  · rw [ifb_t hb_5] at H
    refine wp_seq ?_
    refine wp_region_lit ?_
    refine sl hK (by decide) rfl rfl (r_buildC (ps := []) (c := [.slice none 0 0, .slice none 0 0]) Try.underlying25 Try.zeroValue25 places25 hK rfl pc_nil rfl rfl) fun a hK => ?_
    refine sl hK (by decide) rfl rfl (r_move hK rfl) fun a hK => ?_
    refine sl_storeA (vs := [.slice none 0 0, .slice none 0 0]) (c' := [.slice none 0 0, .slice none 0 0]) Try.sizeOf25 hS hK rfl rfl rfl rfl (all_cons rfl (all_cons rfl (all_nil))) (Nat.le_of_ble_eq_true rfl) rfl fun a w hS hK => ?_
    refine sl hK (by decide) rfl rfl (r_assign hK rfl) fun a hK => ?_
    refine wpList_nil ?_
    have hS := hS.row_nil 38 2
    have hq_7 : Reps ty_api_Col R [] ([] : List api_Col) := Reps.nil _ _
    have hS := hS.row_nil 44 1
    have hq_9 : Reps (tySl ty_api_Value) R [] ([] : List (List api_Value)) := Reps.nil _ _
    obtain rfl := Option.some.inj H
    refine wp_ret ?_
    repeat (first | refine ret_then ?_ | refine ret_block ?_ | refine ret_scope ?_)
    exact ret_2 Try.results15 hK (rv_cell (c := [(.slice none 0 0), (.slice none 0 0)]) Try.isAgg25 Try.sizeOf25 hS (.tail _ (.tail _ (.head _))) rfl hK rfl) (rv_tmp hK rfl) ⟨_, rfl, _, _, _, _, _, rfl, (hS.pk1.trunc 2), hRL, hq_7, hq_9⟩
  · rw [ifb_f hb_5] at H
    refine wp_skip ?_
    refine wp_seq ?_
    refine wp_region_lit ?_
    refine sl hK (by decide) rfl rfl (r_fieldAddr Try.underlying25 rfl Try.sizeOf22 hK rfl) fun a hK => ?_
    refine sl hK (by decide) rfl rfl (r_load Try.isAgg22 hK rfl (hS.cell (.tail _ (.head _)) rfl)) fun a hK => ?_
    refine sl hK (by decide) rfl rfl (r_move hK rfl) fun a hK => ?_
    obtain ⟨y_10, h_11, H⟩ := bind_some H
    refine sl_callV Try.call32 hS hK (by decide) rfl rfl rfl (table_Find.calls a0.Cols a2 (lentOf_sub [] _) (h0_0.mono (hS.raLe0 hRA nil_not)) h_11) fun a w hS hK => ?_
    refine sl_alloc Try.zeroValue3 hS hK (by decide) rfl rfl fun a w b_12 hS hK => ?_
    refine sl_store1 (c' := [.int .i64 y_10]) Try.sizeOf3 hS hK rfl rfl rfl rfl (Nat.le_of_ble_eq_true rfl) rfl fun a w hS hK => ?_
    refine wpList_nil ?_
    refine wp_seq ?_
    refine wp_seq ?_
    refine wp_mid (fun a w => ∃ (x_25 : Bool), rowops_Top.j0 a0 a1 y_10 x_25 = some r ∧ Kn 58 a [(1, .int .i64 a1), (3, .pointer (some ⟨b_1, 0, none⟩)), (6, .pointer (some ⟨b_2, 0, none⟩)), (9, .pointer (some ⟨b_12, 0, none⟩)), (39, .bool x_25)] ∧ St [] w0 w R [.cells b_1 [v0_0, v0_1] 25, .cells b_2 [.slice none 0 0, .slice none 0 0] 25, .cells b_12 [.int .i64 y_10] 3]) ?_ ?_
    · refine wp_region_lit ?_
      refine sl hK (by decide) rfl rfl (r_move hK rfl) fun a hK => ?_
      refine sl hK (by decide) rfl rfl (r_ibin hK rfl rfl rfl) fun a hK => ?_
      refine sl hK (by decide) rfl rfl (r_move hK rfl) fun a hK => ?_
      rcases or_b (decide (a1 < 1)) with hb_27 | hb_27
      · rw [ifb_t hb_27] at H
        refine sl_skip hK (by decide) (wft hb_27) rfl fun a hK => ?_
        refine sl_skip hK (by decide) (wft hb_27) rfl fun a hK => ?_
        refine sl hK (by decide) rfl rfl (r_pick_t hb_27 hK rfl rfl) fun a hK => ?_
        refine sl hK (by decide) rfl rfl (r_move hK rfl) fun a hK => ?_
        refine sl_skip hK (by decide) rfl rfl fun a hK => ?_
        refine sl_skip hK (by decide) rfl rfl fun a hK => ?_
        refine sl hK (by decide) rfl rfl (r_pick hK rfl rfl rfl) fun a hK => ?_
        refine sl hK (by decide) rfl rfl (r_move hK rfl) fun a hK => ?_
        refine sl_skip hK (by decide) rfl rfl fun a hK => ?_
        refine sl_skip hK (by decide) rfl rfl fun a hK => ?_
        refine sl_skip hK (by decide) rfl rfl fun a hK => ?_
        refine sl_skip hK (by decide) rfl rfl fun a hK => ?_
        refine sl_skip hK (by decide) rfl rfl fun a hK => ?_
        refine sl_skip hK (by decide) rfl rfl fun a hK => ?_
        refine sl_skip hK (by decide) rfl rfl fun a hK => ?_
        refine sl hK (by decide) rfl rfl (r_pick hK rfl rfl rfl) fun a hK => ?_
        refine wpList_nil ?_
        have hS := hS.pk1
        have hS := hS.pk2
        exact ⟨true, H, hK.sub (all_cons rfl (all_cons rfl (all_cons rfl (all_cons rfl (all_cons rfl (all_nil)))))), hS⟩
      · rw [ifb_f hb_27] at H
        refine sl hK (by decide) (wff hb_27) rfl (r_move hK rfl) fun a hK => ?_
        refine sl hK (by decide) (wff hb_27) rfl (r_ibin hK rfl rfl rfl) fun a hK => ?_
        refine sl hK (by decide) rfl rfl (r_pick_f hb_27 hK rfl rfl) fun a hK => ?_
        refine sl hK (by decide) rfl rfl (r_move hK rfl) fun a hK => ?_
        rcases or_b (decide (a1 > 1000)) with hb_28 | hb_28
        · rw [ifb_t hb_28] at H
          refine sl_skip hK (by decide) (wft hb_28) rfl fun a hK => ?_
          refine sl_skip hK (by decide) (wft hb_28) rfl fun a hK => ?_
          refine sl hK (by decide) rfl rfl (r_pick_t hb_28 hK rfl rfl) fun a hK => ?_
          refine sl hK (by decide) rfl rfl (r_move hK rfl) fun a hK => ?_
          refine sl_skip hK (by decide) rfl rfl fun a hK => ?_
          refine sl_skip hK (by decide) rfl rfl fun a hK => ?_
          refine sl_skip hK (by decide) rfl rfl fun a hK => ?_
          refine sl_skip hK (by decide) rfl rfl fun a hK => ?_
          refine sl_skip hK (by decide) rfl rfl fun a hK => ?_
          refine sl_skip hK (by decide) rfl rfl fun a hK => ?_
          refine sl_skip hK (by decide) rfl rfl fun a hK => ?_
          refine sl hK (by decide) rfl rfl (r_pick hK rfl rfl rfl) fun a hK => ?_
          refine wpList_nil ?_
          have hS := hS.pk1
          have hS := hS.pk2
          exact ⟨true, H, hK.sub (all_cons rfl (all_cons rfl (all_cons rfl (all_cons rfl (all_cons rfl (all_nil)))))), hS⟩
        · rw [ifb_f hb_28] at H
          refine sl hK (by decide) (wff hb_28) rfl (r_load Try.isAgg3 hK rfl (hS.cell (.head _) rfl)) fun a hK => ?_
          refine sl hK (by decide) (wff hb_28) rfl (r_ibin hK rfl rfl rfl) fun a hK => ?_
          refine sl hK (by decide) rfl rfl (r_pick_f hb_28 hK rfl rfl) fun a hK => ?_
          refine sl hK (by decide) rfl rfl (r_move hK rfl) fun a hK => ?_
          rcases or_b (decide (y_10 < 0)) with hb_29 | hb_29
          · rw [ifb_t hb_29] at H
            refine sl_skip hK (by decide) (wft hb_29) rfl fun a hK => ?_
            refine sl_skip hK (by decide) (wft hb_29) rfl fun a hK => ?_
            refine sl_skip hK (by decide) (wft hb_29) rfl fun a hK => ?_
            refine sl_skip hK (by decide) (wft hb_29) rfl fun a hK => ?_
            refine sl_skip hK (by decide) (wft hb_29) rfl fun a hK => ?_
            refine sl_skip hK (by decide) (wft hb_29) rfl fun a hK => ?_
            refine sl_skip hK (by decide) (wft hb_29) rfl fun a hK => ?_
            refine sl hK (by decide) rfl rfl (r_pick_t hb_29 hK rfl rfl) fun a hK => ?_
            refine wpList_nil ?_
            have hS := hS.pk1
            have hS := hS.pk2
            exact ⟨true, H, hK.sub (all_cons rfl (all_cons rfl (all_cons rfl (all_cons rfl (all_cons rfl (all_nil)))))), hS⟩
          · rw [ifb_f hb_29] at H
            refine sl hK (by decide) (wff hb_29) rfl (r_fieldAddr Try.underlying25 rfl Try.sizeOf22 hK rfl) fun a hK => ?_
            refine sl hK (by decide) (wff hb_29) rfl (r_load Try.isAgg22 hK rfl (hS.cell (.tail _ (.tail _ (.head _))) rfl)) fun a hK => ?_
            refine sl hK (by decide) (wff hb_29) rfl (r_load Try.isAgg3 hK rfl (hS.cell (.head _) rfl)) fun a hK => ?_
            obtain ⟨y_30, h_31, H⟩ := bind_some H
            obtain ⟨b_32, o_33, c_34, cs_35, hv_36, hr_37, hc_38, h_310, h_311⟩ := h0_0.ix h_31
            subst hr_37
            refine sl hK (by decide) (wff hb_29) rfl (r_indexAddr_R Try.underlying22 Try.sizeOf38 hv_36 h_310 h_311 hK rfl rfl) fun a hK => ?_
            refine sl hK (by decide) (wff hb_29) rfl (r_fieldAddr Try.underlying38 rfl Try.sizeOf3 hK rfl) fun a hK => ?_
            refine sl hK (by decide) (wff hb_29) rfl (r_load Try.isAgg3 hK rfl ((hS.ra hRA nil_not).cell (hc_38 1 _ rfl))) fun a hK => ?_
            refine sl hK (by decide) (wff hb_29) rfl (r_ibin hK rfl rfl rfl) fun a hK => ?_
            refine sl hK (by decide) rfl rfl (r_pick_f hb_29 hK rfl rfl) fun a hK => ?_
            refine wpList_nil ?_
            have hS := hS.pk1
            have hS := hS.pk2
            exact ⟨(y_30.Kind == 4), H, hK.sub (all_cons rfl (all_cons rfl (all_cons rfl (all_cons rfl (all_cons rfl (all_nil)))))), hS⟩
    · rintro a w ⟨x_25, H, hK, hS⟩
      unfold rowops_Top.j0 at H
      refine wp_cond_split (hK.ev rfl) (fun (hb_39 : x_25 = true) => ?_) (fun (hb_39 : x_25 = false) => ?_)
      · rw [ifb_t hb_39] at H
        refine wp_seq ?_
        refine wp_region_lit ?_
        refine sl hK (by decide) rfl rfl (r_buildC (ps := []) (c := [.slice none 0 0, .slice none 0 0]) Try.underlying25 Try.zeroValue25 places25 hK rfl pc_nil rfl rfl) fun a hK => ?_
        have hS := hS.pk1
        refine sl_storeA (vs := [.slice none 0 0, .slice none 0 0]) (c' := [.slice none 0 0, .slice none 0 0]) Try.sizeOf25 hS hK rfl rfl rfl rfl (all_cons rfl (all_cons rfl (all_nil))) (Nat.le_of_ble_eq_true rfl) rfl fun a w hS hK => ?_
        refine sl hK (by decide) rfl rfl (r_assign hK rfl) fun a hK => ?_
        refine wpList_nil ?_
        have hS := hS.row_nil 38 2
        have hq_41 : Reps ty_api_Col R [] ([] : List api_Col) := Reps.nil _ _
        have hS := hS.row_nil 44 1
        have hq_43 : Reps (tySl ty_api_Value) R [] ([] : List (List api_Value)) := Reps.nil _ _
        obtain rfl := Option.some.inj H
        refine wp_ret ?_
        repeat (first | refine ret_then ?_ | refine ret_block ?_ | refine ret_scope ?_)
        exact ret_2 Try.results15 hK (rv_cell (c := [(.slice none 0 0), (.slice none 0 0)]) Try.isAgg25 Try.sizeOf25 hS (.tail _ (.tail _ (.head _))) rfl hK rfl) (rv_tmp hK rfl) ⟨_, rfl, _, _, _, _, _, rfl, (hS.pk1.trunc 2), hRL, hq_41, hq_43⟩
      · rw [ifb_f hb_39] at H
        refine wp_skip ?_
        refine wp_seq ?_
        refine wp_region_lit ?_
        refine sl hK (by decide) rfl rfl (r_loadA (cs := [v0_0, v0_1]) Try.isAgg25 Try.sizeOf25 rfl hK rfl (hS.cells_of (m := 2) (.head _) rfl)) fun a hK => ?_
        obtain ⟨y_44, h_45, H⟩ := bind_some H
        refine sl_call Try.call26 hK (by decide) rfl rfl rfl (table_Canon.calls a0 (lentOf_sub [] _) hS.sub (h0_0.mono (hS.raLe0 hRA nil_not)) (h0_1.mono (hS.raLe0 hRA nil_not)) h_45) fun a v_ w hv_ hK => ?_
        obtain ⟨R_46, v_49, cs_50, v_53, cs_54, hv_, hr_, hl_47, hq_51, hq_55, hap_56⟩ := hv_
        have hv_ := hv_.symm
        subst hv_
        obtain ⟨hS, hl_47⟩ := hS.sp0.back hr_ hl_47
        have hS := hS.un2
        have hRL := hRL.trans hl_47
        refine sl_alloc Try.zeroValue25 hS hK (by decide) rfl rfl fun a w b_57 hS hK => ?_
        refine sl_storeA (vs := [v_49, v_53]) (c' := [v_49, v_53]) Try.sizeOf25 hS hK rfl rfl rfl rfl (all_cons (hS.row_one (.tail _ (.head _))) (all_cons (hS.row_one (.tail _ (.tail _ (.head _)))) (all_nil))) (Nat.le_of_ble_eq_true rfl) rfl fun a w hS hK => ?_
        refine wpList_nil ?_
        refine wp_seq ?_
        refine wp_region_lit ?_
        refine sl hK (by decide) rfl rfl (r_fieldAddr Try.underlying25 rfl Try.sizeOf23 hK rfl) fun a hK => ?_
        refine sl hK (by decide) rfl rfl (r_load Try.isAgg23 hK rfl (hS.cell (.head _) rfl)) fun a hK => ?_
        refine sl hK (by decide) rfl rfl (r_func (us := []) (vs := [.pointer (some ⟨b_12, 0, none⟩)]) rfl (hK.evs rfl)) fun a hK => ?_
        obtain ⟨y_58, h_59, H⟩ := bind_some H
        have hS := hS.pk2
        have hS1 := hS.sp1
        refine sl_call Try.call33 hK (by decide) rfl rfl rfl (slices_SortStableFunc_api_Value_api_Value_f_rowops_Top_1p.calls y_44.Rows y_10 (lentOf_sub _ _) lentOf_not hS1.lend hq_55 (hS1.lend_box (.tail _ (.tail _ (.tail _ (.tail _ (.head _)))))) h_59) fun a v_ w hv_ hK => ?_
        obtain ⟨R_60, cs_63, hv_, hr_, hl_61, hq_64⟩ := hv_
        have hv_ := hv_.symm
        subst hv_
        obtain ⟨hS, hl_61⟩ := hS1.back hr_ hl_61
        have hS := hS.un1
        have hRL := hRL.trans hl_61
        refine wpList_nil ?_
        refine wp_seq ?_
        refine wp_region_lit ?_
        refine sl hK (by decide) rfl rfl (r_fieldAddr Try.underlying25 rfl Try.sizeOf23 hK rfl) fun a hK => ?_
        refine sl hK (by decide) rfl rfl (r_load Try.isAgg23 hK rfl (hS.cell (.tail _ (.head _)) rfl)) fun a hK => ?_
        refine sl hK (by decide) rfl rfl (r_move hK rfl) fun a hK => ?_
        refine sl hK (by decide) rfl rfl (r_fieldAddr Try.underlying25 rfl Try.sizeOf23 hK rfl) fun a hK => ?_
        refine sl hK (by decide) rfl rfl (r_load Try.isAgg23 hK rfl (hS.cell (.tail _ (.head _)) rfl)) fun a hK => ?_
        refine sl hK (by decide) rfl rfl (r_len_O Try.underlying23 hS (.head _) hK rfl) fun a hK => ?_
        refine sl hK (by decide) rfl rfl (r_min2 hK rfl rfl) fun a hK => ?_
        obtain ⟨R_65, hS, hl_67, hs_66⟩ := hS.fz_row hq_64 rfl rfl
        have hRL := hRL.trans hl_67
        obtain ⟨y_68, h_69, H⟩ := bind_some H
        obtain ⟨v_70, hs_71, hr_72⟩ := r_slice_R (x := .tmp 48) (lo := none) (hi := some (.tmp 53)) Try.underlying23 Try.sizeOf44 hs_66 h_69 hK rfl rfl ⟨_, rfl⟩
        refine sl hK (by decide) rfl rfl (hr_72 _ _ _ _ _ _ _ hK) fun a hK => ?_
        refine sl hK (by decide) rfl rfl (r_fieldAddr Try.underlying25 rfl Try.sizeOf23 hK rfl) fun a hK => ?_
        refine sl_store1 (c' := [v_49, v_70]) Try.sizeOf23 hS hK rfl rfl rfl hs_71.one (Nat.le_of_ble_eq_true rfl) rfl fun a w hS hK => ?_
        refine wpList_nil ?_
        refine wp_seq ?_
        refine wp_region_lit ?_
        refine sl hK (by decide) rfl rfl (r_loadA (cs := [v_49, v_70]) Try.isAgg25 Try.sizeOf25 rfl hK rfl (hS.cells_of (m := 2) (.head _) rfl)) fun a hK => ?_
        obtain ⟨y_73, h_74, H⟩ := bind_some H
        refine sl_call Try.call26 hK (by decide) rfl rfl rfl (table_Canon.calls (⟨y_44.Cols, y_68⟩ : api_Table) (lentOf_sub [] _) hS.sub (hS.lend_row0 (.tail _ (.head _)) (hq_51.mono (hl_61.le.trans hl_67.le)) rfl rfl) (hs_71.mono hS.rLe0) h_74) fun a v_ w hv_ hK => ?_
        obtain ⟨R_75, v_78, cs_79, v_82, cs_83, hv_, hr_, hl_76, hq_80, hq_84, hap_85⟩ := hv_
        have hv_ := hv_.symm
        subst hv_
        obtain ⟨hS, hl_76⟩ := hS.sp0.back hr_ hl_76
        have hS := hS.un2
        have hRL := hRL.trans hl_76
        have hS := hS.pk5
        refine sl_storeA (vs := [v_78, v_82]) (c' := [v_78, v_82]) Try.sizeOf25 hS hK rfl rfl rfl rfl (all_cons (hS.row_one (.tail _ (.head _))) (all_cons (hS.row_one (.tail _ (.tail _ (.head _)))) (all_nil))) (Nat.le_of_ble_eq_true rfl) rfl fun a w hS hK => ?_
        refine sl hK (by decide) rfl rfl (r_assign hK rfl) fun a hK => ?_
        refine wpList_nil ?_
        obtain rfl := Option.some.inj H
        refine wp_ret ?_
        repeat (first | refine ret_then ?_ | refine ret_block ?_ | refine ret_scope ?_)
        exact ret_2 Try.results15 hK (rv_cell (c := [v_78, v_82]) Try.isAgg25 Try.sizeOf25 hS (.head _) rfl hK rfl) (rv_tmp hK rfl) ⟨_, rfl, _, _, _, _, _, rfl, (hS.pk2.pk2.trunc 2), hRL, hq_80, hq_84⟩

/-! ### catchment/catchmentref02.SameCols: function 30 -/
set_option maxHeartbeats 4000000 in
set_option maxRecDepth 100000 in
theorem ref02_SameCols.calls (a0 : List api_Col) (a1 : List api_Col) {w0 : World} {RA : Hp} {v0_0 : Value} {v1_0 : Value} (hRA : RA.sub w0) (h0_0 : SlR ty_api_Col RA v0_0 a0) (h1_0 : SlR ty_api_Col RA v1_0 a1) {r : Bool} (H : ref02_SameCols a0 a1 = some r) : CallsV Try.prog 30 #[v0_0, v1_0] w0 (.bool r) := by
  unfold ref02_SameCols at H
  refine enter (args := [v0_0, v1_0]) Try.func30 rfl Try.ntmps30 rfl fun a hK => ?_
  have hS := St.init (R := fun _ => none) (w := w0) (fun _ _ h => by cases h)
  have hRL := RLe.refl (M := []) w0 (fun _ => none)
  refine wp_seq ?_
  refine wp_region_lit ?_
  refine sl hK (by decide) rfl rfl (r_assign hK rfl) fun a hK => ?_
  refine wpList_nil ?_
  refine wp_seq ?_
  refine wp_seq ?_
  refine wp_region_lit ?_
  refine sl hK (by decide) rfl rfl (r_move hK rfl) fun a hK => ?_
  refine sl hK (by decide) rfl rfl (r_len_R Try.underlying22 h0_0 hK rfl) fun a hK => ?_
  refine sl hK (by decide) rfl rfl (r_move hK rfl) fun a hK => ?_
  refine sl hK (by decide) rfl rfl (r_len_R Try.underlying22 h1_0 hK rfl) fun a hK => ?_
  refine sl hK (by decide) rfl rfl (r_ibin hK rfl rfl rfl) fun a hK => ?_
  refine wpList_nil ?_
  refine wp_cond_split (hK.ev rfl) (fun (hb_1 : ((a0.length : Int) != (a1.length : Int)) = true) => ?_) (fun (hb_1 : ((a0.length : Int) != (a1.length : Int)) = false) => ?_)
  · rw [ifb_t hb_1] at H
    refine wp_seq ?_
    refine wp_region_lit ?_
    refine sl hK (by decide) rfl rfl (r_assign hK rfl) fun a hK => ?_
    refine wpList_nil ?_
    obtain rfl := Option.some.inj H
    refine wp_ret ?_
    repeat (first | refine ret_then ?_ | refine ret_block ?_ | refine ret_scope ?_)
    exact ret_1 Try.results30 hK (rv_tmp hK rfl) ⟨rfl, hS.bel⟩
  · rw [ifb_f hb_1] at H
    refine wp_skip ?_
    refine wp_seq ?_
    refine wp_seq ?_
    refine wp_region_lit ?_
    refine sl hK (by decide) rfl rfl (r_assign hK rfl) fun a hK => ?_
    refine wpList_nil ?_
    refine wp_block ?_
    refine wp_loop_k (fun k_l0 a w => ∃ (x_41 : Int), ref02_SameCols.l0 a0 a1 k_l0 x_41 = some r ∧ Kn 26 a [(0, v0_0), (1, v1_0), (5, .int .i64 x_41)] ∧ St [] w0 w (fun _ => none) []) (((a0.length : Int) - 0).toNat + 1) ?_ ?_
    · exact ⟨0, H, hK.sub (all_cons rfl (all_cons rfl (all_cons rfl (all_nil)))), hS⟩
    · rintro k_l0 a w ⟨x_41, H, hK, hS⟩
      cases k_l0 with
      | zero => cases H
      | succ k_l0 =>
      rw [ref02_SameCols.l0.eq_2] at H
      refine wp_seq ?_
      refine wp_seq ?_
      refine wp_region_lit ?_
      refine sl hK (by decide) rfl rfl (r_move hK rfl) fun a hK => ?_
      refine sl hK (by decide) rfl rfl (r_move hK rfl) fun a hK => ?_
      refine sl hK (by decide) rfl rfl (r_len_R Try.underlying22 h0_0 hK rfl) fun a hK => ?_
      refine sl hK (by decide) rfl rfl (r_ibin hK rfl rfl rfl) fun a hK => ?_
      refine wpList_nil ?_
      refine wp_cond_split (hK.ev rfl) (fun (hb_81 : (decide (x_41 < (a0.length : Int))) = true) => ?_) (fun (hb_81 : (decide (x_41 < (a0.length : Int))) = false) => ?_)
      · rw [ifb_t hb_81] at H
        refine wp_skip ?_
        refine wp_seq ?_
        refine wp_block ?_
        refine wp_seq ?_
        refine par_region (C := fun w => St [] w0 w (fun _ => none) []) [(0, true), (1, true), (2, true), (3, true), (4, true), (5, true), (6, true), (7, true), (8, true)] mixed (by kernel_rfl) hS (fun w hS => hS) fun w hS => ?_
        refine sp (k := 0) rfl hK (by decide) rfl rfl (fun w hS => r_move hK rfl) fun a hK => ?_
        refine sp (k := 1) rfl hK (by decide) rfl rfl (fun w hS => r_move hK rfl) fun a hK => ?_
        obtain ⟨y_100, h_101, H⟩ := bind_some H
        obtain ⟨b_102, o_103, c_104, cs_105, hv_106, hr_107, hc_108, h_1010, h_1011⟩ := h0_0.ix h_101
        subst hr_107
        refine sp (k := 2) rfl hK (by decide) rfl rfl (fun w hS => r_indexAddr_R Try.underlying22 Try.sizeOf38 hv_106 h_1010 h_1011 hK rfl rfl) fun a hK => ?_
        refine sp (k := 3) rfl hK (by decide) rfl rfl (fun w hS => r_loadA (cs := [.string y_100.Name, .int .i64 y_100.Kind]) Try.isAgg38 Try.sizeOf38 rfl hK rfl (fun j v hv => (hS.ra hRA nil_not).cell (hc_108 j v hv))) fun a hK => ?_
        refine sp (k := 4) rfl hK (by decide) rfl rfl (fun w hS => r_move hK rfl) fun a hK => ?_
        refine sp (k := 5) rfl hK (by decide) rfl rfl (fun w hS => r_move hK rfl) fun a hK => ?_
        obtain ⟨y_109, h_110, H⟩ := bind_some H
        obtain ⟨b_111, o_112, c_113, cs_114, hv_115, hr_116, hc_117, h_1100, h_1101⟩ := h1_0.ix h_110
        subst hr_116
        refine sp (k := 6) rfl hK (by decide) rfl rfl (fun w hS => r_indexAddr_R Try.underlying22 Try.sizeOf38 hv_115 h_1100 h_1101 hK rfl rfl) fun a hK => ?_
        refine sp (k := 7) rfl hK (by decide) rfl rfl (fun w hS => r_loadA (cs := [.string y_109.Name, .int .i64 y_109.Kind]) Try.isAgg38 Try.sizeOf38 rfl hK rfl (fun j v hv => (hS.ra hRA nil_not).cell (hc_117 j v hv))) fun a hK => ?_
        refine sp (k := 8) rfl hK (by decide) rfl rfl (fun w hS => r_sne (by kernel_rfl) (eqs38 y_100 y_109) hK rfl rfl) fun a hK => ?_
        refine wpPar_nil (NoP_nil ?_)
        refine wp_cond_split (hK.ev rfl) (fun (hb_118 : (!decide (y_100 = y_109)) = true) => ?_) (fun (hb_118 : (!decide (y_100 = y_109)) = false) => ?_)
        · rw [ifb_t hb_118] at H
          refine wp_seq ?_
          refine wp_region_lit ?_
          refine sl hK (by decide) rfl rfl (r_assign hK rfl) fun a hK => ?_
          refine wpList_nil ?_
          obtain rfl := Option.some.inj H
          refine wp_ret ?_
          repeat (first | refine ret_then ?_ | refine ret_block ?_ | refine ret_scope ?_)
          exact ret_1 Try.results30 hK (rv_tmp hK rfl) ⟨rfl, hS.bel⟩
        · rw [ifb_f hb_118] at H
          refine wp_skip ?_
          refine wp_region_lit ?_
          refine sl hK (by decide) rfl rfl (r_move hK rfl) fun a hK => ?_
          refine sl hK (by decide) rfl rfl (r_ibin hK rfl rfl rfl) fun a hK => ?_
          refine sl hK (by decide) rfl rfl (r_assign hK rfl) fun a hK => ?_
          refine wpList_nil ?_
          exact ⟨_, Nat.lt_succ_self _, (IntKind.i64.wrap (x_41 + 1)), H, hK.sub (all_cons rfl (all_cons rfl (all_cons rfl (all_nil)))), hS⟩
      · rw [ifb_f hb_81] at H
        refine wp_exit ?_
        refine wp_seq ?_
        refine wp_region_lit ?_
        refine sl hK (by decide) rfl rfl (r_assign hK rfl) fun a hK => ?_
        refine wpList_nil ?_
        obtain rfl := Option.some.inj H
        refine wp_ret ?_
        repeat (first | refine ret_then ?_ | refine ret_block ?_ | refine ret_scope ?_)
        exact ret_1 Try.results30 hK (rv_tmp hK rfl) ⟨rfl, hS.bel⟩

/-! ### catchment/catchmentref01.order: function 38 -/
set_option maxHeartbeats 4000000 in
set_option maxRecDepth 100000 in
theorem ref01_order.calls (a0 : Int) (a1 : Int) {r : Int} (H : ref01_order a0 a1 = some r) (w0 : World) : CallsV Try.prog 38 #[.int .i64 a0, .int .i64 a1] w0 (.int .i64 r) := by
  unfold ref01_order at H
  refine enter (args := [.int .i64 a0, .int .i64 a1]) Try.func38 rfl Try.ntmps38 rfl fun a hK => ?_
  have hS := St.init (R := fun _ => none) (w := w0) (fun _ _ h => by cases h)
  have hRL := RLe.refl (M := []) w0 (fun _ => none)
  refine wp_seq ?_
  refine wp_region_lit ?_
  refine sl hK (by decide) rfl rfl (r_assign hK rfl) fun a hK => ?_
  refine wpList_nil ?_
  refine wp_seq ?_
  refine wp_seq ?_
  refine wp_region_lit ?_
  refine sl hK (by decide) rfl rfl (r_move hK rfl) fun a hK => ?_
  refine sl hK (by decide) rfl rfl (r_move hK rfl) fun a hK => ?_
  refine sl hK (by decide) rfl rfl (r_ibin hK rfl rfl rfl) fun a hK => ?_
  refine wpList_nil ?_
  refine wp_cond_split (hK.ev rfl) (fun (hb_1 : (decide (a0 < a1)) = true) => ?_) (fun (hb_1 : (decide (a0 < a1)) = false) => ?_)
  · rw [ifb_t hb_1] at H
    refine wp_seq ?_
    refine wp_region_lit ?_
    refine sl hK (by decide) rfl rfl (r_assign hK rfl) fun a hK => ?_
    refine wpList_nil ?_
    obtain rfl := Option.some.inj H
    refine wp_ret ?_
    repeat (first | refine ret_then ?_ | refine ret_block ?_ | refine ret_scope ?_)
    exact ret_1 Try.results38 hK (rv_tmp hK rfl) ⟨rfl, hS.bel⟩
  · rw [ifb_f hb_1] at H
    refine wp_skip ?_
    refine wp_seq ?_
    refine wp_seq ?_
    refine wp_region_lit ?_
    refine sl hK (by decide) rfl rfl (r_move hK rfl) fun a hK => ?_
    refine sl hK (by decide) rfl rfl (r_move hK rfl) fun a hK => ?_
    refine sl hK (by decide) rfl rfl (r_ibin hK rfl rfl rfl) fun a hK => ?_
    refine wpList_nil ?_
    refine wp_cond_split (hK.ev rfl) (fun (hb_2 : (decide (a0 > a1)) = true) => ?_) (fun (hb_2 : (decide (a0 > a1)) = false) => ?_)
    · rw [ifb_t hb_2] at H
      refine wp_seq ?_
      refine wp_region_lit ?_
      refine sl hK (by decide) rfl rfl (r_assign hK rfl) fun a hK => ?_
      refine wpList_nil ?_
      obtain rfl := Option.some.inj H
      refine wp_ret ?_
      repeat (first | refine ret_then ?_ | refine ret_block ?_ | refine ret_scope ?_)
      exact ret_1 Try.results38 hK (rv_tmp hK rfl) ⟨rfl, hS.bel⟩
    · rw [ifb_f hb_2] at H
      refine wp_skip ?_
      refine wp_seq ?_
      refine wp_region_lit ?_
      refine sl hK (by decide) rfl rfl (r_assign hK rfl) fun a hK => ?_
      refine wpList_nil ?_
      obtain rfl := Option.some.inj H
      refine wp_ret ?_
      repeat (first | refine ret_then ?_ | refine ret_block ?_ | refine ret_scope ?_)
      exact ret_1 Try.results38 hK (rv_tmp hK rfl) ⟨rfl, hS.bel⟩

/-! ### catchment/catchmentref01.Compare: function 19 -/
set_option maxHeartbeats 4000000 in
set_option maxRecDepth 100000 in
theorem ref01_Compare.calls (a0 : api_Value) (a1 : api_Value) {r : Int} (H : ref01_Compare a0 a1 = some r) (w0 : World) : CallsV Try.prog 19 #[.agg #[.int .i64 a0.Kind, .int .i64 a0.N, .string a0.S, .int .i64 a0.H.a0, .int .i64 a0.H.a1, .int .i64 a0.H.a2, .int .i64 a0.H.a3, .int .i64 a0.H.a4, .int .i64 a0.H.a5, .int .i64 a0.H.a6, .int .i64 a0.H.a7], .agg #[.int .i64 a1.Kind, .int .i64 a1.N, .string a1.S, .int .i64 a1.H.a0, .int .i64 a1.H.a1, .int .i64 a1.H.a2, .int .i64 a1.H.a3, .int .i64 a1.H.a4, .int .i64 a1.H.a5, .int .i64 a1.H.a6, .int .i64 a1.H.a7]] w0 (.int .i64 r) := by
  unfold ref01_Compare at H
  refine enter (args := [.agg #[.int .i64 a0.Kind, .int .i64 a0.N, .string a0.S, .int .i64 a0.H.a0, .int .i64 a0.H.a1, .int .i64 a0.H.a2, .int .i64 a0.H.a3, .int .i64 a0.H.a4, .int .i64 a0.H.a5, .int .i64 a0.H.a6, .int .i64 a0.H.a7], .agg #[.int .i64 a1.Kind, .int .i64 a1.N, .string a1.S, .int .i64 a1.H.a0, .int .i64 a1.H.a1, .int .i64 a1.H.a2, .int .i64 a1.H.a3, .int .i64 a1.H.a4, .int .i64 a1.H.a5, .int .i64 a1.H.a6, .int .i64 a1.H.a7]]) Try.func19 rfl Try.ntmps19 rfl fun a hK => ?_
  have hS := St.init (R := fun _ => none) (w := w0) (fun _ _ h => by cases h)
  have hRL := RLe.refl (M := []) w0 (fun _ => none)
  refine wp_seq ?_
  refine wp_region_lit ?_
  refine sl_box hS hK (by decide) rfl rfl (c := [.int .i64 a0.Kind, .int .i64 a0.N, .string a0.S, .int .i64 a0.H.a0, .int .i64 a0.H.a1, .int .i64 a0.H.a2, .int .i64 a0.H.a3, .int .i64 a0.H.a4, .int .i64 a0.H.a5, .int .i64 a0.H.a6, .int .i64 a0.H.a7]) rfl fun a w b_1 hS hK => ?_
  refine sl_box hS hK (by decide) rfl rfl (c := [.int .i64 a1.Kind, .int .i64 a1.N, .string a1.S, .int .i64 a1.H.a0, .int .i64 a1.H.a1, .int .i64 a1.H.a2, .int .i64 a1.H.a3, .int .i64 a1.H.a4, .int .i64 a1.H.a5, .int .i64 a1.H.a6, .int .i64 a1.H.a7]) rfl fun a w b_2 hS hK => ?_
  refine sl hK (by decide) rfl rfl (r_assign hK rfl) fun a hK => ?_
  refine wpList_nil ?_
  refine wp_seq ?_
  refine wp_seq ?_
  refine wp_region_lit ?_
  refine sl hK (by decide) rfl rfl (r_fieldAddr Try.underlying43 rfl Try.sizeOf3 hK rfl) fun a hK => ?_
  refine sl hK (by decide) rfl rfl (r_load Try.isAgg3 hK rfl (hS.cell (.tail _ (.head _)) rfl)) fun a hK => ?_
  refine sl hK (by decide) rfl rfl (r_fieldAddr Try.underlying43 rfl Try.sizeOf3 hK rfl) fun a hK => ?_
  refine sl hK (by decide) rfl rfl (r_load Try.isAgg3 hK rfl (hS.cell (.head _) rfl)) fun a hK => ?_
  refine sl hK (by decide) rfl rfl (r_ibin hK rfl rfl rfl) fun a hK => ?_
  refine wpList_nil ?_
  refine wp_cond_split (hK.ev rfl) (fun (hb_3 : (a0.Kind != a1.Kind) = true) => ?_) (fun (hb_3 : (a0.Kind != a1.Kind) = false) => ?_)
  · rw [ifb_t hb_3] at H
    refine wp_seq ?_
    refine wp_region_lit ?_
    refine sl hK (by decide) rfl rfl (r_fieldAddr Try.underlying43 rfl Try.sizeOf3 hK rfl) fun a hK => ?_
    refine sl hK (by decide) rfl rfl (r_load Try.isAgg3 hK rfl (hS.cell (.tail _ (.head _)) rfl)) fun a hK => ?_
    refine sl hK (by decide) rfl rfl (r_fieldAddr Try.underlying43 rfl Try.sizeOf3 hK rfl) fun a hK => ?_
    refine sl hK (by decide) rfl rfl (r_load Try.isAgg3 hK rfl (hS.cell (.head _) rfl)) fun a hK => ?_
    obtain ⟨y_4, h_5, H⟩ := bind_some H
    refine sl_callV Try.call38 hS hK (by decide) rfl rfl rfl (ref01_order.calls a0.Kind a1.Kind h_5 _) fun a w hS hK => ?_
    refine sl hK (by decide) rfl rfl (r_assign hK rfl) fun a hK => ?_
    refine wpList_nil ?_
    obtain rfl := Option.some.inj H
    refine wp_ret ?_
    repeat (first | refine ret_then ?_ | refine ret_block ?_ | refine ret_scope ?_)
    exact ret_1 Try.results19 hK (rv_tmp hK rfl) ⟨rfl, hS.bel⟩
  · rw [ifb_f hb_3] at H
    refine wp_skip ?_
    refine wp_seq ?_
    refine wp_seq ?_
    refine wp_region_lit ?_
    refine sl hK (by decide) rfl rfl (r_fieldAddr Try.underlying43 rfl Try.sizeOf3 hK rfl) fun a hK => ?_
    refine sl hK (by decide) rfl rfl (r_load Try.isAgg3 hK rfl (hS.cell (.tail _ (.head _)) rfl)) fun a hK => ?_
    refine sl hK (by decide) rfl rfl (r_fieldAddr Try.underlying43 rfl Try.sizeOf3 hK rfl) fun a hK => ?_
    refine sl hK (by decide) rfl rfl (r_load Try.isAgg3 hK rfl (hS.cell (.head _) rfl)) fun a hK => ?_
    refine sl hK (by decide) rfl rfl (r_ibin hK rfl rfl rfl) fun a hK => ?_
    refine wpList_nil ?_
    refine wp_cond_split (hK.ev rfl) (fun (hb_6 : (a0.N != a1.N) = true) => ?_) (fun (hb_6 : (a0.N != a1.N) = false) => ?_)
    · rw [ifb_t hb_6] at H
      refine wp_seq ?_
      refine wp_region_lit ?_
      refine sl hK (by decide) rfl rfl (r_fieldAddr Try.underlying43 rfl Try.sizeOf3 hK rfl) fun a hK => ?_
      refine sl hK (by decide) rfl rfl (r_load Try.isAgg3 hK rfl (hS.cell (.tail _ (.head _)) rfl)) fun a hK => ?_
      refine sl hK (by decide) rfl rfl (r_fieldAddr Try.underlying43 rfl Try.sizeOf3 hK rfl) fun a hK => ?_
      refine sl hK (by decide) rfl rfl (r_load Try.isAgg3 hK rfl (hS.cell (.head _) rfl)) fun a hK => ?_
      obtain ⟨y_7, h_8, H⟩ := bind_some H
      refine sl_callV Try.call38 hS hK (by decide) rfl rfl rfl (ref01_order.calls a0.N a1.N h_8 _) fun a w hS hK => ?_
      refine sl hK (by decide) rfl rfl (r_assign hK rfl) fun a hK => ?_
      refine wpList_nil ?_
      obtain rfl := Option.some.inj H
      refine wp_ret ?_
      repeat (first | refine ret_then ?_ | refine ret_block ?_ | refine ret_scope ?_)
      exact ret_1 Try.results19 hK (rv_tmp hK rfl) ⟨rfl, hS.bel⟩
    · rw [ifb_f hb_6] at H
      refine wp_skip ?_
      refine wp_seq ?_
      refine wp_seq ?_
      refine wp_region_lit ?_
      refine sl hK (by decide) rfl rfl (r_assign hK rfl) fun a hK => ?_
      refine wpList_nil ?_
      refine wp_block ?_
      refine wp_loop_k (fun k_l0 a w => ∃ (x_36 : Int), ref01_Compare.l0 a0 a1 k_l0 x_36 = some r ∧ Kn 97 a [(2, .pointer (some ⟨b_1, 0, none⟩)), (3, .pointer (some ⟨b_2, 0, none⟩)), (5, .int .i64 x_36)] ∧ St [] w0 w (fun _ => none) [.cells b_1 [.int .i64 a0.Kind, .int .i64 a0.N, .string a0.S, .int .i64 a0.H.a0, .int .i64 a0.H.a1, .int .i64 a0.H.a2, .int .i64 a0.H.a3, .int .i64 a0.H.a4, .int .i64 a0.H.a5, .int .i64 a0.H.a6, .int .i64 a0.H.a7] 43, .cells b_2 [.int .i64 a1.Kind, .int .i64 a1.N, .string a1.S, .int .i64 a1.H.a0, .int .i64 a1.H.a1, .int .i64 a1.H.a2, .int .i64 a1.H.a3, .int .i64 a1.H.a4, .int .i64 a1.H.a5, .int .i64 a1.H.a6, .int .i64 a1.H.a7] 43]) (((a0.S.size : Int) - 0).toNat + 1) ?_ ?_
      · have hS := hS.pk1
        exact ⟨0, H, hK.sub (all_cons rfl (all_cons rfl (all_cons rfl (all_nil)))), hS⟩
      · rintro k_l0 a w ⟨x_36, H, hK, hS⟩
        cases k_l0 with
        | zero => cases H
        | succ k_l0 =>
        rw [ref01_Compare.l0.eq_2] at H
        refine wp_seq ?_
        refine wp_seq ?_
        refine wp_mid (fun a w => ∃ (x_66 : Bool), ref01_Compare.j1 (ref01_Compare.l0 a0 a1 k_l0) a0 a1 x_36 x_66 = some r ∧ Kn 97 a [(2, .pointer (some ⟨b_1, 0, none⟩)), (3, .pointer (some ⟨b_2, 0, none⟩)), (5, .int .i64 x_36), (38, .bool x_66)] ∧ St [] w0 w (fun _ => none) [.cells b_1 [.int .i64 a0.Kind, .int .i64 a0.N, .string a0.S, .int .i64 a0.H.a0, .int .i64 a0.H.a1, .int .i64 a0.H.a2, .int .i64 a0.H.a3, .int .i64 a0.H.a4, .int .i64 a0.H.a5, .int .i64 a0.H.a6, .int .i64 a0.H.a7] 43, .cells b_2 [.int .i64 a1.Kind, .int .i64 a1.N, .string a1.S, .int .i64 a1.H.a0, .int .i64 a1.H.a1, .int .i64 a1.H.a2, .int .i64 a1.H.a3, .int .i64 a1.H.a4, .int .i64 a1.H.a5, .int .i64 a1.H.a6, .int .i64 a1.H.a7] 43]) ?_ ?_
        · refine wp_region_lit ?_
          refine sl hK (by decide) rfl rfl (r_move hK rfl) fun a hK => ?_
          refine sl hK (by decide) rfl rfl (r_fieldAddr Try.underlying43 rfl Try.sizeOf9 hK rfl) fun a hK => ?_
          refine sl hK (by decide) rfl rfl (r_load Try.isAgg9 hK rfl (hS.cell (.head _) rfl)) fun a hK => ?_
          refine sl hK (by decide) rfl rfl (r_len_str Try.underlying9 hK rfl) fun a hK => ?_
          refine sl hK (by decide) rfl rfl (r_ibin hK rfl rfl rfl) fun a hK => ?_
          refine sl hK (by decide) rfl rfl (r_move hK rfl) fun a hK => ?_
          rcases or_b (decide (x_36 < (a0.S.size : Int))) with hb_68 | hb_68
          · rw [ifb_t hb_68] at H
            refine sl hK (by decide) (wtt hb_68) rfl (r_move hK rfl) fun a hK => ?_
            refine sl hK (by decide) (wtt hb_68) rfl (r_fieldAddr Try.underlying43 rfl Try.sizeOf9 hK rfl) fun a hK => ?_
            refine sl hK (by decide) (wtt hb_68) rfl (r_load Try.isAgg9 hK rfl (hS.cell (.tail _ (.head _)) rfl)) fun a hK => ?_
            refine sl hK (by decide) (wtt hb_68) rfl (r_len_str Try.underlying9 hK rfl) fun a hK => ?_
            refine sl hK (by decide) (wtt hb_68) rfl (r_ibin hK rfl rfl rfl) fun a hK => ?_
            refine sl hK (by decide) rfl rfl (r_pick_t hb_68 hK rfl rfl) fun a hK => ?_
            refine wpList_nil ?_
            have hS := hS.pk1
            have hS := hS.pk1
            exact ⟨(decide (x_36 < (a1.S.size : Int))), H, hK.sub (all_cons rfl (all_cons rfl (all_cons rfl (all_cons rfl (all_nil))))), hS⟩
          · rw [ifb_f hb_68] at H
            refine sl_skip hK (by decide) (wtf hb_68) rfl fun a hK => ?_
            refine sl_skip hK (by decide) (wtf hb_68) rfl fun a hK => ?_
            refine sl_skip hK (by decide) (wtf hb_68) rfl fun a hK => ?_
            refine sl_skip hK (by decide) (wtf hb_68) rfl fun a hK => ?_
            refine sl_skip hK (by decide) (wtf hb_68) rfl fun a hK => ?_
            refine sl hK (by decide) rfl rfl (r_pick_f hb_68 hK rfl rfl) fun a hK => ?_
            refine wpList_nil ?_
            have hS := hS.pk1
            have hS := hS.pk1
            exact ⟨false, H, hK.sub (all_cons rfl (all_cons rfl (all_cons rfl (all_cons rfl (all_nil))))), hS⟩
        · rintro a w ⟨x_66, H, hK, hS⟩
          unfold ref01_Compare.j1 at H
          refine wp_cond_split (hK.ev rfl) (fun (hb_69 : x_66 = true) => ?_) (fun (hb_69 : x_66 = false) => ?_)
          · rw [ifb_t hb_69] at H
            refine wp_skip ?_
            refine wp_seq ?_
            refine wp_block ?_
            refine wp_seq ?_
            refine par_region (C := fun w => St [] w0 w (fun _ => none) [.cells b_1 [.int .i64 a0.Kind, .int .i64 a0.N, .string a0.S, .int .i64 a0.H.a0, .int .i64 a0.H.a1, .int .i64 a0.H.a2, .int .i64 a0.H.a3, .int .i64 a0.H.a4, .int .i64 a0.H.a5, .int .i64 a0.H.a6, .int .i64 a0.H.a7] 43, .cells b_2 [.int .i64 a1.Kind, .int .i64 a1.N, .string a1.S, .int .i64 a1.H.a0, .int .i64 a1.H.a1, .int .i64 a1.H.a2, .int .i64 a1.H.a3, .int .i64 a1.H.a4, .int .i64 a1.H.a5, .int .i64 a1.H.a6, .int .i64 a1.H.a7] 43]) [(0, true), (1, true), (2, true), (3, true), (4, true), (5, true), (6, true), (7, true), (8, true)] mixed (by kernel_rfl) hS (fun w hS => hS) fun w hS => ?_
            refine sp (k := 0) rfl hK (by decide) rfl rfl (fun w hS => r_fieldAddr Try.underlying43 rfl Try.sizeOf9 hK rfl) fun a hK => ?_
            refine sp (k := 1) rfl hK (by decide) rfl rfl (fun w hS => r_load Try.isAgg9 hK rfl (hS.cell (.head _) rfl)) fun a hK => ?_
            refine sp (k := 2) rfl hK (by decide) rfl rfl (fun w hS => r_move hK rfl) fun a hK => ?_
            obtain ⟨y_74, h_75, H⟩ := bind_some H
            refine sp (k := 3) rfl hK (by decide) rfl rfl (fun w hS => r_index_str' Try.underlying9 h_75 hK rfl rfl) fun a hK => ?_
            refine sp (k := 4) rfl hK (by decide) rfl rfl (fun w hS => r_fieldAddr Try.underlying43 rfl Try.sizeOf9 hK rfl) fun a hK => ?_
            refine sp (k := 5) rfl hK (by decide) rfl rfl (fun w hS => r_load Try.isAgg9 hK rfl (hS.cell (.tail _ (.head _)) rfl)) fun a hK => ?_
            refine sp (k := 6) rfl hK (by decide) rfl rfl (fun w hS => r_move hK rfl) fun a hK => ?_
            obtain ⟨y_76, h_77, H⟩ := bind_some H
            refine sp (k := 7) rfl hK (by decide) rfl rfl (fun w hS => r_index_str' Try.underlying9 h_77 hK rfl rfl) fun a hK => ?_
            refine sp (k := 8) rfl hK (by decide) rfl rfl (fun w hS => r_ibin hK rfl rfl rfl) fun a hK => ?_
            refine wpPar_nil (NoP_nil ?_)
            refine wp_cond_split (hK.ev rfl) (fun (hb_78 : (y_74 != y_76) = true) => ?_) (fun (hb_78 : (y_74 != y_76) = false) => ?_)
            · rw [ifb_t hb_78] at H
              refine wp_seq ?_
              refine parT_region (C := fun w => St [] w0 w (fun _ => none) [.cells b_1 [.int .i64 a0.Kind, .int .i64 a0.N, .string a0.S, .int .i64 a0.H.a0, .int .i64 a0.H.a1, .int .i64 a0.H.a2, .int .i64 a0.H.a3, .int .i64 a0.H.a4, .int .i64 a0.H.a5, .int .i64 a0.H.a6, .int .i64 a0.H.a7] 43, .cells b_2 [.int .i64 a1.Kind, .int .i64 a1.N, .string a1.S, .int .i64 a1.H.a0, .int .i64 a1.H.a1, .int .i64 a1.H.a2, .int .i64 a1.H.a3, .int .i64 a1.H.a4, .int .i64 a1.H.a5, .int .i64 a1.H.a6, .int .i64 a1.H.a7] 43]) 10 [(0, true), (1, true), (2, true), (3, true), (4, true), (5, true), (6, true), (7, true), (8, true), (9, true)] mixed (by kernel_rfl) hS (fun w hS => hS) fun w hS => ?_
              refine sp (k := 0) rfl hK (by decide) rfl rfl (fun w hS => r_fieldAddr Try.underlying43 rfl Try.sizeOf9 hK rfl) fun a hK => ?_
              refine sp (k := 1) rfl hK (by decide) rfl rfl (fun w hS => r_load Try.isAgg9 hK rfl (hS.cell (.head _) rfl)) fun a hK => ?_
              refine sp (k := 2) rfl hK (by decide) rfl rfl (fun w hS => r_move hK rfl) fun a hK => ?_
              obtain ⟨y_85, h_86, H⟩ := bind_some H
              refine sp (k := 3) rfl hK (by decide) rfl rfl (fun w hS => r_index_str' Try.underlying9 h_86 hK rfl rfl) fun a hK => ?_
              refine sp (k := 4) rfl hK (by decide) rfl rfl (fun w hS => r_conv Try.underlying5 Try.underlying3 hK rfl) fun a hK => ?_
              refine sp (k := 5) rfl hK (by decide) rfl rfl (fun w hS => r_fieldAddr Try.underlying43 rfl Try.sizeOf9 hK rfl) fun a hK => ?_
              refine sp (k := 6) rfl hK (by decide) rfl rfl (fun w hS => r_load Try.isAgg9 hK rfl (hS.cell (.tail _ (.head _)) rfl)) fun a hK => ?_
              refine sp (k := 7) rfl hK (by decide) rfl rfl (fun w hS => r_move hK rfl) fun a hK => ?_
              obtain ⟨y_87, h_88, H⟩ := bind_some H
              refine sp (k := 8) rfl hK (by decide) rfl rfl (fun w hS => r_index_str' Try.underlying9 h_88 hK rfl rfl) fun a hK => ?_
              refine sp (k := 9) rfl hK (by decide) rfl rfl (fun w hS => r_conv Try.underlying5 Try.underlying3 hK rfl) fun a hK => ?_
              refine thenL_nil ?_
              obtain ⟨y_89, h_90, H⟩ := bind_some H
              refine sl_callV Try.call38 hS hK (by decide) rfl rfl rfl (ref01_order.calls (IntKind.i64.wrap y_85) (IntKind.i64.wrap y_87) h_90 _) fun a w hS hK => ?_
              refine sl hK (by decide) rfl rfl (r_assign hK rfl) fun a hK => ?_
              refine wpList_nil (NoP_nil ?_)
              obtain rfl := Option.some.inj H
              refine wp_ret ?_
              repeat (first | refine ret_then ?_ | refine ret_block ?_ | refine ret_scope ?_)
              exact ret_1 Try.results19 hK (rv_tmp hK rfl) ⟨rfl, hS.bel⟩
            · rw [ifb_f hb_78] at H
              refine wp_skip ?_
              refine wp_region_lit ?_
              refine sl hK (by decide) rfl rfl (r_move hK rfl) fun a hK => ?_
              refine sl hK (by decide) rfl rfl (r_ibin hK rfl rfl rfl) fun a hK => ?_
              refine sl hK (by decide) rfl rfl (r_assign hK rfl) fun a hK => ?_
              refine wpList_nil ?_
              have hS := hS.pk1
              have hS := hS.pk1
              exact ⟨_, Nat.lt_succ_self _, (IntKind.i64.wrap (x_36 + 1)), H, hK.sub (all_cons rfl (all_cons rfl (all_cons rfl (all_nil)))), hS⟩
          · rw [ifb_f hb_69] at H
            refine wp_exit ?_
            refine wp_seq ?_
            refine wp_seq ?_
            refine wp_region_lit ?_
            refine sl hK (by decide) rfl rfl (r_fieldAddr Try.underlying43 rfl Try.sizeOf9 hK rfl) fun a hK => ?_
            refine sl hK (by decide) rfl rfl (r_load Try.isAgg9 hK rfl (hS.cell (.head _) rfl)) fun a hK => ?_
            refine sl hK (by decide) rfl rfl (r_len_str Try.underlying9 hK rfl) fun a hK => ?_
            refine sl hK (by decide) rfl rfl (r_fieldAddr Try.underlying43 rfl Try.sizeOf9 hK rfl) fun a hK => ?_
            refine sl hK (by decide) rfl rfl (r_load Try.isAgg9 hK rfl (hS.cell (.tail _ (.head _)) rfl)) fun a hK => ?_
            refine sl hK (by decide) rfl rfl (r_len_str Try.underlying9 hK rfl) fun a hK => ?_
            refine sl hK (by decide) rfl rfl (r_ibin hK rfl rfl rfl) fun a hK => ?_
            refine wpList_nil ?_
            refine wp_cond_split (hK.ev rfl) (fun (hb_91 : ((a0.S.size : Int) != (a1.S.size : Int)) = true) => ?_) (fun (hb_91 : ((a0.S.size : Int) != (a1.S.size : Int)) = false) => ?_)
            · rw [ifb_t hb_91] at H
              refine wp_seq ?_
              refine wp_region_lit ?_
              refine sl hK (by decide) rfl rfl (r_fieldAddr Try.underlying43 rfl Try.sizeOf9 hK rfl) fun a hK => ?_
              refine sl hK (by decide) rfl rfl (r_load Try.isAgg9 hK rfl (hS.cell (.head _) rfl)) fun a hK => ?_
              refine sl hK (by decide) rfl rfl (r_len_str Try.underlying9 hK rfl) fun a hK => ?_
              refine sl hK (by decide) rfl rfl (r_fieldAddr Try.underlying43 rfl Try.sizeOf9 hK rfl) fun a hK => ?_
              refine sl hK (by decide) rfl rfl (r_load Try.isAgg9 hK rfl (hS.cell (.tail _ (.head _)) rfl)) fun a hK => ?_
              refine sl hK (by decide) rfl rfl (r_len_str Try.underlying9 hK rfl) fun a hK => ?_
              obtain ⟨y_92, h_93, H⟩ := bind_some H
              refine sl_callV Try.call38 hS hK (by decide) rfl rfl rfl (ref01_order.calls (a0.S.size : Int) (a1.S.size : Int) h_93 _) fun a w hS hK => ?_
              refine sl hK (by decide) rfl rfl (r_assign hK rfl) fun a hK => ?_
              refine wpList_nil ?_
              obtain rfl := Option.some.inj H
              refine wp_ret ?_
              repeat (first | refine ret_then ?_ | refine ret_block ?_ | refine ret_scope ?_)
              exact ret_1 Try.results19 hK (rv_tmp hK rfl) ⟨rfl, hS.bel⟩
            · rw [ifb_f hb_91] at H
              refine wp_skip ?_
              refine wp_seq ?_
              refine wp_seq ?_
              refine wp_region_lit ?_
              refine sl hK (by decide) rfl rfl (r_assign hK rfl) fun a hK => ?_
              refine wpList_nil ?_
              refine wp_block ?_
              refine wp_loop_k (fun k_l2 a w => ∃ (x_100 : Int), ref01_Compare.l2 a0 a1 k_l2 x_100 = some r ∧ Kn 97 a [(2, .pointer (some ⟨b_1, 0, none⟩)), (3, .pointer (some ⟨b_2, 0, none⟩)), (6, .int .i64 x_100)] ∧ St [] w0 w (fun _ => none) [.cells b_1 [.int .i64 a0.Kind, .int .i64 a0.N, .string a0.S, .int .i64 a0.H.a0, .int .i64 a0.H.a1, .int .i64 a0.H.a2, .int .i64 a0.H.a3, .int .i64 a0.H.a4, .int .i64 a0.H.a5, .int .i64 a0.H.a6, .int .i64 a0.H.a7] 43, .cells b_2 [.int .i64 a1.Kind, .int .i64 a1.N, .string a1.S, .int .i64 a1.H.a0, .int .i64 a1.H.a1, .int .i64 a1.H.a2, .int .i64 a1.H.a3, .int .i64 a1.H.a4, .int .i64 a1.H.a5, .int .i64 a1.H.a6, .int .i64 a1.H.a7] 43]) (((8 : Int) - 0).toNat + 1) ?_ ?_
              · have hS := hS.pk1
                have hS := hS.pk1
                exact ⟨0, H, hK.sub (all_cons rfl (all_cons rfl (all_cons rfl (all_nil)))), hS⟩
              · rintro k_l2 a w ⟨x_100, H, hK, hS⟩
                cases k_l2 with
                | zero => cases H
                | succ k_l2 =>
                rw [ref01_Compare.l2.eq_2] at H
                refine wp_seq ?_
                refine wp_seq ?_
                refine wp_region_lit ?_
                refine sl hK (by decide) rfl rfl (r_move hK rfl) fun a hK => ?_
                refine sl hK (by decide) rfl rfl (r_ibin hK rfl rfl rfl) fun a hK => ?_
                refine wpList_nil ?_
                refine wp_cond_split (hK.ev rfl) (fun (hb_124 : (decide (x_100 < 8)) = true) => ?_) (fun (hb_124 : (decide (x_100 < 8)) = false) => ?_)
                · rw [ifb_t hb_124] at H
                  refine wp_skip ?_
                  refine wp_seq ?_
                  refine wp_block ?_
                  refine wp_seq ?_
                  refine par_region (C := fun w => St [] w0 w (fun _ => none) [.cells b_1 [.int .i64 a0.Kind, .int .i64 a0.N, .string a0.S, .int .i64 a0.H.a0, .int .i64 a0.H.a1, .int .i64 a0.H.a2, .int .i64 a0.H.a3, .int .i64 a0.H.a4, .int .i64 a0.H.a5, .int .i64 a0.H.a6, .int .i64 a0.H.a7] 43, .cells b_2 [.int .i64 a1.Kind, .int .i64 a1.N, .string a1.S, .int .i64 a1.H.a0, .int .i64 a1.H.a1, .int .i64 a1.H.a2, .int .i64 a1.H.a3, .int .i64 a1.H.a4, .int .i64 a1.H.a5, .int .i64 a1.H.a6, .int .i64 a1.H.a7] 43]) [(0, true), (1, true), (2, true), (3, true), (4, true), (5, true), (6, true), (7, true), (8, true)] mixed (by kernel_rfl) hS (fun w hS => hS) fun w hS => ?_
                  refine sp (k := 0) rfl hK (by decide) rfl rfl (fun w hS => r_move hK rfl) fun a hK => ?_
                  refine sp (k := 1) rfl hK (by decide) rfl rfl (fun w hS => r_fieldAddr Try.underlying43 rfl Try.sizeOf41 hK rfl) fun a hK => ?_
                  obtain ⟨y_129, h_130, H⟩ := bind_some H
                  refine sp (k := 2) rfl hK (by decide) rfl rfl (fun w hS => r_indexAddr_arr Try.underlying41 Try.sizeOf3 hK rfl rfl (Arr8.ix_lt h_130).1 (Arr8.ix_lt h_130).2) fun a hK => ?_
                  refine sp (k := 3) rfl hK (by decide) rfl rfl (fun w hS => r_load Try.isAgg3 hK rfl (hS.cell (.head _) (Arr8.ix_cells h_130 [.int .i64 a0.Kind, .int .i64 a0.N, .string a0.S] [] rfl))) fun a hK => ?_
                  refine sp (k := 4) rfl hK (by decide) rfl rfl (fun w hS => r_move hK rfl) fun a hK => ?_
                  refine sp (k := 5) rfl hK (by decide) rfl rfl (fun w hS => r_fieldAddr Try.underlying43 rfl Try.sizeOf41 hK rfl) fun a hK => ?_
                  obtain ⟨y_131, h_132, H⟩ := bind_some H
                  refine sp (k := 6) rfl hK (by decide) rfl rfl (fun w hS => r_indexAddr_arr Try.underlying41 Try.sizeOf3 hK rfl rfl (Arr8.ix_lt h_132).1 (Arr8.ix_lt h_132).2) fun a hK => ?_
                  refine sp (k := 7) rfl hK (by decide) rfl rfl (fun w hS => r_load Try.isAgg3 hK rfl (hS.cell (.tail _ (.head _)) (Arr8.ix_cells h_132 [.int .i64 a1.Kind, .int .i64 a1.N, .string a1.S] [] rfl))) fun a hK => ?_
                  refine sp (k := 8) rfl hK (by decide) rfl rfl (fun w hS => r_ibin hK rfl rfl rfl) fun a hK => ?_
                  refine wpPar_nil (NoP_nil ?_)
                  refine wp_cond_split (hK.ev rfl) (fun (hb_133 : (y_129 != y_131) = true) => ?_) (fun (hb_133 : (y_129 != y_131) = false) => ?_)
                  · rw [ifb_t hb_133] at H
                    refine wp_seq ?_
                    refine parT_region (C := fun w => St [] w0 w (fun _ => none) [.cells b_1 [.int .i64 a0.Kind, .int .i64 a0.N, .string a0.S, .int .i64 a0.H.a0, .int .i64 a0.H.a1, .int .i64 a0.H.a2, .int .i64 a0.H.a3, .int .i64 a0.H.a4, .int .i64 a0.H.a5, .int .i64 a0.H.a6, .int .i64 a0.H.a7] 43, .cells b_2 [.int .i64 a1.Kind, .int .i64 a1.N, .string a1.S, .int .i64 a1.H.a0, .int .i64 a1.H.a1, .int .i64 a1.H.a2, .int .i64 a1.H.a3, .int .i64 a1.H.a4, .int .i64 a1.H.a5, .int .i64 a1.H.a6, .int .i64 a1.H.a7] 43]) 8 [(0, true), (1, true), (2, true), (3, true), (4, true), (5, true), (6, true), (7, true)] mixed (by kernel_rfl) hS (fun w hS => hS) fun w hS => ?_
                    refine sp (k := 0) rfl hK (by decide) rfl rfl (fun w hS => r_move hK rfl) fun a hK => ?_
                    refine sp (k := 1) rfl hK (by decide) rfl rfl (fun w hS => r_fieldAddr Try.underlying43 rfl Try.sizeOf41 hK rfl) fun a hK => ?_
                    obtain ⟨y_140, h_141, H⟩ := bind_some H
                    refine sp (k := 2) rfl hK (by decide) rfl rfl (fun w hS => r_indexAddr_arr Try.underlying41 Try.sizeOf3 hK rfl rfl (Arr8.ix_lt h_141).1 (Arr8.ix_lt h_141).2) fun a hK => ?_
                    refine sp (k := 3) rfl hK (by decide) rfl rfl (fun w hS => r_load Try.isAgg3 hK rfl (hS.cell (.head _) (Arr8.ix_cells h_141 [.int .i64 a0.Kind, .int .i64 a0.N, .string a0.S] [] rfl))) fun a hK => ?_
                    refine sp (k := 4) rfl hK (by decide) rfl rfl (fun w hS => r_move hK rfl) fun a hK => ?_
                    refine sp (k := 5) rfl hK (by decide) rfl rfl (fun w hS => r_fieldAddr Try.underlying43 rfl Try.sizeOf41 hK rfl) fun a hK => ?_
                    obtain ⟨y_142, h_143, H⟩ := bind_some H
                    refine sp (k := 6) rfl hK (by decide) rfl rfl (fun w hS => r_indexAddr_arr Try.underlying41 Try.sizeOf3 hK rfl rfl (Arr8.ix_lt h_143).1 (Arr8.ix_lt h_143).2) fun a hK => ?_
                    refine sp (k := 7) rfl hK (by decide) rfl rfl (fun w hS => r_load Try.isAgg3 hK rfl (hS.cell (.tail _ (.head _)) (Arr8.ix_cells h_143 [.int .i64 a1.Kind, .int .i64 a1.N, .string a1.S] [] rfl))) fun a hK => ?_
                    refine thenL_nil ?_
                    obtain ⟨y_144, h_145, H⟩ := bind_some H
                    refine sl_callV Try.call38 hS hK (by decide) rfl rfl rfl (ref01_order.calls y_140 y_142 h_145 _) fun a w hS hK => ?_
                    refine sl hK (by decide) rfl rfl (r_assign hK rfl) fun a hK => ?_
                    refine wpList_nil (NoP_nil ?_)
                    obtain rfl := Option.some.inj H
                    refine wp_ret ?_
                    repeat (first | refine ret_then ?_ | refine ret_block ?_ | refine ret_scope ?_)
                    exact ret_1 Try.results19 hK (rv_tmp hK rfl) ⟨rfl, hS.bel⟩
                  · rw [ifb_f hb_133] at H
                    refine wp_skip ?_
                    refine wp_region_lit ?_
                    refine sl hK (by decide) rfl rfl (r_move hK rfl) fun a hK => ?_
                    refine sl hK (by decide) rfl rfl (r_ibin hK rfl rfl rfl) fun a hK => ?_
                    refine sl hK (by decide) rfl rfl (r_assign hK rfl) fun a hK => ?_
                    refine wpList_nil ?_
                    have hS := hS.pk1
                    have hS := hS.pk1
                    exact ⟨_, Nat.lt_succ_self _, (IntKind.i64.wrap (x_100 + 1)), H, hK.sub (all_cons rfl (all_cons rfl (all_cons rfl (all_nil)))), hS⟩
                · rw [ifb_f hb_124] at H
                  refine wp_exit ?_
                  refine wp_seq ?_
                  refine wp_region_lit ?_
                  refine sl hK (by decide) rfl rfl (r_assign hK rfl) fun a hK => ?_
                  refine wpList_nil ?_
                  obtain rfl := Option.some.inj H
                  refine wp_ret ?_
                  repeat (first | refine ret_then ?_ | refine ret_block ?_ | refine ret_scope ?_)
                  exact ret_1 Try.results19 hK (rv_tmp hK rfl) ⟨rfl, hS.bel⟩

/-! ### catchment/catchmentref02.Row: function 31 -/
set_option maxHeartbeats 4000000 in
set_option maxRecDepth 100000 in
theorem ref02_Row.calls (a0 : List api_Value) (a1 : List api_Value) {w0 : World} {RA : Hp} {v0_0 : Value} {v1_0 : Value} (hRA : RA.sub w0) (h0_0 : SlR ty_api_Value RA v0_0 a0) (h1_0 : SlR ty_api_Value RA v1_0 a1) {r : Int} (H : ref02_Row a0 a1 = some r) : CallsV Try.prog 31 #[v0_0, v1_0] w0 (.int .i64 r) := by
  unfold ref02_Row at H
  refine enter (args := [v0_0, v1_0]) Try.func31 rfl Try.ntmps31 rfl fun a hK => ?_
  have hS := St.init (R := fun _ => none) (w := w0) (fun _ _ h => by cases h)
  have hRL := RLe.refl (M := []) w0 (fun _ => none)
  refine wp_seq ?_
  refine wp_region_lit ?_
  refine sl hK (by decide) rfl rfl (r_assign hK rfl) fun a hK => ?_
  refine wpList_nil ?_
  refine wp_seq ?_
  refine wp_seq ?_
  refine wp_region_lit ?_
  refine sl hK (by decide) rfl rfl (r_assign hK rfl) fun a hK => ?_
  refine wpList_nil ?_
  refine wp_block ?_
  refine wp_loop_k (fun k_l0 a w => ∃ (x_48 : Int), ref02_Row.l0 a0 a1 k_l0 x_48 = some r ∧ Kn 41 a [(0, v0_0), (1, v1_0), (5, .int .i64 x_48)] ∧ St [] w0 w (fun _ => none) []) (((a0.length : Int) - 0).toNat + 1) ?_ ?_
  · exact ⟨0, H, hK.sub (all_cons rfl (all_cons rfl (all_cons rfl (all_nil)))), hS⟩
  · rintro k_l0 a w ⟨x_48, H, hK, hS⟩
    cases k_l0 with
    | zero => cases H
    | succ k_l0 =>
    rw [ref02_Row.l0.eq_2] at H
    refine wp_seq ?_
    refine wp_seq ?_
    refine wp_mid (fun a w => ∃ (x_98 : Bool), ref02_Row.j1 (ref02_Row.l0 a0 a1 k_l0) a0 a1 x_48 x_98 = some r ∧ Kn 41 a [(0, v0_0), (1, v1_0), (5, .int .i64 x_48), (16, .bool x_98)] ∧ St [] w0 w (fun _ => none) []) ?_ ?_
    · refine wp_region_lit ?_
      refine sl hK (by decide) rfl rfl (r_move hK rfl) fun a hK => ?_
      refine sl hK (by decide) rfl rfl (r_move hK rfl) fun a hK => ?_
      refine sl hK (by decide) rfl rfl (r_len_R Try.underlying44 h0_0 hK rfl) fun a hK => ?_
      refine sl hK (by decide) rfl rfl (r_ibin hK rfl rfl rfl) fun a hK => ?_
      refine sl hK (by decide) rfl rfl (r_move hK rfl) fun a hK => ?_
      rcases or_b (decide (x_48 < (a0.length : Int))) with hb_100 | hb_100
      · rw [ifb_t hb_100] at H
        refine sl hK (by decide) (wtt hb_100) rfl (r_move hK rfl) fun a hK => ?_
        refine sl hK (by decide) (wtt hb_100) rfl (r_move hK rfl) fun a hK => ?_
        refine sl hK (by decide) (wtt hb_100) rfl (r_len_R Try.underlying44 h1_0 hK rfl) fun a hK => ?_
        refine sl hK (by decide) (wtt hb_100) rfl (r_ibin hK rfl rfl rfl) fun a hK => ?_
        refine sl hK (by decide) rfl rfl (r_pick_t hb_100 hK rfl rfl) fun a hK => ?_
        refine wpList_nil ?_
        exact ⟨(decide (x_48 < (a1.length : Int))), H, hK.sub (all_cons rfl (all_cons rfl (all_cons rfl (all_cons rfl (all_nil))))), hS⟩
      · rw [ifb_f hb_100] at H
        refine sl_skip hK (by decide) (wtf hb_100) rfl fun a hK => ?_
        refine sl_skip hK (by decide) (wtf hb_100) rfl fun a hK => ?_
        refine sl_skip hK (by decide) (wtf hb_100) rfl fun a hK => ?_
        refine sl_skip hK (by decide) (wtf hb_100) rfl fun a hK => ?_
        refine sl hK (by decide) rfl rfl (r_pick_f hb_100 hK rfl rfl) fun a hK => ?_
        refine wpList_nil ?_
        exact ⟨false, H, hK.sub (all_cons rfl (all_cons rfl (all_cons rfl (all_cons rfl (all_nil))))), hS⟩
    · rintro a w ⟨x_98, H, hK, hS⟩
      unfold ref02_Row.j1 at H
      refine wp_cond_split (hK.ev rfl) (fun (hb_101 : x_98 = true) => ?_) (fun (hb_101 : x_98 = false) => ?_)
      · rw [ifb_t hb_101] at H
        refine wp_skip ?_
        refine wp_seq ?_
        refine wp_block ?_
        refine wp_seq ?_
        refine parT_region (C := fun w => St [] w0 w (fun _ => none) []) 8 [(0, true), (1, true), (2, true), (3, true), (4, true), (5, true), (6, true), (7, true)] mixed (by kernel_rfl) hS (fun w hS => hS) fun w hS => ?_
        refine sp (k := 0) rfl hK (by decide) rfl rfl (fun w hS => r_move hK rfl) fun a hK => ?_
        refine sp (k := 1) rfl hK (by decide) rfl rfl (fun w hS => r_move hK rfl) fun a hK => ?_
        obtain ⟨y_122, h_123, H⟩ := bind_some H
        obtain ⟨b_124, o_125, c_126, cs_127, hv_128, hr_129, hc_130, h_1230, h_1231⟩ := h0_0.ix h_123
        subst hr_129
        refine sp (k := 2) rfl hK (by decide) rfl rfl (fun w hS => r_indexAddr_R Try.underlying44 Try.sizeOf43 hv_128 h_1230 h_1231 hK rfl rfl) fun a hK => ?_
        refine sp (k := 3) rfl hK (by decide) rfl rfl (fun w hS => r_loadA (cs := [.int .i64 y_122.Kind, .int .i64 y_122.N, .string y_122.S, .int .i64 y_122.H.a0, .int .i64 y_122.H.a1, .int .i64 y_122.H.a2, .int .i64 y_122.H.a3, .int .i64 y_122.H.a4, .int .i64 y_122.H.a5, .int .i64 y_122.H.a6, .int .i64 y_122.H.a7]) Try.isAgg43 Try.sizeOf43 rfl hK rfl (fun j v hv => (hS.ra hRA nil_not).cell (hc_130 j v hv))) fun a hK => ?_
        refine sp (k := 4) rfl hK (by decide) rfl rfl (fun w hS => r_move hK rfl) fun a hK => ?_
        refine sp (k := 5) rfl hK (by decide) rfl rfl (fun w hS => r_move hK rfl) fun a hK => ?_
        obtain ⟨y_131, h_132, H⟩ := bind_some H
        obtain ⟨b_133, o_134, c_135, cs_136, hv_137, hr_138, hc_139, h_1320, h_1321⟩ := h1_0.ix h_132
        subst hr_138
        refine sp (k := 6) rfl hK (by decide) rfl rfl (fun w hS => r_indexAddr_R Try.underlying44 Try.sizeOf43 hv_137 h_1320 h_1321 hK rfl rfl) fun a hK => ?_
        refine sp (k := 7) rfl hK (by decide) rfl rfl (fun w hS => r_loadA (cs := [.int .i64 y_131.Kind, .int .i64 y_131.N, .string y_131.S, .int .i64 y_131.H.a0, .int .i64 y_131.H.a1, .int .i64 y_131.H.a2, .int .i64 y_131.H.a3, .int .i64 y_131.H.a4, .int .i64 y_131.H.a5, .int .i64 y_131.H.a6, .int .i64 y_131.H.a7]) Try.isAgg43 Try.sizeOf43 rfl hK rfl (fun j v hv => (hS.ra hRA nil_not).cell (hc_139 j v hv))) fun a hK => ?_
        refine thenL_nil ?_
        obtain ⟨y_140, h_141, H⟩ := bind_some H
        refine sl_callV Try.call19 hS hK (by decide) rfl rfl rfl (ref01_Compare.calls y_122 y_131 h_141 _) fun a w hS hK => ?_
        refine sl hK (by decide) rfl rfl (r_assign hK rfl) fun a hK => ?_
        refine wpList_nil (NoP_nil ?_)
        refine wp_seq ?_
        refine wp_region_lit ?_
        refine sl hK (by decide) rfl rfl (r_move hK rfl) fun a hK => ?_
        refine sl hK (by decide) rfl rfl (r_ibin hK rfl rfl rfl) fun a hK => ?_
        refine wpList_nil ?_
        refine wp_cond_split (hK.ev rfl) (fun (hb_142 : (y_140 != 0) = true) => ?_) (fun (hb_142 : (y_140 != 0) = false) => ?_)
        · rw [ifb_t hb_142] at H
          refine wp_seq ?_
          refine wp_region_lit ?_
          refine sl hK (by decide) rfl rfl (r_move hK rfl) fun a hK => ?_
          refine sl hK (by decide) rfl rfl (r_assign hK rfl) fun a hK => ?_
          refine wpList_nil ?_
          obtain rfl := Option.some.inj H
          refine wp_ret ?_
          repeat (first | refine ret_then ?_ | refine ret_block ?_ | refine ret_scope ?_)
          exact ret_1 Try.results31 hK (rv_tmp hK rfl) ⟨rfl, hS.bel⟩
        · rw [ifb_f hb_142] at H
          refine wp_skip ?_
          refine wp_region_lit ?_
          refine sl hK (by decide) rfl rfl (r_move hK rfl) fun a hK => ?_
          refine sl hK (by decide) rfl rfl (r_ibin hK rfl rfl rfl) fun a hK => ?_
          refine sl hK (by decide) rfl rfl (r_assign hK rfl) fun a hK => ?_
          refine wpList_nil ?_
          exact ⟨_, Nat.lt_succ_self _, (IntKind.i64.wrap (x_48 + 1)), H, hK.sub (all_cons rfl (all_cons rfl (all_cons rfl (all_nil)))), hS⟩
      · rw [ifb_f hb_101] at H
        refine wp_exit ?_
        refine wp_seq ?_
        refine wp_seq ?_
        refine wp_region_lit ?_
        refine sl hK (by decide) rfl rfl (r_move hK rfl) fun a hK => ?_
        refine sl hK (by decide) rfl rfl (r_len_R Try.underlying44 h0_0 hK rfl) fun a hK => ?_
        refine sl hK (by decide) rfl rfl (r_move hK rfl) fun a hK => ?_
        refine sl hK (by decide) rfl rfl (r_len_R Try.underlying44 h1_0 hK rfl) fun a hK => ?_
        refine sl hK (by decide) rfl rfl (r_ibin hK rfl rfl rfl) fun a hK => ?_
        refine wpList_nil ?_
        refine wp_cond_split (hK.ev rfl) (fun (hb_143 : (decide ((a0.length : Int) < (a1.length : Int))) = true) => ?_) (fun (hb_143 : (decide ((a0.length : Int) < (a1.length : Int))) = false) => ?_)
        · rw [ifb_t hb_143] at H
          refine wp_seq ?_
          refine wp_region_lit ?_
          refine sl hK (by decide) rfl rfl (r_assign hK rfl) fun a hK => ?_
          refine wpList_nil ?_
          obtain rfl := Option.some.inj H
          refine wp_ret ?_
          repeat (first | refine ret_then ?_ | refine ret_block ?_ | refine ret_scope ?_)
          exact ret_1 Try.results31 hK (rv_tmp hK rfl) ⟨rfl, hS.bel⟩
        · rw [ifb_f hb_143] at H
          refine wp_skip ?_
          refine wp_seq ?_
          refine wp_seq ?_
          refine wp_region_lit ?_
          refine sl hK (by decide) rfl rfl (r_move hK rfl) fun a hK => ?_
          refine sl hK (by decide) rfl rfl (r_len_R Try.underlying44 h0_0 hK rfl) fun a hK => ?_
          refine sl hK (by decide) rfl rfl (r_move hK rfl) fun a hK => ?_
          refine sl hK (by decide) rfl rfl (r_len_R Try.underlying44 h1_0 hK rfl) fun a hK => ?_
          refine sl hK (by decide) rfl rfl (r_ibin hK rfl rfl rfl) fun a hK => ?_
          refine wpList_nil ?_
          refine wp_cond_split (hK.ev rfl) (fun (hb_144 : (decide ((a0.length : Int) > (a1.length : Int))) = true) => ?_) (fun (hb_144 : (decide ((a0.length : Int) > (a1.length : Int))) = false) => ?_)
          · rw [ifb_t hb_144] at H
            refine wp_seq ?_
            refine wp_region_lit ?_
            refine sl hK (by decide) rfl rfl (r_assign hK rfl) fun a hK => ?_
            refine wpList_nil ?_
            obtain rfl := Option.some.inj H
            refine wp_ret ?_
            repeat (first | refine ret_then ?_ | refine ret_block ?_ | refine ret_scope ?_)
            exact ret_1 Try.results31 hK (rv_tmp hK rfl) ⟨rfl, hS.bel⟩
          · rw [ifb_f hb_144] at H
            refine wp_skip ?_
            refine wp_seq ?_
            refine wp_region_lit ?_
            refine sl hK (by decide) rfl rfl (r_assign hK rfl) fun a hK => ?_
            refine wpList_nil ?_
            obtain rfl := Option.some.inj H
            refine wp_ret ?_
            repeat (first | refine ret_then ?_ | refine ret_block ?_ | refine ret_scope ?_)
            exact ret_1 Try.results31 hK (rv_tmp hK rfl) ⟨rfl, hS.bel⟩

/-! ### catchment/catchmentref02.Same: function 14 -/
set_option maxHeartbeats 4000000 in
set_option maxRecDepth 100000 in
theorem ref02_Same.calls (a0 : api_Table) (a1 : api_Table) {w0 : World} {RA : Hp} {v0_0 : Value} {v0_1 : Value} {v1_0 : Value} {v1_1 : Value} (hRA : RA.sub w0) (h0_0 : SlR ty_api_Col RA v0_0 a0.Cols) (h0_1 : SlR (tySl ty_api_Value) RA v0_1 a0.Rows) (h1_0 : SlR ty_api_Col RA v1_0 a1.Cols) (h1_1 : SlR (tySl ty_api_Value) RA v1_1 a1.Rows) {r : Bool} (H : ref02_Same a0 a1 = some r) : CallsV Try.prog 14 #[.agg #[v0_0, v0_1], .agg #[v1_0, v1_1]] w0 (.bool r) := by
  unfold ref02_Same at H
  refine enter (args := [.agg #[v0_0, v0_1], .agg #[v1_0, v1_1]]) Try.func14 rfl Try.ntmps14 rfl fun a hK => ?_
  have hS := St.init (R := fun _ => none) (w := w0) (fun _ _ h => by cases h)
  have hRL := RLe.refl (M := []) w0 (fun _ => none)
  refine wp_seq ?_
  refine wp_region_lit ?_
  refine sl_box hS hK (by decide) rfl rfl (c := [v0_0, v0_1]) rfl fun a w b_1 hS hK => ?_
  refine sl_box hS hK (by decide) rfl rfl (c := [v1_0, v1_1]) rfl fun a w b_2 hS hK => ?_
  refine sl hK (by decide) rfl rfl (r_assign hK rfl) fun a hK => ?_
  refine wpList_nil ?_
  refine wp_seq ?_
  refine wp_seq ?_
  refine wp_mid (fun a w => ∃ (x_6 : Bool), ref02_Same.j0 a0 a1 x_6 = some r ∧ Kn 40 a [(2, .pointer (some ⟨b_1, 0, none⟩)), (3, .pointer (some ⟨b_2, 0, none⟩)), (20, .bool x_6)] ∧ St [] w0 w (fun _ => none) [.cells b_1 [v0_0, v0_1] 25, .cells b_2 [v1_0, v1_1] 25]) ?_ ?_
  · refine wp_region_lit ?_
    refine sl hK (by decide) rfl rfl (r_fieldAddr Try.underlying25 rfl Try.sizeOf22 hK rfl) fun a hK => ?_
    refine sl hK (by decide) rfl rfl (r_load Try.isAgg22 hK rfl (hS.cell (.tail _ (.head _)) rfl)) fun a hK => ?_
    refine sl hK (by decide) rfl rfl (r_fieldAddr Try.underlying25 rfl Try.sizeOf22 hK rfl) fun a hK => ?_
    refine sl hK (by decide) rfl rfl (r_load Try.isAgg22 hK rfl (hS.cell (.head _) rfl)) fun a hK => ?_
    obtain ⟨y_8, h_9, H⟩ := bind_some H
    refine sl_callV Try.call30 hS hK (by decide) rfl rfl rfl (ref02_SameCols.calls a0.Cols a1.Cols (lentOf_sub [] _) (h0_0.mono (hS.raLe0 hRA nil_not)) (h1_0.mono (hS.raLe0 hRA nil_not)) h_9) fun a w hS hK => ?_
    refine sl hK (by decide) rfl rfl (r_un hK rfl (u_not _)) fun a hK => ?_
    refine sl hK (by decide) rfl rfl (r_move hK rfl) fun a hK => ?_
    rcases or_b (!y_8) with hb_10 | hb_10
    · rw [ifb_t hb_10] at H
      refine sl_skip hK (by decide) (wft hb_10) rfl fun a hK => ?_
      refine sl_skip hK (by decide) (wft hb_10) rfl fun a hK => ?_
      refine sl_skip hK (by decide) (wft hb_10) rfl fun a hK => ?_
      refine sl_skip hK (by decide) (wft hb_10) rfl fun a hK => ?_
      refine sl_skip hK (by decide) (wft hb_10) rfl fun a hK => ?_
      refine sl_skip hK (by decide) (wft hb_10) rfl fun a hK => ?_
      refine sl_skip hK (by decide) (wft hb_10) rfl fun a hK => ?_
      refine sl hK (by decide) rfl rfl (r_pick_t hb_10 hK rfl rfl) fun a hK => ?_
      refine wpList_nil ?_
      have hS := hS.pk1
      exact ⟨true, H, hK.sub (all_cons rfl (all_cons rfl (all_cons rfl (all_nil)))), hS⟩
    · rw [ifb_f hb_10] at H
      refine sl hK (by decide) (wff hb_10) rfl (r_fieldAddr Try.underlying25 rfl Try.sizeOf23 hK rfl) fun a hK => ?_
      refine sl hK (by decide) (wff hb_10) rfl (r_load Try.isAgg23 hK rfl (hS.cell (.tail _ (.head _)) rfl)) fun a hK => ?_
      refine sl hK (by decide) (wff hb_10) rfl (r_len_R Try.underlying23 h0_1 hK rfl) fun a hK => ?_
      refine sl hK (by decide) (wff hb_10) rfl (r_fieldAddr Try.underlying25 rfl Try.sizeOf23 hK rfl) fun a hK => ?_
      refine sl hK (by decide) (wff hb_10) rfl (r_load Try.isAgg23 hK rfl (hS.cell (.head _) rfl)) fun a hK => ?_
      refine sl hK (by decide) (wff hb_10) rfl (r_len_R Try.underlying23 h1_1 hK rfl) fun a hK => ?_
      refine sl hK (by decide) (wff hb_10) rfl (r_ibin hK rfl rfl rfl) fun a hK => ?_
      refine sl hK (by decide) rfl rfl (r_pick_f hb_10 hK rfl rfl) fun a hK => ?_
      refine wpList_nil ?_
      have hS := hS.pk1
      exact ⟨((a0.Rows.length : Int) != (a1.Rows.length : Int)), H, hK.sub (all_cons rfl (all_cons rfl (all_cons rfl (all_nil)))), hS⟩
  · rintro a w ⟨x_6, H, hK, hS⟩
    unfold ref02_Same.j0 at H
    refine wp_cond_split (hK.ev rfl) (fun (hb_11 : x_6 = true) => ?_) (fun (hb_11 : x_6 = false) => ?_)
    · rw [ifb_t hb_11] at H
      refine wp_seq ?_
      refine wp_region_lit ?_
      refine sl hK (by decide) rfl rfl (r_assign hK rfl) fun a hK => ?_
      refine wpList_nil ?_
      obtain rfl := Option.some.inj H
      refine wp_ret ?_
      repeat (first | refine ret_then ?_ | refine ret_block ?_ | refine ret_scope ?_)
      exact ret_1 Try.results14 hK (rv_tmp hK rfl) ⟨rfl, hS.bel⟩
    · rw [ifb_f hb_11] at H
      refine wp_skip ?_
      refine wp_seq ?_
      refine wp_seq ?_
      refine wp_region_lit ?_
      refine sl hK (by decide) rfl rfl (r_assign hK rfl) fun a hK => ?_
      refine wpList_nil ?_
      refine wp_block ?_
      refine wp_loop_k (fun k_l1 a w => ∃ (x_63 : Int), ref02_Same.l1 a0 a1 k_l1 x_63 = some r ∧ Kn 40 a [(2, .pointer (some ⟨b_1, 0, none⟩)), (3, .pointer (some ⟨b_2, 0, none⟩)), (5, .int .i64 x_63)] ∧ St [] w0 w (fun _ => none) [.cells b_1 [v0_0, v0_1] 25, .cells b_2 [v1_0, v1_1] 25]) (((a0.Rows.length : Int) - 0).toNat + 1) ?_ ?_
      · have hS := hS.pk1
        have hS := hS.pk1
        exact ⟨0, H, hK.sub (all_cons rfl (all_cons rfl (all_cons rfl (all_nil)))), hS⟩
      · rintro k_l1 a w ⟨x_63, H, hK, hS⟩
        cases k_l1 with
        | zero => cases H
        | succ k_l1 =>
        rw [ref02_Same.l1.eq_2] at H
        refine wp_seq ?_
        refine wp_seq ?_
        refine wp_region_lit ?_
        refine sl hK (by decide) rfl rfl (r_move hK rfl) fun a hK => ?_
        refine sl hK (by decide) rfl rfl (r_fieldAddr Try.underlying25 rfl Try.sizeOf23 hK rfl) fun a hK => ?_
        refine sl hK (by decide) rfl rfl (r_load Try.isAgg23 hK rfl (hS.cell (.head _) rfl)) fun a hK => ?_
        refine sl hK (by decide) rfl rfl (r_len_R Try.underlying23 h0_1 hK rfl) fun a hK => ?_
        refine sl hK (by decide) rfl rfl (r_ibin hK rfl rfl rfl) fun a hK => ?_
        refine wpList_nil ?_
        refine wp_cond_split (hK.ev rfl) (fun (hb_115 : (decide (x_63 < (a0.Rows.length : Int))) = true) => ?_) (fun (hb_115 : (decide (x_63 < (a0.Rows.length : Int))) = false) => ?_)
        · rw [ifb_t hb_115] at H
          refine wp_skip ?_
          refine wp_seq ?_
          refine wp_block ?_
          refine wp_seq ?_
          refine parT_region (C := fun w => St [] w0 w (fun _ => none) [.cells b_1 [v0_0, v0_1] 25, .cells b_2 [v1_0, v1_1] 25]) 10 [(0, true), (1, true), (2, true), (3, true), (4, true), (5, true), (6, true), (7, true), (8, true), (9, true)] mixed (by kernel_rfl) hS (fun w hS => hS) fun w hS => ?_
          refine sp (k := 0) rfl hK (by decide) rfl rfl (fun w hS => r_fieldAddr Try.underlying25 rfl Try.sizeOf23 hK rfl) fun a hK => ?_
          refine sp (k := 1) rfl hK (by decide) rfl rfl (fun w hS => r_load Try.isAgg23 hK rfl (hS.cell (.head _) rfl)) fun a hK => ?_
          refine sp (k := 2) rfl hK (by decide) rfl rfl (fun w hS => r_move hK rfl) fun a hK => ?_
          obtain ⟨y_140, h_141, H⟩ := bind_some H
          obtain ⟨b_142, o_143, c_144, cs_145, hv_146, hr_147, hc_148, h_1410, h_1411⟩ := h0_1.ix h_141
          obtain ⟨v_149, rfl, hs_150⟩ := hr_147
          refine sp (k := 3) rfl hK (by decide) rfl rfl (fun w hS => r_indexAddr_R Try.underlying23 Try.sizeOf44 hv_146 h_1410 h_1411 hK rfl rfl) fun a hK => ?_
          refine sp (k := 4) rfl hK (by decide) rfl rfl (fun w hS => r_load Try.isAgg44 hK rfl ((hS.ra hRA nil_not).cell (hc_148 0 _ rfl))) fun a hK => ?_
          refine sp (k := 5) rfl hK (by decide) rfl rfl (fun w hS => r_fieldAddr Try.underlying25 rfl Try.sizeOf23 hK rfl) fun a hK => ?_
          refine sp (k := 6) rfl hK (by decide) rfl rfl (fun w hS => r_load Try.isAgg23 hK rfl (hS.cell (.tail _ (.head _)) rfl)) fun a hK => ?_
          refine sp (k := 7) rfl hK (by decide) rfl rfl (fun w hS => r_move hK rfl) fun a hK => ?_
          obtain ⟨y_151, h_152, H⟩ := bind_some H
          obtain ⟨b_153, o_154, c_155, cs_156, hv_157, hr_158, hc_159, h_1520, h_1521⟩ := h1_1.ix h_152
          obtain ⟨v_160, rfl, hs_161⟩ := hr_158
          refine sp (k := 8) rfl hK (by decide) rfl rfl (fun w hS => r_indexAddr_R Try.underlying23 Try.sizeOf44 hv_157 h_1520 h_1521 hK rfl rfl) fun a hK => ?_
          refine sp (k := 9) rfl hK (by decide) rfl rfl (fun w hS => r_load Try.isAgg44 hK rfl ((hS.ra hRA nil_not).cell (hc_159 0 _ rfl))) fun a hK => ?_
          refine thenL_nil ?_
          obtain ⟨y_162, h_163, H⟩ := bind_some H
          refine sl_callV Try.call31 hS hK (by decide) rfl rfl rfl (ref02_Row.calls y_140 y_151 (lentOf_sub [] _) (hs_150.mono (hS.raLe0 hRA nil_not)) (hs_161.mono (hS.raLe0 hRA nil_not)) h_163) fun a w hS hK => ?_
          refine sl hK (by decide) rfl rfl (r_ibin hK rfl rfl rfl) fun a hK => ?_
          refine wpList_nil (NoP_nil ?_)
          refine wp_cond_split (hK.ev rfl) (fun (hb_164 : (y_162 != 0) = true) => ?_) (fun (hb_164 : (y_162 != 0) = false) => ?_)
          · rw [ifb_t hb_164] at H
            refine wp_seq ?_
            refine wp_region_lit ?_
            refine sl hK (by decide) rfl rfl (r_assign hK rfl) fun a hK => ?_
            refine wpList_nil ?_
            obtain rfl := Option.some.inj H
            refine wp_ret ?_
            repeat (first | refine ret_then ?_ | refine ret_block ?_ | refine ret_scope ?_)
            exact ret_1 Try.results14 hK (rv_tmp hK rfl) ⟨rfl, hS.bel⟩
          · rw [ifb_f hb_164] at H
            refine wp_skip ?_
            refine wp_region_lit ?_
            refine sl hK (by decide) rfl rfl (r_move hK rfl) fun a hK => ?_
            refine sl hK (by decide) rfl rfl (r_ibin hK rfl rfl rfl) fun a hK => ?_
            refine sl hK (by decide) rfl rfl (r_assign hK rfl) fun a hK => ?_
            refine wpList_nil ?_
            have hS := hS.pk1
            have hS := hS.pk1
            exact ⟨_, Nat.lt_succ_self _, (IntKind.i64.wrap (x_63 + 1)), H, hK.sub (all_cons rfl (all_cons rfl (all_cons rfl (all_nil)))), hS⟩
        · rw [ifb_f hb_115] at H
          refine wp_exit ?_
          refine wp_seq ?_
          refine wp_region_lit ?_
          refine sl hK (by decide) rfl rfl (r_assign hK rfl) fun a hK => ?_
          refine wpList_nil ?_
          obtain rfl := Option.some.inj H
          refine wp_ret ?_
          repeat (first | refine ret_then ?_ | refine ret_block ?_ | refine ret_scope ?_)
          exact ret_1 Try.results14 hK (rv_tmp hK rfl) ⟨rfl, hS.bel⟩

/-! ### catchment/catchmentlaw16.shown: function 9 -/
set_option maxHeartbeats 4000000 in
set_option maxRecDepth 100000 in
theorem law16_shown.calls {r : Bool} (H : law16_shown  = some r) (w0 : World) : CallsV Try.prog 9 #[] w0 (.bool r) := by
  unfold law16_shown at H
  refine enter (args := []) Try.func9 rfl Try.ntmps9 rfl fun a hK => ?_
  have hS := St.init (R := fun _ => none) (w := w0) (fun _ _ h => by cases h)
  have hRL := RLe.refl (M := []) w0 (fun _ => none)
  refine wp_seq ?_
  refine wp_region_lit ?_
  refine sl hK (by decide) rfl rfl (r_assign hK rfl) fun a hK => ?_
  refine wpList_nil ?_
  refine wp_seq ?_
  refine wp_region_lit ?_
  refine sl_buildSliceF (zc := [.int .i64 0]) (ps := [(0, .int .i64 (-1)), (1, .int .i64 0), (2, .int .i64 25), (3, .int .i64 1)]) (c := [.int .i64 (-1), .int .i64 0, .int .i64 25, .int .i64 1]) [[.int .i64 (-1)], [.int .i64 0], [.int .i64 25], [.int .i64 1]] Try.underlying47 Try.sizeOf3 Try.zeroValue3 rfl (pc_cons rfl (pc_cons rfl (pc_cons rfl (pc_cons rfl pc_nil)))) rfl rfl (Nat.le_of_ble_eq_true rfl) rfl (all_cons rfl (all_cons rfl (all_cons rfl (all_cons rfl (all_nil))))) rfl hS hK (by decide) rfl fun a w b_1 hS hK => ?_
  obtain ⟨y_2, h_3, H⟩ := bind_some H
  refine sl_call Try.call20 hK (by decide) rfl rfl rfl (law16_pairs.calls [(-1), 0, 25, 1] (lentOf_sub [] _) hS.sub (hS.lend_lit0 (ty := (tyInt .i64)) (xs := [(-1), 0, 25, 1]) (.head _) (Reps.cons (show Ty.rep (tyInt .i64) _ [.int .i64 (-1)] (-1) from rfl) (Reps.cons (show Ty.rep (tyInt .i64) _ [.int .i64 0] 0 from rfl) (Reps.cons (show Ty.rep (tyInt .i64) _ [.int .i64 25] 25 from rfl) (Reps.cons (show Ty.rep (tyInt .i64) _ [.int .i64 1] 1 from rfl) (Reps.nil _ _))))) rfl) h_3) fun a v_ w hv_ hK => ?_
  obtain ⟨R_4, v_7, cs_8, v_11, cs_12, hv_, hr_, hl_5, hq_9, hq_13⟩ := hv_
  have hv_ := hv_.symm
  subst hv_
  obtain ⟨hS, hl_5⟩ := hS.sp0.back hr_ hl_5
  have hS := hS.un2
  have hRL := hRL.trans hl_5
  obtain ⟨y_14, h_15, H⟩ := bind_some H
  refine sl_call Try.call12 hK (by decide) rfl rfl rfl (rowops_Align.calls y_2 10 (lentOf_sub [] _) hS.sub (hS.lend_row0 (.head _) hq_9 rfl rfl) (hS.lend_row0 (.tail _ (.head _)) hq_13 rfl rfl) h_15) fun a v_ w hv_ hK => ?_
  obtain ⟨R_16, v_19, cs_20, v_23, cs_24, hv_, hr_, hl_17, hq_21, hq_25⟩ := hv_
  have hv_ := hv_.symm
  subst hv_
  obtain ⟨hS, hl_17⟩ := hS.sp0.back hr_ hl_17
  have hS := hS.un2
  have hRL := hRL.trans hl_17
  refine sl hK (by decide) rfl rfl (r_move hK rfl) fun a hK => ?_
  refine sl hK (by decide) rfl rfl (r_extract hK rfl rfl) fun a hK => ?_
  refine sl hK (by decide) rfl rfl (r_extract hK rfl rfl) fun a hK => ?_
  refine sl_alloc Try.zeroValue25 hS hK (by decide) rfl rfl fun a w b_26 hS hK => ?_
  refine sl_storeA (vs := [v_19, v_23]) (c' := [v_19, v_23]) Try.sizeOf25 hS hK rfl rfl rfl rfl (all_cons (hS.row_one (.tail _ (.head _))) (all_cons (hS.row_one (.tail _ (.tail _ (.head _)))) (all_nil))) (Nat.le_of_ble_eq_true rfl) rfl fun a w hS hK => ?_
  refine sl hK (by decide) rfl rfl (r_assign hK rfl) fun a hK => ?_
  refine wpList_nil ?_
  refine wp_seq ?_
  refine wp_region_lit ?_
  refine sl_buildSliceF (zc := [.int .i64 0]) (ps := [(0, .int .i64 1), (1, .int .i64 5), (2, .int .i64 2), (3, .int .i64 7), (4, .int .i64 3), (5, .int .i64 7)]) (c := [.int .i64 1, .int .i64 5, .int .i64 2, .int .i64 7, .int .i64 3, .int .i64 7]) [[.int .i64 1], [.int .i64 5], [.int .i64 2], [.int .i64 7], [.int .i64 3], [.int .i64 7]] Try.underlying47 Try.sizeOf3 Try.zeroValue3 rfl (pc_cons rfl (pc_cons rfl (pc_cons rfl (pc_cons rfl (pc_cons rfl (pc_cons rfl pc_nil)))))) rfl rfl (Nat.le_of_ble_eq_true rfl) rfl (all_cons rfl (all_cons rfl (all_cons rfl (all_cons rfl (all_cons rfl (all_cons rfl (all_nil))))))) rfl hS hK (by decide) rfl fun a w b_27 hS hK => ?_
  obtain ⟨y_28, h_29, H⟩ := bind_some H
  refine sl_call Try.call20 hK (by decide) rfl rfl rfl (law16_pairs.calls [1, 5, 2, 7, 3, 7] (lentOf_sub [] _) hS.sub (hS.lend_lit0 (ty := (tyInt .i64)) (xs := [1, 5, 2, 7, 3, 7]) (.head _) (Reps.cons (show Ty.rep (tyInt .i64) _ [.int .i64 1] 1 from rfl) (Reps.cons (show Ty.rep (tyInt .i64) _ [.int .i64 5] 5 from rfl) (Reps.cons (show Ty.rep (tyInt .i64) _ [.int .i64 2] 2 from rfl) (Reps.cons (show Ty.rep (tyInt .i64) _ [.int .i64 7] 7 from rfl) (Reps.cons (show Ty.rep (tyInt .i64) _ [.int .i64 3] 3 from rfl) (Reps.cons (show Ty.rep (tyInt .i64) _ [.int .i64 7] 7 from rfl) (Reps.nil _ _))))))) rfl) h_29) fun a v_ w hv_ hK => ?_
  obtain ⟨R_30, v_33, cs_34, v_37, cs_38, hv_, hr_, hl_31, hq_35, hq_39⟩ := hv_
  have hv_ := hv_.symm
  subst hv_
  obtain ⟨hS, hl_31⟩ := hS.sp0.back hr_ hl_31
  have hS := hS.un2
  have hRL := hRL.trans hl_31
  obtain ⟨y_40, h_41, H⟩ := bind_some H
  refine sl_call Try.call15 hK (by decide) rfl rfl rfl (rowops_Top.calls y_28 2 (⟨#[110]⟩ : ByteArray) (lentOf_sub [] _) hS.sub (hS.lend_row0 (.head _) hq_35 rfl rfl) (hS.lend_row0 (.tail _ (.head _)) hq_39 rfl rfl) h_41) fun a v_ w hv_ hK => ?_
  obtain ⟨R_42, v_45, cs_46, v_49, cs_50, hv_, hr_, hl_43, hq_47, hq_51⟩ := hv_
  have hv_ := hv_.symm
  subst hv_
  obtain ⟨hS, hl_43⟩ := hS.sp0.back hr_ hl_43
  have hS := hS.un2
  have hRL := hRL.trans hl_43
  refine sl hK (by decide) rfl rfl (r_move hK rfl) fun a hK => ?_
  refine sl hK (by decide) rfl rfl (r_extract hK rfl rfl) fun a hK => ?_
  refine sl hK (by decide) rfl rfl (r_extract hK rfl rfl) fun a hK => ?_
  refine sl_alloc Try.zeroValue25 hS hK (by decide) rfl rfl fun a w b_52 hS hK => ?_
  refine sl_storeA (vs := [v_45, v_49]) (c' := [v_45, v_49]) Try.sizeOf25 hS hK rfl rfl rfl rfl (all_cons (hS.row_one (.tail _ (.head _))) (all_cons (hS.row_one (.tail _ (.tail _ (.head _)))) (all_nil))) (Nat.le_of_ble_eq_true rfl) rfl fun a w hS hK => ?_
  refine sl hK (by decide) rfl rfl (r_assign hK rfl) fun a hK => ?_
  refine wpList_nil ?_
  refine wp_seq ?_
  refine wp_region_lit ?_
  refine sl_buildSliceF (zc := [.int .i64 0]) (ps := [(0, .int .i64 1), (1, .int .i64 5)]) (c := [.int .i64 1, .int .i64 5]) [[.int .i64 1], [.int .i64 5]] Try.underlying47 Try.sizeOf3 Try.zeroValue3 rfl (pc_cons rfl (pc_cons rfl pc_nil)) rfl rfl (Nat.le_of_ble_eq_true rfl) rfl (all_cons rfl (all_cons rfl (all_nil))) rfl hS hK (by decide) rfl fun a w b_53 hS hK => ?_
  obtain ⟨y_54, h_55, H⟩ := bind_some H
  refine sl_call Try.call20 hK (by decide) rfl rfl rfl (law16_pairs.calls [1, 5] (lentOf_sub [] _) hS.sub (hS.lend_lit0 (ty := (tyInt .i64)) (xs := [1, 5]) (.head _) (Reps.cons (show Ty.rep (tyInt .i64) _ [.int .i64 1] 1 from rfl) (Reps.cons (show Ty.rep (tyInt .i64) _ [.int .i64 5] 5 from rfl) (Reps.nil _ _))) rfl) h_55) fun a v_ w hv_ hK => ?_
  obtain ⟨R_56, v_59, cs_60, v_63, cs_64, hv_, hr_, hl_57, hq_61, hq_65⟩ := hv_
  have hv_ := hv_.symm
  subst hv_
  obtain ⟨hS, hl_57⟩ := hS.sp0.back hr_ hl_57
  have hS := hS.un2
  have hRL := hRL.trans hl_57
  obtain ⟨y_66, h_67, H⟩ := bind_some H
  refine sl_call Try.call15 hK (by decide) rfl rfl rfl (rowops_Top.calls y_54 0 (⟨#[110]⟩ : ByteArray) (lentOf_sub [] _) hS.sub (hS.lend_row0 (.head _) hq_61 rfl rfl) (hS.lend_row0 (.tail _ (.head _)) hq_65 rfl rfl) h_67) fun a v_ w hv_ hK => ?_
  obtain ⟨R_68, v_71, cs_72, v_75, cs_76, hv_, hr_, hl_69, hq_73, hq_77⟩ := hv_
  have hv_ := hv_.symm
  subst hv_
  obtain ⟨hS, hl_69⟩ := hS.sp0.back hr_ hl_69
  have hS := hS.un2
  have hRL := hRL.trans hl_69
  refine sl hK (by decide) rfl rfl (r_move hK rfl) fun a hK => ?_
  refine sl hK (by decide) rfl rfl (r_extract hK rfl rfl) fun a hK => ?_
  refine sl hK (by decide) rfl rfl (r_extract hK rfl rfl) fun a hK => ?_
  refine sl_alloc Try.zeroValue25 hS hK (by decide) rfl rfl fun a w b_78 hS hK => ?_
  refine sl_storeA (vs := [v_71, v_75]) (c' := [v_71, v_75]) Try.sizeOf25 hS hK rfl rfl rfl rfl (all_cons (hS.row_one (.tail _ (.head _))) (all_cons (hS.row_one (.tail _ (.tail _ (.head _)))) (all_nil))) (Nat.le_of_ble_eq_true rfl) rfl fun a w hS hK => ?_
  refine sl hK (by decide) rfl rfl (r_assign hK rfl) fun a hK => ?_
  refine wpList_nil ?_
  refine wp_seq ?_
  refine wp_region_lit ?_
  refine sl_buildSliceF (zc := [.int .i64 0]) (ps := [(0, .int .i64 1), (1, .int .i64 5)]) (c := [.int .i64 1, .int .i64 5]) [[.int .i64 1], [.int .i64 5]] Try.underlying47 Try.sizeOf3 Try.zeroValue3 rfl (pc_cons rfl (pc_cons rfl pc_nil)) rfl rfl (Nat.le_of_ble_eq_true rfl) rfl (all_cons rfl (all_cons rfl (all_nil))) rfl hS hK (by decide) rfl fun a w b_79 hS hK => ?_
  obtain ⟨y_80, h_81, H⟩ := bind_some H
  refine sl_call Try.call20 hK (by decide) rfl rfl rfl (law16_pairs.calls [1, 5] (lentOf_sub [] _) hS.sub (hS.lend_lit0 (ty := (tyInt .i64)) (xs := [1, 5]) (.head _) (Reps.cons (show Ty.rep (tyInt .i64) _ [.int .i64 1] 1 from rfl) (Reps.cons (show Ty.rep (tyInt .i64) _ [.int .i64 5] 5 from rfl) (Reps.nil _ _))) rfl) h_81) fun a v_ w hv_ hK => ?_
  obtain ⟨R_82, v_85, cs_86, v_89, cs_90, hv_, hr_, hl_83, hq_87, hq_91⟩ := hv_
  have hv_ := hv_.symm
  subst hv_
  obtain ⟨hS, hl_83⟩ := hS.sp0.back hr_ hl_83
  have hS := hS.un2
  have hRL := hRL.trans hl_83
  obtain ⟨y_92, h_93, H⟩ := bind_some H
  refine sl_call Try.call15 hK (by decide) rfl rfl rfl (rowops_Top.calls y_80 1 (⟨#[120]⟩ : ByteArray) (lentOf_sub [] _) hS.sub (hS.lend_row0 (.head _) hq_87 rfl rfl) (hS.lend_row0 (.tail _ (.head _)) hq_91 rfl rfl) h_93) fun a v_ w hv_ hK => ?_
  obtain ⟨R_94, v_97, cs_98, v_101, cs_102, hv_, hr_, hl_95, hq_99, hq_103⟩ := hv_
  have hv_ := hv_.symm
  subst hv_
  obtain ⟨hS, hl_95⟩ := hS.sp0.back hr_ hl_95
  have hS := hS.un2
  have hRL := hRL.trans hl_95
  refine sl hK (by decide) rfl rfl (r_move hK rfl) fun a hK => ?_
  refine sl hK (by decide) rfl rfl (r_extract hK rfl rfl) fun a hK => ?_
  refine sl hK (by decide) rfl rfl (r_extract hK rfl rfl) fun a hK => ?_
  refine sl_alloc Try.zeroValue25 hS hK (by decide) rfl rfl fun a w b_104 hS hK => ?_
  refine sl_storeA (vs := [v_97, v_101]) (c' := [v_97, v_101]) Try.sizeOf25 hS hK rfl rfl rfl rfl (all_cons (hS.row_one (.tail _ (.head _))) (all_cons (hS.row_one (.tail _ (.tail _ (.head _)))) (all_nil))) (Nat.le_of_ble_eq_true rfl) rfl fun a w hS hK => ?_
  refine sl hK (by decide) rfl rfl (r_assign hK rfl) fun a hK => ?_
  refine wpList_nil ?_
  refine wp_seq ?_
  refine wp_region_lit ?_
  refine sl_buildSliceF (zc := [.int .i64 0]) (ps := [(0, .int .i64 1), (1, .int .i64 5)]) (c := [.int .i64 1, .int .i64 5]) [[.int .i64 1], [.int .i64 5]] Try.underlying47 Try.sizeOf3 Try.zeroValue3 rfl (pc_cons rfl (pc_cons rfl pc_nil)) rfl rfl (Nat.le_of_ble_eq_true rfl) rfl (all_cons rfl (all_cons rfl (all_nil))) rfl hS hK (by decide) rfl fun a w b_105 hS hK => ?_
  obtain ⟨y_106, h_107, H⟩ := bind_some H
  refine sl_call Try.call20 hK (by decide) rfl rfl rfl (law16_pairs.calls [1, 5] (lentOf_sub [] _) hS.sub (hS.lend_lit0 (ty := (tyInt .i64)) (xs := [1, 5]) (.head _) (Reps.cons (show Ty.rep (tyInt .i64) _ [.int .i64 1] 1 from rfl) (Reps.cons (show Ty.rep (tyInt .i64) _ [.int .i64 5] 5 from rfl) (Reps.nil _ _))) rfl) h_107) fun a v_ w hv_ hK => ?_
  obtain ⟨R_108, v_111, cs_112, v_115, cs_116, hv_, hr_, hl_109, hq_113, hq_117⟩ := hv_
  have hv_ := hv_.symm
  subst hv_
  obtain ⟨hS, hl_109⟩ := hS.sp0.back hr_ hl_109
  have hS := hS.un2
  have hRL := hRL.trans hl_109
  obtain ⟨y_118, h_119, H⟩ := bind_some H
  refine sl_call Try.call12 hK (by decide) rfl rfl rfl (rowops_Align.calls y_106 0 (lentOf_sub [] _) hS.sub (hS.lend_row0 (.head _) hq_113 rfl rfl) (hS.lend_row0 (.tail _ (.head _)) hq_117 rfl rfl) h_119) fun a v_ w hv_ hK => ?_
  obtain ⟨R_120, v_123, cs_124, v_127, cs_128, hv_, hr_, hl_121, hq_125, hq_129⟩ := hv_
  have hv_ := hv_.symm
  subst hv_
  obtain ⟨hS, hl_121⟩ := hS.sp0.back hr_ hl_121
  have hS := hS.un2
  have hRL := hRL.trans hl_121
  refine sl hK (by decide) rfl rfl (r_move hK rfl) fun a hK => ?_
  refine sl hK (by decide) rfl rfl (r_extract hK rfl rfl) fun a hK => ?_
  refine sl hK (by decide) rfl rfl (r_extract hK rfl rfl) fun a hK => ?_
  refine sl_alloc Try.zeroValue25 hS hK (by decide) rfl rfl fun a w b_130 hS hK => ?_
  refine sl_storeA (vs := [v_123, v_127]) (c' := [v_123, v_127]) Try.sizeOf25 hS hK rfl rfl rfl rfl (all_cons (hS.row_one (.tail _ (.head _))) (all_cons (hS.row_one (.tail _ (.tail _ (.head _)))) (all_nil))) (Nat.le_of_ble_eq_true rfl) rfl fun a w hS hK => ?_
  refine sl hK (by decide) rfl rfl (r_assign hK rfl) fun a hK => ?_
  refine wpList_nil ?_
  refine wp_seq ?_
  refine parT_region (C := fun w => St [] w0 w R_120 [.cells b_130 [v_123, v_127] 25, .row 38 2 v_123 y_118.1.Cols.length cs_124, .row 44 1 v_127 y_118.1.Rows.length cs_128, .row 38 2 v_111 y_106.Cols.length cs_112, .row 44 1 v_115 y_106.Rows.length cs_116, .cells b_105 [.int .i64 1, .int .i64 5] 3, .cells b_104 [v_97, v_101] 25, .row 38 2 v_97 y_92.1.Cols.length cs_98, .row 44 1 v_101 y_92.1.Rows.length cs_102, .row 38 2 v_85 y_80.Cols.length cs_86, .row 44 1 v_89 y_80.Rows.length cs_90, .cells b_79 [.int .i64 1, .int .i64 5] 3, .cells b_78 [v_71, v_75] 25, .row 38 2 v_71 y_66.1.Cols.length cs_72, .row 44 1 v_75 y_66.1.Rows.length cs_76, .row 38 2 v_59 y_54.Cols.length cs_60, .row 44 1 v_63 y_54.Rows.length cs_64, .cells b_53 [.int .i64 1, .int .i64 5] 3, .cells b_52 [v_45, v_49] 25, .row 38 2 v_45 y_40.1.Cols.length cs_46, .row 44 1 v_49 y_40.1.Rows.length cs_50, .row 38 2 v_33 y_28.Cols.length cs_34, .row 44 1 v_37 y_28.Rows.length cs_38, .cells b_27 [.int .i64 1, .int .i64 5, .int .i64 2, .int .i64 7, .int .i64 3, .int .i64 7] 3, .cells b_26 [v_19, v_23] 25, .row 38 2 v_19 y_14.1.Cols.length cs_20, .row 44 1 v_23 y_14.1.Rows.length cs_24, .row 38 2 v_7 y_2.Cols.length cs_8, .row 44 1 v_11 y_2.Rows.length cs_12, .cells b_1 [.int .i64 (-1), .int .i64 0, .int .i64 25, .int .i64 1] 3]) 3 [(0, true), (1, false), (2, false)] mixed (by kernel_rfl) hS (fun w hS => hS) fun w hS => ?_
  refine sp (k := 0) rfl hK (by decide) rfl rfl (fun w hS => r_loadA (cs := [v_19, v_23]) Try.isAgg25 Try.sizeOf25 rfl hK rfl (hS.cells_of (m := 2) (.tail _ (.tail _ (.tail _ (.tail _ (.tail _ (.tail _ (.tail _ (.tail _ (.tail _ (.tail _ (.tail _ (.tail _ (.tail _ (.tail _ (.tail _ (.tail _ (.tail _ (.tail _ (.tail _ (.tail _ (.tail _ (.tail _ (.tail _ (.tail _ (.head _))))))))))))))))))))))))) rfl)) fun a hK => ?_
  refine spw (k := 1) rfl rfl hS ?_
  refine sl_buildSliceF (zc := [.int .i64 0]) (ps := [(0, .int .i64 (-10)), (1, .int .i64 0), (2, .int .i64 20), (3, .int .i64 1)]) (c := [.int .i64 (-10), .int .i64 0, .int .i64 20, .int .i64 1]) [[.int .i64 (-10)], [.int .i64 0], [.int .i64 20], [.int .i64 1]] Try.underlying47 Try.sizeOf3 Try.zeroValue3 rfl (pc_cons rfl (pc_cons rfl (pc_cons rfl (pc_cons rfl pc_nil)))) rfl rfl (Nat.le_of_ble_eq_true rfl) rfl (all_cons rfl (all_cons rfl (all_cons rfl (all_cons rfl (all_nil))))) rfl hS hK (by decide) rfl fun a w b_146 hS hK => ?_
  refine parK_nil (hS.pk30.pk30.pk30.pk30.pk30.pk30.pk30.pk30.pk30.pk30.pk30.pk30.pk30.pk30.pk30.pk30.pk30.pk30.pk30.pk30.pk30.pk30.pk30.pk30.pk30.pk30.pk30.pk30.pk30.pk30.trunc 30) ?_
  refine spw (k := 2) rfl rfl (hS.pk30.pk30.pk30.pk30.pk30.pk30.pk30.pk30.pk30.pk30.pk30.pk30.pk30.pk30.pk30.pk30.pk30.pk30.pk30.pk30.pk30.pk30.pk30.pk30.pk30.pk30.pk30.pk30.pk30.pk30.trunc 30) ?_
  obtain ⟨y_147, h_148, H⟩ := bind_some H
  refine sl_call Try.call20 hK (by decide) rfl rfl rfl (law16_pairs.calls [(-10), 0, 20, 1] (lentOf_sub [] _) hS.sub (hS.lend_lit0 (ty := (tyInt .i64)) (xs := [(-10), 0, 20, 1]) (.head _) (Reps.cons (show Ty.rep (tyInt .i64) _ [.int .i64 (-10)] (-10) from rfl) (Reps.cons (show Ty.rep (tyInt .i64) _ [.int .i64 0] 0 from rfl) (Reps.cons (show Ty.rep (tyInt .i64) _ [.int .i64 20] 20 from rfl) (Reps.cons (show Ty.rep (tyInt .i64) _ [.int .i64 1] 1 from rfl) (Reps.nil _ _))))) rfl) h_148) fun a v_ w hv_ hK => ?_
  obtain ⟨R_149, v_152, cs_153, v_156, cs_157, hv_, hr_, hl_150, hq_154, hq_158⟩ := hv_
  have hv_ := hv_.symm
  subst hv_
  obtain ⟨hS, hl_150⟩ := hS.sp0.back hr_ hl_150
  have hS := hS.un2
  have hRL := hRL.trans hl_150
  refine parK_nil ((hS.pk32.pk32.pk32.pk32.pk32.pk32.pk32.pk32.pk32.pk32.pk32.pk32.pk32.pk32.pk32.pk32.pk32.pk32.pk32.pk32.pk32.pk32.pk32.pk32.pk32.pk32.pk32.pk32.pk32.pk32.trunc 30).lower hl_150.le) ?_
  refine thenL_nil ?_
  obtain ⟨y_159, h_160, H⟩ := bind_some H
  refine sl_callV Try.call14 hS hK (by decide) rfl rfl rfl (ref02_Same.calls y_14.1 y_147 (lentOf_sub [] _) (hS.lend_row0 (.tail _ (.tail _ (.tail _ (.tail _ (.tail _ (.tail _ (.tail _ (.tail _ (.tail _ (.tail _ (.tail _ (.tail _ (.tail _ (.tail _ (.tail _ (.tail _ (.tail _ (.tail _ (.tail _ (.tail _ (.tail _ (.tail _ (.tail _ (.tail _ (.tail _ (.tail _ (.tail _ (.tail _ (.head _))))))))))))))))))))))))))))) (hq_21.mono (hl_31.le.trans (hl_43.le.trans (hl_57.le.trans (hl_69.le.trans (hl_83.le.trans (hl_95.le.trans (hl_109.le.trans (hl_121.le.trans hl_150.le))))))))) rfl rfl) (hS.lend_row0 (.tail _ (.tail _ (.tail _ (.tail _ (.tail _ (.tail _ (.tail _ (.tail _ (.tail _ (.tail _ (.tail _ (.tail _ (.tail _ (.tail _ (.tail _ (.tail _ (.tail _ (.tail _ (.tail _ (.tail _ (.tail _ (.tail _ (.tail _ (.tail _ (.tail _ (.tail _ (.tail _ (.tail _ (.tail _ (.head _)))))))))))))))))))))))))))))) (hq_25.mono (hl_31.le.trans (hl_43.le.trans (hl_57.le.trans (hl_69.le.trans (hl_83.le.trans (hl_95.le.trans (hl_109.le.trans (hl_121.le.trans hl_150.le))))))))) rfl rfl) (hS.lend_row0 (.head _) hq_154 rfl rfl) (hS.lend_row0 (.tail _ (.head _)) hq_158 rfl rfl) h_160) fun a w hS hK => ?_
  refine sl hK (by decide) rfl rfl (r_assign hK rfl) fun a hK => ?_
  refine wpList_nil (NoP_nil ?_)
  refine wp_seq ?_
  refine parT_region (C := fun w => St [] w0 w R_149 [.row 38 2 v_152 y_147.Cols.length cs_153, .row 44 1 v_156 y_147.Rows.length cs_157, .cells b_146 [.int .i64 (-10), .int .i64 0, .int .i64 20, .int .i64 1] 3, .cells b_130 [v_123, v_127] 25, .row 38 2 v_123 y_118.1.Cols.length cs_124, .row 44 1 v_127 y_118.1.Rows.length cs_128, .row 38 2 v_111 y_106.Cols.length cs_112, .row 44 1 v_115 y_106.Rows.length cs_116, .cells b_105 [.int .i64 1, .int .i64 5] 3, .cells b_104 [v_97, v_101] 25, .row 38 2 v_97 y_92.1.Cols.length cs_98, .row 44 1 v_101 y_92.1.Rows.length cs_102, .row 38 2 v_85 y_80.Cols.length cs_86, .row 44 1 v_89 y_80.Rows.length cs_90, .cells b_79 [.int .i64 1, .int .i64 5] 3, .cells b_78 [v_71, v_75] 25, .row 38 2 v_71 y_66.1.Cols.length cs_72, .row 44 1 v_75 y_66.1.Rows.length cs_76, .row 38 2 v_59 y_54.Cols.length cs_60, .row 44 1 v_63 y_54.Rows.length cs_64, .cells b_53 [.int .i64 1, .int .i64 5] 3, .cells b_52 [v_45, v_49] 25, .row 38 2 v_45 y_40.1.Cols.length cs_46, .row 44 1 v_49 y_40.1.Rows.length cs_50, .row 38 2 v_33 y_28.Cols.length cs_34, .row 44 1 v_37 y_28.Rows.length cs_38, .cells b_27 [.int .i64 1, .int .i64 5, .int .i64 2, .int .i64 7, .int .i64 3, .int .i64 7] 3, .cells b_26 [v_19, v_23] 25, .row 38 2 v_19 y_14.1.Cols.length cs_20, .row 44 1 v_23 y_14.1.Rows.length cs_24, .row 38 2 v_7 y_2.Cols.length cs_8, .row 44 1 v_11 y_2.Rows.length cs_12, .cells b_1 [.int .i64 (-1), .int .i64 0, .int .i64 25, .int .i64 1] 3]) 3 [(0, true), (1, false), (2, false)] mixed (by kernel_rfl) hS (fun w hS => hS) fun w hS => ?_
  refine sp (k := 0) rfl hK (by decide) rfl rfl (fun w hS => r_loadA (cs := [v_45, v_49]) Try.isAgg25 Try.sizeOf25 rfl hK rfl (hS.cells_of (m := 2) (.tail _ (.tail _ (.tail _ (.tail _ (.tail _ (.tail _ (.tail _ (.tail _ (.tail _ (.tail _ (.tail _ (.tail _ (.tail _ (.tail _ (.tail _ (.tail _ (.tail _ (.tail _ (.tail _ (.tail _ (.tail _ (.head _)))))))))))))))))))))) rfl)) fun a hK => ?_
  refine spw (k := 1) rfl rfl hS ?_
  refine sl_buildSliceF (zc := [.int .i64 0]) (ps := [(0, .int .i64 2), (1, .int .i64 7), (2, .int .i64 3), (3, .int .i64 7)]) (c := [.int .i64 2, .int .i64 7, .int .i64 3, .int .i64 7]) [[.int .i64 2], [.int .i64 7], [.int .i64 3], [.int .i64 7]] Try.underlying47 Try.sizeOf3 Try.zeroValue3 rfl (pc_cons rfl (pc_cons rfl (pc_cons rfl (pc_cons rfl pc_nil)))) rfl rfl (Nat.le_of_ble_eq_true rfl) rfl (all_cons rfl (all_cons rfl (all_cons rfl (all_cons rfl (all_nil))))) rfl hS hK (by decide) rfl fun a w b_176 hS hK => ?_
  refine parK_nil (hS.pk33.pk33.pk33.pk33.pk33.pk33.pk33.pk33.pk33.pk33.pk33.pk33.pk33.pk33.pk33.pk33.pk33.pk33.pk33.pk33.pk33.pk33.pk33.pk33.pk33.pk33.pk33.pk33.pk33.pk33.pk33.pk33.pk33.trunc 33) ?_
  refine spw (k := 2) rfl rfl (hS.pk33.pk33.pk33.pk33.pk33.pk33.pk33.pk33.pk33.pk33.pk33.pk33.pk33.pk33.pk33.pk33.pk33.pk33.pk33.pk33.pk33.pk33.pk33.pk33.pk33.pk33.pk33.pk33.pk33.pk33.pk33.pk33.pk33.trunc 33) ?_
  obtain ⟨y_177, h_178, H⟩ := bind_some H
  refine sl_call Try.call20 hK (by decide) rfl rfl rfl (law16_pairs.calls [2, 7, 3, 7] (lentOf_sub [] _) hS.sub (hS.lend_lit0 (ty := (tyInt .i64)) (xs := [2, 7, 3, 7]) (.head _) (Reps.cons (show Ty.rep (tyInt .i64) _ [.int .i64 2] 2 from rfl) (Reps.cons (show Ty.rep (tyInt .i64) _ [.int .i64 7] 7 from rfl) (Reps.cons (show Ty.rep (tyInt .i64) _ [.int .i64 3] 3 from rfl) (Reps.cons (show Ty.rep (tyInt .i64) _ [.int .i64 7] 7 from rfl) (Reps.nil _ _))))) rfl) h_178) fun a v_ w hv_ hK => ?_
  obtain ⟨R_179, v_182, cs_183, v_186, cs_187, hv_, hr_, hl_180, hq_184, hq_188⟩ := hv_
  have hv_ := hv_.symm
  subst hv_
  obtain ⟨hS, hl_180⟩ := hS.sp0.back hr_ hl_180
  have hS := hS.un2
  have hRL := hRL.trans hl_180
  refine parK_nil ((hS.pk35.pk35.pk35.pk35.pk35.pk35.pk35.pk35.pk35.pk35.pk35.pk35.pk35.pk35.pk35.pk35.pk35.pk35.pk35.pk35.pk35.pk35.pk35.pk35.pk35.pk35.pk35.pk35.pk35.pk35.pk35.pk35.pk35.trunc 33).lower hl_180.le) ?_
  refine thenL_nil ?_
  obtain ⟨y_189, h_190, H⟩ := bind_some H
  refine sl_callV Try.call14 hS hK (by decide) rfl rfl rfl (ref02_Same.calls y_40.1 y_177 (lentOf_sub [] _) (hS.lend_row0 (.tail _ (.tail _ (.tail _ (.tail _ (.tail _ (.tail _ (.tail _ (.tail _ (.tail _ (.tail _ (.tail _ (.tail _ (.tail _ (.tail _ (.tail _ (.tail _ (.tail _ (.tail _ (.tail _ (.tail _ (.tail _ (.tail _ (.tail _ (.tail _ (.tail _ (.head _)))))))))))))))))))))))))) (hq_47.mono (hl_57.le.trans (hl_69.le.trans (hl_83.le.trans (hl_95.le.trans (hl_109.le.trans (hl_121.le.trans (hl_150.le.trans hl_180.le)))))))) rfl rfl) (hS.lend_row0 (.tail _ (.tail _ (.tail _ (.tail _ (.tail _ (.tail _ (.tail _ (.tail _ (.tail _ (.tail _ (.tail _ (.tail _ (.tail _ (.tail _ (.tail _ (.tail _ (.tail _ (.tail _ (.tail _ (.tail _ (.tail _ (.tail _ (.tail _ (.tail _ (.tail _ (.tail _ (.head _))))))))))))))))))))))))))) (hq_51.mono (hl_57.le.trans (hl_69.le.trans (hl_83.le.trans (hl_95.le.trans (hl_109.le.trans (hl_121.le.trans (hl_150.le.trans hl_180.le)))))))) rfl rfl) (hS.lend_row0 (.head _) hq_184 rfl rfl) (hS.lend_row0 (.tail _ (.head _)) hq_188 rfl rfl) h_190) fun a w hS hK => ?_
  refine sl hK (by decide) rfl rfl (r_assign hK rfl) fun a hK => ?_
  refine wpList_nil (NoP_nil ?_)
  refine wp_seq ?_
  refine wp_region_lit ?_
  refine sl hK (by decide) rfl rfl (r_move hK rfl) fun a hK => ?_
  refine sl hK (by decide) rfl rfl (r_move hK rfl) fun a hK => ?_
  rcases or_b y_159 with hb_191 | hb_191
  · rw [ifb_t hb_191] at H
    refine sl hK (by decide) (wtt hb_191) rfl (r_move hK rfl) fun a hK => ?_
    refine sl hK (by decide) rfl rfl (r_pick_t hb_191 hK rfl rfl) fun a hK => ?_
    refine sl hK (by decide) rfl rfl (r_move hK rfl) fun a hK => ?_
    rcases or_b y_189 with hb_192 | hb_192
    · rw [ifb_t hb_192] at H
      refine sl hK (by decide) (wtt hb_192) rfl (r_move hK rfl) fun a hK => ?_
      refine sl hK (by decide) (wtt hb_192) rfl (r_ibin hK rfl rfl rfl) fun a hK => ?_
      refine sl hK (by decide) rfl rfl (r_pick_t hb_192 hK rfl rfl) fun a hK => ?_
      refine sl hK (by decide) rfl rfl (r_move hK rfl) fun a hK => ?_
      rcases or_b (y_14.2 == 0) with hb_193 | hb_193
      · rw [ifb_t hb_193] at H
        refine sl hK (by decide) (wtt hb_193) rfl (r_move hK rfl) fun a hK => ?_
        refine sl hK (by decide) (wtt hb_193) rfl (r_ibin hK rfl rfl rfl) fun a hK => ?_
        refine sl hK (by decide) rfl rfl (r_pick_t hb_193 hK rfl rfl) fun a hK => ?_
        refine sl hK (by decide) rfl rfl (r_move hK rfl) fun a hK => ?_
        rcases or_b (y_40.2 == 0) with hb_194 | hb_194
        · rw [ifb_t hb_194] at H
          refine sl hK (by decide) (wtt hb_194) rfl (r_move hK rfl) fun a hK => ?_
          refine sl hK (by decide) (wtt hb_194) rfl (r_ibin hK rfl rfl rfl) fun a hK => ?_
          refine sl hK (by decide) rfl rfl (r_pick_t hb_194 hK rfl rfl) fun a hK => ?_
          refine sl hK (by decide) rfl rfl (r_move hK rfl) fun a hK => ?_
          rcases or_b (y_66.2 == 1) with hb_195 | hb_195
          · rw [ifb_t hb_195] at H
            refine sl hK (by decide) (wtt hb_195) rfl (r_move hK rfl) fun a hK => ?_
            refine sl hK (by decide) (wtt hb_195) rfl (r_ibin hK rfl rfl rfl) fun a hK => ?_
            refine sl hK (by decide) rfl rfl (r_pick_t hb_195 hK rfl rfl) fun a hK => ?_
            refine sl hK (by decide) rfl rfl (r_move hK rfl) fun a hK => ?_
            rcases or_b (y_92.2 == 1) with hb_196 | hb_196
            · rw [ifb_t hb_196] at H
              refine sl hK (by decide) (wtt hb_196) rfl (r_move hK rfl) fun a hK => ?_
              refine sl hK (by decide) (wtt hb_196) rfl (r_ibin hK rfl rfl rfl) fun a hK => ?_
              refine sl hK (by decide) rfl rfl (r_pick_t hb_196 hK rfl rfl) fun a hK => ?_
              refine sl hK (by decide) rfl rfl (r_assign hK rfl) fun a hK => ?_
              refine wpList_nil ?_
              obtain rfl := Option.some.inj H
              refine wp_ret ?_
              repeat (first | refine ret_then ?_ | refine ret_block ?_ | refine ret_scope ?_)
              exact ret_1 Try.results9 hK (rv_tmp hK rfl) ⟨rfl, hS.bel⟩
            · rw [ifb_f hb_196] at H
              refine sl_skip hK (by decide) (wtf hb_196) rfl fun a hK => ?_
              refine sl_skip hK (by decide) (wtf hb_196) rfl fun a hK => ?_
              refine sl hK (by decide) rfl rfl (r_pick_f hb_196 hK rfl rfl) fun a hK => ?_
              refine sl hK (by decide) rfl rfl (r_assign hK rfl) fun a hK => ?_
              refine wpList_nil ?_
              obtain rfl := Option.some.inj H
              refine wp_ret ?_
              repeat (first | refine ret_then ?_ | refine ret_block ?_ | refine ret_scope ?_)
              exact ret_1 Try.results9 hK (rv_tmp hK rfl) ⟨rfl, hS.bel⟩
          · rw [ifb_f hb_195] at H
            refine sl_skip hK (by decide) (wtf hb_195) rfl fun a hK => ?_
            refine sl_skip hK (by decide) (wtf hb_195) rfl fun a hK => ?_
            refine sl hK (by decide) rfl rfl (r_pick_f hb_195 hK rfl rfl) fun a hK => ?_
            refine sl hK (by decide) rfl rfl (r_move hK rfl) fun a hK => ?_
            refine sl_skip hK (by decide) rfl rfl fun a hK => ?_
            refine sl_skip hK (by decide) rfl rfl fun a hK => ?_
            refine sl hK (by decide) rfl rfl (r_pick hK rfl rfl rfl) fun a hK => ?_
            refine sl hK (by decide) rfl rfl (r_assign hK rfl) fun a hK => ?_
            refine wpList_nil ?_
            obtain rfl := Option.some.inj H
            refine wp_ret ?_
            repeat (first | refine ret_then ?_ | refine ret_block ?_ | refine ret_scope ?_)
            exact ret_1 Try.results9 hK (rv_tmp hK rfl) ⟨rfl, hS.bel⟩
        · rw [ifb_f hb_194] at H
          refine sl_skip hK (by decide) (wtf hb_194) rfl fun a hK => ?_
          refine sl_skip hK (by decide) (wtf hb_194) rfl fun a hK => ?_
          refine sl hK (by decide) rfl rfl (r_pick_f hb_194 hK rfl rfl) fun a hK => ?_
          refine sl hK (by decide) rfl rfl (r_move hK rfl) fun a hK => ?_
          refine sl_skip hK (by decide) rfl rfl fun a hK => ?_
          refine sl_skip hK (by decide) rfl rfl fun a hK => ?_
          refine sl hK (by decide) rfl rfl (r_pick hK rfl rfl rfl) fun a hK => ?_
          refine sl hK (by decide) rfl rfl (r_move hK rfl) fun a hK => ?_
          refine sl_skip hK (by decide) rfl rfl fun a hK => ?_
          refine sl_skip hK (by decide) rfl rfl fun a hK => ?_
          refine sl hK (by decide) rfl rfl (r_pick hK rfl rfl rfl) fun a hK => ?_
          refine sl hK (by decide) rfl rfl (r_assign hK rfl) fun a hK => ?_
          refine wpList_nil ?_
          obtain rfl := Option.some.inj H
          refine wp_ret ?_
          repeat (first | refine ret_then ?_ | refine ret_block ?_ | refine ret_scope ?_)
          exact ret_1 Try.results9 hK (rv_tmp hK rfl) ⟨rfl, hS.bel⟩
      · rw [ifb_f hb_193] at H
        refine sl_skip hK (by decide) (wtf hb_193) rfl fun a hK => ?_
        refine sl_skip hK (by decide) (wtf hb_193) rfl fun a hK => ?_
        refine sl hK (by decide) rfl rfl (r_pick_f hb_193 hK rfl rfl) fun a hK => ?_
        refine sl hK (by decide) rfl rfl (r_move hK rfl) fun a hK => ?_
        refine sl_skip hK (by decide) rfl rfl fun a hK => ?_
        refine sl_skip hK (by decide) rfl rfl fun a hK => ?_
        refine sl hK (by decide) rfl rfl (r_pick hK rfl rfl rfl) fun a hK => ?_
        refine sl hK (by decide) rfl rfl (r_move hK rfl) fun a hK => ?_
        refine sl_skip hK (by decide) rfl rfl fun a hK => ?_
        refine sl_skip hK (by decide) rfl rfl fun a hK => ?_
        refine sl hK (by decide) rfl rfl (r_pick hK rfl rfl rfl) fun a hK => ?_
        refine sl hK (by decide) rfl rfl (r_move hK rfl) fun a hK => ?_
        refine sl_skip hK (by decide) rfl rfl fun a hK => ?_
        refine sl_skip hK (by decide) rfl rfl fun a hK => ?_
        refine sl hK (by decide) rfl rfl (r_pick hK rfl rfl rfl) fun a hK => ?_
        refine sl hK (by decide) rfl rfl (r_assign hK rfl) fun a hK => ?_
        refine wpList_nil ?_
        obtain rfl := Option.some.inj H
        refine wp_ret ?_
        repeat (first | refine ret_then ?_ | refine ret_block ?_ | refine ret_scope ?_)
        exact ret_1 Try.results9 hK (rv_tmp hK rfl) ⟨rfl, hS.bel⟩
    · rw [ifb_f hb_192] at H
      refine sl_skip hK (by decide) (wtf hb_192) rfl fun a hK => ?_
      refine sl_skip hK (by decide) (wtf hb_192) rfl fun a hK => ?_
      refine sl hK (by decide) rfl rfl (r_pick_f hb_192 hK rfl rfl) fun a hK => ?_
      refine sl hK (by decide) rfl rfl (r_move hK rfl) fun a hK => ?_
      refine sl_skip hK (by decide) rfl rfl fun a hK => ?_
      refine sl_skip hK (by decide) rfl rfl fun a hK => ?_
      refine sl hK (by decide) rfl rfl (r_pick hK rfl rfl rfl) fun a hK => ?_
      refine sl hK (by decide) rfl rfl (r_move hK rfl) fun a hK => ?_
      refine sl_skip hK (by decide) rfl rfl fun a hK => ?_
      refine sl_skip hK (by decide) rfl rfl fun a hK => ?_
      refine sl hK (by decide) rfl rfl (r_pick hK rfl rfl rfl) fun a hK => ?_
      refine sl hK (by decide) rfl rfl (r_move hK rfl) fun a hK => ?_
      refine sl_skip hK (by decide) rfl rfl fun a hK => ?_
      refine sl_skip hK (by decide) rfl rfl fun a hK => ?_
      refine sl hK (by decide) rfl rfl (r_pick hK rfl rfl rfl) fun a hK => ?_
      refine sl hK (by decide) rfl rfl (r_move hK rfl) fun a hK => ?_
      refine sl_skip hK (by decide) rfl rfl fun a hK => ?_
      refine sl_skip hK (by decide) rfl rfl fun a hK => ?_
      refine sl hK (by decide) rfl rfl (r_pick hK rfl rfl rfl) fun a hK => ?_
      refine sl hK (by decide) rfl rfl (r_assign hK rfl) fun a hK => ?_
      refine wpList_nil ?_
      obtain rfl := Option.some.inj H
      refine wp_ret ?_
      repeat (first | refine ret_then ?_ | refine ret_block ?_ | refine ret_scope ?_)
      exact ret_1 Try.results9 hK (rv_tmp hK rfl) ⟨rfl, hS.bel⟩
  · rw [ifb_f hb_191] at H
    refine sl_skip hK (by decide) (wtf hb_191) rfl fun a hK => ?_
    refine sl hK (by decide) rfl rfl (r_pick_f hb_191 hK rfl rfl) fun a hK => ?_
    refine sl hK (by decide) rfl rfl (r_move hK rfl) fun a hK => ?_
    refine sl_skip hK (by decide) rfl rfl fun a hK => ?_
    refine sl_skip hK (by decide) rfl rfl fun a hK => ?_
    refine sl hK (by decide) rfl rfl (r_pick hK rfl rfl rfl) fun a hK => ?_
    refine sl hK (by decide) rfl rfl (r_move hK rfl) fun a hK => ?_
    refine sl_skip hK (by decide) rfl rfl fun a hK => ?_
    refine sl_skip hK (by decide) rfl rfl fun a hK => ?_
    refine sl hK (by decide) rfl rfl (r_pick hK rfl rfl rfl) fun a hK => ?_
    refine sl hK (by decide) rfl rfl (r_move hK rfl) fun a hK => ?_
    refine sl_skip hK (by decide) rfl rfl fun a hK => ?_
    refine sl_skip hK (by decide) rfl rfl fun a hK => ?_
    refine sl hK (by decide) rfl rfl (r_pick hK rfl rfl rfl) fun a hK => ?_
    refine sl hK (by decide) rfl rfl (r_move hK rfl) fun a hK => ?_
    refine sl_skip hK (by decide) rfl rfl fun a hK => ?_
    refine sl_skip hK (by decide) rfl rfl fun a hK => ?_
    refine sl hK (by decide) rfl rfl (r_pick hK rfl rfl rfl) fun a hK => ?_
    refine sl hK (by decide) rfl rfl (r_move hK rfl) fun a hK => ?_
    refine sl_skip hK (by decide) rfl rfl fun a hK => ?_
    refine sl_skip hK (by decide) rfl rfl fun a hK => ?_
    refine sl hK (by decide) rfl rfl (r_pick hK rfl rfl rfl) fun a hK => ?_
    refine sl hK (by decide) rfl rfl (r_assign hK rfl) fun a hK => ?_
    refine wpList_nil ?_
    obtain rfl := Option.some.inj H
    refine wp_ret ?_
    repeat (first | refine ret_then ?_ | refine ret_block ?_ | refine ret_scope ?_)
    exact ret_1 Try.results9 hK (rv_tmp hK rfl) ⟨rfl, hS.bel⟩

/-! ### catchment/catchmentlaw16.cut: function 10 -/
set_option maxHeartbeats 4000000 in
set_option maxRecDepth 100000 in
theorem law16_cut.calls (a0 : api_Table) {w0 : World} {R : Hp} {v0_0 : Value} {v0_1 : Value} (hR : R.sub w0) (h0_0 : SlR ty_api_Col R v0_0 a0.Cols) (h0_1 : SlR (tySl ty_api_Value) R v0_1 a0.Rows) {r : api_Table} (H : law16_cut a0 = some r) : Calls Try.prog 10 #[.agg #[v0_0, v0_1]] w0 (Rets fun v w' => ∃ (R' : Hp) (u0 : Value) (u1 : Value), v = .agg #[u0, u1] ∧ St [] w0 w' R' [] ∧ RLe [] w0 R R' ∧ SlR ty_api_Col R' u0 r.Cols ∧ SlR (tySl ty_api_Value) R' u1 r.Rows) := by
  unfold law16_cut at H
  refine enter (args := [.agg #[v0_0, v0_1]]) Try.func10 rfl Try.ntmps10 rfl fun a hK => ?_
  have hS := St.init hR
  have hRL := RLe.refl (M := []) w0 R
  refine wp_seq ?_
  refine wp_region_lit ?_
  refine sl_box hS hK (by decide) rfl rfl (c := [v0_0, v0_1]) rfl fun a w b_1 hS hK => ?_
  refine sl_alloc Try.zeroValue25 hS hK (by decide) rfl rfl fun a w b_2 hS hK => ?_
  refine wpList_nil ?_
  refine wp_seq ?_
  refine wp_seq ?_
  refine wp_region_lit ?_
  refine sl hK (by decide) rfl rfl (r_fieldAddr Try.underlying25 rfl Try.sizeOf23 hK rfl) fun a hK => ?_
  refine sl hK (by decide) rfl rfl (r_load Try.isAgg23 hK rfl (hS.cell (.tail _ (.head _)) rfl)) fun a hK => ?_
  refine sl hK (by decide) rfl rfl (r_len_R Try.underlying23 h0_1 hK rfl) fun a hK => ?_
  refine sl hK (by decide) rfl rfl (r_ibin hK rfl rfl rfl) fun a hK => ?_
  refine wpList_nil ?_
  refine wp_cond_split (hK.ev rfl) (fun (hb_3 : (decide ((a0.Rows.length : Int) > 100)) = true) => ?_) (fun (hb_3 : (decide ((a0.Rows.length : Int) > 100)) = false) => ?_)
  · rw [ifb_t hb_3] at H
    refine wp_region_lit ?_
    refine sl hK (by decide) rfl rfl (r_fieldAddr Try.underlying25 rfl Try.sizeOf23 hK rfl) fun a hK => ?_
    refine sl hK (by decide) rfl rfl (r_load Try.isAgg23 hK rfl (hS.cell (.tail _ (.head _)) rfl)) fun a hK => ?_
    obtain ⟨y_4, h_5, H⟩ := bind_some H
    obtain ⟨v_6, hs_7, hr_8⟩ := r_slice_R (x := .tmp 8) (lo := none) (hi := some (.const (.int .i64 100))) Try.underlying23 Try.sizeOf44 h0_1 h_5 hK rfl rfl ⟨_, rfl⟩
    refine sl hK (by decide) rfl rfl (hr_8 _ _ _ _ _ _ _ hK) fun a hK => ?_
    refine sl hK (by decide) rfl rfl (r_fieldAddr Try.underlying25 rfl Try.sizeOf23 hK rfl) fun a hK => ?_
    have hS := hS.pk1
    refine sl_store1 (c' := [v0_0, v_6]) Try.sizeOf23 hS hK rfl rfl rfl hs_7.one (Nat.le_of_ble_eq_true rfl) rfl fun a w hS hK => ?_
    refine wpList_nil ?_
    refine wp_seq ?_
    refine wp_region_lit ?_
    refine sl hK (by decide) rfl rfl (r_loadA (cs := [v0_0, v_6]) Try.isAgg25 Try.sizeOf25 rfl hK rfl (hS.cells_of (m := 2) (.head _) rfl)) fun a hK => ?_
    have hS := hS.pk1
    refine sl_storeA (vs := [v0_0, v_6]) (c' := [v0_0, v_6]) Try.sizeOf25 hS hK rfl rfl rfl rfl (all_cons h0_0.one (all_cons hs_7.one (all_nil))) (Nat.le_of_ble_eq_true rfl) rfl fun a w hS hK => ?_
    refine wpList_nil ?_
    obtain rfl := Option.some.inj H
    refine wp_ret ?_
    repeat (first | refine ret_then ?_ | refine ret_block ?_ | refine ret_scope ?_)
    exact ret_1 Try.results10 hK (rv_cell (c := [v0_0, v_6]) Try.isAgg25 Try.sizeOf25 hS (.head _) rfl hK rfl) ⟨_, rfl, _, _, _, rfl, (hS.trunc 0), hRL, h0_0, hs_7⟩
  · rw [ifb_f hb_3] at H
    refine wp_skip ?_
    refine wp_seq ?_
    refine wp_region_lit ?_
    refine sl hK (by decide) rfl rfl (r_loadA (cs := [v0_0, v0_1]) Try.isAgg25 Try.sizeOf25 rfl hK rfl (hS.cells_of (m := 2) (.tail _ (.head _)) rfl)) fun a hK => ?_
    refine sl_storeA (vs := [v0_0, v0_1]) (c' := [v0_0, v0_1]) Try.sizeOf25 hS hK rfl rfl rfl rfl (all_cons h0_0.one (all_cons h0_1.one (all_nil))) (Nat.le_of_ble_eq_true rfl) rfl fun a w hS hK => ?_
    refine wpList_nil ?_
    obtain rfl := Option.some.inj H
    refine wp_ret ?_
    repeat (first | refine ret_then ?_ | refine ret_block ?_ | refine ret_scope ?_)
    exact ret_1 Try.results10 hK (rv_cell (c := [v0_0, v0_1]) Try.isAgg25 Try.sizeOf25 hS (.head _) rfl hK rfl) ⟨_, rfl, _, _, _, rfl, (hS.trunc 0), hRL, h0_0, h0_1⟩

/-! ### catchment/catchmentref02.sorted: function 23 -/
set_option maxHeartbeats 4000000 in
set_option maxRecDepth 100000 in
theorem ref02_sorted.r_calls (fuel : Nat) : ∀ (a0 : List (List api_Value)) {w0 : World} {R : Hp} {v0_0 : Value} (hR : R.sub w0) (h0_0 : SlR (tySl ty_api_Value) R v0_0 a0) {r : List (List api_Value)} (H : ref02_sorted.r fuel a0 = some r), Calls Try.prog 23 #[v0_0] w0 (Rets fun v w' => ∃ (R' : Hp) (u0 : Value) (cu0 : List Value), v = u0 ∧ St [] w0 w' R' [.row 44 1 u0 r.length cu0] ∧ RLe [] w0 R R' ∧ Reps (tySl ty_api_Value) R' cu0 r) := by
  induction fuel with
  | zero => intros; rename_i H; exact nomatch (show (none : Option _) = some _ from H)
  | succ fuel ih_23 =>
    intro a0 w0 R v0_0 hR h0_0 r H
    rw [ref02_sorted.r.eq_2] at H
    generalize ref02_sorted.r fuel = kr_23 at ih_23 H
    unfold ref02_sorted.b at H
    refine enter (args := [v0_0]) Try.func23 rfl Try.ntmps23 rfl fun a hK => ?_
    have hS := St.init hR
    have hRL := RLe.refl (M := []) w0 R
    refine wp_seq ?_
    refine wp_region_lit ?_
    refine sl hK (by decide) rfl rfl (r_assign hK rfl) fun a hK => ?_
    refine wpList_nil ?_
    refine wp_seq ?_
    refine wp_seq ?_
    refine wp_region_lit ?_
    refine sl hK (by decide) rfl rfl (r_move hK rfl) fun a hK => ?_
    refine sl hK (by decide) rfl rfl (r_len_R Try.underlying23 h0_0 hK rfl) fun a hK => ?_
    refine sl hK (by decide) rfl rfl (r_ibin hK rfl rfl rfl) fun a hK => ?_
    refine wpList_nil ?_
    refine wp_cond_split (hK.ev rfl) (fun (hb_1 : (decide ((a0.length : Int) < 2)) = true) => ?_) (fun (hb_1 : (decide ((a0.length : Int) < 2)) = false) => ?_)
    · rw [ifb_t hb_1] at H
      refine wp_seq ?_
      refine wp_region_lit ?_
      refine sl_buildSliceC (zc := [.slice none 0 0]) (zs := []) (ps := []) (c := []) Try.underlying23 Try.sizeOf44 Try.zeroValue44 rfl pc_nil rfl rfl (by decide) (by kernel_rfl) rfl hS hK (by decide) rfl fun a w b_2 hS hK => ?_
      refine sl hK (by decide) rfl rfl (r_move hK rfl) fun a hK => ?_
      obtain ⟨y_5, h_6, H⟩ := bind_some H
      have hS := hS.row_lit (size := 1) (m := 0) rfl (by decide)
      have hq_4 : Reps (tySl ty_api_Value) R [] ([] : List (List api_Value)) := (Reps.nil _ _)
      refine sl_append_R elT23 (by decide) rfl hq_4 rfl h0_0 h_6 hS hK (by decide) rfl rfl rfl fun a w v_7 cs_8 hq_9 hS hK => ?_
      refine sl hK (by decide) rfl rfl (r_assign hK rfl) fun a hK => ?_
      refine wpList_nil ?_
      obtain rfl := Option.some.inj H
      refine wp_ret ?_
      repeat (first | refine ret_then ?_ | refine ret_block ?_ | refine ret_scope ?_)
      exact ret_1 Try.results23 hK (rv_tmp hK rfl) ⟨_, rfl, _, _, _, rfl, hS, hRL, hq_9⟩
    · rw [ifb_f hb_1] at H
      refine wp_skip ?_
      refine wp_seq ?_
      refine wp_region_lit ?_
      refine sl hK (by decide) rfl rfl (r_move hK rfl) fun a hK => ?_
      refine sl hK (by decide) rfl rfl (r_move hK rfl) fun a hK => ?_
      refine sl hK (by decide) rfl rfl (r_len_R Try.underlying23 h0_0 hK rfl) fun a hK => ?_
      refine sl hK (by decide) rfl rfl (r_quo hK rfl rfl (by decide)) fun a hK => ?_
      obtain ⟨y_11, h_12, H⟩ := bind_some H
      obtain ⟨v_13, hs_14, hr_15⟩ := r_slice_R (x := .tmp 14) (lo := none) (hi := some (.tmp 17)) Try.underlying23 Try.sizeOf44 h0_0 h_12 hK rfl rfl ⟨_, rfl⟩
      refine sl hK (by decide) rfl rfl (hr_15 _ _ _ _ _ _ _ hK) fun a hK => ?_
      obtain ⟨y_16, h_17, H⟩ := bind_some H
      refine sl_call Try.call23 hK (by decide) rfl rfl rfl (ih_23 y_11 hS.sub hs_14 h_17) fun a v_ w hv_ hK => ?_
      obtain ⟨R_18, v_21, cs_22, hv_, hr_, hl_19, hq_23⟩ := hv_
      have hv_ := hv_.symm
      subst hv_
      obtain ⟨hS, hl_19⟩ := hS.sp0.back hr_ hl_19
      have hS := hS.un1
      have hRL := hRL.trans hl_19
      refine sl hK (by decide) rfl rfl (r_assign hK rfl) fun a hK => ?_
      refine wpList_nil ?_
      refine wp_seq ?_
      refine wp_region_lit ?_
      refine sl hK (by decide) rfl rfl (r_move hK rfl) fun a hK => ?_
      refine sl hK (by decide) rfl rfl (r_move hK rfl) fun a hK => ?_
      refine sl hK (by decide) rfl rfl (r_len_R Try.underlying23 h0_0 hK rfl) fun a hK => ?_
      refine sl hK (by decide) rfl rfl (r_quo hK rfl rfl (by decide)) fun a hK => ?_
      obtain ⟨y_24, h_25, H⟩ := bind_some H
      obtain ⟨v_26, hs_27, hr_28⟩ := r_slice_R (x := .tmp 20) (lo := some (.tmp 23)) (hi := none) Try.underlying23 Try.sizeOf44 h0_0 h_25 hK rfl ⟨_, rfl⟩ rfl
      refine sl hK (by decide) rfl rfl (hr_28 _ _ _ _ _ _ _ hK) fun a hK => ?_
      obtain ⟨y_29, h_30, H⟩ := bind_some H
      refine sl_call Try.call23 hK (by decide) rfl rfl rfl (ih_23 y_24 hS.sub (hs_27.mono hl_19.le) h_30) fun a v_ w hv_ hK => ?_
      obtain ⟨R_31, v_34, cs_35, hv_, hr_, hl_32, hq_36⟩ := hv_
      have hv_ := hv_.symm
      subst hv_
      obtain ⟨hS, hl_32⟩ := hS.sp0.back hr_ hl_32
      have hS := hS.un1
      have hRL := hRL.trans hl_32
      refine sl hK (by decide) rfl rfl (r_assign hK rfl) fun a hK => ?_
      refine wpList_nil ?_
      refine wp_seq ?_
      refine wp_region_lit ?_
      refine sl hK (by decide) rfl rfl (r_assign hK rfl) fun a hK => ?_
      refine wpList_nil ?_
      refine wp_seq ?_
      refine wp_region_lit ?_
      refine sl hK (by decide) rfl rfl (r_assign hK rfl) fun a hK => ?_
      refine wpList_nil ?_
      refine wp_seq ?_
      refine wp_region_lit ?_
      refine sl hK (by decide) rfl rfl (r_assign hK rfl) fun a hK => ?_
      refine wpList_nil ?_
      refine wp_seq ?_
      refine wp_block ?_
      refine wp_loop_k (fun k_l0 a w => ∃ (x_228 : List (List api_Value)) (x_232 : Int) (x_233 : Int) (v_229 : Value) (cs_230 : List Value), ref02_sorted.l0 y_16 y_29 k_l0 x_228 x_232 x_233 = some r ∧ Reps (tySl ty_api_Value) R_31 cs_230 x_228 ∧ Kn 77 a [(3, v_21), (4, v_34), (5, v_229), (6, .int .i64 x_232), (7, .int .i64 x_233)] ∧ St [] w0 w R_31 [.row 44 1 v_21 y_16.length cs_22, .row 44 1 v_34 y_29.length cs_35, .row 44 1 v_229 x_228.length cs_230]) (y_16.length + y_29.length + 1) ?_ ?_
      · have hS := hS.row_nil 44 1
        have hq_417 : Reps (tySl ty_api_Value) R_31 [] ([] : List (List api_Value)) := Reps.nil _ _
        have hS := hS.pk1
        have hS := hS.pk2
        exact ⟨[], 0, 0, _, _, H, hq_417, hK.sub (all_cons rfl (all_cons rfl (all_cons rfl (all_cons rfl (all_cons rfl (all_nil)))))), hS⟩
      · rintro k_l0 a w ⟨x_228, x_232, x_233, v_229, cs_230, H, hq_231, hK, hS⟩
        cases k_l0 with
        | zero => cases H
        | succ k_l0 =>
        rw [ref02_sorted.l0.eq_2] at H
        refine wp_seq ?_
        refine wp_seq ?_
        refine wp_mid (fun a w => ∃ (x_419 : Bool), ref02_sorted.j1 (ref02_sorted.l0 y_16 y_29 k_l0) y_16 y_29 x_228 x_232 x_233 x_419 = some r ∧ Kn 77 a [(3, v_21), (4, v_34), (5, v_229), (6, .int .i64 x_232), (7, .int .i64 x_233), (35, .bool x_419)] ∧ St [] w0 w R_31 [.row 44 1 v_21 y_16.length cs_22, .row 44 1 v_34 y_29.length cs_35, .row 44 1 v_229 x_228.length cs_230]) ?_ ?_
        · refine wp_region_lit ?_
          refine sl hK (by decide) rfl rfl (r_move hK rfl) fun a hK => ?_
          refine sl hK (by decide) rfl rfl (r_move hK rfl) fun a hK => ?_
          refine sl hK (by decide) rfl rfl (r_len_O Try.underlying23 hS (.head _) hK rfl) fun a hK => ?_
          refine sl hK (by decide) rfl rfl (r_ibin hK rfl rfl rfl) fun a hK => ?_
          refine sl hK (by decide) rfl rfl (r_move hK rfl) fun a hK => ?_
          rcases or_b (decide (x_232 < (y_16.length : Int))) with hb_421 | hb_421
          · rw [ifb_t hb_421] at H
            refine sl_skip hK (by decide) (wft hb_421) rfl fun a hK => ?_
            refine sl_skip hK (by decide) (wft hb_421) rfl fun a hK => ?_
            refine sl_skip hK (by decide) (wft hb_421) rfl fun a hK => ?_
            refine sl_skip hK (by decide) (wft hb_421) rfl fun a hK => ?_
            refine sl hK (by decide) rfl rfl (r_pick_t hb_421 hK rfl rfl) fun a hK => ?_
            refine wpList_nil ?_
            have hS := hS.pk2
            have hS := hS.pk2
            have hS := hS.pk2
            exact ⟨true, H, hK.sub (all_cons rfl (all_cons rfl (all_cons rfl (all_cons rfl (all_cons rfl (all_cons rfl (all_nil))))))), hS⟩
          · rw [ifb_f hb_421] at H
            refine sl hK (by decide) (wff hb_421) rfl (r_move hK rfl) fun a hK => ?_
            refine sl hK (by decide) (wff hb_421) rfl (r_move hK rfl) fun a hK => ?_
            refine sl hK (by decide) (wff hb_421) rfl (r_len_O Try.underlying23 hS (.tail _ (.head _)) hK rfl) fun a hK => ?_
            refine sl hK (by decide) (wff hb_421) rfl (r_ibin hK rfl rfl rfl) fun a hK => ?_
            refine sl hK (by decide) rfl rfl (r_pick_f hb_421 hK rfl rfl) fun a hK => ?_
            refine wpList_nil ?_
            have hS := hS.pk2
            have hS := hS.pk2
            have hS := hS.pk2
            exact ⟨(decide (x_233 < (y_29.length : Int))), H, hK.sub (all_cons rfl (all_cons rfl (all_cons rfl (all_cons rfl (all_cons rfl (all_cons rfl (all_nil))))))), hS⟩
        · rintro a w ⟨x_419, H, hK, hS⟩
          unfold ref02_sorted.j1 at H
          refine wp_cond_split (hK.ev rfl) (fun (hb_422 : x_419 = true) => ?_) (fun (hb_422 : x_419 = false) => ?_)
          · rw [ifb_t hb_422] at H
            refine wp_skip ?_
            refine wp_block ?_
            refine wp_seq ?_
            refine wp_mid (fun a w => ∃ (x_471 : Bool), ref02_sorted.j2 (ref02_sorted.l0 y_16 y_29 k_l0) y_16 y_29 x_228 x_232 x_233 x_471 = some r ∧ Kn 77 a [(3, v_21), (4, v_34), (5, v_229), (6, .int .i64 x_232), (7, .int .i64 x_233), (57, .bool x_471)] ∧ St [] w0 w R_31 [.row 44 1 v_21 y_16.length cs_22, .row 44 1 v_34 y_29.length cs_35, .row 44 1 v_229 x_228.length cs_230]) ?_ ?_
            · refine parT_region (C := fun w => St [] w0 w R_31 [.row 44 1 v_21 y_16.length cs_22, .row 44 1 v_34 y_29.length cs_35, .row 44 1 v_229 x_228.length cs_230]) 18 [(0, true), (1, true), (2, true), (3, true), (4, true), (5, true), (6, true), (7, true), (8, true), (9, true), (10, true), (11, true), (12, true), (13, true), (14, true), (15, true), (16, true), (17, true)] mixed (by kernel_rfl) hS (fun w hS => hS) fun w hS => ?_
              refine sp (k := 0) rfl hK (by decide) rfl rfl (fun w hS => r_move hK rfl) fun a hK => ?_
              refine sp (k := 1) rfl hK (by decide) rfl rfl (fun w hS => r_move hK rfl) fun a hK => ?_
              refine sp (k := 2) rfl hK (by decide) rfl rfl (fun w hS => r_len_O Try.underlying23 hS (.tail _ (.head _)) hK rfl) fun a hK => ?_
              refine sp (k := 3) rfl hK (by decide) rfl rfl (fun w hS => r_ibin hK rfl rfl rfl) fun a hK => ?_
              refine sp (k := 4) rfl hK (by decide) rfl rfl (fun w hS => r_move hK rfl) fun a hK => ?_
              rcases or_b (x_233 == (y_29.length : Int)) with hb_497 | hb_497
              · rw [ifb_t hb_497] at H
                refine sp_skip (k := 5) rfl hK (by decide) (wft hb_497) rfl fun a hK => ?_
                refine sp_skip (k := 6) rfl hK (by decide) (wft hb_497) rfl fun a hK => ?_
                refine sp_skip (k := 7) rfl hK (by decide) (wft hb_497) rfl fun a hK => ?_
                refine sp_skip (k := 8) rfl hK (by decide) (wft hb_497) rfl fun a hK => ?_
                refine sp_skip (k := 9) rfl hK (by decide) (wft hb_497) rfl fun a hK => ?_
                refine sp_skip (k := 10) rfl hK (by decide) rfl rfl fun a hK => ?_
                refine sp_skip (k := 11) rfl hK (by decide) rfl rfl fun a hK => ?_
                refine sp_skip (k := 12) rfl hK (by decide) rfl rfl fun a hK => ?_
                refine sp_skip (k := 13) rfl hK (by decide) rfl rfl fun a hK => ?_
                refine sp_skip (k := 14) rfl hK (by decide) rfl rfl fun a hK => ?_
                refine sp_skip (k := 15) rfl hK (by decide) rfl rfl fun a hK => ?_
                refine sp_skip (k := 16) rfl hK (by decide) rfl rfl fun a hK => ?_
                refine sp_skip (k := 17) rfl hK (by decide) rfl rfl fun a hK => ?_
                refine thenL_nil ?_
                refine sl_skip hK (by decide) rfl rfl fun a hK => ?_
                refine sl_skip hK (by decide) rfl rfl fun a hK => ?_
                refine sl_skip hK (by decide) (wft hb_497) rfl fun a hK => ?_
                refine sl hK (by decide) rfl rfl (r_pick_t hb_497 hK rfl rfl) fun a hK => ?_
                refine wpList_nil (NoP_nil ?_)
                have hS := hS.pk2
                have hS := hS.pk2
                have hS := hS.pk2
                exact ⟨true, H, hK.sub (all_cons rfl (all_cons rfl (all_cons rfl (all_cons rfl (all_cons rfl (all_cons rfl (all_nil))))))), hS⟩
              · rw [ifb_f hb_497] at H
                refine sp (k := 5) rfl hK (by decide) (wff hb_497) rfl (fun w hS => r_move hK rfl) fun a hK => ?_
                refine sp (k := 6) rfl hK (by decide) (wff hb_497) rfl (fun w hS => r_move hK rfl) fun a hK => ?_
                refine sp (k := 7) rfl hK (by decide) (wff hb_497) rfl (fun w hS => r_len_O Try.underlying23 hS (.head _) hK rfl) fun a hK => ?_
                refine sp (k := 8) rfl hK (by decide) (wff hb_497) rfl (fun w hS => r_ibin hK rfl rfl rfl) fun a hK => ?_
                refine sp (k := 9) rfl hK (by decide) (wff hb_497) rfl (fun w hS => r_move hK rfl) fun a hK => ?_
                rcases or_b (decide (x_232 < (y_16.length : Int))) with hb_498 | hb_498
                · rw [ifb_t hb_498] at H
                  refine sp (k := 10) rfl hK (by decide) (wtt hb_498) rfl (fun w hS => r_move hK rfl) fun a hK => ?_
                  refine sp (k := 11) rfl hK (by decide) (wtt hb_498) rfl (fun w hS => r_move hK rfl) fun a hK => ?_
                  obtain ⟨y_499, h_500, H⟩ := bind_some H
                  obtain ⟨b_502, c_503, cs_504, hv_501, hr_505, hc_506, h_5000, h_5001⟩ := hS.row_ix (.head _) (hq_23.mono hl_32.le) rfl rfl h_500
                  obtain ⟨v_507, rfl, hs_508⟩ := hr_505
                  refine sp (k := 12) rfl hK (by decide) (wtt hb_498) rfl (fun w hS => r_indexAddr_R Try.underlying23 Try.sizeOf44 hv_501 h_5000 h_5001 hK rfl rfl) fun a hK => ?_
                  refine sp (k := 13) rfl hK (by decide) (wtt hb_498) rfl (fun w hS => r_load Try.isAgg44 hK rfl (hS.row_cell (.head _) hv_501 (hc_506 0 _ rfl))) fun a hK => ?_
                  refine sp (k := 14) rfl hK (by decide) (wtt hb_498) rfl (fun w hS => r_move hK rfl) fun a hK => ?_
                  refine sp (k := 15) rfl hK (by decide) (wtt hb_498) rfl (fun w hS => r_move hK rfl) fun a hK => ?_
                  obtain ⟨y_509, h_510, H⟩ := bind_some H
                  obtain ⟨b_512, c_513, cs_514, hv_511, hr_515, hc_516, h_5100, h_5101⟩ := hS.row_ix (.tail _ (.head _)) hq_36 rfl rfl h_510
                  obtain ⟨v_517, rfl, hs_518⟩ := hr_515
                  refine sp (k := 16) rfl hK (by decide) (wtt hb_498) rfl (fun w hS => r_indexAddr_R Try.underlying23 Try.sizeOf44 hv_511 h_5100 h_5101 hK rfl rfl) fun a hK => ?_
                  refine sp (k := 17) rfl hK (by decide) (wtt hb_498) rfl (fun w hS => r_load Try.isAgg44 hK rfl (hS.row_cell (.tail _ (.head _)) hv_511 (hc_516 0 _ rfl))) fun a hK => ?_
                  refine thenL_nil ?_
                  obtain ⟨y_519, h_520, H⟩ := bind_some H
                  refine sl_callV Try.call31 hS hK (by decide) (wtt hb_498) rfl rfl (ref02_Row.calls y_499 y_509 (lentOf_sub [] _) (hs_508.mono hS.rLe0) (hs_518.mono hS.rLe0) h_520) fun a w hS hK => ?_
                  refine sl hK (by decide) (wtt hb_498) rfl (r_ibin hK rfl rfl rfl) fun a hK => ?_
                  refine sl hK (by decide) (wff hb_497) rfl (r_pick_t hb_498 hK rfl rfl) fun a hK => ?_
                  refine sl hK (by decide) rfl rfl (r_pick_f hb_497 hK rfl rfl) fun a hK => ?_
                  refine wpList_nil (NoP_nil ?_)
                  have hS := hS.pk2
                  have hS := hS.pk2
                  have hS := hS.pk2
                  exact ⟨(decide (y_519 ≤ 0)), H, hK.sub (all_cons rfl (all_cons rfl (all_cons rfl (all_cons rfl (all_cons rfl (all_cons rfl (all_nil))))))), hS⟩
                · rw [ifb_f hb_498] at H
                  refine sp_skip (k := 10) rfl hK (by decide) (wtf hb_498) rfl fun a hK => ?_
                  refine sp_skip (k := 11) rfl hK (by decide) (wtf hb_498) rfl fun a hK => ?_
                  refine sp_skip (k := 12) rfl hK (by decide) (wtf hb_498) rfl fun a hK => ?_
                  refine sp_skip (k := 13) rfl hK (by decide) (wtf hb_498) rfl fun a hK => ?_
                  refine sp_skip (k := 14) rfl hK (by decide) (wtf hb_498) rfl fun a hK => ?_
                  refine sp_skip (k := 15) rfl hK (by decide) (wtf hb_498) rfl fun a hK => ?_
                  refine sp_skip (k := 16) rfl hK (by decide) (wtf hb_498) rfl fun a hK => ?_
                  refine sp_skip (k := 17) rfl hK (by decide) (wtf hb_498) rfl fun a hK => ?_
                  refine thenL_nil ?_
                  refine sl_skip hK (by decide) (wtf hb_498) rfl fun a hK => ?_
                  refine sl_skip hK (by decide) (wtf hb_498) rfl fun a hK => ?_
                  refine sl hK (by decide) (wff hb_497) rfl (r_pick_f hb_498 hK rfl rfl) fun a hK => ?_
                  refine sl hK (by decide) rfl rfl (r_pick_f hb_497 hK rfl rfl) fun a hK => ?_
                  refine wpList_nil (NoP_nil ?_)
                  have hS := hS.pk2
                  have hS := hS.pk2
                  have hS := hS.pk2
                  exact ⟨false, H, hK.sub (all_cons rfl (all_cons rfl (all_cons rfl (all_cons rfl (all_cons rfl (all_cons rfl (all_nil))))))), hS⟩
            · rintro a w ⟨x_471, H, hK, hS⟩
              unfold ref02_sorted.j2 at H
              refine wp_mid (fun a w => ∃ (x_557 : List (List api_Value)) (x_561 : Int) (x_562 : Int) (v_558 : Value) (cs_559 : List Value), ref02_sorted.j3 (ref02_sorted.l0 y_16 y_29 k_l0) y_16 y_29 x_557 x_561 x_562 = some r ∧ Reps (tySl ty_api_Value) R_31 cs_559 x_557 ∧ Kn 77 a [(3, v_21), (4, v_34), (5, v_558), (6, .int .i64 x_561), (7, .int .i64 x_562)] ∧ St [] w0 w R_31 [.row 44 1 v_21 y_16.length cs_22, .row 44 1 v_34 y_29.length cs_35, .row 44 1 v_558 x_557.length cs_559]) ?_ ?_
              · refine wp_cond_split (hK.ev rfl) (fun (hb_564 : x_471 = true) => ?_) (fun (hb_564 : x_471 = false) => ?_)
                · rw [ifb_t hb_564] at H
                  refine wp_seq ?_
                  refine wp_region_lit ?_
                  refine sl hK (by decide) rfl rfl (r_move hK rfl) fun a hK => ?_
                  refine sl hK (by decide) rfl rfl (r_move hK rfl) fun a hK => ?_
                  refine sl hK (by decide) rfl rfl (r_move hK rfl) fun a hK => ?_
                  obtain ⟨y_565, h_566, H⟩ := bind_some H
                  obtain ⟨b_568, c_569, cs_570, hv_567, hr_571, hc_572, h_5660, h_5661⟩ := hS.row_ix (.head _) (hq_23.mono hl_32.le) rfl rfl h_566
                  obtain ⟨v_573, rfl, hs_574⟩ := hr_571
                  refine sl hK (by decide) rfl rfl (r_indexAddr_R Try.underlying23 Try.sizeOf44 hv_567 h_5660 h_5661 hK rfl rfl) fun a hK => ?_
                  refine sl hK (by decide) rfl rfl (r_load Try.isAgg44 hK rfl (hS.row_cell (.head _) hv_567 (hc_572 0 _ rfl))) fun a hK => ?_
                  refine sl_buildSliceF (zc := [.slice none 0 0]) (ps := [(0, v_573)]) (c := [v_573]) [[v_573]] Try.underlying23 Try.sizeOf44 Try.zeroValue44 rfl (pc_cons (cells1 hs_574.one) pc_nil) rfl rfl (Nat.le_of_ble_eq_true rfl) rfl (all_cons rfl (all_nil)) rfl hS hK (by decide) rfl fun a w b_575 hS hK => ?_
                  obtain ⟨y_576, h_577, H⟩ := bind_some H
                  have hS := hS.pk3
                  refine sl_append_L (ty := (tySl ty_api_Value)) (ys := [y_565]) elT23 (by decide) rfl hq_231 rfl (Reps.cons (show Ty.rep (tySl ty_api_Value) _ [v_573] y_565 from ⟨_, rfl, hs_574⟩) (Reps.nil _ _)) rfl h_577 hS hK (by decide) rfl rfl rfl fun a w v_578 cs_579 hq_580 hS hK => ?_
                  refine sl hK (by decide) rfl rfl (r_assign hK rfl) fun a hK => ?_
                  refine wpList_nil ?_
                  refine wp_region_lit ?_
                  refine sl hK (by decide) rfl rfl (r_move hK rfl) fun a hK => ?_
                  refine sl hK (by decide) rfl rfl (r_ibin hK rfl rfl rfl) fun a hK => ?_
                  refine sl hK (by decide) rfl rfl (r_assign hK rfl) fun a hK => ?_
                  refine wpList_nil ?_
                  have hS := hS.pk2
                  have hS := hS.pk2
                  exact ⟨y_576, (IntKind.i64.wrap (x_232 + 1)), x_233, _, _, H, hq_580, hK.sub (all_cons rfl (all_cons rfl (all_cons rfl (all_cons rfl (all_cons rfl (all_nil)))))), hS⟩
                · rw [ifb_f hb_564] at H
                  refine wp_seq ?_
                  refine wp_region_lit ?_
                  refine sl hK (by decide) rfl rfl (r_move hK rfl) fun a hK => ?_
                  refine sl hK (by decide) rfl rfl (r_move hK rfl) fun a hK => ?_
                  refine sl hK (by decide) rfl rfl (r_move hK rfl) fun a hK => ?_
                  obtain ⟨y_582, h_583, H⟩ := bind_some H
                  obtain ⟨b_585, c_586, cs_587, hv_584, hr_588, hc_589, h_5830, h_5831⟩ := hS.row_ix (.tail _ (.head _)) hq_36 rfl rfl h_583
                  obtain ⟨v_590, rfl, hs_591⟩ := hr_588
                  refine sl hK (by decide) rfl rfl (r_indexAddr_R Try.underlying23 Try.sizeOf44 hv_584 h_5830 h_5831 hK rfl rfl) fun a hK => ?_
                  refine sl hK (by decide) rfl rfl (r_load Try.isAgg44 hK rfl (hS.row_cell (.tail _ (.head _)) hv_584 (hc_589 0 _ rfl))) fun a hK => ?_
                  refine sl_buildSliceF (zc := [.slice none 0 0]) (ps := [(0, v_590)]) (c := [v_590]) [[v_590]] Try.underlying23 Try.sizeOf44 Try.zeroValue44 rfl (pc_cons (cells1 hs_591.one) pc_nil) rfl rfl (Nat.le_of_ble_eq_true rfl) rfl (all_cons rfl (all_nil)) rfl hS hK (by decide) rfl fun a w b_592 hS hK => ?_
                  obtain ⟨y_593, h_594, H⟩ := bind_some H
                  have hS := hS.pk3
                  refine sl_append_L (ty := (tySl ty_api_Value)) (ys := [y_582]) elT23 (by decide) rfl hq_231 rfl (Reps.cons (show Ty.rep (tySl ty_api_Value) _ [v_590] y_582 from ⟨_, rfl, hs_591⟩) (Reps.nil _ _)) rfl h_594 hS hK (by decide) rfl rfl rfl fun a w v_595 cs_596 hq_597 hS hK => ?_
                  refine sl hK (by decide) rfl rfl (r_assign hK rfl) fun a hK => ?_
                  refine wpList_nil ?_
                  refine wp_region_lit ?_
                  refine sl hK (by decide) rfl rfl (r_move hK rfl) fun a hK => ?_
                  refine sl hK (by decide) rfl rfl (r_ibin hK rfl rfl rfl) fun a hK => ?_
                  refine sl hK (by decide) rfl rfl (r_assign hK rfl) fun a hK => ?_
                  refine wpList_nil ?_
                  have hS := hS.pk2
                  have hS := hS.pk2
                  exact ⟨y_593, x_232, (IntKind.i64.wrap (x_233 + 1)), _, _, H, hq_597, hK.sub (all_cons rfl (all_cons rfl (all_cons rfl (all_cons rfl (all_cons rfl (all_nil)))))), hS⟩
              · rintro a w ⟨x_557, x_561, x_562, v_558, cs_559, H, hq_560, hK, hS⟩
                unfold ref02_sorted.j3 at H
                have hS := hS.pk2
                have hS := hS.pk2
                have hS := hS.pk2
                exact ⟨_, Nat.lt_succ_self _, x_557, x_561, x_562, _, _, H, hq_560, hK.sub (all_cons rfl (all_cons rfl (all_cons rfl (all_cons rfl (all_cons rfl (all_nil)))))), hS⟩
          · rw [ifb_f hb_422] at H
            refine wp_exit ?_
            refine wp_seq ?_
            refine wp_region_lit ?_
            refine sl hK (by decide) rfl rfl (r_move hK rfl) fun a hK => ?_
            refine sl hK (by decide) rfl rfl (r_assign hK rfl) fun a hK => ?_
            refine wpList_nil ?_
            obtain rfl := Option.some.inj H
            refine wp_ret ?_
            repeat (first | refine ret_then ?_ | refine ret_block ?_ | refine ret_scope ?_)
            exact ret_1 Try.results23 hK (rv_tmp hK rfl) ⟨_, rfl, _, _, _, rfl, (hS.pk2.trunc 1), hRL, hq_231⟩
theorem ref02_sorted.calls (a0 : List (List api_Value)) {w0 : World} {R : Hp} {v0_0 : Value} (hR : R.sub w0) (h0_0 : SlR (tySl ty_api_Value) R v0_0 a0) {r : List (List api_Value)} (H : ref02_sorted a0 = some r) : Calls Try.prog 23 #[v0_0] w0 (Rets fun v w' => ∃ (R' : Hp) (u0 : Value) (cu0 : List Value), v = u0 ∧ St [] w0 w' R' [.row 44 1 u0 r.length cu0] ∧ RLe [] w0 R R' ∧ Reps (tySl ty_api_Value) R' cu0 r) := ref02_sorted.r_calls _ a0 hR h0_0 H

/-! ### catchment/catchmentref02.Canon: function 11 -/
set_option maxHeartbeats 4000000 in
set_option maxRecDepth 100000 in
theorem ref02_Canon.calls (a0 : api_Table) {w0 : World} {R : Hp} {v0_0 : Value} {v0_1 : Value} (hR : R.sub w0) (h0_0 : SlR ty_api_Col R v0_0 a0.Cols) (h0_1 : SlR (tySl ty_api_Value) R v0_1 a0.Rows) {r : api_Table} (H : ref02_Canon a0 = some r) : Calls Try.prog 11 #[.agg #[v0_0, v0_1]] w0 (Rets fun v w' => ∃ (R' : Hp) (u0 : Value) (cu0 : List Value) (u1 : Value) (cu1 : List Value), v = .agg #[u0, u1] ∧ St [] w0 w' R' [.row 38 2 u0 r.Cols.length cu0, .row 44 1 u1 r.Rows.length cu1] ∧ RLe [] w0 R R' ∧ Reps ty_api_Col R' cu0 r.Cols ∧ Reps (tySl ty_api_Value) R' cu1 r.Rows) := by
  unfold ref02_Canon at H
  refine enter (args := [.agg #[v0_0, v0_1]]) Try.func11 rfl Try.ntmps11 rfl fun a hK => ?_
  have hS := St.init hR
  have hRL := RLe.refl (M := []) w0 R
  refine wp_seq ?_
  refine wp_region_lit ?_
  refine sl_box hS hK (by decide) rfl rfl (c := [v0_0, v0_1]) rfl fun a w b_1 hS hK => ?_
  refine sl_alloc Try.zeroValue25 hS hK (by decide) rfl rfl fun a w b_2 hS hK => ?_
  refine wpList_nil ?_
  refine wp_seq ?_
  refine parT_region (C := fun w => St [] w0 w R [.cells b_2 [.slice none 0 0, .slice none 0 0] 25, .cells b_1 [v0_0, v0_1] 25]) 6 [(1, true), (2, true), (4, true), (5, true), (0, false), (3, false)] mixed (by kernel_rfl) hS (fun w hS => hS) fun w hS => ?_
  refine sp (k := 1) rfl hK (by decide) rfl rfl (fun w hS => r_fieldAddr Try.underlying25 rfl Try.sizeOf22 hK rfl) fun a hK => ?_
  refine sp (k := 2) rfl hK (by decide) rfl rfl (fun w hS => r_load Try.isAgg22 hK rfl (hS.cell (.tail _ (.head _)) rfl)) fun a hK => ?_
  refine sp (k := 4) rfl hK (by decide) rfl rfl (fun w hS => r_fieldAddr Try.underlying25 rfl Try.sizeOf23 hK rfl) fun a hK => ?_
  refine sp (k := 5) rfl hK (by decide) rfl rfl (fun w hS => r_load Try.isAgg23 hK rfl (hS.cell (.tail _ (.head _)) rfl)) fun a hK => ?_
  refine spw (k := 0) rfl rfl hS ?_
  refine sl_buildSliceC (zc := [.string (⟨#[]⟩ : ByteArray), .int .i64 0]) (zs := []) (ps := []) (c := []) Try.underlying22 Try.sizeOf38 Try.zeroValue38 rfl pc_nil rfl rfl (by decide) (by kernel_rfl) rfl hS hK (by decide) rfl fun a w b_22 hS hK => ?_
  refine parK_nil (hS.pk2.pk2.trunc 2) ?_
  refine spw (k := 3) rfl rfl (hS.pk2.pk2.trunc 2) ?_
  obtain ⟨y_25, h_26, H⟩ := bind_some H
  have hS := hS.row_lit (size := 2) (m := 0) rfl (by decide)
  have hq_24 : Reps ty_api_Col R [] ([] : List api_Col) := (Reps.nil _ _)
  refine sl_append_R elT22 (by decide) rfl hq_24 rfl h0_0 h_26 hS hK (by decide) rfl rfl rfl fun a w v_27 cs_28 hq_29 hS hK => ?_
  refine parK_nil (hS.pk2.pk2.trunc 2) ?_
  refine thenL_nil ?_
  obtain ⟨y_31, h_32, H⟩ := bind_some H
  refine sl_call Try.call23 hK (by decide) rfl rfl rfl (ref02_sorted.calls a0.Rows hS.sub h0_1 h_32) fun a v_ w hv_ hK => ?_
  obtain ⟨R_33, v_36, cs_37, hv_, hr_, hl_34, hq_38⟩ := hv_
  have hv_ := hv_.symm
  subst hv_
  obtain ⟨hS, hl_34⟩ := hS.sp0.back hr_ hl_34
  have hS := hS.un1
  have hRL := hRL.trans hl_34
  have ho_39 := hS.row_one (.tail _ (.head _))
  have ho_40 := hS.row_one (.head _)
  refine sl hK (by decide) rfl rfl (r_buildC (ps := [(0, v_27), (1, v_36)]) (c := [v_27, v_36]) Try.underlying25 Try.zeroValue25 places25 hK rfl (pc_cons (cells1 ho_39) (pc_cons (cells1 ho_40) pc_nil)) rfl rfl) fun a hK => ?_
  have hS := hS.pk2
  refine sl_storeA (vs := [v_27, v_36]) (c' := [v_27, v_36]) Try.sizeOf25 hS hK rfl rfl rfl rfl (all_cons (hS.row_one (.tail _ (.tail _ (.head _)))) (all_cons (hS.row_one (.tail _ (.head _))) (all_nil))) (Nat.le_of_ble_eq_true rfl) rfl fun a w hS hK => ?_
  refine wpList_nil (NoP_nil ?_)
  obtain rfl := Option.some.inj H
  refine wp_ret ?_
  repeat (first | refine ret_then ?_ | refine ret_block ?_ | refine ret_scope ?_)
  exact ret_1 Try.results11 hK (rv_cell (c := [v_27, v_36]) Try.isAgg25 Try.sizeOf25 hS (.head _) rfl hK rfl) ⟨_, rfl, _, _, _, _, _, rfl, (hS.pk1.pk2.trunc 2), hRL, (hq_29.mono hl_34.le), hq_38⟩

/-! ### catchment/catchmentref02.Name: function 54 -/
set_option maxHeartbeats 4000000 in
set_option maxRecDepth 100000 in
theorem ref02_Name.calls (a0 : ByteArray) {r : Bool} (H : ref02_Name a0 = some r) (w0 : World) : CallsV Try.prog 54 #[.string a0] w0 (.bool r) := by
  unfold ref02_Name at H
  refine enter (args := [.string a0]) Try.func54 rfl Try.ntmps54 rfl fun a hK => ?_
  have hS := St.init (R := fun _ => none) (w := w0) (fun _ _ h => by cases h)
  have hRL := RLe.refl (M := []) w0 (fun _ => none)
  refine wp_seq ?_
  refine wp_region_lit ?_
  refine sl hK (by decide) rfl rfl (r_assign hK rfl) fun a hK => ?_
  refine wpList_nil ?_
  refine wp_seq ?_
  refine wp_seq ?_
  refine wp_mid (fun a w => ∃ (x_8 : Bool), ref02_Name.j0 a0 x_8 = some r ∧ Kn 55 a [(0, .string a0), (22, .bool x_8)] ∧ St [] w0 w (fun _ => none) []) ?_ ?_
  · refine wp_region_lit ?_
    refine sl hK (by decide) rfl rfl (r_move hK rfl) fun a hK => ?_
    refine sl hK (by decide) rfl rfl (r_len_str Try.underlying9 hK rfl) fun a hK => ?_
    refine sl hK (by decide) rfl rfl (r_ibin hK rfl rfl rfl) fun a hK => ?_
    refine sl hK (by decide) rfl rfl (r_move hK rfl) fun a hK => ?_
    rcases or_b (decide ((a0.size : Int) < 1)) with hb_10 | hb_10
    · rw [ifb_t hb_10] at H
      refine sl_skip hK (by decide) (wft hb_10) rfl fun a hK => ?_
      refine sl_skip hK (by decide) (wft hb_10) rfl fun a hK => ?_
      refine sl_skip hK (by decide) (wft hb_10) rfl fun a hK => ?_
      refine sl hK (by decide) rfl rfl (r_pick_t hb_10 hK rfl rfl) fun a hK => ?_
      refine sl hK (by decide) rfl rfl (r_move hK rfl) fun a hK => ?_
      refine sl_skip hK (by decide) rfl rfl fun a hK => ?_
      refine sl_skip hK (by decide) rfl rfl fun a hK => ?_
      refine sl_skip hK (by decide) rfl rfl fun a hK => ?_
      refine sl hK (by decide) rfl rfl (r_pick hK rfl rfl rfl) fun a hK => ?_
      refine sl hK (by decide) rfl rfl (r_move hK rfl) fun a hK => ?_
      refine sl_skip hK (by decide) rfl rfl fun a hK => ?_
      refine sl_skip hK (by decide) rfl rfl fun a hK => ?_
      refine sl_skip hK (by decide) rfl rfl fun a hK => ?_
      refine sl hK (by decide) rfl rfl (r_pick hK rfl rfl rfl) fun a hK => ?_
      refine wpList_nil ?_
      exact ⟨true, H, hK.sub (all_cons rfl (all_cons rfl (all_nil))), hS⟩
    · rw [ifb_f hb_10] at H
      refine sl hK (by decide) (wff hb_10) rfl (r_move hK rfl) fun a hK => ?_
      refine sl hK (by decide) (wff hb_10) rfl (r_len_str Try.underlying9 hK rfl) fun a hK => ?_
      refine sl hK (by decide) (wff hb_10) rfl (r_ibin hK rfl rfl rfl) fun a hK => ?_
      refine sl hK (by decide) rfl rfl (r_pick_f hb_10 hK rfl rfl) fun a hK => ?_
      refine sl hK (by decide) rfl rfl (r_move hK rfl) fun a hK => ?_
      rcases or_b (decide ((a0.size : Int) > 24)) with hb_11 | hb_11
      · rw [ifb_t hb_11] at H
        refine sl_skip hK (by decide) (wft hb_11) rfl fun a hK => ?_
        refine sl_skip hK (by decide) (wft hb_11) rfl fun a hK => ?_
        refine sl_skip hK (by decide) (wft hb_11) rfl fun a hK => ?_
        refine sl hK (by decide) rfl rfl (r_pick_t hb_11 hK rfl rfl) fun a hK => ?_
        refine sl hK (by decide) rfl rfl (r_move hK rfl) fun a hK => ?_
        refine sl_skip hK (by decide) rfl rfl fun a hK => ?_
        refine sl_skip hK (by decide) rfl rfl fun a hK => ?_
        refine sl_skip hK (by decide) rfl rfl fun a hK => ?_
        refine sl hK (by decide) rfl rfl (r_pick hK rfl rfl rfl) fun a hK => ?_
        refine wpList_nil ?_
        exact ⟨true, H, hK.sub (all_cons rfl (all_cons rfl (all_nil))), hS⟩
      · rw [ifb_f hb_11] at H
        refine sl hK (by decide) (wff hb_11) rfl (r_move hK rfl) fun a hK => ?_
        obtain ⟨y_12, h_13, H⟩ := bind_some H
        refine sl hK (by decide) (wff hb_11) rfl (r_index_str' Try.underlying9 h_13 hK rfl rfl) fun a hK => ?_
        refine sl hK (by decide) (wff hb_11) rfl (r_ibin hK rfl rfl rfl) fun a hK => ?_
        refine sl hK (by decide) rfl rfl (r_pick_f hb_11 hK rfl rfl) fun a hK => ?_
        refine sl hK (by decide) rfl rfl (r_move hK rfl) fun a hK => ?_
        rcases or_b (decide (y_12 < 97)) with hb_14 | hb_14
        · rw [ifb_t hb_14] at H
          refine sl_skip hK (by decide) (wft hb_14) rfl fun a hK => ?_
          refine sl_skip hK (by decide) (wft hb_14) rfl fun a hK => ?_
          refine sl_skip hK (by decide) (wft hb_14) rfl fun a hK => ?_
          refine sl hK (by decide) rfl rfl (r_pick_t hb_14 hK rfl rfl) fun a hK => ?_
          refine wpList_nil ?_
          exact ⟨true, H, hK.sub (all_cons rfl (all_cons rfl (all_nil))), hS⟩
        · rw [ifb_f hb_14] at H
          refine sl hK (by decide) (wff hb_14) rfl (r_move hK rfl) fun a hK => ?_
          obtain ⟨y_15, h_16, H⟩ := bind_some H
          refine sl hK (by decide) (wff hb_14) rfl (r_index_str' Try.underlying9 h_16 hK rfl rfl) fun a hK => ?_
          refine sl hK (by decide) (wff hb_14) rfl (r_ibin hK rfl rfl rfl) fun a hK => ?_
          refine sl hK (by decide) rfl rfl (r_pick_f hb_14 hK rfl rfl) fun a hK => ?_
          refine wpList_nil ?_
          exact ⟨(decide (y_15 > 122)), H, hK.sub (all_cons rfl (all_cons rfl (all_nil))), hS⟩
  · rintro a w ⟨x_8, H, hK, hS⟩
    unfold ref02_Name.j0 at H
    refine wp_cond_split (hK.ev rfl) (fun (hb_17 : x_8 = true) => ?_) (fun (hb_17 : x_8 = false) => ?_)
    · rw [ifb_t hb_17] at H
      refine wp_seq ?_
      refine wp_region_lit ?_
      refine sl hK (by decide) rfl rfl (r_assign hK rfl) fun a hK => ?_
      refine wpList_nil ?_
      obtain rfl := Option.some.inj H
      refine wp_ret ?_
      repeat (first | refine ret_then ?_ | refine ret_block ?_ | refine ret_scope ?_)
      exact ret_1 Try.results54 hK (rv_tmp hK rfl) ⟨rfl, hS.bel⟩
    · rw [ifb_f hb_17] at H
      refine wp_skip ?_
      refine wp_seq ?_
      refine wp_seq ?_
      refine wp_region_lit ?_
      refine sl hK (by decide) rfl rfl (r_assign hK rfl) fun a hK => ?_
      refine wpList_nil ?_
      refine wp_block ?_
      refine wp_loop_k (fun k_l1 a w => ∃ (x_45 : Int), ref02_Name.l1 a0 k_l1 x_45 = some r ∧ Kn 55 a [(0, .string a0), (3, .int .i64 x_45)] ∧ St [] w0 w (fun _ => none) []) (((a0.size : Int) - 0).toNat + 1) ?_ ?_
      · exact ⟨0, H, hK.sub (all_cons rfl (all_cons rfl (all_nil))), hS⟩
      · rintro k_l1 a w ⟨x_45, H, hK, hS⟩
        cases k_l1 with
        | zero => cases H
        | succ k_l1 =>
        rw [ref02_Name.l1.eq_2] at H
        refine wp_seq ?_
        refine wp_seq ?_
        refine wp_region_lit ?_
        refine sl hK (by decide) rfl rfl (r_move hK rfl) fun a hK => ?_
        refine sl hK (by decide) rfl rfl (r_move hK rfl) fun a hK => ?_
        refine sl hK (by decide) rfl rfl (r_len_str Try.underlying9 hK rfl) fun a hK => ?_
        refine sl hK (by decide) rfl rfl (r_ibin hK rfl rfl rfl) fun a hK => ?_
        refine wpList_nil ?_
        refine wp_cond_split (hK.ev rfl) (fun (hb_73 : (decide (x_45 < (a0.size : Int))) = true) => ?_) (fun (hb_73 : (decide (x_45 < (a0.size : Int))) = false) => ?_)
        · rw [ifb_t hb_73] at H
          refine wp_skip ?_
          refine wp_seq ?_
          refine wp_block ?_
          refine wp_seq ?_
          refine wp_region_lit ?_
          refine sl hK (by decide) rfl rfl (r_move hK rfl) fun a hK => ?_
          refine sl hK (by decide) rfl rfl (r_move hK rfl) fun a hK => ?_
          obtain ⟨y_74, h_75, H⟩ := bind_some H
          refine sl hK (by decide) rfl rfl (r_index_str' Try.underlying9 h_75 hK rfl rfl) fun a hK => ?_
          refine sl hK (by decide) rfl rfl (r_assign hK rfl) fun a hK => ?_
          refine wpList_nil ?_
          refine wp_seq ?_
          refine wp_mid (fun a w => ∃ (x_86 : Bool), ref02_Name.j2 (ref02_Name.l1 a0 k_l1) a0 x_45 x_86 = some r ∧ Kn 55 a [(0, .string a0), (3, .int .i64 x_45), (54, .bool x_86)] ∧ St [] w0 w (fun _ => none) []) ?_ ?_
          · refine wp_region_lit ?_
            refine sl hK (by decide) rfl rfl (r_move hK rfl) fun a hK => ?_
            refine sl hK (by decide) rfl rfl (r_ibin hK rfl rfl rfl) fun a hK => ?_
            refine sl hK (by decide) rfl rfl (r_move hK rfl) fun a hK => ?_
            rcases or_b (decide (y_74 ≥ 97)) with hb_88 | hb_88
            · rw [ifb_t hb_88] at H
              refine sl hK (by decide) (wtt hb_88) rfl (r_move hK rfl) fun a hK => ?_
              refine sl hK (by decide) (wtt hb_88) rfl (r_ibin hK rfl rfl rfl) fun a hK => ?_
              refine sl hK (by decide) rfl rfl (r_pick_t hb_88 hK rfl rfl) fun a hK => ?_
              refine sl hK (by decide) rfl rfl (r_move hK rfl) fun a hK => ?_
              rcases or_b (decide (y_74 ≤ 122)) with hb_89 | hb_89
              · rw [ifb_t hb_89] at H
                refine sl_skip hK (by decide) (wft hb_89) rfl fun a hK => ?_
                refine sl_skip hK (by decide) (wft hb_89) rfl fun a hK => ?_
                refine sl_skip hK (by decide) (wft hb_89) rfl fun a hK => ?_
                refine sl_skip hK (by decide) rfl rfl fun a hK => ?_
                refine sl_skip hK (by decide) rfl rfl fun a hK => ?_
                refine sl_skip hK (by decide) (wft hb_89) rfl fun a hK => ?_
                refine sl hK (by decide) rfl rfl (r_pick_t hb_89 hK rfl rfl) fun a hK => ?_
                refine sl hK (by decide) rfl rfl (r_move hK rfl) fun a hK => ?_
                refine sl_skip hK (by decide) rfl rfl fun a hK => ?_
                refine sl_skip hK (by decide) rfl rfl fun a hK => ?_
                refine sl hK (by decide) rfl rfl (r_pick hK rfl rfl rfl) fun a hK => ?_
                refine sl hK (by decide) rfl rfl (r_move hK rfl) fun a hK => ?_
                refine sl_skip hK (by decide) rfl rfl fun a hK => ?_
                refine sl_skip hK (by decide) rfl rfl fun a hK => ?_
                refine sl hK (by decide) rfl rfl (r_pick hK rfl rfl rfl) fun a hK => ?_
                refine sl hK (by decide) rfl rfl (r_un hK rfl (u_not _)) fun a hK => ?_
                refine wpList_nil ?_
                exact ⟨false, H, hK.sub (all_cons rfl (all_cons rfl (all_cons rfl (all_nil)))), hS⟩
              · rw [ifb_f hb_89] at H
                refine sl hK (by decide) (wff hb_89) rfl (r_move hK rfl) fun a hK => ?_
                refine sl hK (by decide) (wff hb_89) rfl (r_ibin hK rfl rfl rfl) fun a hK => ?_
                refine sl hK (by decide) (wff hb_89) rfl (r_move hK rfl) fun a hK => ?_
                rcases or_b (decide (y_74 ≥ 48)) with hb_90 | hb_90
                · rw [ifb_t hb_90] at H
                  refine sl hK (by decide) (wtt hb_90) rfl (r_move hK rfl) fun a hK => ?_
                  refine sl hK (by decide) (wtt hb_90) rfl (r_ibin hK rfl rfl rfl) fun a hK => ?_
                  refine sl hK (by decide) (wff hb_89) rfl (r_pick_t hb_90 hK rfl rfl) fun a hK => ?_
                  refine sl hK (by decide) rfl rfl (r_pick_f hb_89 hK rfl rfl) fun a hK => ?_
                  refine sl hK (by decide) rfl rfl (r_move hK rfl) fun a hK => ?_
                  rcases or_b (decide (y_74 ≤ 57)) with hb_91 | hb_91
                  · rw [ifb_t hb_91] at H
                    refine sl_skip hK (by decide) (wft hb_91) rfl fun a hK => ?_
                    refine sl_skip hK (by decide) (wft hb_91) rfl fun a hK => ?_
                    refine sl hK (by decide) rfl rfl (r_pick_t hb_91 hK rfl rfl) fun a hK => ?_
                    refine sl hK (by decide) rfl rfl (r_move hK rfl) fun a hK => ?_
                    refine sl_skip hK (by decide) rfl rfl fun a hK => ?_
                    refine sl_skip hK (by decide) rfl rfl fun a hK => ?_
                    refine sl hK (by decide) rfl rfl (r_pick hK rfl rfl rfl) fun a hK => ?_
                    refine sl hK (by decide) rfl rfl (r_un hK rfl (u_not _)) fun a hK => ?_
                    refine wpList_nil ?_
                    exact ⟨false, H, hK.sub (all_cons rfl (all_cons rfl (all_cons rfl (all_nil)))), hS⟩
                  · rw [ifb_f hb_91] at H
                    refine sl hK (by decide) (wff hb_91) rfl (r_move hK rfl) fun a hK => ?_
                    refine sl hK (by decide) (wff hb_91) rfl (r_ibin hK rfl rfl rfl) fun a hK => ?_
                    refine sl hK (by decide) rfl rfl (r_pick_f hb_91 hK rfl rfl) fun a hK => ?_
                    refine sl hK (by decide) rfl rfl (r_move hK rfl) fun a hK => ?_
                    rcases or_b (y_74 == 95) with hb_92 | hb_92
                    · rw [ifb_t hb_92] at H
                      refine sl_skip hK (by decide) (wft hb_92) rfl fun a hK => ?_
                      refine sl_skip hK (by decide) (wft hb_92) rfl fun a hK => ?_
                      refine sl hK (by decide) rfl rfl (r_pick_t hb_92 hK rfl rfl) fun a hK => ?_
                      refine sl hK (by decide) rfl rfl (r_un hK rfl (u_not _)) fun a hK => ?_
                      refine wpList_nil ?_
                      exact ⟨false, H, hK.sub (all_cons rfl (all_cons rfl (all_cons rfl (all_nil)))), hS⟩
                    · rw [ifb_f hb_92] at H
                      refine sl hK (by decide) (wff hb_92) rfl (r_move hK rfl) fun a hK => ?_
                      refine sl hK (by decide) (wff hb_92) rfl (r_ibin hK rfl rfl rfl) fun a hK => ?_
                      refine sl hK (by decide) rfl rfl (r_pick_f hb_92 hK rfl rfl) fun a hK => ?_
                      refine sl hK (by decide) rfl rfl (r_un hK rfl (u_not _)) fun a hK => ?_
                      refine wpList_nil ?_
                      exact ⟨(!(y_74 == 35)), H, hK.sub (all_cons rfl (all_cons rfl (all_cons rfl (all_nil)))), hS⟩
                · rw [ifb_f hb_90] at H
                  refine sl_skip hK (by decide) (wtf hb_90) rfl fun a hK => ?_
                  refine sl_skip hK (by decide) (wtf hb_90) rfl fun a hK => ?_
                  refine sl hK (by decide) (wff hb_89) rfl (r_pick_f hb_90 hK rfl rfl) fun a hK => ?_
                  refine sl hK (by decide) rfl rfl (r_pick_f hb_89 hK rfl rfl) fun a hK => ?_
                  refine sl hK (by decide) rfl rfl (r_move hK rfl) fun a hK => ?_
                  refine sl hK (by decide) rfl rfl (r_move hK rfl) fun a hK => ?_
                  refine sl hK (by decide) rfl rfl (r_ibin hK rfl rfl rfl) fun a hK => ?_
                  refine sl hK (by decide) rfl rfl (r_pick hK rfl rfl rfl) fun a hK => ?_
                  refine sl hK (by decide) rfl rfl (r_move hK rfl) fun a hK => ?_
                  rcases or_b (y_74 == 95) with hb_93 | hb_93
                  · rw [ifb_t hb_93] at H
                    refine sl_skip hK (by decide) (wft hb_93) rfl fun a hK => ?_
                    refine sl_skip hK (by decide) (wft hb_93) rfl fun a hK => ?_
                    refine sl hK (by decide) rfl rfl (r_pick_t hb_93 hK rfl rfl) fun a hK => ?_
                    refine sl hK (by decide) rfl rfl (r_un hK rfl (u_not _)) fun a hK => ?_
                    refine wpList_nil ?_
                    exact ⟨false, H, hK.sub (all_cons rfl (all_cons rfl (all_cons rfl (all_nil)))), hS⟩
                  · rw [ifb_f hb_93] at H
                    refine sl hK (by decide) (wff hb_93) rfl (r_move hK rfl) fun a hK => ?_
                    refine sl hK (by decide) (wff hb_93) rfl (r_ibin hK rfl rfl rfl) fun a hK => ?_
                    refine sl hK (by decide) rfl rfl (r_pick_f hb_93 hK rfl rfl) fun a hK => ?_
                    refine sl hK (by decide) rfl rfl (r_un hK rfl (u_not _)) fun a hK => ?_
                    refine wpList_nil ?_
                    exact ⟨(!(y_74 == 35)), H, hK.sub (all_cons rfl (all_cons rfl (all_cons rfl (all_nil)))), hS⟩
            · rw [ifb_f hb_88] at H
              refine sl_skip hK (by decide) (wtf hb_88) rfl fun a hK => ?_
              refine sl_skip hK (by decide) (wtf hb_88) rfl fun a hK => ?_
              refine sl hK (by decide) rfl rfl (r_pick_f hb_88 hK rfl rfl) fun a hK => ?_
              refine sl hK (by decide) rfl rfl (r_move hK rfl) fun a hK => ?_
              refine sl hK (by decide) rfl rfl (r_move hK rfl) fun a hK => ?_
              refine sl hK (by decide) rfl rfl (r_ibin hK rfl rfl rfl) fun a hK => ?_
              refine sl hK (by decide) rfl rfl (r_move hK rfl) fun a hK => ?_
              rcases or_b (decide (y_74 ≥ 48)) with hb_94 | hb_94
              · rw [ifb_t hb_94] at H
                refine sl hK (by decide) (wtt hb_94) rfl (r_move hK rfl) fun a hK => ?_
                refine sl hK (by decide) (wtt hb_94) rfl (r_ibin hK rfl rfl rfl) fun a hK => ?_
                refine sl hK (by decide) rfl rfl (r_pick_t hb_94 hK rfl rfl) fun a hK => ?_
                refine sl hK (by decide) rfl rfl (r_pick hK rfl rfl rfl) fun a hK => ?_
                refine sl hK (by decide) rfl rfl (r_move hK rfl) fun a hK => ?_
                rcases or_b (decide (y_74 ≤ 57)) with hb_95 | hb_95
                · rw [ifb_t hb_95] at H
                  refine sl_skip hK (by decide) (wft hb_95) rfl fun a hK => ?_
                  refine sl_skip hK (by decide) (wft hb_95) rfl fun a hK => ?_
                  refine sl hK (by decide) rfl rfl (r_pick_t hb_95 hK rfl rfl) fun a hK => ?_
                  refine sl hK (by decide) rfl rfl (r_move hK rfl) fun a hK => ?_
                  refine sl_skip hK (by decide) rfl rfl fun a hK => ?_
                  refine sl_skip hK (by decide) rfl rfl fun a hK => ?_
                  refine sl hK (by decide) rfl rfl (r_pick hK rfl rfl rfl) fun a hK => ?_
                  refine sl hK (by decide) rfl rfl (r_un hK rfl (u_not _)) fun a hK => ?_
                  refine wpList_nil ?_
                  exact ⟨false, H, hK.sub (all_cons rfl (all_cons rfl (all_cons rfl (all_nil)))), hS⟩
                · rw [ifb_f hb_95] at H
                  refine sl hK (by decide) (wff hb_95) rfl (r_move hK rfl) fun a hK => ?_
                  refine sl hK (by decide) (wff hb_95) rfl (r_ibin hK rfl rfl rfl) fun a hK => ?_
                  refine sl hK (by decide) rfl rfl (r_pick_f hb_95 hK rfl rfl) fun a hK => ?_
                  refine sl hK (by decide) rfl rfl (r_move hK rfl) fun a hK => ?_
                  rcases or_b (y_74 == 95) with hb_96 | hb_96
                  · rw [ifb_t hb_96] at H
                    refine sl_skip hK (by decide) (wft hb_96) rfl fun a hK => ?_
                    refine sl_skip hK (by decide) (wft hb_96) rfl fun a hK => ?_
                    refine sl hK (by decide) rfl rfl (r_pick_t hb_96 hK rfl rfl) fun a hK => ?_
                    refine sl hK (by decide) rfl rfl (r_un hK rfl (u_not _)) fun a hK => ?_
                    refine wpList_nil ?_
                    exact ⟨false, H, hK.sub (all_cons rfl (all_cons rfl (all_cons rfl (all_nil)))), hS⟩
                  · rw [ifb_f hb_96] at H
                    refine sl hK (by decide) (wff hb_96) rfl (r_move hK rfl) fun a hK => ?_
                    refine sl hK (by decide) (wff hb_96) rfl (r_ibin hK rfl rfl rfl) fun a hK => ?_
                    refine sl hK (by decide) rfl rfl (r_pick_f hb_96 hK rfl rfl) fun a hK => ?_
                    refine sl hK (by decide) rfl rfl (r_un hK rfl (u_not _)) fun a hK => ?_
                    refine wpList_nil ?_
                    exact ⟨(!(y_74 == 35)), H, hK.sub (all_cons rfl (all_cons rfl (all_cons rfl (all_nil)))), hS⟩
              · rw [ifb_f hb_94] at H
                refine sl_skip hK (by decide) (wtf hb_94) rfl fun a hK => ?_
                refine sl_skip hK (by decide) (wtf hb_94) rfl fun a hK => ?_
                refine sl hK (by decide) rfl rfl (r_pick_f hb_94 hK rfl rfl) fun a hK => ?_
                refine sl hK (by decide) rfl rfl (r_pick hK rfl rfl rfl) fun a hK => ?_
                refine sl hK (by decide) rfl rfl (r_move hK rfl) fun a hK => ?_
                refine sl hK (by decide) rfl rfl (r_move hK rfl) fun a hK => ?_
                refine sl hK (by decide) rfl rfl (r_ibin hK rfl rfl rfl) fun a hK => ?_
                refine sl hK (by decide) rfl rfl (r_pick hK rfl rfl rfl) fun a hK => ?_
                refine sl hK (by decide) rfl rfl (r_move hK rfl) fun a hK => ?_
                rcases or_b (y_74 == 95) with hb_97 | hb_97
                · rw [ifb_t hb_97] at H
                  refine sl_skip hK (by decide) (wft hb_97) rfl fun a hK => ?_
                  refine sl_skip hK (by decide) (wft hb_97) rfl fun a hK => ?_
                  refine sl hK (by decide) rfl rfl (r_pick_t hb_97 hK rfl rfl) fun a hK => ?_
                  refine sl hK (by decide) rfl rfl (r_un hK rfl (u_not _)) fun a hK => ?_
                  refine wpList_nil ?_
                  exact ⟨false, H, hK.sub (all_cons rfl (all_cons rfl (all_cons rfl (all_nil)))), hS⟩
                · rw [ifb_f hb_97] at H
                  refine sl hK (by decide) (wff hb_97) rfl (r_move hK rfl) fun a hK => ?_
                  refine sl hK (by decide) (wff hb_97) rfl (r_ibin hK rfl rfl rfl) fun a hK => ?_
                  refine sl hK (by decide) rfl rfl (r_pick_f hb_97 hK rfl rfl) fun a hK => ?_
                  refine sl hK (by decide) rfl rfl (r_un hK rfl (u_not _)) fun a hK => ?_
                  refine wpList_nil ?_
                  exact ⟨(!(y_74 == 35)), H, hK.sub (all_cons rfl (all_cons rfl (all_cons rfl (all_nil)))), hS⟩
          · rintro a w ⟨x_86, H, hK, hS⟩
            unfold ref02_Name.j2 at H
            refine wp_cond_split (hK.ev rfl) (fun (hb_98 : x_86 = true) => ?_) (fun (hb_98 : x_86 = false) => ?_)
            · rw [ifb_t hb_98] at H
              refine wp_seq ?_
              refine wp_region_lit ?_
              refine sl hK (by decide) rfl rfl (r_assign hK rfl) fun a hK => ?_
              refine wpList_nil ?_
              obtain rfl := Option.some.inj H
              refine wp_ret ?_
              repeat (first | refine ret_then ?_ | refine ret_block ?_ | refine ret_scope ?_)
              exact ret_1 Try.results54 hK (rv_tmp hK rfl) ⟨rfl, hS.bel⟩
            · rw [ifb_f hb_98] at H
              refine wp_skip ?_
              refine wp_region_lit ?_
              refine sl hK (by decide) rfl rfl (r_move hK rfl) fun a hK => ?_
              refine sl hK (by decide) rfl rfl (r_ibin hK rfl rfl rfl) fun a hK => ?_
              refine sl hK (by decide) rfl rfl (r_assign hK rfl) fun a hK => ?_
              refine wpList_nil ?_
              exact ⟨_, Nat.lt_succ_self _, (IntKind.i64.wrap (x_45 + 1)), H, hK.sub (all_cons rfl (all_cons rfl (all_nil))), hS⟩
        · rw [ifb_f hb_73] at H
          refine wp_exit ?_
          refine wp_seq ?_
          refine wp_region_lit ?_
          refine sl hK (by decide) rfl rfl (r_assign hK rfl) fun a hK => ?_
          refine wpList_nil ?_
          obtain rfl := Option.some.inj H
          refine wp_ret ?_
          repeat (first | refine ret_then ?_ | refine ret_block ?_ | refine ret_scope ?_)
          exact ret_1 Try.results54 hK (rv_tmp hK rfl) ⟨rfl, hS.bel⟩

/-! ### catchment/catchmentref02.Find: function 28 -/
set_option maxHeartbeats 4000000 in
set_option maxRecDepth 100000 in
theorem ref02_Find.calls (a0 : List api_Col) (a1 : ByteArray) {w0 : World} {RA : Hp} {v0_0 : Value} (hRA : RA.sub w0) (h0_0 : SlR ty_api_Col RA v0_0 a0) {r : Int} (H : ref02_Find a0 a1 = some r) : CallsV Try.prog 28 #[v0_0, .string a1] w0 (.int .i64 r) := by
  unfold ref02_Find at H
  refine enter (args := [v0_0, .string a1]) Try.func28 rfl Try.ntmps28 rfl fun a hK => ?_
  have hS := St.init (R := fun _ => none) (w := w0) (fun _ _ h => by cases h)
  have hRL := RLe.refl (M := []) w0 (fun _ => none)
  refine wp_seq ?_
  refine wp_region_lit ?_
  refine sl hK (by decide) rfl rfl (r_assign hK rfl) fun a hK => ?_
  refine wpList_nil ?_
  refine wp_seq ?_
  refine wp_seq ?_
  refine wp_region_lit ?_
  refine sl hK (by decide) rfl rfl (r_assign hK rfl) fun a hK => ?_
  refine wpList_nil ?_
  refine wp_block ?_
  refine wp_loop_k (fun k_l0 a w => ∃ (x_13 : Int), ref02_Find.l0 a0 a1 k_l0 x_13 = some r ∧ Kn 20 a [(0, v0_0), (1, .string a1), (5, .int .i64 x_13)] ∧ St [] w0 w (fun _ => none) []) (((a0.length : Int) - 0).toNat + 1) ?_ ?_
  · exact ⟨0, H, hK.sub (all_cons rfl (all_cons rfl (all_cons rfl (all_nil)))), hS⟩
  · rintro k_l0 a w ⟨x_13, H, hK, hS⟩
    cases k_l0 with
    | zero => cases H
    | succ k_l0 =>
    rw [ref02_Find.l0.eq_2] at H
    refine wp_seq ?_
    refine wp_seq ?_
    refine wp_region_lit ?_
    refine sl hK (by decide) rfl rfl (r_move hK rfl) fun a hK => ?_
    refine sl hK (by decide) rfl rfl (r_move hK rfl) fun a hK => ?_
    refine sl hK (by decide) rfl rfl (r_len_R Try.underlying22 h0_0 hK rfl) fun a hK => ?_
    refine sl hK (by decide) rfl rfl (r_ibin hK rfl rfl rfl) fun a hK => ?_
    refine wpList_nil ?_
    refine wp_cond_split (hK.ev rfl) (fun (hb_26 : (decide (x_13 < (a0.length : Int))) = true) => ?_) (fun (hb_26 : (decide (x_13 < (a0.length : Int))) = false) => ?_)
    · rw [ifb_t hb_26] at H
      refine wp_skip ?_
      refine wp_seq ?_
      refine wp_block ?_
      refine wp_seq ?_
      refine wp_region_lit ?_
      refine sl hK (by decide) rfl rfl (r_move hK rfl) fun a hK => ?_
      refine sl hK (by decide) rfl rfl (r_move hK rfl) fun a hK => ?_
      obtain ⟨y_27, h_28, H⟩ := bind_some H
      obtain ⟨b_29, o_30, c_31, cs_32, hv_33, hr_34, hc_35, h_280, h_281⟩ := h0_0.ix h_28
      subst hr_34
      refine sl hK (by decide) rfl rfl (r_indexAddr_R Try.underlying22 Try.sizeOf38 hv_33 h_280 h_281 hK rfl rfl) fun a hK => ?_
      refine sl hK (by decide) rfl rfl (r_fieldAddr Try.underlying38 rfl Try.sizeOf9 hK rfl) fun a hK => ?_
      refine sl hK (by decide) rfl rfl (r_load Try.isAgg9 hK rfl ((hS.ra hRA nil_not).cell (hc_35 0 _ rfl))) fun a hK => ?_
      refine sl hK (by decide) rfl rfl (r_move hK rfl) fun a hK => ?_
      refine sl hK (by decide) rfl rfl (r_sbin hK rfl rfl rfl) fun a hK => ?_
      refine wpList_nil ?_
      refine wp_cond_split (hK.ev rfl) (fun (hb_36 : (y_27.Name.toList == a1.toList) = true) => ?_) (fun (hb_36 : (y_27.Name.toList == a1.toList) = false) => ?_)
      · rw [ifb_t hb_36] at H
        refine wp_seq ?_
        refine wp_region_lit ?_
        refine sl hK (by decide) rfl rfl (r_move hK rfl) fun a hK => ?_
        refine sl hK (by decide) rfl rfl (r_assign hK rfl) fun a hK => ?_
        refine wpList_nil ?_
        obtain rfl := Option.some.inj H
        refine wp_ret ?_
        repeat (first | refine ret_then ?_ | refine ret_block ?_ | refine ret_scope ?_)
        exact ret_1 Try.results28 hK (rv_tmp hK rfl) ⟨rfl, hS.bel⟩
      · rw [ifb_f hb_36] at H
        refine wp_skip ?_
        refine wp_region_lit ?_
        refine sl hK (by decide) rfl rfl (r_move hK rfl) fun a hK => ?_
        refine sl hK (by decide) rfl rfl (r_ibin hK rfl rfl rfl) fun a hK => ?_
        refine sl hK (by decide) rfl rfl (r_assign hK rfl) fun a hK => ?_
        refine wpList_nil ?_
        exact ⟨_, Nat.lt_succ_self _, (IntKind.i64.wrap (x_13 + 1)), H, hK.sub (all_cons rfl (all_cons rfl (all_cons rfl (all_nil)))), hS⟩
    · rw [ifb_f hb_26] at H
      refine wp_exit ?_
      refine wp_seq ?_
      refine wp_region_lit ?_
      refine sl hK (by decide) rfl rfl (r_assign hK rfl) fun a hK => ?_
      refine wpList_nil ?_
      obtain rfl := Option.some.inj H
      refine wp_ret ?_
      repeat (first | refine ret_then ?_ | refine ret_block ?_ | refine ret_scope ?_)
      exact ret_1 Try.results28 hK (rv_tmp hK rfl) ⟨rfl, hS.bel⟩

/-! ### catchment/catchmentref02.Cols: function 36 -/
set_option maxHeartbeats 4000000 in
set_option maxRecDepth 100000 in
theorem ref02_Cols.calls (a0 : List api_Col) {w0 : World} {RA : Hp} {v0_0 : Value} (hRA : RA.sub w0) (h0_0 : SlR ty_api_Col RA v0_0 a0) {r : Bool} (H : ref02_Cols a0 = some r) : CallsV Try.prog 36 #[v0_0] w0 (.bool r) := by
  unfold ref02_Cols at H
  refine enter (args := [v0_0]) Try.func36 rfl Try.ntmps36 rfl fun a hK => ?_
  have hS := St.init (R := fun _ => none) (w := w0) (fun _ _ h => by cases h)
  have hRL := RLe.refl (M := []) w0 (fun _ => none)
  refine wp_seq ?_
  refine wp_region_lit ?_
  refine sl hK (by decide) rfl rfl (r_assign hK rfl) fun a hK => ?_
  refine wpList_nil ?_
  refine wp_seq ?_
  refine wp_seq ?_
  refine wp_mid (fun a w => ∃ (x_2 : Bool), ref02_Cols.j0 a0 x_2 = some r ∧ Kn 52 a [(0, v0_0), (11, .bool x_2)] ∧ St [] w0 w (fun _ => none) []) ?_ ?_
  · refine wp_region_lit ?_
    refine sl hK (by decide) rfl rfl (r_move hK rfl) fun a hK => ?_
    refine sl hK (by decide) rfl rfl (r_len_R Try.underlying22 h0_0 hK rfl) fun a hK => ?_
    refine sl hK (by decide) rfl rfl (r_ibin hK rfl rfl rfl) fun a hK => ?_
    refine sl hK (by decide) rfl rfl (r_move hK rfl) fun a hK => ?_
    rcases or_b (decide ((a0.length : Int) < 1)) with hb_4 | hb_4
    · rw [ifb_t hb_4] at H
      refine sl_skip hK (by decide) (wft hb_4) rfl fun a hK => ?_
      refine sl_skip hK (by decide) (wft hb_4) rfl fun a hK => ?_
      refine sl_skip hK (by decide) (wft hb_4) rfl fun a hK => ?_
      refine sl hK (by decide) rfl rfl (r_pick_t hb_4 hK rfl rfl) fun a hK => ?_
      refine wpList_nil ?_
      exact ⟨true, H, hK.sub (all_cons rfl (all_cons rfl (all_nil))), hS⟩
    · rw [ifb_f hb_4] at H
      refine sl hK (by decide) (wff hb_4) rfl (r_move hK rfl) fun a hK => ?_
      refine sl hK (by decide) (wff hb_4) rfl (r_len_R Try.underlying22 h0_0 hK rfl) fun a hK => ?_
      refine sl hK (by decide) (wff hb_4) rfl (r_ibin hK rfl rfl rfl) fun a hK => ?_
      refine sl hK (by decide) rfl rfl (r_pick_f hb_4 hK rfl rfl) fun a hK => ?_
      refine wpList_nil ?_
      exact ⟨(decide ((a0.length : Int) > 16)), H, hK.sub (all_cons rfl (all_cons rfl (all_nil))), hS⟩
  · rintro a w ⟨x_2, H, hK, hS⟩
    unfold ref02_Cols.j0 at H
    refine wp_cond_split (hK.ev rfl) (fun (hb_5 : x_2 = true) => ?_) (fun (hb_5 : x_2 = false) => ?_)
    · rw [ifb_t hb_5] at H
      refine wp_seq ?_
      refine wp_region_lit ?_
      refine sl hK (by decide) rfl rfl (r_assign hK rfl) fun a hK => ?_
      refine wpList_nil ?_
      obtain rfl := Option.some.inj H
      refine wp_ret ?_
      repeat (first | refine ret_then ?_ | refine ret_block ?_ | refine ret_scope ?_)
      exact ret_1 Try.results36 hK (rv_tmp hK rfl) ⟨rfl, hS.bel⟩
    · rw [ifb_f hb_5] at H
      refine wp_skip ?_
      refine wp_seq ?_
      refine wp_seq ?_
      refine wp_region_lit ?_
      refine sl hK (by decide) rfl rfl (r_assign hK rfl) fun a hK => ?_
      refine wpList_nil ?_
      refine wp_block ?_
      refine wp_loop_k (fun k_l1 a w => ∃ (x_97 : Int), ref02_Cols.l1 a0 k_l1 x_97 = some r ∧ Kn 52 a [(0, v0_0), (3, .int .i64 x_97)] ∧ St [] w0 w (fun _ => none) []) (((a0.length : Int) - 0).toNat + 1) ?_ ?_
      · exact ⟨0, H, hK.sub (all_cons rfl (all_cons rfl (all_nil))), hS⟩
      · rintro k_l1 a w ⟨x_97, H, hK, hS⟩
        cases k_l1 with
        | zero => cases H
        | succ k_l1 =>
        rw [ref02_Cols.l1.eq_2] at H
        refine wp_seq ?_
        refine wp_seq ?_
        refine wp_region_lit ?_
        refine sl hK (by decide) rfl rfl (r_move hK rfl) fun a hK => ?_
        refine sl hK (by decide) rfl rfl (r_move hK rfl) fun a hK => ?_
        refine sl hK (by decide) rfl rfl (r_len_R Try.underlying22 h0_0 hK rfl) fun a hK => ?_
        refine sl hK (by decide) rfl rfl (r_ibin hK rfl rfl rfl) fun a hK => ?_
        refine wpList_nil ?_
        refine wp_cond_split (hK.ev rfl) (fun (hb_189 : (decide (x_97 < (a0.length : Int))) = true) => ?_) (fun (hb_189 : (decide (x_97 < (a0.length : Int))) = false) => ?_)
        · rw [ifb_t hb_189] at H
          refine wp_skip ?_
          refine wp_seq ?_
          refine wp_block ?_
          refine wp_seq ?_
          refine wp_mid (fun a w => ∃ (x_233 : Bool), ref02_Cols.j2 (ref02_Cols.l1 a0 k_l1) a0 x_97 x_233 = some r ∧ Kn 52 a [(0, v0_0), (3, .int .i64 x_97), (51, .bool x_233)] ∧ St [] w0 w (fun _ => none) []) ?_ ?_
          · refine wp_region_lit ?_
            refine sl hK (by decide) rfl rfl (r_move hK rfl) fun a hK => ?_
            refine sl hK (by decide) rfl rfl (r_move hK rfl) fun a hK => ?_
            obtain ⟨y_235, h_236, H⟩ := bind_some H
            obtain ⟨b_237, o_238, c_239, cs_240, hv_241, hr_242, hc_243, h_2360, h_2361⟩ := h0_0.ix h_236
            subst hr_242
            refine sl hK (by decide) rfl rfl (r_indexAddr_R Try.underlying22 Try.sizeOf38 hv_241 h_2360 h_2361 hK rfl rfl) fun a hK => ?_
            refine sl hK (by decide) rfl rfl (r_fieldAddr Try.underlying38 rfl Try.sizeOf9 hK rfl) fun a hK => ?_
            refine sl hK (by decide) rfl rfl (r_load Try.isAgg9 hK rfl ((hS.ra hRA nil_not).cell (hc_243 0 _ rfl))) fun a hK => ?_
            obtain ⟨y_244, h_245, H⟩ := bind_some H
            refine sl_callV Try.call54 hS hK (by decide) rfl rfl rfl (ref02_Name.calls y_235.Name h_245 _) fun a w hS hK => ?_
            refine sl hK (by decide) rfl rfl (r_un hK rfl (u_not _)) fun a hK => ?_
            refine sl hK (by decide) rfl rfl (r_move hK rfl) fun a hK => ?_
            rcases or_b (!y_244) with hb_246 | hb_246
            · rw [ifb_t hb_246] at H
              refine sl_skip hK (by decide) (wft hb_246) rfl fun a hK => ?_
              refine sl_skip hK (by decide) (wft hb_246) rfl fun a hK => ?_
              refine sl_skip hK (by decide) (wft hb_246) rfl fun a hK => ?_
              refine sl_skip hK (by decide) (wft hb_246) rfl fun a hK => ?_
              refine sl_skip hK (by decide) (wft hb_246) rfl fun a hK => ?_
              refine sl_skip hK (by decide) (wft hb_246) rfl fun a hK => ?_
              refine sl_skip hK (by decide) (wft hb_246) rfl fun a hK => ?_
              refine sl_skip hK (by decide) (wft hb_246) rfl fun a hK => ?_
              refine sl_skip hK (by decide) (wft hb_246) rfl fun a hK => ?_
              refine sl hK (by decide) rfl rfl (r_pick_t hb_246 hK rfl rfl) fun a hK => ?_
              refine sl hK (by decide) rfl rfl (r_move hK rfl) fun a hK => ?_
              refine sl_skip hK (by decide) rfl rfl fun a hK => ?_
              refine sl_skip hK (by decide) rfl rfl fun a hK => ?_
              refine sl_skip hK (by decide) rfl rfl fun a hK => ?_
              refine sl_skip hK (by decide) rfl rfl fun a hK => ?_
              refine sl_skip hK (by decide) rfl rfl fun a hK => ?_
              refine sl_skip hK (by decide) rfl rfl fun a hK => ?_
              refine sl hK (by decide) rfl rfl (r_pick hK rfl rfl rfl) fun a hK => ?_
              refine sl hK (by decide) rfl rfl (r_move hK rfl) fun a hK => ?_
              refine sl_skip hK (by decide) rfl rfl fun a hK => ?_
              refine sl_skip hK (by decide) rfl rfl fun a hK => ?_
              refine sl_skip hK (by decide) rfl rfl fun a hK => ?_
              refine sl_skip hK (by decide) rfl rfl fun a hK => ?_
              refine sl_skip hK (by decide) rfl rfl fun a hK => ?_
              refine sl_skip hK (by decide) rfl rfl fun a hK => ?_
              refine sl hK (by decide) rfl rfl (r_pick hK rfl rfl rfl) fun a hK => ?_
              refine wpList_nil ?_
              exact ⟨true, H, hK.sub (all_cons rfl (all_cons rfl (all_cons rfl (all_nil)))), hS⟩
            · rw [ifb_f hb_246] at H
              refine sl hK (by decide) (wff hb_246) rfl (r_move hK rfl) fun a hK => ?_
              refine sl hK (by decide) (wff hb_246) rfl (r_move hK rfl) fun a hK => ?_
              refine sl hK (by decide) (wff hb_246) rfl (r_move hK rfl) fun a hK => ?_
              obtain ⟨y_247, h_248, H⟩ := bind_some H
              obtain ⟨b_249, o_250, c_251, cs_252, hv_253, hr_254, hc_255, h_2480, h_2481⟩ := h0_0.ix h_248
              subst hr_254
              refine sl hK (by decide) (wff hb_246) rfl (r_indexAddr_R Try.underlying22 Try.sizeOf38 hv_253 h_2480 h_2481 hK rfl rfl) fun a hK => ?_
              refine sl hK (by decide) (wff hb_246) rfl (r_fieldAddr Try.underlying38 rfl Try.sizeOf9 hK rfl) fun a hK => ?_
              refine sl hK (by decide) (wff hb_246) rfl (r_load Try.isAgg9 hK rfl ((hS.ra hRA nil_not).cell (hc_255 0 _ rfl))) fun a hK => ?_
              obtain ⟨y_256, h_257, H⟩ := bind_some H
              refine sl_callV Try.call28 hS hK (by decide) (wff hb_246) rfl rfl (ref02_Find.calls a0 y_247.Name (lentOf_sub [] _) (h0_0.mono (hS.raLe0 hRA nil_not)) h_257) fun a w hS hK => ?_
              refine sl hK (by decide) (wff hb_246) rfl (r_move hK rfl) fun a hK => ?_
              refine sl hK (by decide) (wff hb_246) rfl (r_ibin hK rfl rfl rfl) fun a hK => ?_
              refine sl hK (by decide) rfl rfl (r_pick_f hb_246 hK rfl rfl) fun a hK => ?_
              refine sl hK (by decide) rfl rfl (r_move hK rfl) fun a hK => ?_
              rcases or_b (y_256 != x_97) with hb_258 | hb_258
              · rw [ifb_t hb_258] at H
                refine sl_skip hK (by decide) (wft hb_258) rfl fun a hK => ?_
                refine sl_skip hK (by decide) (wft hb_258) rfl fun a hK => ?_
                refine sl_skip hK (by decide) (wft hb_258) rfl fun a hK => ?_
                refine sl_skip hK (by decide) (wft hb_258) rfl fun a hK => ?_
                refine sl_skip hK (by decide) (wft hb_258) rfl fun a hK => ?_
                refine sl_skip hK (by decide) (wft hb_258) rfl fun a hK => ?_
                refine sl hK (by decide) rfl rfl (r_pick_t hb_258 hK rfl rfl) fun a hK => ?_
                refine sl hK (by decide) rfl rfl (r_move hK rfl) fun a hK => ?_
                refine sl_skip hK (by decide) rfl rfl fun a hK => ?_
                refine sl_skip hK (by decide) rfl rfl fun a hK => ?_
                refine sl_skip hK (by decide) rfl rfl fun a hK => ?_
                refine sl_skip hK (by decide) rfl rfl fun a hK => ?_
                refine sl_skip hK (by decide) rfl rfl fun a hK => ?_
                refine sl_skip hK (by decide) rfl rfl fun a hK => ?_
                refine sl hK (by decide) rfl rfl (r_pick hK rfl rfl rfl) fun a hK => ?_
                refine wpList_nil ?_
                exact ⟨true, H, hK.sub (all_cons rfl (all_cons rfl (all_cons rfl (all_nil)))), hS⟩
              · rw [ifb_f hb_258] at H
                refine sl hK (by decide) (wff hb_258) rfl (r_move hK rfl) fun a hK => ?_
                refine sl hK (by decide) (wff hb_258) rfl (r_move hK rfl) fun a hK => ?_
                obtain ⟨y_259, h_260, H⟩ := bind_some H
                obtain ⟨b_261, o_262, c_263, cs_264, hv_265, hr_266, hc_267, h_2600, h_2601⟩ := h0_0.ix h_260
                subst hr_266
                refine sl hK (by decide) (wff hb_258) rfl (r_indexAddr_R Try.underlying22 Try.sizeOf38 hv_265 h_2600 h_2601 hK rfl rfl) fun a hK => ?_
                refine sl hK (by decide) (wff hb_258) rfl (r_fieldAddr Try.underlying38 rfl Try.sizeOf3 hK rfl) fun a hK => ?_
                refine sl hK (by decide) (wff hb_258) rfl (r_load Try.isAgg3 hK rfl ((hS.ra hRA nil_not).cell (hc_267 1 _ rfl))) fun a hK => ?_
                refine sl hK (by decide) (wff hb_258) rfl (r_ibin hK rfl rfl rfl) fun a hK => ?_
                refine sl hK (by decide) rfl rfl (r_pick_f hb_258 hK rfl rfl) fun a hK => ?_
                refine sl hK (by decide) rfl rfl (r_move hK rfl) fun a hK => ?_
                rcases or_b (decide (y_259.Kind < 1)) with hb_268 | hb_268
                · rw [ifb_t hb_268] at H
                  refine sl_skip hK (by decide) (wft hb_268) rfl fun a hK => ?_
                  refine sl_skip hK (by decide) (wft hb_268) rfl fun a hK => ?_
                  refine sl_skip hK (by decide) (wft hb_268) rfl fun a hK => ?_
                  refine sl_skip hK (by decide) (wft hb_268) rfl fun a hK => ?_
                  refine sl_skip hK (by decide) (wft hb_268) rfl fun a hK => ?_
                  refine sl_skip hK (by decide) (wft hb_268) rfl fun a hK => ?_
                  refine sl hK (by decide) rfl rfl (r_pick_t hb_268 hK rfl rfl) fun a hK => ?_
                  refine wpList_nil ?_
                  exact ⟨true, H, hK.sub (all_cons rfl (all_cons rfl (all_cons rfl (all_nil)))), hS⟩
                · rw [ifb_f hb_268] at H
                  refine sl hK (by decide) (wff hb_268) rfl (r_move hK rfl) fun a hK => ?_
                  refine sl hK (by decide) (wff hb_268) rfl (r_move hK rfl) fun a hK => ?_
                  obtain ⟨y_269, h_270, H⟩ := bind_some H
                  obtain ⟨b_271, o_272, c_273, cs_274, hv_275, hr_276, hc_277, h_2700, h_2701⟩ := h0_0.ix h_270
                  subst hr_276
                  refine sl hK (by decide) (wff hb_268) rfl (r_indexAddr_R Try.underlying22 Try.sizeOf38 hv_275 h_2700 h_2701 hK rfl rfl) fun a hK => ?_
                  refine sl hK (by decide) (wff hb_268) rfl (r_fieldAddr Try.underlying38 rfl Try.sizeOf3 hK rfl) fun a hK => ?_
                  refine sl hK (by decide) (wff hb_268) rfl (r_load Try.isAgg3 hK rfl ((hS.ra hRA nil_not).cell (hc_277 1 _ rfl))) fun a hK => ?_
                  refine sl hK (by decide) (wff hb_268) rfl (r_ibin hK rfl rfl rfl) fun a hK => ?_
                  refine sl hK (by decide) rfl rfl (r_pick_f hb_268 hK rfl rfl) fun a hK => ?_
                  refine wpList_nil ?_
                  exact ⟨(decide (y_269.Kind > 4)), H, hK.sub (all_cons rfl (all_cons rfl (all_cons rfl (all_nil)))), hS⟩
          · rintro a w ⟨x_233, H, hK, hS⟩
            unfold ref02_Cols.j2 at H
            refine wp_cond_split (hK.ev rfl) (fun (hb_278 : x_233 = true) => ?_) (fun (hb_278 : x_233 = false) => ?_)
            · rw [ifb_t hb_278] at H
              refine wp_seq ?_
              refine wp_region_lit ?_
              refine sl hK (by decide) rfl rfl (r_assign hK rfl) fun a hK => ?_
              refine wpList_nil ?_
              obtain rfl := Option.some.inj H
              refine wp_ret ?_
              repeat (first | refine ret_then ?_ | refine ret_block ?_ | refine ret_scope ?_)
              exact ret_1 Try.results36 hK (rv_tmp hK rfl) ⟨rfl, hS.bel⟩
            · rw [ifb_f hb_278] at H
              refine wp_skip ?_
              refine wp_region_lit ?_
              refine sl hK (by decide) rfl rfl (r_move hK rfl) fun a hK => ?_
              refine sl hK (by decide) rfl rfl (r_ibin hK rfl rfl rfl) fun a hK => ?_
              refine sl hK (by decide) rfl rfl (r_assign hK rfl) fun a hK => ?_
              refine wpList_nil ?_
              exact ⟨_, Nat.lt_succ_self _, (IntKind.i64.wrap (x_97 + 1)), H, hK.sub (all_cons rfl (all_cons rfl (all_nil))), hS⟩
        · rw [ifb_f hb_189] at H
          refine wp_exit ?_
          refine wp_seq ?_
          refine wp_region_lit ?_
          refine sl hK (by decide) rfl rfl (r_assign hK rfl) fun a hK => ?_
          refine wpList_nil ?_
          obtain rfl := Option.some.inj H
          refine wp_ret ?_
          repeat (first | refine ret_then ?_ | refine ret_block ?_ | refine ret_scope ?_)
          exact ret_1 Try.results36 hK (rv_tmp hK rfl) ⟨rfl, hS.bel⟩

end Go.Proofs.Ytjimddbbpjpgdaa.M
