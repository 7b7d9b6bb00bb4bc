/- Each Go function of the laws answers as its plain Lean function tells, wherever that tells something. Printed by wip/eng/gen.py. -/
import Derived.Test.YthcadccjcioofaaPure
import Derived.Test.YthcadccjcioofaaProg
namespace Go.Proofs.Ythcadccjcioofaa.M
open Go Go.Eng Go.Proofs Go.RowKit
set_option linter.unusedVariables false
set_option linter.unusedSimpArgs false

theorem mixed : Try.prog.follows .mixedOrders = true := by kernel_rfl
theorem elT22 : ElT Try.prog 22 5 1 1 := ⟨Try.underlying22, ⟨Try.t5, _, Try.type5, rfl, rfl, rfl, rfl⟩, by decide⟩

/-! ### catchment/crc.turned: function 14 -/
set_option maxRecDepth 100000 in
theorem crc_turned.calls (a0 : Int) {r : Int} (H : crc_turned a0 = some r) (w0 : World) : CallsV Try.prog 14 #[.int .u32 a0] w0 (.int .u32 r) := by
  unfold crc_turned at H
  refine enter (args := [.int .u32 a0]) (R := (fun _ => none)) Try.func14 rfl Try.ntmps14 rfl (fun _ _ h => by cases h) fun a hK hS => ?_
  have hRL := RLe.refl w0 (fun _ => none)
  refine wp_seq ?_
  refine wp_region_lit ?_
  refine sl hK (by decide) rfl rfl (r_assign hK rfl) fun a hK => ?_
  refine wpList_nil ?_
  refine wp_seq ?_
  refine wp_seq ?_
  refine wp_region_lit ?_
  refine sl hK (by decide) rfl rfl (r_move hK rfl) fun a hK => ?_
  refine wpList_nil ?_
  refine wp_block ?_
  refine wp_loop_k (fun k_l0 a w => ∃ (x_1 : Int) (x_2 : Int), crc_turned.l0 k_l0 x_1 x_2 = some r ∧ Kn 14 a [(0, .int .u32 x_1), (3, .int .i64 x_2)] ∧ St w0 w (fun _ => none) []) (((8 : Int) - 0).toNat + 1) ?_ ?_
  · exact ⟨a0, 0, H, hK.sub (all_cons rfl (all_cons rfl (all_nil))), hS⟩
  · rintro k_l0 a w ⟨x_1, x_2, H, hK, hS⟩
    cases k_l0 with
    | zero => cases H
    | succ k_l0 =>
    rw [crc_turned.l0.eq_2] at H
    refine wp_seq ?_
    refine wp_region_lit ?_
    refine sl hK (by decide) rfl rfl (r_ibin hK rfl rfl rfl) fun a hK => ?_
    refine wpList_nil ?_
    refine wp_seq ?_
    refine wp_cond_split (hK.ev rfl) (fun (hb_4 : (decide (x_2 < 8)) = true) => ?_) (fun (hb_4 : (decide (x_2 < 8)) = false) => ?_)
    · rw [ifb_t hb_4] at H
      refine wp_skip ?_
      refine wp_seq ?_
      refine wp_block ?_
      refine wp_region_lit ?_
      refine sl hK (by decide) rfl rfl (r_move hK rfl) fun a hK => ?_
      refine sl hK (by decide) rfl rfl (r_shr hK rfl rfl (by decide)) fun a hK => ?_
      refine sl hK (by decide) rfl rfl (r_move hK rfl) fun a hK => ?_
      refine sl hK (by decide) rfl rfl (r_ibin hK rfl rfl rfl) fun a hK => ?_
      refine sl hK (by decide) rfl rfl (r_un hK rfl (u_neg _ _)) fun a hK => ?_
      refine sl hK (by decide) rfl rfl (r_ibin hK rfl rfl rfl) fun a hK => ?_
      refine sl hK (by decide) rfl rfl (r_ibin hK rfl rfl rfl) fun a hK => ?_
      refine sl hK (by decide) rfl rfl (r_assign hK rfl) fun a hK => ?_
      refine wpList_nil ?_
      refine wp_region_lit ?_
      refine sl hK (by decide) rfl rfl (r_ibin hK rfl rfl rfl) fun a hK => ?_
      refine sl hK (by decide) rfl rfl (r_move hK rfl) fun a hK => ?_
      refine wpList_nil ?_
      exact ⟨_, Nat.lt_succ_self _, (IntKind.u32.wrap (BitVec.ofInt 32 (x_1.fdiv (2 ^ (min (1 : Int).toNat 32))) ^^^ BitVec.ofInt 32 (IntKind.u32.wrap (BitVec.ofInt 32 2197175160 &&& BitVec.ofInt 32 (IntKind.u32.wrap (0 - (IntKind.u32.wrap (BitVec.ofInt 32 x_1 &&& BitVec.ofInt 32 1).toNat)))).toNat)).toNat), (IntKind.i64.wrap (x_2 + 1)), H, hK.sub (all_cons rfl (all_cons rfl (all_nil))), hS⟩
    · rw [ifb_f hb_4] at H
      refine wp_exit ?_
      refine wp_seq ?_
      refine wp_region_lit ?_
      refine sl hK (by decide) rfl rfl (r_move hK rfl) fun a hK => ?_
      refine sl hK (by decide) rfl rfl (r_assign hK rfl) fun a hK => ?_
      refine wpList_nil ?_
      obtain rfl := Option.some.inj H
      refine wp_ret ?_
      repeat (first | refine ret_then ?_ | refine ret_block ?_)
      exact ret_1 Try.results14 hK (rv_tmp hK rfl) ⟨rfl, hS.below⟩

/-! ### catchment/crc.More: function 12 -/
set_option maxRecDepth 100000 in
theorem crc_More.calls (a0 : Int) (a1 : List Int) {R : Hp} {w0 : World} (hR : R.sub w0) {v1_0 : Value} (h1_0 : SlR (tyInt .u8) R v1_0 a1) {r : Int} (H : crc_More a0 a1 = some r) : CallsV Try.prog 12 #[.int .u32 a0, v1_0] w0 (.int .u32 r) := by
  unfold crc_More at H
  refine enter (args := [.int .u32 a0, v1_0]) (R := R) Try.func12 rfl Try.ntmps12 rfl hR fun a hK hS => ?_
  have hRL := RLe.refl w0 R
  refine wp_seq ?_
  refine wp_region_lit ?_
  refine sl hK (by decide) rfl rfl (r_assign hK rfl) fun a hK => ?_
  refine wpList_nil ?_
  refine wp_seq ?_
  refine wp_region_lit ?_
  refine sl hK (by decide) rfl rfl (r_move hK rfl) fun a hK => ?_
  refine sl hK (by decide) rfl rfl (r_un hK rfl (u_xor _)) fun a hK => ?_
  refine sl hK (by decide) rfl rfl (r_assign hK rfl) fun a hK => ?_
  refine wpList_nil ?_
  refine wp_seq ?_
  refine wp_seq ?_
  refine wp_region_lit ?_
  refine sl hK (by decide) rfl rfl (r_move hK rfl) fun a hK => ?_
  refine sl hK (by decide) rfl rfl (r_len_R Try.underlying22 h1_0 hK rfl) fun a hK => ?_
  refine sl hK (by decide) rfl rfl (r_move hK rfl) fun a hK => ?_
  refine wpList_nil ?_
  refine wp_block ?_
  refine wp_loop_k (fun k_l0 a w => ∃ (x_13 : Int) (x_14 : Int), crc_More.l0 a1 k_l0 x_13 x_14 = some r ∧ Kn 24 a [(5, .int .u32 x_13), (10, v1_0), (11, .int .i64 (a1.length : Int)), (12, .int .i64 x_14)] ∧ St w0 w R []) (((a1.length : Int) - 0).toNat + 1) ?_ ?_
  · exact ⟨(IntKind.u32.wrap (BitVec.ofInt 32 4294967295 ^^^ BitVec.ofInt 32 a0).toNat), 0, H, hK.sub (all_cons rfl (all_cons rfl (all_cons rfl (all_cons rfl (all_nil))))), hS⟩
  · rintro k_l0 a w ⟨x_13, x_14, H, hK, hS⟩
    cases k_l0 with
    | zero => cases H
    | succ k_l0 =>
    rw [crc_More.l0.eq_2] at H
    refine wp_seq ?_
    refine wp_region_lit ?_
    refine sl hK (by decide) rfl rfl (r_ibin hK rfl rfl rfl) fun a hK => ?_
    refine wpList_nil ?_
    refine wp_seq ?_
    refine wp_cond_split (hK.ev rfl) (fun (hb_27 : (decide (x_14 < (a1.length : Int))) = true) => ?_) (fun (hb_27 : (decide (x_14 < (a1.length : Int))) = false) => ?_)
    · rw [ifb_t hb_27] at H
      refine wp_skip ?_
      refine wp_seq ?_
      refine wp_block ?_
      refine wp_seq ?_
      refine wp_region_lit ?_
      obtain ⟨y_28, h_29, H⟩ := bind_some H
      obtain ⟨b_30, o_31, c_32, cs_33, hv_34, hr_35, hc_36, h_290, h_291⟩ := h1_0.ix h_29
      subst hr_35
      refine sl hK (by decide) rfl rfl (r_indexAddr_R Try.underlying22 Try.sizeOf5 hv_34 h_290 h_291 hK rfl rfl) fun a hK => ?_
      refine sl hK (by decide) rfl rfl (r_load Try.isAgg5 hK rfl (hS.rcell (hc_36 0 _ rfl))) fun a hK => ?_
      refine sl hK (by decide) rfl rfl (r_assign hK rfl) fun a hK => ?_
      refine wpList_nil ?_
      refine wp_region_lit ?_
      refine sl hK (by decide) rfl rfl (r_move hK rfl) fun a hK => ?_
      refine sl hK (by decide) rfl rfl (r_move hK rfl) fun a hK => ?_
      refine sl hK (by decide) rfl rfl (r_conv Try.underlying5 Try.underlying24 hK rfl) fun a hK => ?_
      refine sl hK (by decide) rfl rfl (r_ibin hK rfl rfl rfl) fun a hK => ?_
      obtain ⟨y_37, h_38, H⟩ := bind_some H
      refine sl_callV Try.call14 hS hK (by decide) rfl rfl rfl (crc_turned.calls (IntKind.u32.wrap (BitVec.ofInt 32 x_13 ^^^ BitVec.ofInt 32 (IntKind.u32.wrap y_28)).toNat)  h_38 _) fun a w hS hK => ?_
      refine sl hK (by decide) rfl rfl (r_assign hK rfl) fun a hK => ?_
      refine wpList_nil ?_
      refine wp_region_lit ?_
      refine sl hK (by decide) rfl rfl (r_ibin hK rfl rfl rfl) fun a hK => ?_
      refine sl hK (by decide) rfl rfl (r_move hK rfl) fun a hK => ?_
      refine wpList_nil ?_
      exact ⟨_, Nat.lt_succ_self _, y_37, (IntKind.i64.wrap (x_14 + 1)), H, hK.sub (all_cons rfl (all_cons rfl (all_cons rfl (all_cons rfl (all_nil))))), hS⟩
    · rw [ifb_f hb_27] at H
      refine wp_exit ?_
      refine wp_seq ?_
      refine wp_region_lit ?_
      refine sl hK (by decide) rfl rfl (r_move hK rfl) fun a hK => ?_
      refine sl hK (by decide) rfl rfl (r_un hK rfl (u_xor _)) fun a hK => ?_
      refine sl hK (by decide) rfl rfl (r_assign hK rfl) fun a hK => ?_
      refine wpList_nil ?_
      obtain rfl := Option.some.inj H
      refine wp_ret ?_
      repeat (first | refine ret_then ?_ | refine ret_block ?_)
      exact ret_1 Try.results12 hK (rv_tmp hK rfl) ⟨rfl, hS.below⟩

/-! ### catchment/crc.Sum: function 8 -/
set_option maxRecDepth 100000 in
theorem crc_Sum.calls (a0 : List Int) {R : Hp} {w0 : World} (hR : R.sub w0) {v0_0 : Value} (h0_0 : SlR (tyInt .u8) R v0_0 a0) {r : Int} (H : crc_Sum a0 = some r) : CallsV Try.prog 8 #[v0_0] w0 (.int .u32 r) := by
  unfold crc_Sum at H
  refine enter (args := [v0_0]) (R := R) Try.func8 rfl Try.ntmps8 rfl hR fun a hK hS => ?_
  have hRL := RLe.refl w0 R
  refine wp_seq ?_
  refine wp_region_lit ?_
  refine sl hK (by decide) rfl rfl (r_assign hK rfl) fun a hK => ?_
  refine wpList_nil ?_
  refine wp_seq ?_
  refine wp_region_lit ?_
  refine sl hK (by decide) rfl rfl (r_move hK rfl) fun a hK => ?_
  obtain ⟨y_1, h_2, H⟩ := bind_some H
  refine sl_callV Try.call12 hS hK (by decide) rfl rfl rfl (crc_More.calls 0 a0 hS.sub (h0_0) h_2) fun a w hS hK => ?_
  refine sl hK (by decide) rfl rfl (r_assign hK rfl) fun a hK => ?_
  refine wpList_nil ?_
  obtain rfl := Option.some.inj H
  refine wp_ret ?_
  repeat (first | refine ret_then ?_ | refine ret_block ?_)
  exact ret_1 Try.results8 hK (rv_tmp hK rfl) ⟨rfl, hS.below⟩

/-! ### catchment/crc.Slot: function 10 -/
set_option maxRecDepth 100000 in
theorem crc_Slot.calls (a0 : List Int) (a1 : Int) {R : Hp} {w0 : World} (hR : R.sub w0) {v0_0 : Value} (h0_0 : SlR (tyInt .u8) R v0_0 a0) {r : Int} (H : crc_Slot a0 a1 = some r) : CallsV Try.prog 10 #[v0_0, .int .i64 a1] w0 (.int .i64 r) := by
  unfold crc_Slot at H
  refine enter (args := [v0_0, .int .i64 a1]) (R := R) Try.func10 rfl Try.ntmps10 rfl hR fun a hK hS => ?_
  have hRL := RLe.refl w0 R
  refine wp_seq ?_
  refine wp_region_lit ?_
  refine sl hK (by decide) rfl rfl (r_assign hK rfl) fun a hK => ?_
  refine wpList_nil ?_
  refine wp_seq ?_
  refine wp_seq ?_
  refine wp_region_lit ?_
  refine sl hK (by decide) rfl rfl (r_move hK rfl) fun a hK => ?_
  refine sl hK (by decide) rfl rfl (r_ibin hK rfl rfl rfl) fun a hK => ?_
  refine wpList_nil ?_
  refine wp_cond_split (hK.ev rfl) (fun (hb_1 : (decide (a1 < 1)) = true) => ?_) (fun (hb_1 : (decide (a1 < 1)) = false) => ?_)
  · rw [ifb_t hb_1] at H
    refine wp_seq ?_
    refine wp_region_lit ?_
    refine sl hK (by decide) rfl rfl (r_assign hK rfl) fun a hK => ?_
    refine wpList_nil ?_
    obtain rfl := Option.some.inj H
    refine wp_ret ?_
    repeat (first | refine ret_then ?_ | refine ret_block ?_)
    exact ret_1 Try.results10 hK (rv_tmp hK rfl) ⟨rfl, hS.below⟩
  · rw [ifb_f hb_1] at H
    refine wp_skip ?_
    refine wp_seq ?_
    refine wp_region_lit ?_
    refine sl hK (by decide) rfl rfl (r_move hK rfl) fun a hK => ?_
    obtain ⟨y_2, h_3, H⟩ := bind_some H
    refine sl_callV Try.call8 hS hK (by decide) rfl rfl rfl (crc_Sum.calls a0 hS.sub (h0_0) h_3) fun a w hS hK => ?_
    refine sl hK (by decide) rfl rfl (r_conv Try.underlying24 Try.underlying3 hK rfl) fun a hK => ?_
    refine sl hK (by decide) rfl rfl (r_move hK rfl) fun a hK => ?_
    rcases or_b (a1 != 0) with hn_4 | hn_4
    · rw [ifb_t hn_4] at H
      refine sl hK (by decide) rfl rfl (r_rem hK rfl rfl (ne_of_bne hn_4)) fun a hK => ?_
      refine sl hK (by decide) rfl rfl (r_assign hK rfl) fun a hK => ?_
      refine wpList_nil ?_
      obtain rfl := Option.some.inj H
      refine wp_ret ?_
      repeat (first | refine ret_then ?_ | refine ret_block ?_)
      exact ret_1 Try.results10 hK (rv_tmp hK rfl) ⟨rfl, hS.below⟩
    · rw [ifb_f hn_4] at H
      cases H

/-! ### catchment/catchmentlaw03.shown: function 7 -/
set_option maxRecDepth 100000 in
theorem law03_shown.calls {r : Bool} (H : law03_shown  = some r) (w0 : World) : CallsV Try.prog 7 #[] w0 (.bool r) := by
  unfold law03_shown at H
  refine enter (args := []) (R := (fun _ => none)) Try.func7 rfl Try.ntmps7 rfl (fun _ _ h => by cases h) fun a hK hS => ?_
  have hRL := RLe.refl w0 (fun _ => none)
  refine wp_seq ?_
  refine wp_region_lit ?_
  refine sl hK (by decide) rfl rfl (r_assign hK rfl) fun a hK => ?_
  refine wpList_nil ?_
  refine wp_seq ?_
  refine wp_region_lit ?_
  refine sl_buildSlice (ps := [(0, .int .u8 49), (1, .int .u8 50), (2, .int .u8 51), (3, .int .u8 52), (4, .int .u8 53), (5, .int .u8 54), (6, .int .u8 55), (7, .int .u8 56), (8, .int .u8 57)]) (c := [.int .u8 49, .int .u8 50, .int .u8 51, .int .u8 52, .int .u8 53, .int .u8 54, .int .u8 55, .int .u8 56, .int .u8 57]) Try.underlying22 Try.sizeOf5 Try.zeroValue5 rfl rfl rfl (by decide) rfl hS hK (by decide) rfl fun a w b_1 hS hK => ?_
  refine sl_conv_lit (ty := (tyInt .u8)) (xs := [49, 50, 51, 52, 53, 54, 55, 56, 57]) Try.underlying22 Try.underlying5 (Reps.cons (show Ty.rep (tyInt .u8) _ [.int .u8 49] 49 from rfl) (Reps.cons (show Ty.rep (tyInt .u8) _ [.int .u8 50] 50 from rfl) (Reps.cons (show Ty.rep (tyInt .u8) _ [.int .u8 51] 51 from rfl) (Reps.cons (show Ty.rep (tyInt .u8) _ [.int .u8 52] 52 from rfl) (Reps.cons (show Ty.rep (tyInt .u8) _ [.int .u8 53] 53 from rfl) (Reps.cons (show Ty.rep (tyInt .u8) _ [.int .u8 54] 54 from rfl) (Reps.cons (show Ty.rep (tyInt .u8) _ [.int .u8 55] 55 from rfl) (Reps.cons (show Ty.rep (tyInt .u8) _ [.int .u8 56] 56 from rfl) (Reps.cons (show Ty.rep (tyInt .u8) _ [.int .u8 57] 57 from rfl) (Reps.nil _ _)))))))))) rfl hS hK (by decide) rfl rfl fun a w R_2 hS hl hs_3 hK => ?_
  have hRL := hRL.trans hl
  refine sl hK (by decide) rfl rfl (r_assign hK rfl) fun a hK => ?_
  refine wpList_nil ?_
  refine wp_seq ?_
  refine wp_region_lit ?_
  obtain ⟨y_4, h_5, H⟩ := bind_some H
  refine sl_callV Try.call8 hS hK (by decide) rfl rfl rfl (crc_Sum.calls ([] : List Int) hS.sub (SlR.nil (tyInt .u8) _) h_5) fun a w hS hK => ?_
  refine sl hK (by decide) rfl rfl (r_ibin hK rfl rfl rfl) fun a hK => ?_
  refine sl hK (by decide) rfl rfl (r_move hK rfl) fun a hK => ?_
  rcases or_b (y_4 == 0) with hb_6 | hb_6
  · rw [ifb_t hb_6] at H
    refine sl hK (by decide) (wtt hb_6) rfl (r_move hK rfl) fun a hK => ?_
    obtain ⟨y_7, h_8, H⟩ := bind_some H
    refine sl_callV Try.call8 hS hK (by decide) (wtt hb_6) rfl rfl (crc_Sum.calls [49, 50, 51, 52, 53, 54, 55, 56, 57] hS.sub (hs_3) h_8) fun a w hS hK => ?_
    refine sl hK (by decide) (wtt hb_6) rfl (r_ibin hK rfl rfl rfl) fun a hK => ?_
    refine sl hK (by decide) rfl rfl (r_pick_t hb_6 hK rfl rfl) fun a hK => ?_
    refine sl hK (by decide) rfl rfl (r_move hK rfl) fun a hK => ?_
    rcases or_b (y_7 == 3808858755) with hb_9 | hb_9
    · rw [ifb_t hb_9] at H
      refine sl hK (by decide) (wtt hb_9) rfl (r_move hK rfl) fun a hK => ?_
      obtain ⟨y_10, h_11, H⟩ := bind_some H
      refine sl_callV Try.call10 hS hK (by decide) (wtt hb_9) rfl rfl (crc_Slot.calls [49, 50, 51, 52, 53, 54, 55, 56, 57] 0 hS.sub (hs_3) h_11) fun a w hS hK => ?_
      refine sl hK (by decide) (wtt hb_9) rfl (r_ibin hK rfl rfl rfl) fun a hK => ?_
      refine sl hK (by decide) rfl rfl (r_pick_t hb_9 hK rfl rfl) fun a hK => ?_
      refine sl hK (by decide) rfl rfl (r_move hK rfl) fun a hK => ?_
      rcases or_b (y_10 == 0) with hb_12 | hb_12
      · rw [ifb_t hb_12] at H
        refine sl hK (by decide) (wtt hb_12) rfl (r_move hK rfl) fun a hK => ?_
        obtain ⟨y_13, h_14, H⟩ := bind_some H
        refine sl_callV Try.call10 hS hK (by decide) (wtt hb_12) rfl rfl (crc_Slot.calls [49, 50, 51, 52, 53, 54, 55, 56, 57] 10 hS.sub (hs_3) h_14) fun a w hS hK => ?_
        refine sl hK (by decide) (wtt hb_12) rfl (r_ibin hK rfl rfl rfl) fun a hK => ?_
        refine sl hK (by decide) rfl rfl (r_pick_t hb_12 hK rfl rfl) fun a hK => ?_
        refine sl hK (by decide) rfl rfl (r_assign hK rfl) fun a hK => ?_
        refine wpList_nil ?_
        obtain rfl := Option.some.inj H
        refine wp_ret ?_
        repeat (first | refine ret_then ?_ | refine ret_block ?_)
        exact ret_1 Try.results7 hK (rv_tmp hK rfl) ⟨rfl, hS.below⟩
      · rw [ifb_f hb_12] at H
        refine sl_skip hK (by decide) (wtf hb_12) rfl fun a hK => ?_
        refine sl_skip hK (by decide) (wtf hb_12) rfl fun a hK => ?_
        refine sl_skip hK (by decide) (wtf hb_12) rfl fun a hK => ?_
        refine sl hK (by decide) rfl rfl (r_pick_f hb_12 hK rfl rfl) fun a hK => ?_
        refine sl hK (by decide) rfl rfl (r_assign hK rfl) fun a hK => ?_
        refine wpList_nil ?_
        obtain rfl := Option.some.inj H
        refine wp_ret ?_
        repeat (first | refine ret_then ?_ | refine ret_block ?_)
        exact ret_1 Try.results7 hK (rv_tmp hK rfl) ⟨rfl, hS.below⟩
    · rw [ifb_f hb_9] at H
      refine sl_skip hK (by decide) (wtf hb_9) rfl fun a hK => ?_
      refine sl_skip hK (by decide) (wtf hb_9) rfl fun a hK => ?_
      refine sl_skip hK (by decide) (wtf hb_9) rfl fun a hK => ?_
      refine sl hK (by decide) rfl rfl (r_pick_f hb_9 hK rfl rfl) fun a hK => ?_
      refine sl hK (by decide) rfl rfl (r_move hK rfl) fun a hK => ?_
      refine sl_skip hK (by decide) rfl rfl fun a hK => ?_
      refine sl_skip hK (by decide) rfl rfl fun a hK => ?_
      refine sl_skip hK (by decide) rfl rfl fun a hK => ?_
      refine sl hK (by decide) rfl rfl (r_pick hK rfl rfl rfl) fun a hK => ?_
      refine sl hK (by decide) rfl rfl (r_assign hK rfl) fun a hK => ?_
      refine wpList_nil ?_
      obtain rfl := Option.some.inj H
      refine wp_ret ?_
      repeat (first | refine ret_then ?_ | refine ret_block ?_)
      exact ret_1 Try.results7 hK (rv_tmp hK rfl) ⟨rfl, hS.below⟩
  · rw [ifb_f hb_6] at H
    refine sl_skip hK (by decide) (wtf hb_6) rfl fun a hK => ?_
    refine sl_skip hK (by decide) (wtf hb_6) rfl fun a hK => ?_
    refine sl_skip hK (by decide) (wtf hb_6) rfl fun a hK => ?_
    refine sl hK (by decide) rfl rfl (r_pick_f hb_6 hK rfl rfl) fun a hK => ?_
    refine sl hK (by decide) rfl rfl (r_move hK rfl) fun a hK => ?_
    refine sl_skip hK (by decide) rfl rfl fun a hK => ?_
    refine sl_skip hK (by decide) rfl rfl fun a hK => ?_
    refine sl_skip hK (by decide) rfl rfl fun a hK => ?_
    refine sl hK (by decide) rfl rfl (r_pick hK rfl rfl rfl) fun a hK => ?_
    refine sl hK (by decide) rfl rfl (r_move hK rfl) fun a hK => ?_
    refine sl_skip hK (by decide) rfl rfl fun a hK => ?_
    refine sl_skip hK (by decide) rfl rfl fun a hK => ?_
    refine sl_skip hK (by decide) rfl rfl fun a hK => ?_
    refine sl hK (by decide) rfl rfl (r_pick hK rfl rfl rfl) fun a hK => ?_
    refine sl hK (by decide) rfl rfl (r_assign hK rfl) fun a hK => ?_
    refine wpList_nil ?_
    obtain rfl := Option.some.inj H
    refine wp_ret ?_
    repeat (first | refine ret_then ?_ | refine ret_block ?_)
    exact ret_1 Try.results7 hK (rv_tmp hK rfl) ⟨rfl, hS.below⟩

/-! ### catchment/catchmentref03.More: function 13 -/
set_option maxRecDepth 100000 in
theorem ref03_More.calls (a0 : Int) (a1 : List Int) {R : Hp} {w0 : World} (hR : R.sub w0) {v1_0 : Value} (h1_0 : SlR (tyInt .u8) R v1_0 a1) {r : Int} (H : ref03_More a0 a1 = some r) : CallsV Try.prog 13 #[.int .u32 a0, v1_0] w0 (.int .u32 r) := by
  unfold ref03_More at H
  refine enter (args := [.int .u32 a0, v1_0]) (R := R) Try.func13 rfl Try.ntmps13 rfl hR fun a hK hS => ?_
  have hRL := RLe.refl w0 R
  refine wp_seq ?_
  refine wp_region_lit ?_
  refine sl hK (by decide) rfl rfl (r_assign hK rfl) fun a hK => ?_
  refine wpList_nil ?_
  refine wp_seq ?_
  refine wp_region_lit ?_
  refine sl hK (by decide) rfl rfl (r_move hK rfl) fun a hK => ?_
  refine sl hK (by decide) rfl rfl (r_un hK rfl (u_xor _)) fun a hK => ?_
  refine sl hK (by decide) rfl rfl (r_assign hK rfl) fun a hK => ?_
  refine wpList_nil ?_
  refine wp_seq ?_
  refine wp_seq ?_
  refine wp_region_lit ?_
  refine sl hK (by decide) rfl rfl (r_assign hK rfl) fun a hK => ?_
  refine wpList_nil ?_
  refine wp_block ?_
  refine wp_loop_k (fun k_l0 a w => ∃ (x_24 : Int) (x_25 : Int), ref03_More.l0 a1 k_l0 x_24 x_25 = some r ∧ Kn 37 a [(1, v1_0), (5, .int .u32 x_24), (6, .int .i64 x_25)] ∧ St w0 w R []) (((a1.length : Int) - 0).toNat + 1) ?_ ?_
  · exact ⟨(IntKind.u32.wrap (BitVec.ofInt 32 4294967295 ^^^ BitVec.ofInt 32 a0).toNat), 0, H, hK.sub (all_cons rfl (all_cons rfl (all_cons rfl (all_nil)))), hS⟩
  · rintro k_l0 a w ⟨x_24, x_25, H, hK, hS⟩
    cases k_l0 with
    | zero => cases H
    | succ k_l0 =>
    rw [ref03_More.l0.eq_2] at H
    refine wp_seq ?_
    refine wp_seq ?_
    refine wp_region_lit ?_
    refine sl hK (by decide) rfl rfl (r_move hK rfl) fun a hK => ?_
    refine sl hK (by decide) rfl rfl (r_move hK rfl) fun a hK => ?_
    refine sl hK (by decide) rfl rfl (r_len_R Try.underlying22 h1_0 hK rfl) fun a hK => ?_
    refine sl hK (by decide) rfl rfl (r_ibin hK rfl rfl rfl) fun a hK => ?_
    refine wpList_nil ?_
    refine wp_cond_split (hK.ev rfl) (fun (hb_49 : (decide (x_25 < (a1.length : Int))) = true) => ?_) (fun (hb_49 : (decide (x_25 < (a1.length : Int))) = false) => ?_)
    · rw [ifb_t hb_49] at H
      refine wp_skip ?_
      refine wp_seq ?_
      refine wp_block ?_
      refine wp_seq ?_
      refine wp_region_lit ?_
      refine sl hK (by decide) rfl rfl (r_move hK rfl) fun a hK => ?_
      refine sl hK (by decide) rfl rfl (r_move hK rfl) fun a hK => ?_
      refine sl hK (by decide) rfl rfl (r_move hK rfl) fun a hK => ?_
      obtain ⟨y_50, h_51, H⟩ := bind_some H
      obtain ⟨b_52, o_53, c_54, cs_55, hv_56, hr_57, hc_58, h_510, h_511⟩ := h1_0.ix h_51
      subst hr_57
      refine sl hK (by decide) rfl rfl (r_indexAddr_R Try.underlying22 Try.sizeOf5 hv_56 h_510 h_511 hK rfl rfl) fun a hK => ?_
      refine sl hK (by decide) rfl rfl (r_load Try.isAgg5 hK rfl (hS.rcell (hc_58 0 _ rfl))) fun a hK => ?_
      refine sl hK (by decide) rfl rfl (r_conv Try.underlying5 Try.underlying24 hK rfl) fun a hK => ?_
      refine sl hK (by decide) rfl rfl (r_ibin hK rfl rfl rfl) fun a hK => ?_
      refine sl hK (by decide) rfl rfl (r_assign hK rfl) fun a hK => ?_
      refine wpList_nil ?_
      refine wp_seq ?_
      refine wp_region_lit ?_
      refine sl hK (by decide) rfl rfl (r_assign hK rfl) fun a hK => ?_
      refine wpList_nil ?_
      refine wp_block ?_
      refine wp_loop_k (fun k_l1 a w => ∃ (x_62 : Int) (x_63 : Int), ref03_More.l1 (ref03_More.l0 a1 k_l0) a1 x_25 k_l1 x_62 x_63 = some r ∧ Kn 37 a [(1, v1_0), (5, .int .u32 x_62), (6, .int .i64 x_25), (7, .int .i64 x_63)] ∧ St w0 w R []) (((8 : Int) - 0).toNat + 1) ?_ ?_
      · exact ⟨(IntKind.u32.wrap (BitVec.ofInt 32 x_24 ^^^ BitVec.ofInt 32 (IntKind.u32.wrap y_50)).toNat), 0, H, hK.sub (all_cons rfl (all_cons rfl (all_cons rfl (all_cons rfl (all_nil))))), hS⟩
      · rintro k_l1 a w ⟨x_62, x_63, H, hK, hS⟩
        cases k_l1 with
        | zero => cases H
        | succ k_l1 =>
        rw [ref03_More.l1.eq_2] at H
        refine wp_seq ?_
        refine wp_seq ?_
        refine wp_region_lit ?_
        refine sl hK (by decide) rfl rfl (r_move hK rfl) fun a hK => ?_
        refine sl hK (by decide) rfl rfl (r_ibin hK rfl rfl rfl) fun a hK => ?_
        refine wpList_nil ?_
        refine wp_cond_split (hK.ev rfl) (fun (hb_68 : (decide (x_63 < 8)) = true) => ?_) (fun (hb_68 : (decide (x_63 < 8)) = false) => ?_)
        · rw [ifb_t hb_68] at H
          refine wp_skip ?_
          refine wp_seq ?_
          refine wp_block ?_
          refine wp_seq ?_
          refine wp_region_lit ?_
          refine sl hK (by decide) rfl rfl (r_move hK rfl) fun a hK => ?_
          refine sl hK (by decide) rfl rfl (r_rem hK rfl rfl (by decide)) fun a hK => ?_
          refine sl hK (by decide) rfl rfl (r_ibin hK rfl rfl rfl) fun a hK => ?_
          refine wpList_nil ?_
          refine wp_mid (fun a w => ∃ (x_70 : Int), ref03_More.j2 (ref03_More.l1 (ref03_More.l0 a1 k_l0) a1 x_25 k_l1) x_63 x_70 = some r ∧ Kn 37 a [(1, v1_0), (5, .int .u32 x_70), (6, .int .i64 x_25), (7, .int .i64 x_63)] ∧ St w0 w R []) ?_ ?_
          · refine wp_cond_split (hK.ev rfl) (fun (hb_71 : ((x_62.tmod 2) == 1) = true) => ?_) (fun (hb_71 : ((x_62.tmod 2) == 1) = false) => ?_)
            · rw [ifb_t hb_71] at H
              refine wp_region_lit ?_
              refine sl hK (by decide) rfl rfl (r_move hK rfl) fun a hK => ?_
              refine sl hK (by decide) rfl rfl (r_shr hK rfl rfl (by decide)) fun a hK => ?_
              refine sl hK (by decide) rfl rfl (r_ibin hK rfl rfl rfl) fun a hK => ?_
              refine sl hK (by decide) rfl rfl (r_assign hK rfl) fun a hK => ?_
              refine wpList_nil ?_
              exact ⟨(IntKind.u32.wrap (BitVec.ofInt 32 (x_62.fdiv (2 ^ (min (1 : Int).toNat 32))) ^^^ BitVec.ofInt 32 2197175160).toNat), H, hK.sub (all_cons rfl (all_cons rfl (all_cons rfl (all_cons rfl (all_nil))))), hS⟩
            · rw [ifb_f hb_71] at H
              refine wp_region_lit ?_
              refine sl hK (by decide) rfl rfl (r_move hK rfl) fun a hK => ?_
              refine sl hK (by decide) rfl rfl (r_shr hK rfl rfl (by decide)) fun a hK => ?_
              refine sl hK (by decide) rfl rfl (r_assign hK rfl) fun a hK => ?_
              refine wpList_nil ?_
              exact ⟨(x_62.fdiv (2 ^ (min (1 : Int).toNat 32))), H, hK.sub (all_cons rfl (all_cons rfl (all_cons rfl (all_cons rfl (all_nil))))), hS⟩
          · rintro a w ⟨x_70, H, hK, hS⟩
            unfold ref03_More.j2 at H
            refine wp_region_lit ?_
            refine sl hK (by decide) rfl rfl (r_move hK rfl) fun a hK => ?_
            refine sl hK (by decide) rfl rfl (r_ibin hK rfl rfl rfl) fun a hK => ?_
            refine sl hK (by decide) rfl rfl (r_assign hK rfl) fun a hK => ?_
            refine wpList_nil ?_
            exact ⟨_, Nat.lt_succ_self _, x_70, (IntKind.i64.wrap (x_63 + 1)), H, hK.sub (all_cons rfl (all_cons rfl (all_cons rfl (all_cons rfl (all_nil))))), hS⟩
        · rw [ifb_f hb_68] at H
          refine wp_exit ?_
          refine wp_region_lit ?_
          refine sl hK (by decide) rfl rfl (r_move hK rfl) fun a hK => ?_
          refine sl hK (by decide) rfl rfl (r_ibin hK rfl rfl rfl) fun a hK => ?_
          refine sl hK (by decide) rfl rfl (r_assign hK rfl) fun a hK => ?_
          refine wpList_nil ?_
          exact ⟨_, Nat.lt_succ_self _, x_62, (IntKind.i64.wrap (x_25 + 1)), H, hK.sub (all_cons rfl (all_cons rfl (all_cons rfl (all_nil)))), hS⟩
    · rw [ifb_f hb_49] at H
      refine wp_exit ?_
      refine wp_seq ?_
      refine wp_region_lit ?_
      refine sl hK (by decide) rfl rfl (r_move hK rfl) fun a hK => ?_
      refine sl hK (by decide) rfl rfl (r_un hK rfl (u_xor _)) fun a hK => ?_
      refine sl hK (by decide) rfl rfl (r_assign hK rfl) fun a hK => ?_
      refine wpList_nil ?_
      obtain rfl := Option.some.inj H
      refine wp_ret ?_
      repeat (first | refine ret_then ?_ | refine ret_block ?_)
      exact ret_1 Try.results13 hK (rv_tmp hK rfl) ⟨rfl, hS.below⟩

/-! ### catchment/catchmentref03.Sum: function 9 -/
set_option maxRecDepth 100000 in
theorem ref03_Sum.calls (a0 : List Int) {R : Hp} {w0 : World} (hR : R.sub w0) {v0_0 : Value} (h0_0 : SlR (tyInt .u8) R v0_0 a0) {r : Int} (H : ref03_Sum a0 = some r) : CallsV Try.prog 9 #[v0_0] w0 (.int .u32 r) := by
  unfold ref03_Sum at H
  refine enter (args := [v0_0]) (R := R) Try.func9 rfl Try.ntmps9 rfl hR fun a hK hS => ?_
  have hRL := RLe.refl w0 R
  refine wp_seq ?_
  refine wp_region_lit ?_
  refine sl hK (by decide) rfl rfl (r_assign hK rfl) fun a hK => ?_
  refine wpList_nil ?_
  refine wp_seq ?_
  refine wp_region_lit ?_
  refine sl hK (by decide) rfl rfl (r_move hK rfl) fun a hK => ?_
  obtain ⟨y_1, h_2, H⟩ := bind_some H
  refine sl_callV Try.call13 hS hK (by decide) rfl rfl rfl (ref03_More.calls 0 a0 hS.sub (h0_0) h_2) fun a w hS hK => ?_
  refine sl hK (by decide) rfl rfl (r_assign hK rfl) fun a hK => ?_
  refine wpList_nil ?_
  obtain rfl := Option.some.inj H
  refine wp_ret ?_
  repeat (first | refine ret_then ?_ | refine ret_block ?_)
  exact ret_1 Try.results9 hK (rv_tmp hK rfl) ⟨rfl, hS.below⟩

/-! ### catchment/catchmentref03.Slot: function 11 -/
set_option maxRecDepth 100000 in
theorem ref03_Slot.calls (a0 : List Int) (a1 : Int) {R : Hp} {w0 : World} (hR : R.sub w0) {v0_0 : Value} (h0_0 : SlR (tyInt .u8) R v0_0 a0) {r : Int} (H : ref03_Slot a0 a1 = some r) : CallsV Try.prog 11 #[v0_0, .int .i64 a1] w0 (.int .i64 r) := by
  unfold ref03_Slot at H
  refine enter (args := [v0_0, .int .i64 a1]) (R := R) Try.func11 rfl Try.ntmps11 rfl hR fun a hK hS => ?_
  have hRL := RLe.refl w0 R
  refine wp_seq ?_
  refine wp_region_lit ?_
  refine sl hK (by decide) rfl rfl (r_assign hK rfl) fun a hK => ?_
  refine wpList_nil ?_
  refine wp_seq ?_
  refine wp_seq ?_
  refine wp_region_lit ?_
  refine sl hK (by decide) rfl rfl (r_move hK rfl) fun a hK => ?_
  refine sl hK (by decide) rfl rfl (r_ibin hK rfl rfl rfl) fun a hK => ?_
  refine wpList_nil ?_
  refine wp_cond_split (hK.ev rfl) (fun (hb_1 : (decide (a1 < 1)) = true) => ?_) (fun (hb_1 : (decide (a1 < 1)) = false) => ?_)
  · rw [ifb_t hb_1] at H
    refine wp_seq ?_
    refine wp_region_lit ?_
    refine sl hK (by decide) rfl rfl (r_assign hK rfl) fun a hK => ?_
    refine wpList_nil ?_
    obtain rfl := Option.some.inj H
    refine wp_ret ?_
    repeat (first | refine ret_then ?_ | refine ret_block ?_)
    exact ret_1 Try.results11 hK (rv_tmp hK rfl) ⟨rfl, hS.below⟩
  · rw [ifb_f hb_1] at H
    refine wp_skip ?_
    refine wp_seq ?_
    refine wp_region_lit ?_
    refine sl hK (by decide) rfl rfl (r_move hK rfl) fun a hK => ?_
    obtain ⟨y_2, h_3, H⟩ := bind_some H
    refine sl_callV Try.call9 hS hK (by decide) rfl rfl rfl (ref03_Sum.calls a0 hS.sub (h0_0) h_3) fun a w hS hK => ?_
    refine sl hK (by decide) rfl rfl (r_conv Try.underlying24 Try.underlying3 hK rfl) fun a hK => ?_
    refine sl hK (by decide) rfl rfl (r_move hK rfl) fun a hK => ?_
    rcases or_b (a1 != 0) with hn_4 | hn_4
    · rw [ifb_t hn_4] at H
      refine sl hK (by decide) rfl rfl (r_rem hK rfl rfl (ne_of_bne hn_4)) fun a hK => ?_
      refine sl hK (by decide) rfl rfl (r_assign hK rfl) fun a hK => ?_
      refine wpList_nil ?_
      obtain rfl := Option.some.inj H
      refine wp_ret ?_
      repeat (first | refine ret_then ?_ | refine ret_block ?_)
      exact ret_1 Try.results11 hK (rv_tmp hK rfl) ⟨rfl, hS.below⟩
    · rw [ifb_f hn_4] at H
      cases H

/-! ### catchment/catchmentlaw03.CrcSums: function 3 -/
set_option maxRecDepth 100000 in
theorem law03_CrcSums.calls (a0 : List Int) (a1 : Int) {R : Hp} {w0 : World} (hR : R.sub w0) {v0_0 : Value} (h0_0 : SlR (tyInt .u8) R v0_0 a0) (H : law03_CrcSums a0 a1 = some true) : CallsV Try.prog 3 #[v0_0, .int .i64 a1] w0 (.bool true) := by
  unfold law03_CrcSums at H
  refine enter (args := [v0_0, .int .i64 a1]) (R := R) Try.func3 rfl Try.ntmps3 rfl hR fun a hK hS => ?_
  have hRL := RLe.refl w0 R
  refine wp_seq ?_
  refine wp_region_lit ?_
  refine sl hK (by decide) rfl rfl (r_assign hK rfl) fun a hK => ?_
  refine wpList_nil ?_
  refine wp_seq ?_
  refine wp_region_lit ?_
  obtain ⟨y_1, h_2, H⟩ := bind_some H
  refine sl_callV Try.call7 hS hK (by decide) rfl rfl rfl (law03_shown.calls   h_2 _) fun a w hS hK => ?_
  refine sl hK (by decide) rfl rfl (r_assign hK rfl) fun a hK => ?_
  refine wpList_nil ?_
  refine wp_seq ?_
  refine wp_region_lit ?_
  refine sl_buildSlice (ps := []) (c := []) Try.underlying22 Try.sizeOf5 Try.zeroValue5 rfl rfl rfl (by decide) rfl hS hK (by decide) rfl fun a w b_3 hS hK => ?_
  refine sl hK (by decide) rfl rfl (r_move hK rfl) fun a hK => ?_
  obtain ⟨y_6, h_7, H⟩ := bind_some H
  have hS := hS.row_lit (size := 1) (m := 0) rfl (by decide)
  have hq_5 : Reps (tyInt .u8) R [] ([] : List Int) := (Reps.nil _ _)
  refine sl_append_R elT22 (by decide) rfl hq_5 rfl h0_0 h_7 hS hK (by decide) rfl rfl rfl fun a w v_8 cs_9 hq_10 hS hK => ?_
  refine sl hK (by decide) rfl rfl (r_assign hK rfl) fun a hK => ?_
  refine wpList_nil ?_
  refine wp_seq ?_
  refine wp_region_lit ?_
  refine sl hK (by decide) rfl rfl (r_move hK rfl) fun a hK => ?_
  refine sl hK (by decide) rfl rfl (r_move hK rfl) fun a hK => ?_
  rcases or_b y_1 with hb_12 | hb_12
  · rw [ifb_t hb_12] at H
    refine sl hK (by decide) (wtt hb_12) rfl (r_move hK rfl) fun a hK => ?_
    obtain ⟨R_13, hS, hl, hs_14⟩ := hS.fz_row hq_10 rfl rfl
    have h0_0 := h0_0.mono hl.le
    have hRL := hRL.trans hl
    obtain ⟨y_15, h_16, H⟩ := bind_some H
    refine sl_callV Try.call8 hS hK (by decide) (wtt hb_12) rfl rfl (crc_Sum.calls y_6 hS.sub (hs_14) h_16) fun a w hS hK => ?_
    refine sl hK (by decide) (wtt hb_12) rfl (r_move hK rfl) fun a hK => ?_
    obtain ⟨y_17, h_18, H⟩ := bind_some H
    refine sl_callV Try.call9 hS hK (by decide) (wtt hb_12) rfl rfl (ref03_Sum.calls a0 hS.sub (h0_0) h_18) fun a w hS hK => ?_
    refine sl hK (by decide) (wtt hb_12) rfl (r_ibin hK rfl rfl rfl) fun a hK => ?_
    refine sl hK (by decide) rfl rfl (r_pick_t hb_12 hK rfl rfl) fun a hK => ?_
    refine sl hK (by decide) rfl rfl (r_move hK rfl) fun a hK => ?_
    rcases or_b (y_15 == y_17) with hb_19 | hb_19
    · rw [ifb_t hb_19] at H
      refine sl hK (by decide) (wtt hb_19) rfl (r_move hK rfl) fun a hK => ?_
      refine sl hK (by decide) (wtt hb_19) rfl (r_move hK rfl) fun a hK => ?_
      obtain ⟨y_20, h_21, H⟩ := bind_some H
      refine sl_callV Try.call10 hS hK (by decide) (wtt hb_19) rfl rfl (crc_Slot.calls y_6 a1 hS.sub (hs_14) h_21) fun a w hS hK => ?_
      refine sl hK (by decide) (wtt hb_19) rfl (r_move hK rfl) fun a hK => ?_
      refine sl hK (by decide) (wtt hb_19) rfl (r_move hK rfl) fun a hK => ?_
      obtain ⟨y_22, h_23, H⟩ := bind_some H
      refine sl_callV Try.call11 hS hK (by decide) (wtt hb_19) rfl rfl (ref03_Slot.calls a0 a1 hS.sub (h0_0) h_23) fun a w hS hK => ?_
      refine sl hK (by decide) (wtt hb_19) rfl (r_ibin hK rfl rfl rfl) fun a hK => ?_
      refine sl hK (by decide) rfl rfl (r_pick_t hb_19 hK rfl rfl) fun a hK => ?_
      refine sl hK (by decide) rfl rfl (r_move hK rfl) fun a hK => ?_
      rcases or_b (y_20 == y_22) with hb_24 | hb_24
      · rw [ifb_t hb_24] at H
        refine sl hK (by decide) (wtt hb_24) rfl (r_move hK rfl) fun a hK => ?_
        refine sl hK (by decide) (wtt hb_24) rfl (r_conv_bs Try.underlying22 Try.underlying9 Try.underlying5 hs_14 hK rfl hS.sub) fun a hK => ?_
        refine sl hK (by decide) (wtt hb_24) rfl (r_move hK rfl) fun a hK => ?_
        refine sl hK (by decide) (wtt hb_24) rfl (r_conv_bs Try.underlying22 Try.underlying9 Try.underlying5 h0_0 hK rfl hS.sub) fun a hK => ?_
        refine sl hK (by decide) (wtt hb_24) rfl (r_sbin hK rfl rfl rfl) fun a hK => ?_
        refine sl hK (by decide) rfl rfl (r_pick_t hb_24 hK rfl rfl) fun a hK => ?_
        refine sl hK (by decide) rfl rfl (r_assign hK rfl) fun a hK => ?_
        refine wpList_nil ?_
        have hr_ := Option.some.inj H
        refine wp_ret ?_
        repeat (first | refine ret_then ?_ | refine ret_block ?_)
        exact ret_1 Try.results3 hK (rv_tmp hK rfl) ⟨congrArg (fun b => Ending.returned (Value.bool b)) hr_, hS.below⟩
      · rw [ifb_f hb_24] at H
        refine sl_skip hK (by decide) (wtf hb_24) rfl fun a hK => ?_
        refine sl_skip hK (by decide) (wtf hb_24) rfl fun a hK => ?_
        refine sl_skip hK (by decide) (wtf hb_24) rfl fun a hK => ?_
        refine sl_skip hK (by decide) (wtf hb_24) rfl fun a hK => ?_
        refine sl_skip hK (by decide) (wtf hb_24) rfl fun a hK => ?_
        refine sl hK (by decide) rfl rfl (r_pick_f hb_24 hK rfl rfl) fun a hK => ?_
        refine sl hK (by decide) rfl rfl (r_assign hK rfl) fun a hK => ?_
        refine wpList_nil ?_
        exact absurd (Option.some.inj H) (by decide)
    · rw [ifb_f hb_19] at H
      refine sl_skip hK (by decide) (wtf hb_19) rfl fun a hK => ?_
      refine sl_skip hK (by decide) (wtf hb_19) rfl fun a hK => ?_
      refine sl_skip hK (by decide) (wtf hb_19) rfl fun a hK => ?_
      refine sl_skip hK (by decide) (wtf hb_19) rfl fun a hK => ?_
      refine sl_skip hK (by decide) (wtf hb_19) rfl fun a hK => ?_
      refine sl_skip hK (by decide) (wtf hb_19) rfl fun a hK => ?_
      refine sl_skip hK (by decide) (wtf hb_19) rfl fun a hK => ?_
      refine sl hK (by decide) rfl rfl (r_pick_f hb_19 hK rfl rfl) fun a hK => ?_
      refine sl hK (by decide) rfl rfl (r_move hK rfl) fun a hK => ?_
      refine sl_skip hK (by decide) rfl rfl fun a hK => ?_
      refine sl_skip hK (by decide) rfl rfl fun a hK => ?_
      refine sl_skip hK (by decide) rfl rfl fun a hK => ?_
      refine sl_skip hK (by decide) rfl rfl fun a hK => ?_
      refine sl_skip hK (by decide) rfl rfl fun a hK => ?_
      refine sl hK (by decide) rfl rfl (r_pick hK rfl rfl rfl) fun a hK => ?_
      refine sl hK (by decide) rfl rfl (r_assign hK rfl) fun a hK => ?_
      refine wpList_nil ?_
      exact absurd (Option.some.inj H) (by decide)
  · rw [ifb_f hb_12] at H
    refine sl_skip hK (by decide) (wtf hb_12) rfl fun a hK => ?_
    refine sl_skip hK (by decide) (wtf hb_12) rfl fun a hK => ?_
    refine sl_skip hK (by decide) (wtf hb_12) rfl fun a hK => ?_
    refine sl_skip hK (by decide) (wtf hb_12) rfl fun a hK => ?_
    refine sl_skip hK (by decide) (wtf hb_12) rfl fun a hK => ?_
    refine sl hK (by decide) rfl rfl (r_pick_f hb_12 hK rfl rfl) fun a hK => ?_
    refine sl hK (by decide) rfl rfl (r_move hK rfl) fun a hK => ?_
    refine sl_skip hK (by decide) rfl rfl fun a hK => ?_
    refine sl_skip hK (by decide) rfl rfl fun a hK => ?_
    refine sl_skip hK (by decide) rfl rfl fun a hK => ?_
    refine sl_skip hK (by decide) rfl rfl fun a hK => ?_
    refine sl_skip hK (by decide) rfl rfl fun a hK => ?_
    refine sl_skip hK (by decide) rfl rfl fun a hK => ?_
    refine sl_skip hK (by decide) rfl rfl fun a hK => ?_
    refine sl hK (by decide) rfl rfl (r_pick hK rfl rfl rfl) fun a hK => ?_
    refine sl hK (by decide) rfl rfl (r_move hK rfl) fun a hK => ?_
    refine sl_skip hK (by decide) rfl rfl fun a hK => ?_
    refine sl_skip hK (by decide) rfl rfl fun a hK => ?_
    refine sl_skip hK (by decide) rfl rfl fun a hK => ?_
    refine sl_skip hK (by decide) rfl rfl fun a hK => ?_
    refine sl_skip hK (by decide) rfl rfl fun a hK => ?_
    refine sl hK (by decide) rfl rfl (r_pick hK rfl rfl rfl) fun a hK => ?_
    refine sl hK (by decide) rfl rfl (r_assign hK rfl) fun a hK => ?_
    refine wpList_nil ?_
    exact absurd (Option.some.inj H) (by decide)

/-! ### catchment/catchmentlaw03.CrcGoesOn: function 4 -/
set_option maxRecDepth 100000 in
theorem law03_CrcGoesOn.calls (a0 : Int) (a1 : List Int) (a2 : Int) {R : Hp} {w0 : World} (hR : R.sub w0) {v1_0 : Value} (h1_0 : SlR (tyInt .u8) R v1_0 a1) (H : law03_CrcGoesOn a0 a1 a2 = some true) : CallsV Try.prog 4 #[.int .u32 a0, v1_0, .int .i64 a2] w0 (.bool true) := by
  unfold law03_CrcGoesOn at H
  refine enter (args := [.int .u32 a0, v1_0, .int .i64 a2]) (R := R) Try.func4 rfl Try.ntmps4 rfl hR fun a hK hS => ?_
  have hRL := RLe.refl w0 R
  refine wp_seq ?_
  refine wp_region_lit ?_
  refine sl hK (by decide) rfl rfl (r_assign hK rfl) fun a hK => ?_
  refine wpList_nil ?_
  refine wp_seq ?_
  refine wp_region_lit ?_
  obtain ⟨y_1, h_2, H⟩ := bind_some H
  refine sl_callV Try.call7 hS hK (by decide) rfl rfl rfl (law03_shown.calls   h_2 _) fun a w hS hK => ?_
  refine sl hK (by decide) rfl rfl (r_assign hK rfl) fun a hK => ?_
  refine wpList_nil ?_
  refine wp_seq ?_
  refine wp_seq ?_
  refine wp_region_lit ?_
  refine sl hK (by decide) rfl rfl (r_move hK rfl) fun a hK => ?_
  refine sl hK (by decide) rfl rfl (r_ibin hK rfl rfl rfl) fun a hK => ?_
  refine wpList_nil ?_
  refine wp_mid (fun a w => ∃ (x_4 : Int), law03_CrcGoesOn.j0 a0 a1 y_1 x_4 = some true ∧ Kn 52 a [(0, .int .u32 a0), (1, v1_0), (2, .int .i64 x_4), (7, .bool y_1)] ∧ St w0 w R []) ?_ ?_
  · refine wp_cond_split (hK.ev rfl) (fun (hb_5 : (decide (a2 < 0)) = true) => ?_) (fun (hb_5 : (decide (a2 < 0)) = false) => ?_)
    · rw [ifb_t hb_5] at H
      refine wp_region_lit ?_
      refine sl hK (by decide) rfl rfl (r_move hK rfl) fun a hK => ?_
      refine sl hK (by decide) rfl rfl (r_ibin hK rfl rfl rfl) fun a hK => ?_
      refine sl hK (by decide) rfl rfl (r_un hK rfl (u_neg _ _)) fun a hK => ?_
      refine sl hK (by decide) rfl rfl (r_assign hK rfl) fun a hK => ?_
      refine wpList_nil ?_
      exact ⟨(IntKind.i64.wrap (0 - (IntKind.i64.wrap (a2 + 1)))), H, hK.sub (all_cons rfl (all_cons rfl (all_cons rfl (all_cons rfl (all_nil))))), hS⟩
    · rw [ifb_f hb_5] at H
      refine wp_skip ?_
      exact ⟨a2, H, hK.sub (all_cons rfl (all_cons rfl (all_cons rfl (all_cons rfl (all_nil))))), hS⟩
  · rintro a w ⟨x_4, H, hK, hS⟩
    unfold law03_CrcGoesOn.j0 at H
    refine wp_seq ?_
    refine wp_region_lit ?_
    refine sl hK (by decide) rfl rfl (r_move hK rfl) fun a hK => ?_
    refine sl hK (by decide) rfl rfl (r_move hK rfl) fun a hK => ?_
    refine sl hK (by decide) rfl rfl (r_len_R Try.underlying22 h1_0 hK rfl) fun a hK => ?_
    refine sl hK (by decide) rfl rfl (r_ibin hK rfl rfl rfl) fun a hK => ?_
    rcases or_b ((IntKind.i64.wrap ((a1.length : Int) + 1)) != 0) with hn_6 | hn_6
    · rw [ifb_t hn_6] at H
      refine sl hK (by decide) rfl rfl (r_rem hK rfl rfl (ne_of_bne hn_6)) fun a hK => ?_
      refine sl hK (by decide) rfl rfl (r_assign hK rfl) fun a hK => ?_
      refine wpList_nil ?_
      refine wp_seq ?_
      refine wp_region_lit ?_
      refine sl hK (by decide) rfl rfl (r_move hK rfl) fun a hK => ?_
      refine sl hK (by decide) rfl rfl (r_move hK rfl) fun a hK => ?_
      obtain ⟨y_7, h_8, H⟩ := bind_some H
      refine sl_callV Try.call12 hS hK (by decide) rfl rfl rfl (crc_More.calls a0 a1 hS.sub (h1_0) h_8) fun a w hS hK => ?_
      refine sl hK (by decide) rfl rfl (r_assign hK rfl) fun a hK => ?_
      refine wpList_nil ?_
      refine wp_seq ?_
      refine quiet_region mixed (by kernel_rfl) hS ?_
      refine sq hK (by decide) rfl rfl (fun w hS => r_move hK rfl) fun a hK => ?_
      refine sq hK (by decide) rfl rfl (fun w hS => r_move hK rfl) fun a hK => ?_
      rcases or_b y_1 with hb_9 | hb_9
      · rw [ifb_t hb_9] at H
        refine sq hK (by decide) (wtt hb_9) rfl (fun w hS => r_move hK rfl) fun a hK => ?_
        refine sq hK (by decide) (wtt hb_9) rfl (fun w hS => r_move hK rfl) fun a hK => ?_
        refine sq hK (by decide) (wtt hb_9) rfl (fun w hS => r_move hK rfl) fun a hK => ?_
        obtain ⟨y_10, h_11, H⟩ := bind_some H
        refine sq_callV Try.call13 hK (by decide) (wtt hb_9) rfl rfl (fun w hS => ref03_More.calls a0 a1 hS.sub (h1_0) h_11) fun a hK => ?_
        refine sq hK (by decide) (wtt hb_9) rfl (fun w hS => r_ibin hK rfl rfl rfl) fun a hK => ?_
        refine sq hK (by decide) rfl rfl (fun w hS => r_pick_t hb_9 hK rfl rfl) fun a hK => ?_
        refine sq hK (by decide) rfl rfl (fun w hS => r_move hK rfl) fun a hK => ?_
        rcases or_b (y_7 == y_10) with hb_12 | hb_12
        · rw [ifb_t hb_12] at H
          refine sq hK (by decide) (wtt hb_12) rfl (fun w hS => r_move hK rfl) fun a hK => ?_
          refine sq hK (by decide) (wtt hb_12) rfl (fun w hS => r_move hK rfl) fun a hK => ?_
          refine sq hK (by decide) (wtt hb_12) rfl (fun w hS => r_move hK rfl) fun a hK => ?_
          refine sq hK (by decide) (wtt hb_12) rfl (fun w hS => r_move hK rfl) fun a hK => ?_
          obtain ⟨y_13, h_14, H⟩ := bind_some H
          obtain ⟨v_15, hs_16, hr_17⟩ := r_slice_R (x := .tmp 35) (lo := none) (hi := some (.tmp 36)) Try.underlying22 Try.sizeOf5 h1_0 h_14 hK rfl rfl ⟨_, rfl⟩
          refine sq hK (by decide) (wtt hb_12) rfl (fun w hS => hr_17 _ _ _ _ _ _ _ hK) fun a hK => ?_
          obtain ⟨y_18, h_19, H⟩ := bind_some H
          refine sq_callV Try.call12 hK (by decide) (wtt hb_12) rfl rfl (fun w hS => crc_More.calls a0 y_13 hS.sub (hs_16) h_19) fun a hK => ?_
          refine sq hK (by decide) (wtt hb_12) rfl (fun w hS => r_move hK rfl) fun a hK => ?_
          refine sq hK (by decide) (wtt hb_12) rfl (fun w hS => r_move hK rfl) fun a hK => ?_
          obtain ⟨y_20, h_21, H⟩ := bind_some H
          obtain ⟨v_22, hs_23, hr_24⟩ := r_slice_R (x := .tmp 39) (lo := some (.tmp 40)) (hi := none) Try.underlying22 Try.sizeOf5 h1_0 h_21 hK rfl ⟨_, rfl⟩ rfl
          refine sq hK (by decide) (wtt hb_12) rfl (fun w hS => hr_24 _ _ _ _ _ _ _ hK) fun a hK => ?_
          obtain ⟨y_25, h_26, H⟩ := bind_some H
          refine sq_callV Try.call12 hK (by decide) (wtt hb_12) rfl rfl (fun w hS => crc_More.calls y_18 y_20 hS.sub (hs_23) h_26) fun a hK => ?_
          refine sq hK (by decide) (wtt hb_12) rfl (fun w hS => r_ibin hK rfl rfl rfl) fun a hK => ?_
          refine sq hK (by decide) rfl rfl (fun w hS => r_pick_t hb_12 hK rfl rfl) fun a hK => ?_
          refine sq hK (by decide) rfl rfl (fun w hS => r_move hK rfl) fun a hK => ?_
          rcases or_b (y_7 == y_25) with hb_27 | hb_27
          · rw [ifb_t hb_27] at H
            refine sq hK (by decide) (wtt hb_27) rfl (fun w hS => r_move hK rfl) fun a hK => ?_
            obtain ⟨y_28, h_29, H⟩ := bind_some H
            refine sq_callV Try.call12 hK (by decide) (wtt hb_27) rfl rfl (fun w hS => crc_More.calls 0 a1 hS.sub (h1_0) h_29) fun a hK => ?_
            refine sq hK (by decide) (wtt hb_27) rfl (fun w hS => r_move hK rfl) fun a hK => ?_
            obtain ⟨y_30, h_31, H⟩ := bind_some H
            refine sq_callV Try.call8 hK (by decide) (wtt hb_27) rfl rfl (fun w hS => crc_Sum.calls a1 hS.sub (h1_0) h_31) fun a hK => ?_
            refine sq hK (by decide) (wtt hb_27) rfl (fun w hS => r_ibin hK rfl rfl rfl) fun a hK => ?_
            refine sq hK (by decide) rfl rfl (fun w hS => r_pick_t hb_27 hK rfl rfl) fun a hK => ?_
            refine sq hK (by decide) rfl rfl (fun w hS => r_assign hK rfl) fun a hK => ?_
            refine wpQuiet_nil ?_
            intro w hS
            have hr_ := Option.some.inj H
            refine wp_ret ?_
            repeat (first | refine ret_then ?_ | refine ret_block ?_)
            exact ret_1 Try.results4 hK (rv_tmp hK rfl) ⟨congrArg (fun b => Ending.returned (Value.bool b)) hr_, hS.below⟩
          · rw [ifb_f hb_27] at H
            refine sq_skip hK (by decide) (wtf hb_27) rfl fun a hK => ?_
            refine sq_skip hK (by decide) (wtf hb_27) rfl fun a hK => ?_
            refine sq_skip hK (by decide) (wtf hb_27) rfl fun a hK => ?_
            refine sq_skip hK (by decide) (wtf hb_27) rfl fun a hK => ?_
            refine sq_skip hK (by decide) (wtf hb_27) rfl fun a hK => ?_
            refine sq hK (by decide) rfl rfl (fun w hS => r_pick_f hb_27 hK rfl rfl) fun a hK => ?_
            refine sq hK (by decide) rfl rfl (fun w hS => r_assign hK rfl) fun a hK => ?_
            refine wpQuiet_nil ?_
            intro w hS
            exact absurd (Option.some.inj H) (by decide)
        · rw [ifb_f hb_12] at H
          refine sq_skip hK (by decide) (wtf hb_12) rfl fun a hK => ?_
          refine sq_skip hK (by decide) (wtf hb_12) rfl fun a hK => ?_
          refine sq_skip hK (by decide) (wtf hb_12) rfl fun a hK => ?_
          refine sq_skip hK (by decide) (wtf hb_12) rfl fun a hK => ?_
          refine sq_skip hK (by decide) (wtf hb_12) rfl fun a hK => ?_
          refine sq_skip hK (by decide) (wtf hb_12) rfl fun a hK => ?_
          refine sq_skip hK (by decide) (wtf hb_12) rfl fun a hK => ?_
          refine sq_skip hK (by decide) (wtf hb_12) rfl fun a hK => ?_
          refine sq_skip hK (by decide) (wtf hb_12) rfl fun a hK => ?_
          refine sq_skip hK (by decide) (wtf hb_12) rfl fun a hK => ?_
          refine sq_skip hK (by decide) (wtf hb_12) rfl fun a hK => ?_
          refine sq hK (by decide) rfl rfl (fun w hS => r_pick_f hb_12 hK rfl rfl) fun a hK => ?_
          refine sq hK (by decide) rfl rfl (fun w hS => r_move hK rfl) fun a hK => ?_
          refine sq_skip hK (by decide) rfl rfl fun a hK => ?_
          refine sq_skip hK (by decide) rfl rfl fun a hK => ?_
          refine sq_skip hK (by decide) rfl rfl fun a hK => ?_
          refine sq_skip hK (by decide) rfl rfl fun a hK => ?_
          refine sq_skip hK (by decide) rfl rfl fun a hK => ?_
          refine sq hK (by decide) rfl rfl (fun w hS => r_pick hK rfl rfl rfl) fun a hK => ?_
          refine sq hK (by decide) rfl rfl (fun w hS => r_assign hK rfl) fun a hK => ?_
          refine wpQuiet_nil ?_
          intro w hS
          exact absurd (Option.some.inj H) (by decide)
      · rw [ifb_f hb_9] at H
        refine sq_skip hK (by decide) (wtf hb_9) rfl fun a hK => ?_
        refine sq_skip hK (by decide) (wtf hb_9) rfl fun a hK => ?_
        refine sq_skip hK (by decide) (wtf hb_9) rfl fun a hK => ?_
        refine sq_skip hK (by decide) (wtf hb_9) rfl fun a hK => ?_
        refine sq_skip hK (by decide) (wtf hb_9) rfl fun a hK => ?_
        refine sq hK (by decide) rfl rfl (fun w hS => r_pick_f hb_9 hK rfl rfl) fun a hK => ?_
        refine sq hK (by decide) rfl rfl (fun w hS => r_move hK rfl) fun a hK => ?_
        refine sq_skip hK (by decide) rfl rfl fun a hK => ?_
        refine sq_skip hK (by decide) rfl rfl fun a hK => ?_
        refine sq_skip hK (by decide) rfl rfl fun a hK => ?_
        refine sq_skip hK (by decide) rfl rfl fun a hK => ?_
        refine sq_skip hK (by decide) rfl rfl fun a hK => ?_
        refine sq_skip hK (by decide) rfl rfl fun a hK => ?_
        refine sq_skip hK (by decide) rfl rfl fun a hK => ?_
        refine sq_skip hK (by decide) rfl rfl fun a hK => ?_
        refine sq_skip hK (by decide) rfl rfl fun a hK => ?_
        refine sq_skip hK (by decide) rfl rfl fun a hK => ?_
        refine sq_skip hK (by decide) rfl rfl fun a hK => ?_
        refine sq hK (by decide) rfl rfl (fun w hS => r_pick hK rfl rfl rfl) fun a hK => ?_
        refine sq hK (by decide) rfl rfl (fun w hS => r_move hK rfl) fun a hK => ?_
        refine sq_skip hK (by decide) rfl rfl fun a hK => ?_
        refine sq_skip hK (by decide) rfl rfl fun a hK => ?_
        refine sq_skip hK (by decide) rfl rfl fun a hK => ?_
        refine sq_skip hK (by decide) rfl rfl fun a hK => ?_
        refine sq_skip hK (by decide) rfl rfl fun a hK => ?_
        refine sq hK (by decide) rfl rfl (fun w hS => r_pick hK rfl rfl rfl) fun a hK => ?_
        refine sq hK (by decide) rfl rfl (fun w hS => r_assign hK rfl) fun a hK => ?_
        refine wpQuiet_nil ?_
        intro w hS
        exact absurd (Option.some.inj H) (by decide)
    · rw [ifb_f hn_6] at H
      cases H

/-! ### catchment/catchmentlaw03.CrcTurned: function 5 -/
set_option maxRecDepth 100000 in
theorem law03_CrcTurned.calls (a0 : List Int) (a1 : Int) {R : Hp} {w0 : World} (hR : R.sub w0) {v0_0 : Value} (h0_0 : SlR (tyInt .u8) R v0_0 a0) (H : law03_CrcTurned a0 a1 = some true) : CallsV Try.prog 5 #[v0_0, .int .i64 a1] w0 (.bool true) := by
  unfold law03_CrcTurned at H
  refine enter (args := [v0_0, .int .i64 a1]) (R := R) Try.func5 rfl Try.ntmps5 rfl hR fun a hK hS => ?_
  have hRL := RLe.refl w0 R
  refine wp_seq ?_
  refine wp_region_lit ?_
  refine sl hK (by decide) rfl rfl (r_assign hK rfl) fun a hK => ?_
  refine wpList_nil ?_
  refine wp_seq ?_
  refine wp_region_lit ?_
  obtain ⟨y_1, h_2, H⟩ := bind_some H
  refine sl_callV Try.call7 hS hK (by decide) rfl rfl rfl (law03_shown.calls   h_2 _) fun a w hS hK => ?_
  refine sl hK (by decide) rfl rfl (r_assign hK rfl) fun a hK => ?_
  refine wpList_nil ?_
  refine wp_seq ?_
  refine wp_seq ?_
  refine wp_region_lit ?_
  refine sl hK (by decide) rfl rfl (r_move hK rfl) fun a hK => ?_
  refine sl hK (by decide) rfl rfl (r_len_R Try.underlying22 h0_0 hK rfl) fun a hK => ?_
  refine sl hK (by decide) rfl rfl (r_ibin hK rfl rfl rfl) fun a hK => ?_
  refine wpList_nil ?_
  refine wp_cond_split (hK.ev rfl) (fun (hb_3 : ((a0.length : Int) == 0) = true) => ?_) (fun (hb_3 : ((a0.length : Int) == 0) = false) => ?_)
  · rw [ifb_t hb_3] at H
    refine wp_seq ?_
    refine wp_region_lit ?_
    refine sl hK (by decide) rfl rfl (r_move hK rfl) fun a hK => ?_
    refine sl hK (by decide) rfl rfl (r_assign hK rfl) fun a hK => ?_
    refine wpList_nil ?_
    have hr_ := Option.some.inj H
    refine wp_ret ?_
    repeat (first | refine ret_then ?_ | refine ret_block ?_)
    exact ret_1 Try.results5 hK (rv_tmp hK rfl) ⟨congrArg (fun b => Ending.returned (Value.bool b)) hr_, hS.below⟩
  · rw [ifb_f hb_3] at H
    refine wp_skip ?_
    refine wp_seq ?_
    refine wp_seq ?_
    refine wp_region_lit ?_
    refine sl hK (by decide) rfl rfl (r_move hK rfl) fun a hK => ?_
    refine sl hK (by decide) rfl rfl (r_ibin hK rfl rfl rfl) fun a hK => ?_
    refine wpList_nil ?_
    refine wp_mid (fun a w => ∃ (x_5 : Int), law03_CrcTurned.j0 a0 y_1 x_5 = some true ∧ Kn 45 a [(0, v0_0), (1, .int .i64 x_5), (5, .bool y_1)] ∧ St w0 w R []) ?_ ?_
    · refine wp_cond_split (hK.ev rfl) (fun (hb_6 : (decide (a1 < 0)) = true) => ?_) (fun (hb_6 : (decide (a1 < 0)) = false) => ?_)
      · rw [ifb_t hb_6] at H
        refine wp_region_lit ?_
        refine sl hK (by decide) rfl rfl (r_move hK rfl) fun a hK => ?_
        refine sl hK (by decide) rfl rfl (r_ibin hK rfl rfl rfl) fun a hK => ?_
        refine sl hK (by decide) rfl rfl (r_un hK rfl (u_neg _ _)) fun a hK => ?_
        refine sl hK (by decide) rfl rfl (r_assign hK rfl) fun a hK => ?_
        refine wpList_nil ?_
        exact ⟨(IntKind.i64.wrap (0 - (IntKind.i64.wrap (a1 + 1)))), H, hK.sub (all_cons rfl (all_cons rfl (all_cons rfl (all_nil)))), hS⟩
      · rw [ifb_f hb_6] at H
        refine wp_skip ?_
        exact ⟨a1, H, hK.sub (all_cons rfl (all_cons rfl (all_cons rfl (all_nil)))), hS⟩
    · rintro a w ⟨x_5, H, hK, hS⟩
      unfold law03_CrcTurned.j0 at H
      refine wp_seq ?_
      refine wp_region_lit ?_
      refine sl_buildSlice (ps := []) (c := []) Try.underlying22 Try.sizeOf5 Try.zeroValue5 rfl rfl rfl (by decide) rfl hS hK (by decide) rfl fun a w b_7 hS hK => ?_
      refine sl hK (by decide) rfl rfl (r_move hK rfl) fun a hK => ?_
      obtain ⟨y_10, h_11, H⟩ := bind_some H
      have hS := hS.row_lit (size := 1) (m := 0) rfl (by decide)
      have hq_9 : Reps (tyInt .u8) R [] ([] : List Int) := (Reps.nil _ _)
      refine sl_append_R elT22 (by decide) rfl hq_9 rfl h0_0 h_11 hS hK (by decide) rfl rfl rfl fun a w v_12 cs_13 hq_14 hS hK => ?_
      refine sl hK (by decide) rfl rfl (r_assign hK rfl) fun a hK => ?_
      refine wpList_nil ?_
      refine wp_seq ?_
      refine wp_region_lit ?_
      refine sl hK (by decide) rfl rfl (r_move hK rfl) fun a hK => ?_
      refine sl hK (by decide) rfl rfl (r_quo hK rfl rfl (by decide)) fun a hK => ?_
      refine sl hK (by decide) rfl rfl (r_move hK rfl) fun a hK => ?_
      refine sl hK (by decide) rfl rfl (r_len_O Try.underlying22 hS (.head _) hK rfl) fun a hK => ?_
      rcases or_b ((y_10.length : Int) != 0) with hn_16 | hn_16
      · rw [ifb_t hn_16] at H
        refine sl hK (by decide) rfl rfl (r_rem hK rfl rfl (ne_of_bne hn_16)) fun a hK => ?_
        refine sl hK (by decide) rfl rfl (r_assign hK rfl) fun a hK => ?_
        refine wpList_nil ?_
        refine wp_seq ?_
        refine tail_region 11 mixed (by kernel_rfl) hS fun w hS => ?_
        refine sst hK (by decide) rfl rfl (r_move hK rfl) fun a hK => ?_
        refine sst hK (by decide) rfl rfl (r_move hK rfl) fun a hK => ?_
        refine sst hK (by decide) rfl rfl (r_move hK rfl) fun a hK => ?_
        refine sst hK (by decide) rfl rfl (r_move hK rfl) fun a hK => ?_
        obtain ⟨y_17, h_18, H⟩ := bind_some H
        obtain ⟨b_20, c_21, cs_22, hv_19, hr_23, hc_24, h_180, h_181⟩ := hS.row_ix (.head _) hq_14 rfl rfl h_18
        subst hr_23
        refine sst hK (by decide) rfl rfl (r_indexAddr_R Try.underlying22 Try.sizeOf5 hv_19 h_180 h_181 hK rfl rfl) fun a hK => ?_
        refine sst hK (by decide) rfl rfl (r_load Try.isAgg5 hK rfl (hS.row_cell (.head _) hv_19 (hc_24 0 _ rfl))) fun a hK => ?_
        refine sst hK (by decide) rfl rfl (r_move hK rfl) fun a hK => ?_
        refine sst hK (by decide) rfl rfl (r_rem hK rfl rfl (by decide)) fun a hK => ?_
        rcases or_b (decide (0 ≤ (x_5.tmod 8))) with hn_25 | hn_25
        · rw [ifb_t hn_25] at H
          refine sst hK (by decide) rfl rfl (r_shl hK rfl rfl (of_decide_eq_true hn_25)) fun a hK => ?_
          refine sst hK (by decide) rfl rfl (r_ibin hK rfl rfl rfl) fun a hK => ?_
          obtain ⟨y_26, h_27, H⟩ := bind_some H
          obtain ⟨b_29, c_30, cs_31, hv_28, hr_32, hc_33, h_270, h_271⟩ := hS.row_ix (.head _) hq_14 rfl rfl h_27
          subst hr_32
          refine sst hK (by decide) rfl rfl (r_indexAddr_R Try.underlying22 Try.sizeOf5 hv_28 h_270 h_271 hK rfl rfl) fun a hK => ?_
          refine wpStill_nil ?_
          refine sl_store_row Try.sizeOf5 hv_28 h_27 rfl (show Ty.rep (tyInt .u8) _ [.int .u8 (IntKind.u8.wrap (BitVec.ofInt 8 y_17 ^^^ BitVec.ofInt 8 (IntKind.u8.wrap (1 * 2 ^ (min (x_5.tmod 8).toNat 8)))).toNat)] (IntKind.u8.wrap (BitVec.ofInt 8 y_17 ^^^ BitVec.ofInt 8 (IntKind.u8.wrap (1 * 2 ^ (min (x_5.tmod 8).toNat 8)))).toNat) from rfl) hq_14 rfl hS hK rfl rfl rfl rfl fun a w cs_34 hq_35 hS hK => ?_
          refine wpList_nil ?_
          refine wp_seq ?_
          refine wp_region_lit ?_
          refine sl hK (by decide) rfl rfl (r_move hK rfl) fun a hK => ?_
          refine sl hK (by decide) rfl rfl (r_move hK rfl) fun a hK => ?_
          rcases or_b y_1 with hb_37 | hb_37
          · rw [ifb_t hb_37] at H
            refine sl hK (by decide) (wtt hb_37) rfl (r_move hK rfl) fun a hK => ?_
            obtain ⟨R_38, hS, hl, hs_39⟩ := hS.fz_row hq_35 rfl rfl
            have h0_0 := h0_0.mono hl.le
            have hRL := hRL.trans hl
            obtain ⟨y_40, h_41, H⟩ := bind_some H
            refine sl_callV Try.call8 hS hK (by decide) (wtt hb_37) rfl rfl (crc_Sum.calls (upd y_10 ((IntKind.i64.wrap (x_5.tdiv 8)).tmod (y_10.length : Int)) (IntKind.u8.wrap (BitVec.ofInt 8 y_17 ^^^ BitVec.ofInt 8 (IntKind.u8.wrap (1 * 2 ^ (min (x_5.tmod 8).toNat 8)))).toNat)) hS.sub (hs_39) h_41) fun a w hS hK => ?_
            refine sl hK (by decide) (wtt hb_37) rfl (r_move hK rfl) fun a hK => ?_
            obtain ⟨y_42, h_43, H⟩ := bind_some H
            refine sl_callV Try.call8 hS hK (by decide) (wtt hb_37) rfl rfl (crc_Sum.calls a0 hS.sub (h0_0) h_43) fun a w hS hK => ?_
            refine sl hK (by decide) (wtt hb_37) rfl (r_ibin hK rfl rfl rfl) fun a hK => ?_
            refine sl hK (by decide) rfl rfl (r_pick_t hb_37 hK rfl rfl) fun a hK => ?_
            refine sl hK (by decide) rfl rfl (r_assign hK rfl) fun a hK => ?_
            refine wpList_nil ?_
            have hr_ := Option.some.inj H
            refine wp_ret ?_
            repeat (first | refine ret_then ?_ | refine ret_block ?_)
            exact ret_1 Try.results5 hK (rv_tmp hK rfl) ⟨congrArg (fun b => Ending.returned (Value.bool b)) hr_, hS.below⟩
          · rw [ifb_f hb_37] at H
            refine sl_skip hK (by decide) (wtf hb_37) rfl fun a hK => ?_
            refine sl_skip hK (by decide) (wtf hb_37) rfl fun a hK => ?_
            refine sl_skip hK (by decide) (wtf hb_37) rfl fun a hK => ?_
            refine sl_skip hK (by decide) (wtf hb_37) rfl fun a hK => ?_
            refine sl_skip hK (by decide) (wtf hb_37) rfl fun a hK => ?_
            refine sl hK (by decide) rfl rfl (r_pick_f hb_37 hK rfl rfl) fun a hK => ?_
            refine sl hK (by decide) rfl rfl (r_assign hK rfl) fun a hK => ?_
            refine wpList_nil ?_
            exact absurd (Option.some.inj H) (by decide)
        · rw [ifb_f hn_25] at H
          cases H
      · rw [ifb_f hn_16] at H
        cases H

/-! ### catchment/catchmentlaw03.CrcSlots: function 6 -/
set_option maxRecDepth 100000 in
theorem law03_CrcSlots.calls (a0 : List Int) (a1 : Int) {R : Hp} {w0 : World} (hR : R.sub w0) {v0_0 : Value} (h0_0 : SlR (tyInt .u8) R v0_0 a0) (H : law03_CrcSlots a0 a1 = some true) : CallsV Try.prog 6 #[v0_0, .int .i64 a1] w0 (.bool true) := by
  unfold law03_CrcSlots at H
  refine enter (args := [v0_0, .int .i64 a1]) (R := R) Try.func6 rfl Try.ntmps6 rfl hR fun a hK hS => ?_
  have hRL := RLe.refl w0 R
  refine wp_seq ?_
  refine wp_region_lit ?_
  refine sl hK (by decide) rfl rfl (r_assign hK rfl) fun a hK => ?_
  refine wpList_nil ?_
  refine wp_seq ?_
  refine wp_region_lit ?_
  obtain ⟨y_1, h_2, H⟩ := bind_some H
  refine sl_callV Try.call7 hS hK (by decide) rfl rfl rfl (law03_shown.calls   h_2 _) fun a w hS hK => ?_
  refine sl hK (by decide) rfl rfl (r_assign hK rfl) fun a hK => ?_
  refine wpList_nil ?_
  refine wp_seq ?_
  refine wp_region_lit ?_
  refine sl hK (by decide) rfl rfl (r_move hK rfl) fun a hK => ?_
  refine sl hK (by decide) rfl rfl (r_move hK rfl) fun a hK => ?_
  obtain ⟨y_3, h_4, H⟩ := bind_some H
  refine sl_callV Try.call10 hS hK (by decide) rfl rfl rfl (crc_Slot.calls a0 a1 hS.sub (h0_0) h_4) fun a w hS hK => ?_
  refine sl hK (by decide) rfl rfl (r_assign hK rfl) fun a hK => ?_
  refine wpList_nil ?_
  refine wp_seq ?_
  refine wp_seq ?_
  refine wp_region_lit ?_
  refine sl hK (by decide) rfl rfl (r_move hK rfl) fun a hK => ?_
  refine sl hK (by decide) rfl rfl (r_ibin hK rfl rfl rfl) fun a hK => ?_
  refine wpList_nil ?_
  refine wp_cond_split (hK.ev rfl) (fun (hb_5 : (decide (a1 < 1)) = true) => ?_) (fun (hb_5 : (decide (a1 < 1)) = false) => ?_)
  · rw [ifb_t hb_5] at H
    refine wp_seq ?_
    refine wp_mid (fun a w => ∃ (x_7 : Bool), law03_CrcSlots.j0 x_7 = some true ∧ Kn 37 a [(4, .bool x_7)] ∧ St w0 w R []) ?_ ?_
    · refine wp_region_lit ?_
      refine sl hK (by decide) rfl rfl (r_move hK rfl) fun a hK => ?_
      refine sl hK (by decide) rfl rfl (r_move hK rfl) fun a hK => ?_
      rcases or_b y_1 with hb_8 | hb_8
      · rw [ifb_t hb_8] at H
        refine sl hK (by decide) (wtt hb_8) rfl (r_move hK rfl) fun a hK => ?_
        refine sl hK (by decide) (wtt hb_8) rfl (r_ibin hK rfl rfl rfl) fun a hK => ?_
        refine sl hK (by decide) rfl rfl (r_pick_t hb_8 hK rfl rfl) fun a hK => ?_
        refine sl hK (by decide) rfl rfl (r_assign hK rfl) fun a hK => ?_
        refine wpList_nil ?_
        exact ⟨(y_3 == 0), H, hK.sub (all_cons rfl (all_nil)), hS⟩
      · rw [ifb_f hb_8] at H
        refine sl_skip hK (by decide) (wtf hb_8) rfl fun a hK => ?_
        refine sl_skip hK (by decide) (wtf hb_8) rfl fun a hK => ?_
        refine sl hK (by decide) rfl rfl (r_pick_f hb_8 hK rfl rfl) fun a hK => ?_
        refine sl hK (by decide) rfl rfl (r_assign hK rfl) fun a hK => ?_
        refine wpList_nil ?_
        exact ⟨false, H, hK.sub (all_cons rfl (all_nil)), hS⟩
    · rintro a w ⟨x_7, H, hK, hS⟩
      unfold law03_CrcSlots.j0 at H
      have hr_ := Option.some.inj H
      refine wp_ret ?_
      repeat (first | refine ret_then ?_ | refine ret_block ?_)
      exact ret_1 Try.results6 hK (rv_tmp hK rfl) ⟨congrArg (fun b => Ending.returned (Value.bool b)) hr_, hS.below⟩
  · rw [ifb_f hb_5] at H
    refine wp_skip ?_
    refine wp_seq ?_
    refine wp_region_lit ?_
    refine sl hK (by decide) rfl rfl (r_move hK rfl) fun a hK => ?_
    refine sl hK (by decide) rfl rfl (r_move hK rfl) fun a hK => ?_
    rcases or_b y_1 with hb_9 | hb_9
    · rw [ifb_t hb_9] at H
      refine sl hK (by decide) (wtt hb_9) rfl (r_move hK rfl) fun a hK => ?_
      refine sl hK (by decide) (wtt hb_9) rfl (r_ibin hK rfl rfl rfl) fun a hK => ?_
      refine sl hK (by decide) rfl rfl (r_pick_t hb_9 hK rfl rfl) fun a hK => ?_
      refine sl hK (by decide) rfl rfl (r_move hK rfl) fun a hK => ?_
      rcases or_b (decide (y_3 ≥ 0)) with hb_10 | hb_10
      · rw [ifb_t hb_10] at H
        refine sl hK (by decide) (wtt hb_10) rfl (r_move hK rfl) fun a hK => ?_
        refine sl hK (by decide) (wtt hb_10) rfl (r_move hK rfl) fun a hK => ?_
        refine sl hK (by decide) (wtt hb_10) rfl (r_ibin hK rfl rfl rfl) fun a hK => ?_
        refine sl hK (by decide) rfl rfl (r_pick_t hb_10 hK rfl rfl) fun a hK => ?_
        refine sl hK (by decide) rfl rfl (r_move hK rfl) fun a hK => ?_
        rcases or_b (decide (y_3 < a1)) with hb_11 | hb_11
        · rw [ifb_t hb_11] at H
          refine sl hK (by decide) (wtt hb_11) rfl (r_move hK rfl) fun a hK => ?_
          refine sl hK (by decide) (wtt hb_11) rfl (r_move hK rfl) fun a hK => ?_
          obtain ⟨y_12, h_13, H⟩ := bind_some H
          refine sl_callV Try.call8 hS hK (by decide) (wtt hb_11) rfl rfl (crc_Sum.calls a0 hS.sub (h0_0) h_13) fun a w hS hK => ?_
          refine sl hK (by decide) (wtt hb_11) rfl (r_conv Try.underlying24 Try.underlying3 hK rfl) fun a hK => ?_
          refine sl hK (by decide) (wtt hb_11) rfl (r_move hK rfl) fun a hK => ?_
          rcases or_b (a1 != 0) with hn_14 | hn_14
          · rw [ifb_t hn_14] at H
            refine sl hK (by decide) (wtt hb_11) rfl (r_rem hK rfl rfl (ne_of_bne hn_14)) fun a hK => ?_
            refine sl hK (by decide) (wtt hb_11) rfl (r_ibin hK rfl rfl rfl) fun a hK => ?_
            refine sl hK (by decide) rfl rfl (r_pick_t hb_11 hK rfl rfl) fun a hK => ?_
            refine sl hK (by decide) rfl rfl (r_assign hK rfl) fun a hK => ?_
            refine wpList_nil ?_
            have hr_ := Option.some.inj H
            refine wp_ret ?_
            repeat (first | refine ret_then ?_ | refine ret_block ?_)
            exact ret_1 Try.results6 hK (rv_tmp hK rfl) ⟨congrArg (fun b => Ending.returned (Value.bool b)) hr_, hS.below⟩
          · rw [ifb_f hn_14] at H
            cases H
        · rw [ifb_f hb_11] at H
          refine sl_skip hK (by decide) (wtf hb_11) rfl fun a hK => ?_
          refine sl_skip hK (by decide) (wtf hb_11) rfl fun a hK => ?_
          refine sl_skip hK (by decide) (wtf hb_11) rfl fun a hK => ?_
          refine sl_skip hK (by decide) (wtf hb_11) rfl fun a hK => ?_
          refine sl_skip hK (by decide) (wtf hb_11) rfl fun a hK => ?_
          refine sl_skip hK (by decide) (wtf hb_11) rfl fun a hK => ?_
          refine sl_skip hK (by decide) (wtf hb_11) rfl fun a hK => ?_
          refine sl hK (by decide) rfl rfl (r_pick_f hb_11 hK rfl rfl) fun a hK => ?_
          refine sl hK (by decide) rfl rfl (r_assign hK rfl) fun a hK => ?_
          refine wpList_nil ?_
          exact absurd (Option.some.inj H) (by decide)
      · rw [ifb_f hb_10] at H
        refine sl_skip hK (by decide) (wtf hb_10) rfl fun a hK => ?_
        refine sl_skip hK (by decide) (wtf hb_10) rfl fun a hK => ?_
        refine sl_skip hK (by decide) (wtf hb_10) rfl fun a hK => ?_
        refine sl hK (by decide) rfl rfl (r_pick_f hb_10 hK rfl rfl) fun a hK => ?_
        refine sl hK (by decide) rfl rfl (r_move hK rfl) fun a hK => ?_
        refine sl_skip hK (by decide) rfl rfl fun a hK => ?_
        refine sl_skip hK (by decide) rfl rfl fun a hK => ?_
        refine sl_skip hK (by decide) rfl rfl fun a hK => ?_
        refine sl_skip hK (by decide) rfl rfl fun a hK => ?_
        refine sl_skip hK (by decide) rfl rfl fun a hK => ?_
        refine sl_skip hK (by decide) rfl rfl fun a hK => ?_
        refine sl_skip hK (by decide) rfl rfl fun a hK => ?_
        refine sl hK (by decide) rfl rfl (r_pick hK rfl rfl rfl) fun a hK => ?_
        refine sl hK (by decide) rfl rfl (r_assign hK rfl) fun a hK => ?_
        refine wpList_nil ?_
        exact absurd (Option.some.inj H) (by decide)
    · rw [ifb_f hb_9] at H
      refine sl_skip hK (by decide) (wtf hb_9) rfl fun a hK => ?_
      refine sl_skip hK (by decide) (wtf hb_9) rfl fun a hK => ?_
      refine sl hK (by decide) rfl rfl (r_pick_f hb_9 hK rfl rfl) fun a hK => ?_
      refine sl hK (by decide) rfl rfl (r_move hK rfl) fun a hK => ?_
      refine sl_skip hK (by decide) rfl rfl fun a hK => ?_
      refine sl_skip hK (by decide) rfl rfl fun a hK => ?_
      refine sl_skip hK (by decide) rfl rfl fun a hK => ?_
      refine sl hK (by decide) rfl rfl (r_pick hK rfl rfl rfl) fun a hK => ?_
      refine sl hK (by decide) rfl rfl (r_move hK rfl) fun a hK => ?_
      refine sl_skip hK (by decide) rfl rfl fun a hK => ?_
      refine sl_skip hK (by decide) rfl rfl fun a hK => ?_
      refine sl_skip hK (by decide) rfl rfl fun a hK => ?_
      refine sl_skip hK (by decide) rfl rfl fun a hK => ?_
      refine sl_skip hK (by decide) rfl rfl fun a hK => ?_
      refine sl_skip hK (by decide) rfl rfl fun a hK => ?_
      refine sl_skip hK (by decide) rfl rfl fun a hK => ?_
      refine sl hK (by decide) rfl rfl (r_pick hK rfl rfl rfl) fun a hK => ?_
      refine sl hK (by decide) rfl rfl (r_assign hK rfl) fun a hK => ?_
      refine wpList_nil ?_
      exact absurd (Option.some.inj H) (by decide)

end Go.Proofs.Ythcadccjcioofaa.M
