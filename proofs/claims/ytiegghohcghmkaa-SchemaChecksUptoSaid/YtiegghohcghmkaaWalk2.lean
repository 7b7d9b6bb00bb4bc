/- Each Go function of the laws answers as its plain Lean function tells, wherever that tells something. Printed by wip/eng/gen.py. -/
import Derived.Test.YtiegghohcghmkaaWalk1
namespace Go.Proofs.Ytiegghohcghmkaa.M
open Go Go.Eng Go.Proofs Go.RowKit
set_option linter.unusedVariables false
set_option linter.unusedSimpArgs false

/-! ### catchment/catchmentref02.Name: function 27 -/
set_option maxHeartbeats 4000000 in
set_option maxRecDepth 100000 in
theorem ref02_Name.calls (a0 : ByteArray) {r : Bool} (H : ref02_Name a0 = some r) (w0 : World) : CallsV Try.prog 27 #[.string a0] w0 (.bool r) := by
  unfold ref02_Name at H
  refine enter (args := [.string a0]) Try.func27 rfl Try.ntmps27 rfl fun a hK => ?_
  have hS := St.init (R := fun _ => none) (w := w0) (fun _ _ h => by cases h)
  have hRL := RLe.refl (M := []) w0 (fun _ => none)
  refine wp_seq ?_
  refine wp_region_lit ?_
  refine sl hK (by decide) rfl rfl (r_assign hK rfl) fun a hK => ?_
  refine wpList_nil ?_
  refine wp_seq ?_
  refine wp_seq ?_
  refine wp_mid (fun a w => ∃ (x_8 : Bool), ref02_Name.j0 a0 x_8 = some r ∧ Kn 55 a [(0, .string a0), (22, .bool x_8)] ∧ St [] w0 w (fun _ => none) []) ?_ ?_
  · refine wp_region_lit ?_
    refine sl hK (by decide) rfl rfl (r_move hK rfl) fun a hK => ?_
    refine sl hK (by decide) rfl rfl (r_len_str Try.underlying9 hK rfl) fun a hK => ?_
    refine sl hK (by decide) rfl rfl (r_ibin hK rfl rfl rfl) fun a hK => ?_
    refine sl hK (by decide) rfl rfl (r_move hK rfl) fun a hK => ?_
    rcases or_b (decide ((a0.size : Int) < 1)) with hb_10 | hb_10
    · rw [ifb_t hb_10] at H
      refine sl_skip hK (by decide) (wft hb_10) rfl fun a hK => ?_
      refine sl_skip hK (by decide) (wft hb_10) rfl fun a hK => ?_
      refine sl_skip hK (by decide) (wft hb_10) rfl fun a hK => ?_
      refine sl hK (by decide) rfl rfl (r_pick_t hb_10 hK rfl rfl) fun a hK => ?_
      refine sl hK (by decide) rfl rfl (r_move hK rfl) fun a hK => ?_
      refine sl_skip hK (by decide) rfl rfl fun a hK => ?_
      refine sl_skip hK (by decide) rfl rfl fun a hK => ?_
      refine sl_skip hK (by decide) rfl rfl fun a hK => ?_
      refine sl hK (by decide) rfl rfl (r_pick hK rfl rfl rfl) fun a hK => ?_
      refine sl hK (by decide) rfl rfl (r_move hK rfl) fun a hK => ?_
      refine sl_skip hK (by decide) rfl rfl fun a hK => ?_
      refine sl_skip hK (by decide) rfl rfl fun a hK => ?_
      refine sl_skip hK (by decide) rfl rfl fun a hK => ?_
      refine sl hK (by decide) rfl rfl (r_pick hK rfl rfl rfl) fun a hK => ?_
      refine wpList_nil ?_
      exact ⟨true, H, hK.sub (all_cons rfl (all_cons rfl (all_nil))), hS⟩
    · rw [ifb_f hb_10] at H
      refine sl hK (by decide) (wff hb_10) rfl (r_move hK rfl) fun a hK => ?_
      refine sl hK (by decide) (wff hb_10) rfl (r_len_str Try.underlying9 hK rfl) fun a hK => ?_
      refine sl hK (by decide) (wff hb_10) rfl (r_ibin hK rfl rfl rfl) fun a hK => ?_
      refine sl hK (by decide) rfl rfl (r_pick_f hb_10 hK rfl rfl) fun a hK => ?_
      refine sl hK (by decide) rfl rfl (r_move hK rfl) fun a hK => ?_
      rcases or_b (decide ((a0.size : Int) > 24)) with hb_11 | hb_11
      · rw [ifb_t hb_11] at H
        refine sl_skip hK (by decide) (wft hb_11) rfl fun a hK => ?_
        refine sl_skip hK (by decide) (wft hb_11) rfl fun a hK => ?_
        refine sl_skip hK (by decide) (wft hb_11) rfl fun a hK => ?_
        refine sl hK (by decide) rfl rfl (r_pick_t hb_11 hK rfl rfl) fun a hK => ?_
        refine sl hK (by decide) rfl rfl (r_move hK rfl) fun a hK => ?_
        refine sl_skip hK (by decide) rfl rfl fun a hK => ?_
        refine sl_skip hK (by decide) rfl rfl fun a hK => ?_
        refine sl_skip hK (by decide) rfl rfl fun a hK => ?_
        refine sl hK (by decide) rfl rfl (r_pick hK rfl rfl rfl) fun a hK => ?_
        refine wpList_nil ?_
        exact ⟨true, H, hK.sub (all_cons rfl (all_cons rfl (all_nil))), hS⟩
      · rw [ifb_f hb_11] at H
        refine sl hK (by decide) (wff hb_11) rfl (r_move hK rfl) fun a hK => ?_
        obtain ⟨y_12, h_13, H⟩ := bind_some H
        refine sl hK (by decide) (wff hb_11) rfl (r_index_str' Try.underlying9 h_13 hK rfl rfl) fun a hK => ?_
        refine sl hK (by decide) (wff hb_11) rfl (r_ibin hK rfl rfl rfl) fun a hK => ?_
        refine sl hK (by decide) rfl rfl (r_pick_f hb_11 hK rfl rfl) fun a hK => ?_
        refine sl hK (by decide) rfl rfl (r_move hK rfl) fun a hK => ?_
        rcases or_b (decide (y_12 < 97)) with hb_14 | hb_14
        · rw [ifb_t hb_14] at H
          refine sl_skip hK (by decide) (wft hb_14) rfl fun a hK => ?_
          refine sl_skip hK (by decide) (wft hb_14) rfl fun a hK => ?_
          refine sl_skip hK (by decide) (wft hb_14) rfl fun a hK => ?_
          refine sl hK (by decide) rfl rfl (r_pick_t hb_14 hK rfl rfl) fun a hK => ?_
          refine wpList_nil ?_
          exact ⟨true, H, hK.sub (all_cons rfl (all_cons rfl (all_nil))), hS⟩
        · rw [ifb_f hb_14] at H
          refine sl hK (by decide) (wff hb_14) rfl (r_move hK rfl) fun a hK => ?_
          obtain ⟨y_15, h_16, H⟩ := bind_some H
          refine sl hK (by decide) (wff hb_14) rfl (r_index_str' Try.underlying9 h_16 hK rfl rfl) fun a hK => ?_
          refine sl hK (by decide) (wff hb_14) rfl (r_ibin hK rfl rfl rfl) fun a hK => ?_
          refine sl hK (by decide) rfl rfl (r_pick_f hb_14 hK rfl rfl) fun a hK => ?_
          refine wpList_nil ?_
          exact ⟨(decide (y_15 > 122)), H, hK.sub (all_cons rfl (all_cons rfl (all_nil))), hS⟩
  · rintro a w ⟨x_8, H, hK, hS⟩
    unfold ref02_Name.j0 at H
    refine wp_cond_split (hK.ev rfl) (fun (hb_17 : x_8 = true) => ?_) (fun (hb_17 : x_8 = false) => ?_)
    · rw [ifb_t hb_17] at H
      refine wp_seq ?_
      refine wp_region_lit ?_
      refine sl hK (by decide) rfl rfl (r_assign hK rfl) fun a hK => ?_
      refine wpList_nil ?_
      obtain rfl := Option.some.inj H
      refine wp_ret ?_
      repeat (first | refine ret_then ?_ | refine ret_block ?_ | refine ret_scope ?_)
      exact ret_1 Try.results27 hK (rv_tmp hK rfl) ⟨rfl, hS.bel⟩
    · rw [ifb_f hb_17] at H
      refine wp_skip ?_
      refine wp_seq ?_
      refine wp_seq ?_
      refine wp_region_lit ?_
      refine sl hK (by decide) rfl rfl (r_assign hK rfl) fun a hK => ?_
      refine wpList_nil ?_
      refine wp_block ?_
      refine wp_loop_k (fun k_l1 a w => ∃ (x_45 : Int), ref02_Name.l1 a0 k_l1 x_45 = some r ∧ Kn 55 a [(0, .string a0), (3, .int .i64 x_45)] ∧ St [] w0 w (fun _ => none) []) (((a0.size : Int) - 0).toNat + 1) ?_ ?_
      · exact ⟨0, H, hK.sub (all_cons rfl (all_cons rfl (all_nil))), hS⟩
      · rintro k_l1 a w ⟨x_45, H, hK, hS⟩
        cases k_l1 with
        | zero => cases H
        | succ k_l1 =>
        rw [ref02_Name.l1.eq_2] at H
        refine wp_seq ?_
        refine wp_seq ?_
        refine wp_region_lit ?_
        refine sl hK (by decide) rfl rfl (r_move hK rfl) fun a hK => ?_
        refine sl hK (by decide) rfl rfl (r_move hK rfl) fun a hK => ?_
        refine sl hK (by decide) rfl rfl (r_len_str Try.underlying9 hK rfl) fun a hK => ?_
        refine sl hK (by decide) rfl rfl (r_ibin hK rfl rfl rfl) fun a hK => ?_
        refine wpList_nil ?_
        refine wp_cond_split (hK.ev rfl) (fun (hb_73 : (decide (x_45 < (a0.size : Int))) = true) => ?_) (fun (hb_73 : (decide (x_45 < (a0.size : Int))) = false) => ?_)
        · rw [ifb_t hb_73] at H
          refine wp_skip ?_
          refine wp_seq ?_
          refine wp_block ?_
          refine wp_seq ?_
          refine wp_region_lit ?_
          refine sl hK (by decide) rfl rfl (r_move hK rfl) fun a hK => ?_
          refine sl hK (by decide) rfl rfl (r_move hK rfl) fun a hK => ?_
          obtain ⟨y_74, h_75, H⟩ := bind_some H
          refine sl hK (by decide) rfl rfl (r_index_str' Try.underlying9 h_75 hK rfl rfl) fun a hK => ?_
          refine sl hK (by decide) rfl rfl (r_assign hK rfl) fun a hK => ?_
          refine wpList_nil ?_
          refine wp_seq ?_
          refine wp_mid (fun a w => ∃ (x_86 : Bool), ref02_Name.j2 (ref02_Name.l1 a0 k_l1) a0 x_45 x_86 = some r ∧ Kn 55 a [(0, .string a0), (3, .int .i64 x_45), (54, .bool x_86)] ∧ St [] w0 w (fun _ => none) []) ?_ ?_
          · refine wp_region_lit ?_
            refine sl hK (by decide) rfl rfl (r_move hK rfl) fun a hK => ?_
            refine sl hK (by decide) rfl rfl (r_ibin hK rfl rfl rfl) fun a hK => ?_
            refine sl hK (by decide) rfl rfl (r_move hK rfl) fun a hK => ?_
            rcases or_b (decide (y_74 ≥ 97)) with hb_88 | hb_88
            · rw [ifb_t hb_88] at H
              refine sl hK (by decide) (wtt hb_88) rfl (r_move hK rfl) fun a hK => ?_
              refine sl hK (by decide) (wtt hb_88) rfl (r_ibin hK rfl rfl rfl) fun a hK => ?_
              refine sl hK (by decide) rfl rfl (r_pick_t hb_88 hK rfl rfl) fun a hK => ?_
              refine sl hK (by decide) rfl rfl (r_move hK rfl) fun a hK => ?_
              rcases or_b (decide (y_74 ≤ 122)) with hb_89 | hb_89
              · rw [ifb_t hb_89] at H
                refine sl_skip hK (by decide) (wft hb_89) rfl fun a hK => ?_
                refine sl_skip hK (by decide) (wft hb_89) rfl fun a hK => ?_
                refine sl_skip hK (by decide) (wft hb_89) rfl fun a hK => ?_
                refine sl_skip hK (by decide) rfl rfl fun a hK => ?_
                refine sl_skip hK (by decide) rfl rfl fun a hK => ?_
                refine sl_skip hK (by decide) (wft hb_89) rfl fun a hK => ?_
                refine sl hK (by decide) rfl rfl (r_pick_t hb_89 hK rfl rfl) fun a hK => ?_
                refine sl hK (by decide) rfl rfl (r_move hK rfl) fun a hK => ?_
                refine sl_skip hK (by decide) rfl rfl fun a hK => ?_
                refine sl_skip hK (by decide) rfl rfl fun a hK => ?_
                refine sl hK (by decide) rfl rfl (r_pick hK rfl rfl rfl) fun a hK => ?_
                refine sl hK (by decide) rfl rfl (r_move hK rfl) fun a hK => ?_
                refine sl_skip hK (by decide) rfl rfl fun a hK => ?_
                refine sl_skip hK (by decide) rfl rfl fun a hK => ?_
                refine sl hK (by decide) rfl rfl (r_pick hK rfl rfl rfl) fun a hK => ?_
                refine sl hK (by decide) rfl rfl (r_un hK rfl (u_not _)) fun a hK => ?_
                refine wpList_nil ?_
                exact ⟨false, H, hK.sub (all_cons rfl (all_cons rfl (all_cons rfl (all_nil)))), hS⟩
              · rw [ifb_f hb_89] at H
                refine sl hK (by decide) (wff hb_89) rfl (r_move hK rfl) fun a hK => ?_
                refine sl hK (by decide) (wff hb_89) rfl (r_ibin hK rfl rfl rfl) fun a hK => ?_
                refine sl hK (by decide) (wff hb_89) rfl (r_move hK rfl) fun a hK => ?_
                rcases or_b (decide (y_74 ≥ 48)) with hb_90 | hb_90
                · rw [ifb_t hb_90] at H
                  refine sl hK (by decide) (wtt hb_90) rfl (r_move hK rfl) fun a hK => ?_
                  refine sl hK (by decide) (wtt hb_90) rfl (r_ibin hK rfl rfl rfl) fun a hK => ?_
                  refine sl hK (by decide) (wff hb_89) rfl (r_pick_t hb_90 hK rfl rfl) fun a hK => ?_
                  refine sl hK (by decide) rfl rfl (r_pick_f hb_89 hK rfl rfl) fun a hK => ?_
                  refine sl hK (by decide) rfl rfl (r_move hK rfl) fun a hK => ?_
                  rcases or_b (decide (y_74 ≤ 57)) with hb_91 | hb_91
                  · rw [ifb_t hb_91] at H
                    refine sl_skip hK (by decide) (wft hb_91) rfl fun a hK => ?_
                    refine sl_skip hK (by decide) (wft hb_91) rfl fun a hK => ?_
                    refine sl hK (by decide) rfl rfl (r_pick_t hb_91 hK rfl rfl) fun a hK => ?_
                    refine sl hK (by decide) rfl rfl (r_move hK rfl) fun a hK => ?_
                    refine sl_skip hK (by decide) rfl rfl fun a hK => ?_
                    refine sl_skip hK (by decide) rfl rfl fun a hK => ?_
                    refine sl hK (by decide) rfl rfl (r_pick hK rfl rfl rfl) fun a hK => ?_
                    refine sl hK (by decide) rfl rfl (r_un hK rfl (u_not _)) fun a hK => ?_
                    refine wpList_nil ?_
                    exact ⟨false, H, hK.sub (all_cons rfl (all_cons rfl (all_cons rfl (all_nil)))), hS⟩
                  · rw [ifb_f hb_91] at H
                    refine sl hK (by decide) (wff hb_91) rfl (r_move hK rfl) fun a hK => ?_
                    refine sl hK (by decide) (wff hb_91) rfl (r_ibin hK rfl rfl rfl) fun a hK => ?_
                    refine sl hK (by decide) rfl rfl (r_pick_f hb_91 hK rfl rfl) fun a hK => ?_
                    refine sl hK (by decide) rfl rfl (r_move hK rfl) fun a hK => ?_
                    rcases or_b (y_74 == 95) with hb_92 | hb_92
                    · rw [ifb_t hb_92] at H
                      refine sl_skip hK (by decide) (wft hb_92) rfl fun a hK => ?_
                      refine sl_skip hK (by decide) (wft hb_92) rfl fun a hK => ?_
                      refine sl hK (by decide) rfl rfl (r_pick_t hb_92 hK rfl rfl) fun a hK => ?_
                      refine sl hK (by decide) rfl rfl (r_un hK rfl (u_not _)) fun a hK => ?_
                      refine wpList_nil ?_
                      exact ⟨false, H, hK.sub (all_cons rfl (all_cons rfl (all_cons rfl (all_nil)))), hS⟩
                    · rw [ifb_f hb_92] at H
                      refine sl hK (by decide) (wff hb_92) rfl (r_move hK rfl) fun a hK => ?_
                      refine sl hK (by decide) (wff hb_92) rfl (r_ibin hK rfl rfl rfl) fun a hK => ?_
                      refine sl hK (by decide) rfl rfl (r_pick_f hb_92 hK rfl rfl) fun a hK => ?_
                      refine sl hK (by decide) rfl rfl (r_un hK rfl (u_not _)) fun a hK => ?_
                      refine wpList_nil ?_
                      exact ⟨(!(y_74 == 35)), H, hK.sub (all_cons rfl (all_cons rfl (all_cons rfl (all_nil)))), hS⟩
                · rw [ifb_f hb_90] at H
                  refine sl_skip hK (by decide) (wtf hb_90) rfl fun a hK => ?_
                  refine sl_skip hK (by decide) (wtf hb_90) rfl fun a hK => ?_
                  refine sl hK (by decide) (wff hb_89) rfl (r_pick_f hb_90 hK rfl rfl) fun a hK => ?_
                  refine sl hK (by decide) rfl rfl (r_pick_f hb_89 hK rfl rfl) fun a hK => ?_
                  refine sl hK (by decide) rfl rfl (r_move hK rfl) fun a hK => ?_
                  refine sl hK (by decide) rfl rfl (r_move hK rfl) fun a hK => ?_
                  refine sl hK (by decide) rfl rfl (r_ibin hK rfl rfl rfl) fun a hK => ?_
                  refine sl hK (by decide) rfl rfl (r_pick hK rfl rfl rfl) fun a hK => ?_
                  refine sl hK (by decide) rfl rfl (r_move hK rfl) fun a hK => ?_
                  rcases or_b (y_74 == 95) with hb_93 | hb_93
                  · rw [ifb_t hb_93] at H
                    refine sl_skip hK (by decide) (wft hb_93) rfl fun a hK => ?_
                    refine sl_skip hK (by decide) (wft hb_93) rfl fun a hK => ?_
                    refine sl hK (by decide) rfl rfl (r_pick_t hb_93 hK rfl rfl) fun a hK => ?_
                    refine sl hK (by decide) rfl rfl (r_un hK rfl (u_not _)) fun a hK => ?_
                    refine wpList_nil ?_
                    exact ⟨false, H, hK.sub (all_cons rfl (all_cons rfl (all_cons rfl (all_nil)))), hS⟩
                  · rw [ifb_f hb_93] at H
                    refine sl hK (by decide) (wff hb_93) rfl (r_move hK rfl) fun a hK => ?_
                    refine sl hK (by decide) (wff hb_93) rfl (r_ibin hK rfl rfl rfl) fun a hK => ?_
                    refine sl hK (by decide) rfl rfl (r_pick_f hb_93 hK rfl rfl) fun a hK => ?_
                    refine sl hK (by decide) rfl rfl (r_un hK rfl (u_not _)) fun a hK => ?_
                    refine wpList_nil ?_
                    exact ⟨(!(y_74 == 35)), H, hK.sub (all_cons rfl (all_cons rfl (all_cons rfl (all_nil)))), hS⟩
            · rw [ifb_f hb_88] at H
              refine sl_skip hK (by decide) (wtf hb_88) rfl fun a hK => ?_
              refine sl_skip hK (by decide) (wtf hb_88) rfl fun a hK => ?_
              refine sl hK (by decide) rfl rfl (r_pick_f hb_88 hK rfl rfl) fun a hK => ?_
              refine sl hK (by decide) rfl rfl (r_move hK rfl) fun a hK => ?_
              refine sl hK (by decide) rfl rfl (r_move hK rfl) fun a hK => ?_
              refine sl hK (by decide) rfl rfl (r_ibin hK rfl rfl rfl) fun a hK => ?_
              refine sl hK (by decide) rfl rfl (r_move hK rfl) fun a hK => ?_
              rcases or_b (decide (y_74 ≥ 48)) with hb_94 | hb_94
              · rw [ifb_t hb_94] at H
                refine sl hK (by decide) (wtt hb_94) rfl (r_move hK rfl) fun a hK => ?_
                refine sl hK (by decide) (wtt hb_94) rfl (r_ibin hK rfl rfl rfl) fun a hK => ?_
                refine sl hK (by decide) rfl rfl (r_pick_t hb_94 hK rfl rfl) fun a hK => ?_
                refine sl hK (by decide) rfl rfl (r_pick hK rfl rfl rfl) fun a hK => ?_
                refine sl hK (by decide) rfl rfl (r_move hK rfl) fun a hK => ?_
                rcases or_b (decide (y_74 ≤ 57)) with hb_95 | hb_95
                · rw [ifb_t hb_95] at H
                  refine sl_skip hK (by decide) (wft hb_95) rfl fun a hK => ?_
                  refine sl_skip hK (by decide) (wft hb_95) rfl fun a hK => ?_
                  refine sl hK (by decide) rfl rfl (r_pick_t hb_95 hK rfl rfl) fun a hK => ?_
                  refine sl hK (by decide) rfl rfl (r_move hK rfl) fun a hK => ?_
                  refine sl_skip hK (by decide) rfl rfl fun a hK => ?_
                  refine sl_skip hK (by decide) rfl rfl fun a hK => ?_
                  refine sl hK (by decide) rfl rfl (r_pick hK rfl rfl rfl) fun a hK => ?_
                  refine sl hK (by decide) rfl rfl (r_un hK rfl (u_not _)) fun a hK => ?_
                  refine wpList_nil ?_
                  exact ⟨false, H, hK.sub (all_cons rfl (all_cons rfl (all_cons rfl (all_nil)))), hS⟩
                · rw [ifb_f hb_95] at H
                  refine sl hK (by decide) (wff hb_95) rfl (r_move hK rfl) fun a hK => ?_
                  refine sl hK (by decide) (wff hb_95) rfl (r_ibin hK rfl rfl rfl) fun a hK => ?_
                  refine sl hK (by decide) rfl rfl (r_pick_f hb_95 hK rfl rfl) fun a hK => ?_
                  refine sl hK (by decide) rfl rfl (r_move hK rfl) fun a hK => ?_
                  rcases or_b (y_74 == 95) with hb_96 | hb_96
                  · rw [ifb_t hb_96] at H
                    refine sl_skip hK (by decide) (wft hb_96) rfl fun a hK => ?_
                    refine sl_skip hK (by decide) (wft hb_96) rfl fun a hK => ?_
                    refine sl hK (by decide) rfl rfl (r_pick_t hb_96 hK rfl rfl) fun a hK => ?_
                    refine sl hK (by decide) rfl rfl (r_un hK rfl (u_not _)) fun a hK => ?_
                    refine wpList_nil ?_
                    exact ⟨false, H, hK.sub (all_cons rfl (all_cons rfl (all_cons rfl (all_nil)))), hS⟩
                  · rw [ifb_f hb_96] at H
                    refine sl hK (by decide) (wff hb_96) rfl (r_move hK rfl) fun a hK => ?_
                    refine sl hK (by decide) (wff hb_96) rfl (r_ibin hK rfl rfl rfl) fun a hK => ?_
                    refine sl hK (by decide) rfl rfl (r_pick_f hb_96 hK rfl rfl) fun a hK => ?_
                    refine sl hK (by decide) rfl rfl (r_un hK rfl (u_not _)) fun a hK => ?_
                    refine wpList_nil ?_
                    exact ⟨(!(y_74 == 35)), H, hK.sub (all_cons rfl (all_cons rfl (all_cons rfl (all_nil)))), hS⟩
              · rw [ifb_f hb_94] at H
                refine sl_skip hK (by decide) (wtf hb_94) rfl fun a hK => ?_
                refine sl_skip hK (by decide) (wtf hb_94) rfl fun a hK => ?_
                refine sl hK (by decide) rfl rfl (r_pick_f hb_94 hK rfl rfl) fun a hK => ?_
                refine sl hK (by decide) rfl rfl (r_pick hK rfl rfl rfl) fun a hK => ?_
                refine sl hK (by decide) rfl rfl (r_move hK rfl) fun a hK => ?_
                refine sl hK (by decide) rfl rfl (r_move hK rfl) fun a hK => ?_
                refine sl hK (by decide) rfl rfl (r_ibin hK rfl rfl rfl) fun a hK => ?_
                refine sl hK (by decide) rfl rfl (r_pick hK rfl rfl rfl) fun a hK => ?_
                refine sl hK (by decide) rfl rfl (r_move hK rfl) fun a hK => ?_
                rcases or_b (y_74 == 95) with hb_97 | hb_97
                · rw [ifb_t hb_97] at H
                  refine sl_skip hK (by decide) (wft hb_97) rfl fun a hK => ?_
                  refine sl_skip hK (by decide) (wft hb_97) rfl fun a hK => ?_
                  refine sl hK (by decide) rfl rfl (r_pick_t hb_97 hK rfl rfl) fun a hK => ?_
                  refine sl hK (by decide) rfl rfl (r_un hK rfl (u_not _)) fun a hK => ?_
                  refine wpList_nil ?_
                  exact ⟨false, H, hK.sub (all_cons rfl (all_cons rfl (all_cons rfl (all_nil)))), hS⟩
                · rw [ifb_f hb_97] at H
                  refine sl hK (by decide) (wff hb_97) rfl (r_move hK rfl) fun a hK => ?_
                  refine sl hK (by decide) (wff hb_97) rfl (r_ibin hK rfl rfl rfl) fun a hK => ?_
                  refine sl hK (by decide) rfl rfl (r_pick_f hb_97 hK rfl rfl) fun a hK => ?_
                  refine sl hK (by decide) rfl rfl (r_un hK rfl (u_not _)) fun a hK => ?_
                  refine wpList_nil ?_
                  exact ⟨(!(y_74 == 35)), H, hK.sub (all_cons rfl (all_cons rfl (all_cons rfl (all_nil)))), hS⟩
          · rintro a w ⟨x_86, H, hK, hS⟩
            unfold ref02_Name.j2 at H
            refine wp_cond_split (hK.ev rfl) (fun (hb_98 : x_86 = true) => ?_) (fun (hb_98 : x_86 = false) => ?_)
            · rw [ifb_t hb_98] at H
              refine wp_seq ?_
              refine wp_region_lit ?_
              refine sl hK (by decide) rfl rfl (r_assign hK rfl) fun a hK => ?_
              refine wpList_nil ?_
              obtain rfl := Option.some.inj H
              refine wp_ret ?_
              repeat (first | refine ret_then ?_ | refine ret_block ?_ | refine ret_scope ?_)
              exact ret_1 Try.results27 hK (rv_tmp hK rfl) ⟨rfl, hS.bel⟩
            · rw [ifb_f hb_98] at H
              refine wp_skip ?_
              refine wp_region_lit ?_
              refine sl hK (by decide) rfl rfl (r_move hK rfl) fun a hK => ?_
              refine sl hK (by decide) rfl rfl (r_ibin hK rfl rfl rfl) fun a hK => ?_
              refine sl hK (by decide) rfl rfl (r_assign hK rfl) fun a hK => ?_
              refine wpList_nil ?_
              exact ⟨_, Nat.lt_succ_self _, (IntKind.i64.wrap (x_45 + 1)), H, hK.sub (all_cons rfl (all_cons rfl (all_nil))), hS⟩
        · rw [ifb_f hb_73] at H
          refine wp_exit ?_
          refine wp_seq ?_
          refine wp_region_lit ?_
          refine sl hK (by decide) rfl rfl (r_assign hK rfl) fun a hK => ?_
          refine wpList_nil ?_
          obtain rfl := Option.some.inj H
          refine wp_ret ?_
          repeat (first | refine ret_then ?_ | refine ret_block ?_ | refine ret_scope ?_)
          exact ret_1 Try.results27 hK (rv_tmp hK rfl) ⟨rfl, hS.bel⟩

/-! ### catchment/catchmentref02.Find: function 46 -/
set_option maxHeartbeats 4000000 in
set_option maxRecDepth 100000 in
theorem ref02_Find.calls (a0 : List api_Col) (a1 : ByteArray) {w0 : World} {RA : Hp} {v0_0 : Value} (hRA : RA.sub w0) (h0_0 : SlR ty_api_Col RA v0_0 a0) {r : Int} (H : ref02_Find a0 a1 = some r) : CallsV Try.prog 46 #[v0_0, .string a1] w0 (.int .i64 r) := by
  unfold ref02_Find at H
  refine enter (args := [v0_0, .string a1]) Try.func46 rfl Try.ntmps46 rfl fun a hK => ?_
  have hS := St.init (R := fun _ => none) (w := w0) (fun _ _ h => by cases h)
  have hRL := RLe.refl (M := []) w0 (fun _ => none)
  refine wp_seq ?_
  refine wp_region_lit ?_
  refine sl hK (by decide) rfl rfl (r_assign hK rfl) fun a hK => ?_
  refine wpList_nil ?_
  refine wp_seq ?_
  refine wp_seq ?_
  refine wp_region_lit ?_
  refine sl hK (by decide) rfl rfl (r_assign hK rfl) fun a hK => ?_
  refine wpList_nil ?_
  refine wp_block ?_
  refine wp_loop_k (fun k_l0 a w => ∃ (x_13 : Int), ref02_Find.l0 a0 a1 k_l0 x_13 = some r ∧ Kn 20 a [(0, v0_0), (1, .string a1), (5, .int .i64 x_13)] ∧ St [] w0 w (fun _ => none) []) (((a0.length : Int) - 0).toNat + 1) ?_ ?_
  · exact ⟨0, H, hK.sub (all_cons rfl (all_cons rfl (all_cons rfl (all_nil)))), hS⟩
  · rintro k_l0 a w ⟨x_13, H, hK, hS⟩
    cases k_l0 with
    | zero => cases H
    | succ k_l0 =>
    rw [ref02_Find.l0.eq_2] at H
    refine wp_seq ?_
    refine wp_seq ?_
    refine wp_region_lit ?_
    refine sl hK (by decide) rfl rfl (r_move hK rfl) fun a hK => ?_
    refine sl hK (by decide) rfl rfl (r_move hK rfl) fun a hK => ?_
    refine sl hK (by decide) rfl rfl (r_len_R Try.underlying24 h0_0 hK rfl) fun a hK => ?_
    refine sl hK (by decide) rfl rfl (r_ibin hK rfl rfl rfl) fun a hK => ?_
    refine wpList_nil ?_
    refine wp_cond_split (hK.ev rfl) (fun (hb_26 : (decide (x_13 < (a0.length : Int))) = true) => ?_) (fun (hb_26 : (decide (x_13 < (a0.length : Int))) = false) => ?_)
    · rw [ifb_t hb_26] at H
      refine wp_skip ?_
      refine wp_seq ?_
      refine wp_block ?_
      refine wp_seq ?_
      refine wp_region_lit ?_
      refine sl hK (by decide) rfl rfl (r_move hK rfl) fun a hK => ?_
      refine sl hK (by decide) rfl rfl (r_move hK rfl) fun a hK => ?_
      obtain ⟨y_27, h_28, H⟩ := bind_some H
      obtain ⟨b_29, o_30, c_31, cs_32, hv_33, hr_34, hc_35, h_280, h_281⟩ := h0_0.ix h_28
      subst hr_34
      refine sl hK (by decide) rfl rfl (r_indexAddr_R Try.underlying24 Try.sizeOf52 hv_33 h_280 h_281 hK rfl rfl) fun a hK => ?_
      refine sl hK (by decide) rfl rfl (r_fieldAddr Try.underlying52 rfl Try.sizeOf9 hK rfl) fun a hK => ?_
      refine sl hK (by decide) rfl rfl (r_load Try.isAgg9 hK rfl ((hS.ra hRA nil_not).cell (hc_35 0 _ rfl))) fun a hK => ?_
      refine sl hK (by decide) rfl rfl (r_move hK rfl) fun a hK => ?_
      refine sl hK (by decide) rfl rfl (r_sbin hK rfl rfl rfl) fun a hK => ?_
      refine wpList_nil ?_
      refine wp_cond_split (hK.ev rfl) (fun (hb_36 : (y_27.Name.toList == a1.toList) = true) => ?_) (fun (hb_36 : (y_27.Name.toList == a1.toList) = false) => ?_)
      · rw [ifb_t hb_36] at H
        refine wp_seq ?_
        refine wp_region_lit ?_
        refine sl hK (by decide) rfl rfl (r_move hK rfl) fun a hK => ?_
        refine sl hK (by decide) rfl rfl (r_assign hK rfl) fun a hK => ?_
        refine wpList_nil ?_
        obtain rfl := Option.some.inj H
        refine wp_ret ?_
        repeat (first | refine ret_then ?_ | refine ret_block ?_ | refine ret_scope ?_)
        exact ret_1 Try.results46 hK (rv_tmp hK rfl) ⟨rfl, hS.bel⟩
      · rw [ifb_f hb_36] at H
        refine wp_skip ?_
        refine wp_region_lit ?_
        refine sl hK (by decide) rfl rfl (r_move hK rfl) fun a hK => ?_
        refine sl hK (by decide) rfl rfl (r_ibin hK rfl rfl rfl) fun a hK => ?_
        refine sl hK (by decide) rfl rfl (r_assign hK rfl) fun a hK => ?_
        refine wpList_nil ?_
        exact ⟨_, Nat.lt_succ_self _, (IntKind.i64.wrap (x_13 + 1)), H, hK.sub (all_cons rfl (all_cons rfl (all_cons rfl (all_nil)))), hS⟩
    · rw [ifb_f hb_26] at H
      refine wp_exit ?_
      refine wp_seq ?_
      refine wp_region_lit ?_
      refine sl hK (by decide) rfl rfl (r_assign hK rfl) fun a hK => ?_
      refine wpList_nil ?_
      obtain rfl := Option.some.inj H
      refine wp_ret ?_
      repeat (first | refine ret_then ?_ | refine ret_block ?_ | refine ret_scope ?_)
      exact ret_1 Try.results46 hK (rv_tmp hK rfl) ⟨rfl, hS.bel⟩

/-! ### catchment/catchmentref02.Cols: function 34 -/
set_option maxHeartbeats 4000000 in
set_option maxRecDepth 100000 in
theorem ref02_Cols.calls (a0 : List api_Col) {w0 : World} {RA : Hp} {v0_0 : Value} (hRA : RA.sub w0) (h0_0 : SlR ty_api_Col RA v0_0 a0) {r : Bool} (H : ref02_Cols a0 = some r) : CallsV Try.prog 34 #[v0_0] w0 (.bool r) := by
  unfold ref02_Cols at H
  refine enter (args := [v0_0]) Try.func34 rfl Try.ntmps34 rfl fun a hK => ?_
  have hS := St.init (R := fun _ => none) (w := w0) (fun _ _ h => by cases h)
  have hRL := RLe.refl (M := []) w0 (fun _ => none)
  refine wp_seq ?_
  refine wp_region_lit ?_
  refine sl hK (by decide) rfl rfl (r_assign hK rfl) fun a hK => ?_
  refine wpList_nil ?_
  refine wp_seq ?_
  refine wp_seq ?_
  refine wp_mid (fun a w => ∃ (x_2 : Bool), ref02_Cols.j0 a0 x_2 = some r ∧ Kn 52 a [(0, v0_0), (11, .bool x_2)] ∧ St [] w0 w (fun _ => none) []) ?_ ?_
  · refine wp_region_lit ?_
    refine sl hK (by decide) rfl rfl (r_move hK rfl) fun a hK => ?_
    refine sl hK (by decide) rfl rfl (r_len_R Try.underlying24 h0_0 hK rfl) fun a hK => ?_
    refine sl hK (by decide) rfl rfl (r_ibin hK rfl rfl rfl) fun a hK => ?_
    refine sl hK (by decide) rfl rfl (r_move hK rfl) fun a hK => ?_
    rcases or_b (decide ((a0.length : Int) < 1)) with hb_4 | hb_4
    · rw [ifb_t hb_4] at H
      refine sl_skip hK (by decide) (wft hb_4) rfl fun a hK => ?_
      refine sl_skip hK (by decide) (wft hb_4) rfl fun a hK => ?_
      refine sl_skip hK (by decide) (wft hb_4) rfl fun a hK => ?_
      refine sl hK (by decide) rfl rfl (r_pick_t hb_4 hK rfl rfl) fun a hK => ?_
      refine wpList_nil ?_
      exact ⟨true, H, hK.sub (all_cons rfl (all_cons rfl (all_nil))), hS⟩
    · rw [ifb_f hb_4] at H
      refine sl hK (by decide) (wff hb_4) rfl (r_move hK rfl) fun a hK => ?_
      refine sl hK (by decide) (wff hb_4) rfl (r_len_R Try.underlying24 h0_0 hK rfl) fun a hK => ?_
      refine sl hK (by decide) (wff hb_4) rfl (r_ibin hK rfl rfl rfl) fun a hK => ?_
      refine sl hK (by decide) rfl rfl (r_pick_f hb_4 hK rfl rfl) fun a hK => ?_
      refine wpList_nil ?_
      exact ⟨(decide ((a0.length : Int) > 16)), H, hK.sub (all_cons rfl (all_cons rfl (all_nil))), hS⟩
  · rintro a w ⟨x_2, H, hK, hS⟩
    unfold ref02_Cols.j0 at H
    refine wp_cond_split (hK.ev rfl) (fun (hb_5 : x_2 = true) => ?_) (fun (hb_5 : x_2 = false) => ?_)
    · rw [ifb_t hb_5] at H
      refine wp_seq ?_
      refine wp_region_lit ?_
      refine sl hK (by decide) rfl rfl (r_assign hK rfl) fun a hK => ?_
      refine wpList_nil ?_
      obtain rfl := Option.some.inj H
      refine wp_ret ?_
      repeat (first | refine ret_then ?_ | refine ret_block ?_ | refine ret_scope ?_)
      exact ret_1 Try.results34 hK (rv_tmp hK rfl) ⟨rfl, hS.bel⟩
    · rw [ifb_f hb_5] at H
      refine wp_skip ?_
      refine wp_seq ?_
      refine wp_seq ?_
      refine wp_region_lit ?_
      refine sl hK (by decide) rfl rfl (r_assign hK rfl) fun a hK => ?_
      refine wpList_nil ?_
      refine wp_block ?_
      refine wp_loop_k (fun k_l1 a w => ∃ (x_97 : Int), ref02_Cols.l1 a0 k_l1 x_97 = some r ∧ Kn 52 a [(0, v0_0), (3, .int .i64 x_97)] ∧ St [] w0 w (fun _ => none) []) (((a0.length : Int) - 0).toNat + 1) ?_ ?_
      · exact ⟨0, H, hK.sub (all_cons rfl (all_cons rfl (all_nil))), hS⟩
      · rintro k_l1 a w ⟨x_97, H, hK, hS⟩
        cases k_l1 with
        | zero => cases H
        | succ k_l1 =>
        rw [ref02_Cols.l1.eq_2] at H
        refine wp_seq ?_
        refine wp_seq ?_
        refine wp_region_lit ?_
        refine sl hK (by decide) rfl rfl (r_move hK rfl) fun a hK => ?_
        refine sl hK (by decide) rfl rfl (r_move hK rfl) fun a hK => ?_
        refine sl hK (by decide) rfl rfl (r_len_R Try.underlying24 h0_0 hK rfl) fun a hK => ?_
        refine sl hK (by decide) rfl rfl (r_ibin hK rfl rfl rfl) fun a hK => ?_
        refine wpList_nil ?_
        refine wp_cond_split (hK.ev rfl) (fun (hb_189 : (decide (x_97 < (a0.length : Int))) = true) => ?_) (fun (hb_189 : (decide (x_97 < (a0.length : Int))) = false) => ?_)
        · rw [ifb_t hb_189] at H
          refine wp_skip ?_
          refine wp_seq ?_
          refine wp_block ?_
          refine wp_seq ?_
          refine wp_mid (fun a w => ∃ (x_233 : Bool), ref02_Cols.j2 (ref02_Cols.l1 a0 k_l1) a0 x_97 x_233 = some r ∧ Kn 52 a [(0, v0_0), (3, .int .i64 x_97), (51, .bool x_233)] ∧ St [] w0 w (fun _ => none) []) ?_ ?_
          · refine wp_region_lit ?_
            refine sl hK (by decide) rfl rfl (r_move hK rfl) fun a hK => ?_
            refine sl hK (by decide) rfl rfl (r_move hK rfl) fun a hK => ?_
            obtain ⟨y_235, h_236, H⟩ := bind_some H
            obtain ⟨b_237, o_238, c_239, cs_240, hv_241, hr_242, hc_243, h_2360, h_2361⟩ := h0_0.ix h_236
            subst hr_242
            refine sl hK (by decide) rfl rfl (r_indexAddr_R Try.underlying24 Try.sizeOf52 hv_241 h_2360 h_2361 hK rfl rfl) fun a hK => ?_
            refine sl hK (by decide) rfl rfl (r_fieldAddr Try.underlying52 rfl Try.sizeOf9 hK rfl) fun a hK => ?_
            refine sl hK (by decide) rfl rfl (r_load Try.isAgg9 hK rfl ((hS.ra hRA nil_not).cell (hc_243 0 _ rfl))) fun a hK => ?_
            obtain ⟨y_244, h_245, H⟩ := bind_some H
            refine sl_callV Try.call27 hS hK (by decide) rfl rfl rfl (ref02_Name.calls y_235.Name h_245 _) fun a w hS hK => ?_
            refine sl hK (by decide) rfl rfl (r_un hK rfl (u_not _)) fun a hK => ?_
            refine sl hK (by decide) rfl rfl (r_move hK rfl) fun a hK => ?_
            rcases or_b (!y_244) with hb_246 | hb_246
            · rw [ifb_t hb_246] at H
              refine sl_skip hK (by decide) (wft hb_246) rfl fun a hK => ?_
              refine sl_skip hK (by decide) (wft hb_246) rfl fun a hK => ?_
              refine sl_skip hK (by decide) (wft hb_246) rfl fun a hK => ?_
              refine sl_skip hK (by decide) (wft hb_246) rfl fun a hK => ?_
              refine sl_skip hK (by decide) (wft hb_246) rfl fun a hK => ?_
              refine sl_skip hK (by decide) (wft hb_246) rfl fun a hK => ?_
              refine sl_skip hK (by decide) (wft hb_246) rfl fun a hK => ?_
              refine sl_skip hK (by decide) (wft hb_246) rfl fun a hK => ?_
              refine sl_skip hK (by decide) (wft hb_246) rfl fun a hK => ?_
              refine sl hK (by decide) rfl rfl (r_pick_t hb_246 hK rfl rfl) fun a hK => ?_
              refine sl hK (by decide) rfl rfl (r_move hK rfl) fun a hK => ?_
              refine sl_skip hK (by decide) rfl rfl fun a hK => ?_
              refine sl_skip hK (by decide) rfl rfl fun a hK => ?_
              refine sl_skip hK (by decide) rfl rfl fun a hK => ?_
              refine sl_skip hK (by decide) rfl rfl fun a hK => ?_
              refine sl_skip hK (by decide) rfl rfl fun a hK => ?_
              refine sl_skip hK (by decide) rfl rfl fun a hK => ?_
              refine sl hK (by decide) rfl rfl (r_pick hK rfl rfl rfl) fun a hK => ?_
              refine sl hK (by decide) rfl rfl (r_move hK rfl) fun a hK => ?_
              refine sl_skip hK (by decide) rfl rfl fun a hK => ?_
              refine sl_skip hK (by decide) rfl rfl fun a hK => ?_
              refine sl_skip hK (by decide) rfl rfl fun a hK => ?_
              refine sl_skip hK (by decide) rfl rfl fun a hK => ?_
              refine sl_skip hK (by decide) rfl rfl fun a hK => ?_
              refine sl_skip hK (by decide) rfl rfl fun a hK => ?_
              refine sl hK (by decide) rfl rfl (r_pick hK rfl rfl rfl) fun a hK => ?_
              refine wpList_nil ?_
              exact ⟨true, H, hK.sub (all_cons rfl (all_cons rfl (all_cons rfl (all_nil)))), hS⟩
            · rw [ifb_f hb_246] at H
              refine sl hK (by decide) (wff hb_246) rfl (r_move hK rfl) fun a hK => ?_
              refine sl hK (by decide) (wff hb_246) rfl (r_move hK rfl) fun a hK => ?_
              refine sl hK (by decide) (wff hb_246) rfl (r_move hK rfl) fun a hK => ?_
              obtain ⟨y_247, h_248, H⟩ := bind_some H
              obtain ⟨b_249, o_250, c_251, cs_252, hv_253, hr_254, hc_255, h_2480, h_2481⟩ := h0_0.ix h_248
              subst hr_254
              refine sl hK (by decide) (wff hb_246) rfl (r_indexAddr_R Try.underlying24 Try.sizeOf52 hv_253 h_2480 h_2481 hK rfl rfl) fun a hK => ?_
              refine sl hK (by decide) (wff hb_246) rfl (r_fieldAddr Try.underlying52 rfl Try.sizeOf9 hK rfl) fun a hK => ?_
              refine sl hK (by decide) (wff hb_246) rfl (r_load Try.isAgg9 hK rfl ((hS.ra hRA nil_not).cell (hc_255 0 _ rfl))) fun a hK => ?_
              obtain ⟨y_256, h_257, H⟩ := bind_some H
              refine sl_callV Try.call46 hS hK (by decide) (wff hb_246) rfl rfl (ref02_Find.calls a0 y_247.Name (lentOf_sub [] _) (h0_0.mono (hS.raLe0 hRA nil_not)) h_257) fun a w hS hK => ?_
              refine sl hK (by decide) (wff hb_246) rfl (r_move hK rfl) fun a hK => ?_
              refine sl hK (by decide) (wff hb_246) rfl (r_ibin hK rfl rfl rfl) fun a hK => ?_
              refine sl hK (by decide) rfl rfl (r_pick_f hb_246 hK rfl rfl) fun a hK => ?_
              refine sl hK (by decide) rfl rfl (r_move hK rfl) fun a hK => ?_
              rcases or_b (y_256 != x_97) with hb_258 | hb_258
              · rw [ifb_t hb_258] at H
                refine sl_skip hK (by decide) (wft hb_258) rfl fun a hK => ?_
                refine sl_skip hK (by decide) (wft hb_258) rfl fun a hK => ?_
                refine sl_skip hK (by decide) (wft hb_258) rfl fun a hK => ?_
                refine sl_skip hK (by decide) (wft hb_258) rfl fun a hK => ?_
                refine sl_skip hK (by decide) (wft hb_258) rfl fun a hK => ?_
                refine sl_skip hK (by decide) (wft hb_258) rfl fun a hK => ?_
                refine sl hK (by decide) rfl rfl (r_pick_t hb_258 hK rfl rfl) fun a hK => ?_
                refine sl hK (by decide) rfl rfl (r_move hK rfl) fun a hK => ?_
                refine sl_skip hK (by decide) rfl rfl fun a hK => ?_
                refine sl_skip hK (by decide) rfl rfl fun a hK => ?_
                refine sl_skip hK (by decide) rfl rfl fun a hK => ?_
                refine sl_skip hK (by decide) rfl rfl fun a hK => ?_
                refine sl_skip hK (by decide) rfl rfl fun a hK => ?_
                refine sl_skip hK (by decide) rfl rfl fun a hK => ?_
                refine sl hK (by decide) rfl rfl (r_pick hK rfl rfl rfl) fun a hK => ?_
                refine wpList_nil ?_
                exact ⟨true, H, hK.sub (all_cons rfl (all_cons rfl (all_cons rfl (all_nil)))), hS⟩
              · rw [ifb_f hb_258] at H
                refine sl hK (by decide) (wff hb_258) rfl (r_move hK rfl) fun a hK => ?_
                refine sl hK (by decide) (wff hb_258) rfl (r_move hK rfl) fun a hK => ?_
                obtain ⟨y_259, h_260, H⟩ := bind_some H
                obtain ⟨b_261, o_262, c_263, cs_264, hv_265, hr_266, hc_267, h_2600, h_2601⟩ := h0_0.ix h_260
                subst hr_266
                refine sl hK (by decide) (wff hb_258) rfl (r_indexAddr_R Try.underlying24 Try.sizeOf52 hv_265 h_2600 h_2601 hK rfl rfl) fun a hK => ?_
                refine sl hK (by decide) (wff hb_258) rfl (r_fieldAddr Try.underlying52 rfl Try.sizeOf3 hK rfl) fun a hK => ?_
                refine sl hK (by decide) (wff hb_258) rfl (r_load Try.isAgg3 hK rfl ((hS.ra hRA nil_not).cell (hc_267 1 _ rfl))) fun a hK => ?_
                refine sl hK (by decide) (wff hb_258) rfl (r_ibin hK rfl rfl rfl) fun a hK => ?_
                refine sl hK (by decide) rfl rfl (r_pick_f hb_258 hK rfl rfl) fun a hK => ?_
                refine sl hK (by decide) rfl rfl (r_move hK rfl) fun a hK => ?_
                rcases or_b (decide (y_259.Kind < 1)) with hb_268 | hb_268
                · rw [ifb_t hb_268] at H
                  refine sl_skip hK (by decide) (wft hb_268) rfl fun a hK => ?_
                  refine sl_skip hK (by decide) (wft hb_268) rfl fun a hK => ?_
                  refine sl_skip hK (by decide) (wft hb_268) rfl fun a hK => ?_
                  refine sl_skip hK (by decide) (wft hb_268) rfl fun a hK => ?_
                  refine sl_skip hK (by decide) (wft hb_268) rfl fun a hK => ?_
                  refine sl_skip hK (by decide) (wft hb_268) rfl fun a hK => ?_
                  refine sl hK (by decide) rfl rfl (r_pick_t hb_268 hK rfl rfl) fun a hK => ?_
                  refine wpList_nil ?_
                  exact ⟨true, H, hK.sub (all_cons rfl (all_cons rfl (all_cons rfl (all_nil)))), hS⟩
                · rw [ifb_f hb_268] at H
                  refine sl hK (by decide) (wff hb_268) rfl (r_move hK rfl) fun a hK => ?_
                  refine sl hK (by decide) (wff hb_268) rfl (r_move hK rfl) fun a hK => ?_
                  obtain ⟨y_269, h_270, H⟩ := bind_some H
                  obtain ⟨b_271, o_272, c_273, cs_274, hv_275, hr_276, hc_277, h_2700, h_2701⟩ := h0_0.ix h_270
                  subst hr_276
                  refine sl hK (by decide) (wff hb_268) rfl (r_indexAddr_R Try.underlying24 Try.sizeOf52 hv_275 h_2700 h_2701 hK rfl rfl) fun a hK => ?_
                  refine sl hK (by decide) (wff hb_268) rfl (r_fieldAddr Try.underlying52 rfl Try.sizeOf3 hK rfl) fun a hK => ?_
                  refine sl hK (by decide) (wff hb_268) rfl (r_load Try.isAgg3 hK rfl ((hS.ra hRA nil_not).cell (hc_277 1 _ rfl))) fun a hK => ?_
                  refine sl hK (by decide) (wff hb_268) rfl (r_ibin hK rfl rfl rfl) fun a hK => ?_
                  refine sl hK (by decide) rfl rfl (r_pick_f hb_268 hK rfl rfl) fun a hK => ?_
                  refine wpList_nil ?_
                  exact ⟨(decide (y_269.Kind > 4)), H, hK.sub (all_cons rfl (all_cons rfl (all_cons rfl (all_nil)))), hS⟩
          · rintro a w ⟨x_233, H, hK, hS⟩
            unfold ref02_Cols.j2 at H
            refine wp_cond_split (hK.ev rfl) (fun (hb_278 : x_233 = true) => ?_) (fun (hb_278 : x_233 = false) => ?_)
            · rw [ifb_t hb_278] at H
              refine wp_seq ?_
              refine wp_region_lit ?_
              refine sl hK (by decide) rfl rfl (r_assign hK rfl) fun a hK => ?_
              refine wpList_nil ?_
              obtain rfl := Option.some.inj H
              refine wp_ret ?_
              repeat (first | refine ret_then ?_ | refine ret_block ?_ | refine ret_scope ?_)
              exact ret_1 Try.results34 hK (rv_tmp hK rfl) ⟨rfl, hS.bel⟩
            · rw [ifb_f hb_278] at H
              refine wp_skip ?_
              refine wp_region_lit ?_
              refine sl hK (by decide) rfl rfl (r_move hK rfl) fun a hK => ?_
              refine sl hK (by decide) rfl rfl (r_ibin hK rfl rfl rfl) fun a hK => ?_
              refine sl hK (by decide) rfl rfl (r_assign hK rfl) fun a hK => ?_
              refine wpList_nil ?_
              exact ⟨_, Nat.lt_succ_self _, (IntKind.i64.wrap (x_97 + 1)), H, hK.sub (all_cons rfl (all_cons rfl (all_nil))), hS⟩
        · rw [ifb_f hb_189] at H
          refine wp_exit ?_
          refine wp_seq ?_
          refine wp_region_lit ?_
          refine sl hK (by decide) rfl rfl (r_assign hK rfl) fun a hK => ?_
          refine wpList_nil ?_
          obtain rfl := Option.some.inj H
          refine wp_ret ?_
          repeat (first | refine ret_then ?_ | refine ret_block ?_ | refine ret_scope ?_)
          exact ret_1 Try.results34 hK (rv_tmp hK rfl) ⟨rfl, hS.bel⟩

/-! ### catchment/catchmentref01.Valid: function 35 -/
set_option maxHeartbeats 4000000 in
set_option maxRecDepth 100000 in
theorem ref01_Valid.calls (a0 : api_Value) {r : Bool} (H : ref01_Valid a0 = some r) (w0 : World) : CallsV Try.prog 35 #[.agg #[.int .i64 a0.Kind, .int .i64 a0.N, .string a0.S, .int .i64 a0.H.a0, .int .i64 a0.H.a1, .int .i64 a0.H.a2, .int .i64 a0.H.a3, .int .i64 a0.H.a4, .int .i64 a0.H.a5, .int .i64 a0.H.a6, .int .i64 a0.H.a7]] w0 (.bool r) := by
  unfold ref01_Valid at H
  refine enter (args := [.agg #[.int .i64 a0.Kind, .int .i64 a0.N, .string a0.S, .int .i64 a0.H.a0, .int .i64 a0.H.a1, .int .i64 a0.H.a2, .int .i64 a0.H.a3, .int .i64 a0.H.a4, .int .i64 a0.H.a5, .int .i64 a0.H.a6, .int .i64 a0.H.a7]]) Try.func35 rfl Try.ntmps35 rfl fun a hK => ?_
  have hS := St.init (R := fun _ => none) (w := w0) (fun _ _ h => by cases h)
  have hRL := RLe.refl (M := []) w0 (fun _ => none)
  refine wp_seq ?_
  refine wp_region_lit ?_
  refine sl_box hS hK (by decide) rfl rfl (c := [.int .i64 a0.Kind, .int .i64 a0.N, .string a0.S, .int .i64 a0.H.a0, .int .i64 a0.H.a1, .int .i64 a0.H.a2, .int .i64 a0.H.a3, .int .i64 a0.H.a4, .int .i64 a0.H.a5, .int .i64 a0.H.a6, .int .i64 a0.H.a7]) rfl fun a w b_1 hS hK => ?_
  refine sl hK (by decide) rfl rfl (r_assign hK rfl) fun a hK => ?_
  refine wpList_nil ?_
  refine wp_seq ?_
  refine wp_region_lit ?_
  refine sl hK (by decide) rfl rfl (r_fieldAddr Try.underlying43 rfl Try.sizeOf41 hK rfl) fun a hK => ?_
  refine sl hK (by decide) rfl rfl (r_loadA (cs := [.int .i64 a0.H.a0, .int .i64 a0.H.a1, .int .i64 a0.H.a2, .int .i64 a0.H.a3, .int .i64 a0.H.a4, .int .i64 a0.H.a5, .int .i64 a0.H.a6, .int .i64 a0.H.a7]) Try.isAgg41 Try.sizeOf41 rfl hK rfl (hS.cells_of (m := 8) (.head _) rfl)) fun a hK => ?_
  refine sl hK (by decide) rfl rfl (r_buildAC (ps := []) (c := [.int .i64 0, .int .i64 0, .int .i64 0, .int .i64 0, .int .i64 0, .int .i64 0, .int .i64 0, .int .i64 0]) Try.underlying41 Try.zeroValue41 Try.sizeOf3 hK rfl pc_nil rfl rfl) fun a hK => ?_
  refine sl hK (by decide) rfl rfl (r_seq (by kernel_rfl) (eqs41 a0.H (⟨0, 0, 0, 0, 0, 0, 0, 0⟩ : Arr8)) hK rfl rfl) fun a hK => ?_
  refine sl hK (by decide) rfl rfl (r_assign hK rfl) fun a hK => ?_
  refine wpList_nil ?_
  refine wp_seq ?_
  refine wp_seq ?_
  refine wp_region_lit ?_
  refine sl hK (by decide) rfl rfl (r_fieldAddr Try.underlying43 rfl Try.sizeOf3 hK rfl) fun a hK => ?_
  refine sl hK (by decide) rfl rfl (r_load Try.isAgg3 hK rfl (hS.cell (.head _) rfl)) fun a hK => ?_
  refine wpList_nil ?_
  refine wp_block ?_
  refine wp_seq ?_
  refine wp_region_lit ?_
  refine sl hK (by decide) rfl rfl (r_ibin hK rfl rfl rfl) fun a hK => ?_
  refine sl hK (by decide) rfl rfl (r_assign hK rfl) fun a hK => ?_
  refine wpList_nil ?_
  refine wp_cond_split (hK.ev rfl) (fun (hb_2 : (a0.Kind == 1) = true) => ?_) (fun (hb_2 : (a0.Kind == 1) = false) => ?_)
  · rw [ifb_t hb_2] at H
    refine wp_seq ?_
    refine wp_region_lit ?_
    refine sl hK (by decide) rfl rfl (r_fieldAddr Try.underlying43 rfl Try.sizeOf9 hK rfl) fun a hK => ?_
    refine sl hK (by decide) rfl rfl (r_load Try.isAgg9 hK rfl (hS.cell (.head _) rfl)) fun a hK => ?_
    refine sl hK (by decide) rfl rfl (r_sbin hK rfl rfl rfl) fun a hK => ?_
    refine sl hK (by decide) rfl rfl (r_move hK rfl) fun a hK => ?_
    rcases or_b (a0.S.toList == (⟨#[]⟩ : ByteArray).toList) with hb_3 | hb_3
    · rw [ifb_t hb_3] at H
      refine sl hK (by decide) (wtt hb_3) rfl (r_move hK rfl) fun a hK => ?_
      refine sl hK (by decide) rfl rfl (r_pick_t hb_3 hK rfl rfl) fun a hK => ?_
      refine sl hK (by decide) rfl rfl (r_assign hK rfl) fun a hK => ?_
      refine wpList_nil ?_
      obtain rfl := Option.some.inj H
      refine wp_ret ?_
      repeat (first | refine ret_then ?_ | refine ret_block ?_ | refine ret_scope ?_)
      exact ret_1 Try.results35 hK (rv_tmp hK rfl) ⟨rfl, hS.bel⟩
    · rw [ifb_f hb_3] at H
      refine sl_skip hK (by decide) (wtf hb_3) rfl fun a hK => ?_
      refine sl hK (by decide) rfl rfl (r_pick_f hb_3 hK rfl rfl) fun a hK => ?_
      refine sl hK (by decide) rfl rfl (r_assign hK rfl) fun a hK => ?_
      refine wpList_nil ?_
      obtain rfl := Option.some.inj H
      refine wp_ret ?_
      repeat (first | refine ret_then ?_ | refine ret_block ?_ | refine ret_scope ?_)
      exact ret_1 Try.results35 hK (rv_tmp hK rfl) ⟨rfl, hS.bel⟩
  · rw [ifb_f hb_2] at H
    refine wp_seq ?_
    refine wp_region_lit ?_
    refine sl hK (by decide) rfl rfl (r_ibin hK rfl rfl rfl) fun a hK => ?_
    refine sl hK (by decide) rfl rfl (r_assign hK rfl) fun a hK => ?_
    refine wpList_nil ?_
    refine wp_cond_split (hK.ev rfl) (fun (hb_4 : (a0.Kind == 2) = true) => ?_) (fun (hb_4 : (a0.Kind == 2) = false) => ?_)
    · rw [ifb_t hb_4] at H
      refine wp_seq ?_
      refine wp_region_lit ?_
      refine sl hK (by decide) rfl rfl (r_fieldAddr Try.underlying43 rfl Try.sizeOf3 hK rfl) fun a hK => ?_
      refine sl hK (by decide) rfl rfl (r_load Try.isAgg3 hK rfl (hS.cell (.head _) rfl)) fun a hK => ?_
      refine sl hK (by decide) rfl rfl (r_ibin hK rfl rfl rfl) fun a hK => ?_
      refine sl hK (by decide) rfl rfl (r_move hK rfl) fun a hK => ?_
      rcases or_b (a0.N == 0) with hb_5 | hb_5
      · rw [ifb_t hb_5] at H
        refine sl hK (by decide) (wtt hb_5) rfl (r_move hK rfl) fun a hK => ?_
        refine sl hK (by decide) rfl rfl (r_pick_t hb_5 hK rfl rfl) fun a hK => ?_
        refine sl hK (by decide) rfl rfl (r_move hK rfl) fun a hK => ?_
        rcases or_b (decide (a0.H = (⟨0, 0, 0, 0, 0, 0, 0, 0⟩ : Arr8))) with hb_6 | hb_6
        · rw [ifb_t hb_6] at H
          refine sl hK (by decide) (wtt hb_6) rfl (r_fieldAddr Try.underlying43 rfl Try.sizeOf9 hK rfl) fun a hK => ?_
          refine sl hK (by decide) (wtt hb_6) rfl (r_load Try.isAgg9 hK rfl (hS.cell (.head _) rfl)) fun a hK => ?_
          refine sl hK (by decide) (wtt hb_6) rfl (r_len_str Try.underlying9 hK rfl) fun a hK => ?_
          refine sl hK (by decide) (wtt hb_6) rfl (r_ibin hK rfl rfl rfl) fun a hK => ?_
          refine sl hK (by decide) rfl rfl (r_pick_t hb_6 hK rfl rfl) fun a hK => ?_
          refine sl hK (by decide) rfl rfl (r_assign hK rfl) fun a hK => ?_
          refine wpList_nil ?_
          obtain rfl := Option.some.inj H
          refine wp_ret ?_
          repeat (first | refine ret_then ?_ | refine ret_block ?_ | refine ret_scope ?_)
          exact ret_1 Try.results35 hK (rv_tmp hK rfl) ⟨rfl, hS.bel⟩
        · rw [ifb_f hb_6] at H
          refine sl_skip hK (by decide) (wtf hb_6) rfl fun a hK => ?_
          refine sl_skip hK (by decide) (wtf hb_6) rfl fun a hK => ?_
          refine sl_skip hK (by decide) (wtf hb_6) rfl fun a hK => ?_
          refine sl_skip hK (by decide) (wtf hb_6) rfl fun a hK => ?_
          refine sl hK (by decide) rfl rfl (r_pick_f hb_6 hK rfl rfl) fun a hK => ?_
          refine sl hK (by decide) rfl rfl (r_assign hK rfl) fun a hK => ?_
          refine wpList_nil ?_
          obtain rfl := Option.some.inj H
          refine wp_ret ?_
          repeat (first | refine ret_then ?_ | refine ret_block ?_ | refine ret_scope ?_)
          exact ret_1 Try.results35 hK (rv_tmp hK rfl) ⟨rfl, hS.bel⟩
      · rw [ifb_f hb_5] at H
        refine sl_skip hK (by decide) (wtf hb_5) rfl fun a hK => ?_
        refine sl hK (by decide) rfl rfl (r_pick_f hb_5 hK rfl rfl) fun a hK => ?_
        refine sl hK (by decide) rfl rfl (r_move hK rfl) fun a hK => ?_
        refine sl_skip hK (by decide) rfl rfl fun a hK => ?_
        refine sl_skip hK (by decide) rfl rfl fun a hK => ?_
        refine sl_skip hK (by decide) rfl rfl fun a hK => ?_
        refine sl_skip hK (by decide) rfl rfl fun a hK => ?_
        refine sl hK (by decide) rfl rfl (r_pick hK rfl rfl rfl) fun a hK => ?_
        refine sl hK (by decide) rfl rfl (r_assign hK rfl) fun a hK => ?_
        refine wpList_nil ?_
        obtain rfl := Option.some.inj H
        refine wp_ret ?_
        repeat (first | refine ret_then ?_ | refine ret_block ?_ | refine ret_scope ?_)
        exact ret_1 Try.results35 hK (rv_tmp hK rfl) ⟨rfl, hS.bel⟩
    · rw [ifb_f hb_4] at H
      refine wp_seq ?_
      refine wp_region_lit ?_
      refine sl hK (by decide) rfl rfl (r_ibin hK rfl rfl rfl) fun a hK => ?_
      refine sl hK (by decide) rfl rfl (r_assign hK rfl) fun a hK => ?_
      refine wpList_nil ?_
      refine wp_cond_split (hK.ev rfl) (fun (hb_7 : (a0.Kind == 3) = true) => ?_) (fun (hb_7 : (a0.Kind == 3) = false) => ?_)
      · rw [ifb_t hb_7] at H
        refine wp_seq ?_
        refine wp_region_lit ?_
        refine sl hK (by decide) rfl rfl (r_fieldAddr Try.underlying43 rfl Try.sizeOf3 hK rfl) fun a hK => ?_
        refine sl hK (by decide) rfl rfl (r_load Try.isAgg3 hK rfl (hS.cell (.head _) rfl)) fun a hK => ?_
        refine sl hK (by decide) rfl rfl (r_ibin hK rfl rfl rfl) fun a hK => ?_
        refine sl hK (by decide) rfl rfl (r_move hK rfl) fun a hK => ?_
        rcases or_b (a0.N == 0) with hb_8 | hb_8
        · rw [ifb_t hb_8] at H
          refine sl_skip hK (by decide) (wft hb_8) rfl fun a hK => ?_
          refine sl_skip hK (by decide) (wft hb_8) rfl fun a hK => ?_
          refine sl_skip hK (by decide) (wft hb_8) rfl fun a hK => ?_
          refine sl hK (by decide) rfl rfl (r_pick_t hb_8 hK rfl rfl) fun a hK => ?_
          refine sl hK (by decide) rfl rfl (r_move hK rfl) fun a hK => ?_
          refine sl hK (by decide) rfl rfl (r_fieldAddr Try.underlying43 rfl Try.sizeOf9 hK rfl) fun a hK => ?_
          refine sl hK (by decide) rfl rfl (r_load Try.isAgg9 hK rfl (hS.cell (.head _) rfl)) fun a hK => ?_
          refine sl hK (by decide) rfl rfl (r_sbin hK rfl rfl rfl) fun a hK => ?_
          refine sl hK (by decide) rfl rfl (r_pick hK rfl rfl rfl) fun a hK => ?_
          refine sl hK (by decide) rfl rfl (r_move hK rfl) fun a hK => ?_
          rcases or_b (a0.S.toList == (⟨#[]⟩ : ByteArray).toList) with hb_9 | hb_9
          · rw [ifb_t hb_9] at H
            refine sl hK (by decide) (wtt hb_9) rfl (r_move hK rfl) fun a hK => ?_
            refine sl hK (by decide) rfl rfl (r_pick_t hb_9 hK rfl rfl) fun a hK => ?_
            refine sl hK (by decide) rfl rfl (r_assign hK rfl) fun a hK => ?_
            refine wpList_nil ?_
            obtain rfl := Option.some.inj H
            refine wp_ret ?_
            repeat (first | refine ret_then ?_ | refine ret_block ?_ | refine ret_scope ?_)
            exact ret_1 Try.results35 hK (rv_tmp hK rfl) ⟨rfl, hS.bel⟩
          · rw [ifb_f hb_9] at H
            refine sl_skip hK (by decide) (wtf hb_9) rfl fun a hK => ?_
            refine sl hK (by decide) rfl rfl (r_pick_f hb_9 hK rfl rfl) fun a hK => ?_
            refine sl hK (by decide) rfl rfl (r_assign hK rfl) fun a hK => ?_
            refine wpList_nil ?_
            obtain rfl := Option.some.inj H
            refine wp_ret ?_
            repeat (first | refine ret_then ?_ | refine ret_block ?_ | refine ret_scope ?_)
            exact ret_1 Try.results35 hK (rv_tmp hK rfl) ⟨rfl, hS.bel⟩
        · rw [ifb_f hb_8] at H
          refine sl hK (by decide) (wff hb_8) rfl (r_fieldAddr Try.underlying43 rfl Try.sizeOf3 hK rfl) fun a hK => ?_
          refine sl hK (by decide) (wff hb_8) rfl (r_load Try.isAgg3 hK rfl (hS.cell (.head _) rfl)) fun a hK => ?_
          refine sl hK (by decide) (wff hb_8) rfl (r_ibin hK rfl rfl rfl) fun a hK => ?_
          refine sl hK (by decide) rfl rfl (r_pick_f hb_8 hK rfl rfl) fun a hK => ?_
          refine sl hK (by decide) rfl rfl (r_move hK rfl) fun a hK => ?_
          rcases or_b (a0.N == 1) with hb_10 | hb_10
          · rw [ifb_t hb_10] at H
            refine sl hK (by decide) (wtt hb_10) rfl (r_fieldAddr Try.underlying43 rfl Try.sizeOf9 hK rfl) fun a hK => ?_
            refine sl hK (by decide) (wtt hb_10) rfl (r_load Try.isAgg9 hK rfl (hS.cell (.head _) rfl)) fun a hK => ?_
            refine sl hK (by decide) (wtt hb_10) rfl (r_sbin hK rfl rfl rfl) fun a hK => ?_
            refine sl hK (by decide) rfl rfl (r_pick_t hb_10 hK rfl rfl) fun a hK => ?_
            refine sl hK (by decide) rfl rfl (r_move hK rfl) fun a hK => ?_
            rcases or_b (a0.S.toList == (⟨#[]⟩ : ByteArray).toList) with hb_11 | hb_11
            · rw [ifb_t hb_11] at H
              refine sl hK (by decide) (wtt hb_11) rfl (r_move hK rfl) fun a hK => ?_
              refine sl hK (by decide) rfl rfl (r_pick_t hb_11 hK rfl rfl) fun a hK => ?_
              refine sl hK (by decide) rfl rfl (r_assign hK rfl) fun a hK => ?_
              refine wpList_nil ?_
              obtain rfl := Option.some.inj H
              refine wp_ret ?_
              repeat (first | refine ret_then ?_ | refine ret_block ?_ | refine ret_scope ?_)
              exact ret_1 Try.results35 hK (rv_tmp hK rfl) ⟨rfl, hS.bel⟩
            · rw [ifb_f hb_11] at H
              refine sl_skip hK (by decide) (wtf hb_11) rfl fun a hK => ?_
              refine sl hK (by decide) rfl rfl (r_pick_f hb_11 hK rfl rfl) fun a hK => ?_
              refine sl hK (by decide) rfl rfl (r_assign hK rfl) fun a hK => ?_
              refine wpList_nil ?_
              obtain rfl := Option.some.inj H
              refine wp_ret ?_
              repeat (first | refine ret_then ?_ | refine ret_block ?_ | refine ret_scope ?_)
              exact ret_1 Try.results35 hK (rv_tmp hK rfl) ⟨rfl, hS.bel⟩
          · rw [ifb_f hb_10] at H
            refine sl_skip hK (by decide) (wtf hb_10) rfl fun a hK => ?_
            refine sl_skip hK (by decide) (wtf hb_10) rfl fun a hK => ?_
            refine sl_skip hK (by decide) (wtf hb_10) rfl fun a hK => ?_
            refine sl hK (by decide) rfl rfl (r_pick_f hb_10 hK rfl rfl) fun a hK => ?_
            refine sl hK (by decide) rfl rfl (r_move hK rfl) fun a hK => ?_
            refine sl_skip hK (by decide) rfl rfl fun a hK => ?_
            refine sl hK (by decide) rfl rfl (r_pick hK rfl rfl rfl) fun a hK => ?_
            refine sl hK (by decide) rfl rfl (r_assign hK rfl) fun a hK => ?_
            refine wpList_nil ?_
            obtain rfl := Option.some.inj H
            refine wp_ret ?_
            repeat (first | refine ret_then ?_ | refine ret_block ?_ | refine ret_scope ?_)
            exact ret_1 Try.results35 hK (rv_tmp hK rfl) ⟨rfl, hS.bel⟩
      · rw [ifb_f hb_7] at H
        refine wp_seq ?_
        refine wp_region_lit ?_
        refine sl hK (by decide) rfl rfl (r_ibin hK rfl rfl rfl) fun a hK => ?_
        refine sl hK (by decide) rfl rfl (r_assign hK rfl) fun a hK => ?_
        refine wpList_nil ?_
        refine wp_cond_split (hK.ev rfl) (fun (hb_12 : (a0.Kind == 4) = true) => ?_) (fun (hb_12 : (a0.Kind == 4) = false) => ?_)
        · rw [ifb_t hb_12] at H
          refine wp_seq ?_
          refine wp_region_lit ?_
          refine sl hK (by decide) rfl rfl (r_fieldAddr Try.underlying43 rfl Try.sizeOf3 hK rfl) fun a hK => ?_
          refine sl hK (by decide) rfl rfl (r_load Try.isAgg3 hK rfl (hS.cell (.head _) rfl)) fun a hK => ?_
          refine sl hK (by decide) rfl rfl (r_ibin hK rfl rfl rfl) fun a hK => ?_
          refine sl hK (by decide) rfl rfl (r_move hK rfl) fun a hK => ?_
          rcases or_b (a0.N == 0) with hb_13 | hb_13
          · rw [ifb_t hb_13] at H
            refine sl hK (by decide) (wtt hb_13) rfl (r_fieldAddr Try.underlying43 rfl Try.sizeOf9 hK rfl) fun a hK => ?_
            refine sl hK (by decide) (wtt hb_13) rfl (r_load Try.isAgg9 hK rfl (hS.cell (.head _) rfl)) fun a hK => ?_
            refine sl hK (by decide) (wtt hb_13) rfl (r_sbin hK rfl rfl rfl) fun a hK => ?_
            refine sl hK (by decide) rfl rfl (r_pick_t hb_13 hK rfl rfl) fun a hK => ?_
            refine sl hK (by decide) rfl rfl (r_assign hK rfl) fun a hK => ?_
            refine wpList_nil ?_
            obtain rfl := Option.some.inj H
            refine wp_ret ?_
            repeat (first | refine ret_then ?_ | refine ret_block ?_ | refine ret_scope ?_)
            exact ret_1 Try.results35 hK (rv_tmp hK rfl) ⟨rfl, hS.bel⟩
          · rw [ifb_f hb_13] at H
            refine sl_skip hK (by decide) (wtf hb_13) rfl fun a hK => ?_
            refine sl_skip hK (by decide) (wtf hb_13) rfl fun a hK => ?_
            refine sl_skip hK (by decide) (wtf hb_13) rfl fun a hK => ?_
            refine sl hK (by decide) rfl rfl (r_pick_f hb_13 hK rfl rfl) fun a hK => ?_
            refine sl hK (by decide) rfl rfl (r_assign hK rfl) fun a hK => ?_
            refine wpList_nil ?_
            obtain rfl := Option.some.inj H
            refine wp_ret ?_
            repeat (first | refine ret_then ?_ | refine ret_block ?_ | refine ret_scope ?_)
            exact ret_1 Try.results35 hK (rv_tmp hK rfl) ⟨rfl, hS.bel⟩
        · rw [ifb_f hb_12] at H
          refine wp_skip ?_
          refine wp_seq ?_
          refine wp_region_lit ?_
          refine sl hK (by decide) rfl rfl (r_assign hK rfl) fun a hK => ?_
          refine wpList_nil ?_
          obtain rfl := Option.some.inj H
          refine wp_ret ?_
          repeat (first | refine ret_then ?_ | refine ret_block ?_ | refine ret_scope ?_)
          exact ret_1 Try.results35 hK (rv_tmp hK rfl) ⟨rfl, hS.bel⟩

end Go.Proofs.Ytiegghohcghmkaa.M
