/- Each Go function of the laws answers as its plain Lean function tells, wherever that tells something. Printed by wip/eng/gen.py. -/
import Derived.Test.YtjklfkiaebipnaaWalk2
namespace Go.Proofs.Ytjklfkiaebipnaa.M
open Go Go.Eng Go.Proofs Go.RowKit
set_option linter.unusedVariables false
set_option linter.unusedSimpArgs false

/-! ### catchment/catchmentref02.Name: function 60 -/
set_option maxHeartbeats 4000000 in
set_option maxRecDepth 100000 in
theorem ref02_Name.calls (a0 : ByteArray) {r : Bool} (H : ref02_Name a0 = some r) (w0 : World) : CallsV Try.prog 60 #[.string a0] w0 (.bool r) := by
  unfold ref02_Name at H
  refine enter (args := [.string a0]) Try.func60 rfl Try.ntmps60 rfl fun a hK => ?_
  have hS := St.init (R := fun _ => none) (w := w0) (fun _ _ h => by cases h)
  have hRL := RLe.refl (M := []) w0 (fun _ => none)
  refine wp_seq ?_
  refine wp_region_lit ?_
  refine sl hK (by decide) rfl rfl (r_assign hK rfl) fun a hK => ?_
  refine wpList_nil ?_
  refine wp_seq ?_
  refine wp_seq ?_
  refine wp_mid (fun a w => ∃ (x_8 : Bool), ref02_Name.j0 a0 x_8 = some r ∧ Kn 55 a [(0, .string a0), (22, .bool x_8)] ∧ St [] w0 w (fun _ => none) []) ?_ ?_
  · refine wp_region_lit ?_
    refine sl hK (by decide) rfl rfl (r_move hK rfl) fun a hK => ?_
    refine sl hK (by decide) rfl rfl (r_len_str Try.underlying9 hK rfl) fun a hK => ?_
    refine sl hK (by decide) rfl rfl (r_ibin hK rfl rfl rfl) fun a hK => ?_
    refine sl hK (by decide) rfl rfl (r_move hK rfl) fun a hK => ?_
    rcases or_b (decide ((a0.size : Int) < 1)) with hb_10 | hb_10
    · rw [ifb_t hb_10] at H
      refine sl_skip hK (by decide) (wft hb_10) rfl fun a hK => ?_
      refine sl_skip hK (by decide) (wft hb_10) rfl fun a hK => ?_
      refine sl_skip hK (by decide) (wft hb_10) rfl fun a hK => ?_
      refine sl hK (by decide) rfl rfl (r_pick_t hb_10 hK rfl rfl) fun a hK => ?_
      refine sl hK (by decide) rfl rfl (r_move hK rfl) fun a hK => ?_
      refine sl_skip hK (by decide) rfl rfl fun a hK => ?_
      refine sl_skip hK (by decide) rfl rfl fun a hK => ?_
      refine sl_skip hK (by decide) rfl rfl fun a hK => ?_
      refine sl hK (by decide) rfl rfl (r_pick hK rfl rfl rfl) fun a hK => ?_
      refine sl hK (by decide) rfl rfl (r_move hK rfl) fun a hK => ?_
      refine sl_skip hK (by decide) rfl rfl fun a hK => ?_
      refine sl_skip hK (by decide) rfl rfl fun a hK => ?_
      refine sl_skip hK (by decide) rfl rfl fun a hK => ?_
      refine sl hK (by decide) rfl rfl (r_pick hK rfl rfl rfl) fun a hK => ?_
      refine wpList_nil ?_
      exact ⟨true, H, hK.sub (all_cons rfl (all_cons rfl (all_nil))), hS⟩
    · rw [ifb_f hb_10] at H
      refine sl hK (by decide) (wff hb_10) rfl (r_move hK rfl) fun a hK => ?_
      refine sl hK (by decide) (wff hb_10) rfl (r_len_str Try.underlying9 hK rfl) fun a hK => ?_
      refine sl hK (by decide) (wff hb_10) rfl (r_ibin hK rfl rfl rfl) fun a hK => ?_
      refine sl hK (by decide) rfl rfl (r_pick_f hb_10 hK rfl rfl) fun a hK => ?_
      refine sl hK (by decide) rfl rfl (r_move hK rfl) fun a hK => ?_
      rcases or_b (decide ((a0.size : Int) > 24)) with hb_11 | hb_11
      · rw [ifb_t hb_11] at H
        refine sl_skip hK (by decide) (wft hb_11) rfl fun a hK => ?_
        refine sl_skip hK (by decide) (wft hb_11) rfl fun a hK => ?_
        refine sl_skip hK (by decide) (wft hb_11) rfl fun a hK => ?_
        refine sl hK (by decide) rfl rfl (r_pick_t hb_11 hK rfl rfl) fun a hK => ?_
        refine sl hK (by decide) rfl rfl (r_move hK rfl) fun a hK => ?_
        refine sl_skip hK (by decide) rfl rfl fun a hK => ?_
        refine sl_skip hK (by decide) rfl rfl fun a hK => ?_
        refine sl_skip hK (by decide) rfl rfl fun a hK => ?_
        refine sl hK (by decide) rfl rfl (r_pick hK rfl rfl rfl) fun a hK => ?_
        refine wpList_nil ?_
        exact ⟨true, H, hK.sub (all_cons rfl (all_cons rfl (all_nil))), hS⟩
      · rw [ifb_f hb_11] at H
        refine sl hK (by decide) (wff hb_11) rfl (r_move hK rfl) fun a hK => ?_
        obtain ⟨y_12, h_13, H⟩ := bind_some H
        refine sl hK (by decide) (wff hb_11) rfl (r_index_str' Try.underlying9 h_13 hK rfl rfl) fun a hK => ?_
        refine sl hK (by decide) (wff hb_11) rfl (r_ibin hK rfl rfl rfl) fun a hK => ?_
        refine sl hK (by decide) rfl rfl (r_pick_f hb_11 hK rfl rfl) fun a hK => ?_
        refine sl hK (by decide) rfl rfl (r_move hK rfl) fun a hK => ?_
        rcases or_b (decide (y_12 < 97)) with hb_14 | hb_14
        · rw [ifb_t hb_14] at H
          refine sl_skip hK (by decide) (wft hb_14) rfl fun a hK => ?_
          refine sl_skip hK (by decide) (wft hb_14) rfl fun a hK => ?_
          refine sl_skip hK (by decide) (wft hb_14) rfl fun a hK => ?_
          refine sl hK (by decide) rfl rfl (r_pick_t hb_14 hK rfl rfl) fun a hK => ?_
          refine wpList_nil ?_
          exact ⟨true, H, hK.sub (all_cons rfl (all_cons rfl (all_nil))), hS⟩
        · rw [ifb_f hb_14] at H
          refine sl hK (by decide) (wff hb_14) rfl (r_move hK rfl) fun a hK => ?_
          obtain ⟨y_15, h_16, H⟩ := bind_some H
          refine sl hK (by decide) (wff hb_14) rfl (r_index_str' Try.underlying9 h_16 hK rfl rfl) fun a hK => ?_
          refine sl hK (by decide) (wff hb_14) rfl (r_ibin hK rfl rfl rfl) fun a hK => ?_
          refine sl hK (by decide) rfl rfl (r_pick_f hb_14 hK rfl rfl) fun a hK => ?_
          refine wpList_nil ?_
          exact ⟨(decide (y_15 > 122)), H, hK.sub (all_cons rfl (all_cons rfl (all_nil))), hS⟩
  · rintro a w ⟨x_8, H, hK, hS⟩
    unfold ref02_Name.j0 at H
    refine wp_cond_split (hK.ev rfl) (fun (hb_17 : x_8 = true) => ?_) (fun (hb_17 : x_8 = false) => ?_)
    · rw [ifb_t hb_17] at H
      refine wp_seq ?_
      refine wp_region_lit ?_
      refine sl hK (by decide) rfl rfl (r_assign hK rfl) fun a hK => ?_
      refine wpList_nil ?_
      obtain rfl := Option.some.inj H
      refine wp_ret ?_
      repeat (first | refine ret_then ?_ | refine ret_block ?_ | refine ret_scope ?_)
      exact ret_1 Try.results60 hK (rv_tmp hK rfl) ⟨rfl, hS.bel⟩
    · rw [ifb_f hb_17] at H
      refine wp_skip ?_
      refine wp_seq ?_
      refine wp_seq ?_
      refine wp_region_lit ?_
      refine sl hK (by decide) rfl rfl (r_assign hK rfl) fun a hK => ?_
      refine wpList_nil ?_
      refine wp_block ?_
      refine wp_loop_k (fun k_l1 a w => ∃ (x_45 : Int), ref02_Name.l1 a0 k_l1 x_45 = some r ∧ Kn 55 a [(0, .string a0), (3, .int .i64 x_45)] ∧ St [] w0 w (fun _ => none) []) (((a0.size : Int) - 0).toNat + 1) ?_ ?_
      · exact ⟨0, H, hK.sub (all_cons rfl (all_cons rfl (all_nil))), hS⟩
      · rintro k_l1 a w ⟨x_45, H, hK, hS⟩
        cases k_l1 with
        | zero => cases H
        | succ k_l1 =>
        rw [ref02_Name.l1.eq_2] at H
        refine wp_seq ?_
        refine wp_seq ?_
        refine wp_region_lit ?_
        refine sl hK (by decide) rfl rfl (r_move hK rfl) fun a hK => ?_
        refine sl hK (by decide) rfl rfl (r_move hK rfl) fun a hK => ?_
        refine sl hK (by decide) rfl rfl (r_len_str Try.underlying9 hK rfl) fun a hK => ?_
        refine sl hK (by decide) rfl rfl (r_ibin hK rfl rfl rfl) fun a hK => ?_
        refine wpList_nil ?_
        refine wp_cond_split (hK.ev rfl) (fun (hb_73 : (decide (x_45 < (a0.size : Int))) = true) => ?_) (fun (hb_73 : (decide (x_45 < (a0.size : Int))) = false) => ?_)
        · rw [ifb_t hb_73] at H
          refine wp_skip ?_
          refine wp_seq ?_
          refine wp_block ?_
          refine wp_seq ?_
          refine wp_region_lit ?_
          refine sl hK (by decide) rfl rfl (r_move hK rfl) fun a hK => ?_
          refine sl hK (by decide) rfl rfl (r_move hK rfl) fun a hK => ?_
          obtain ⟨y_74, h_75, H⟩ := bind_some H
          refine sl hK (by decide) rfl rfl (r_index_str' Try.underlying9 h_75 hK rfl rfl) fun a hK => ?_
          refine sl hK (by decide) rfl rfl (r_assign hK rfl) fun a hK => ?_
          refine wpList_nil ?_
          refine wp_seq ?_
          refine wp_mid (fun a w => ∃ (x_86 : Bool), ref02_Name.j2 (ref02_Name.l1 a0 k_l1) a0 x_45 x_86 = some r ∧ Kn 55 a [(0, .string a0), (3, .int .i64 x_45), (54, .bool x_86)] ∧ St [] w0 w (fun _ => none) []) ?_ ?_
          · refine wp_region_lit ?_
            refine sl hK (by decide) rfl rfl (r_move hK rfl) fun a hK => ?_
            refine sl hK (by decide) rfl rfl (r_ibin hK rfl rfl rfl) fun a hK => ?_
            refine sl hK (by decide) rfl rfl (r_move hK rfl) fun a hK => ?_
            rcases or_b (decide (y_74 ≥ 97)) with hb_88 | hb_88
            · rw [ifb_t hb_88] at H
              refine sl hK (by decide) (wtt hb_88) rfl (r_move hK rfl) fun a hK => ?_
              refine sl hK (by decide) (wtt hb_88) rfl (r_ibin hK rfl rfl rfl) fun a hK => ?_
              refine sl hK (by decide) rfl rfl (r_pick_t hb_88 hK rfl rfl) fun a hK => ?_
              refine sl hK (by decide) rfl rfl (r_move hK rfl) fun a hK => ?_
              rcases or_b (decide (y_74 ≤ 122)) with hb_89 | hb_89
              · rw [ifb_t hb_89] at H
                refine sl_skip hK (by decide) (wft hb_89) rfl fun a hK => ?_
                refine sl_skip hK (by decide) (wft hb_89) rfl fun a hK => ?_
                refine sl_skip hK (by decide) (wft hb_89) rfl fun a hK => ?_
                refine sl_skip hK (by decide) rfl rfl fun a hK => ?_
                refine sl_skip hK (by decide) rfl rfl fun a hK => ?_
                refine sl_skip hK (by decide) (wft hb_89) rfl fun a hK => ?_
                refine sl hK (by decide) rfl rfl (r_pick_t hb_89 hK rfl rfl) fun a hK => ?_
                refine sl hK (by decide) rfl rfl (r_move hK rfl) fun a hK => ?_
                refine sl_skip hK (by decide) rfl rfl fun a hK => ?_
                refine sl_skip hK (by decide) rfl rfl fun a hK => ?_
                refine sl hK (by decide) rfl rfl (r_pick hK rfl rfl rfl) fun a hK => ?_
                refine sl hK (by decide) rfl rfl (r_move hK rfl) fun a hK => ?_
                refine sl_skip hK (by decide) rfl rfl fun a hK => ?_
                refine sl_skip hK (by decide) rfl rfl fun a hK => ?_
                refine sl hK (by decide) rfl rfl (r_pick hK rfl rfl rfl) fun a hK => ?_
                refine sl hK (by decide) rfl rfl (r_un hK rfl (u_not _)) fun a hK => ?_
                refine wpList_nil ?_
                exact ⟨false, H, hK.sub (all_cons rfl (all_cons rfl (all_cons rfl (all_nil)))), hS⟩
              · rw [ifb_f hb_89] at H
                refine sl hK (by decide) (wff hb_89) rfl (r_move hK rfl) fun a hK => ?_
                refine sl hK (by decide) (wff hb_89) rfl (r_ibin hK rfl rfl rfl) fun a hK => ?_
                refine sl hK (by decide) (wff hb_89) rfl (r_move hK rfl) fun a hK => ?_
                rcases or_b (decide (y_74 ≥ 48)) with hb_90 | hb_90
                · rw [ifb_t hb_90] at H
                  refine sl hK (by decide) (wtt hb_90) rfl (r_move hK rfl) fun a hK => ?_
                  refine sl hK (by decide) (wtt hb_90) rfl (r_ibin hK rfl rfl rfl) fun a hK => ?_
                  refine sl hK (by decide) (wff hb_89) rfl (r_pick_t hb_90 hK rfl rfl) fun a hK => ?_
                  refine sl hK (by decide) rfl rfl (r_pick_f hb_89 hK rfl rfl) fun a hK => ?_
                  refine sl hK (by decide) rfl rfl (r_move hK rfl) fun a hK => ?_
                  rcases or_b (decide (y_74 ≤ 57)) with hb_91 | hb_91
                  · rw [ifb_t hb_91] at H
                    refine sl_skip hK (by decide) (wft hb_91) rfl fun a hK => ?_
                    refine sl_skip hK (by decide) (wft hb_91) rfl fun a hK => ?_
                    refine sl hK (by decide) rfl rfl (r_pick_t hb_91 hK rfl rfl) fun a hK => ?_
                    refine sl hK (by decide) rfl rfl (r_move hK rfl) fun a hK => ?_
                    refine sl_skip hK (by decide) rfl rfl fun a hK => ?_
                    refine sl_skip hK (by decide) rfl rfl fun a hK => ?_
                    refine sl hK (by decide) rfl rfl (r_pick hK rfl rfl rfl) fun a hK => ?_
                    refine sl hK (by decide) rfl rfl (r_un hK rfl (u_not _)) fun a hK => ?_
                    refine wpList_nil ?_
                    exact ⟨false, H, hK.sub (all_cons rfl (all_cons rfl (all_cons rfl (all_nil)))), hS⟩
                  · rw [ifb_f hb_91] at H
                    refine sl hK (by decide) (wff hb_91) rfl (r_move hK rfl) fun a hK => ?_
                    refine sl hK (by decide) (wff hb_91) rfl (r_ibin hK rfl rfl rfl) fun a hK => ?_
                    refine sl hK (by decide) rfl rfl (r_pick_f hb_91 hK rfl rfl) fun a hK => ?_
                    refine sl hK (by decide) rfl rfl (r_move hK rfl) fun a hK => ?_
                    rcases or_b (y_74 == 95) with hb_92 | hb_92
                    · rw [ifb_t hb_92] at H
                      refine sl_skip hK (by decide) (wft hb_92) rfl fun a hK => ?_
                      refine sl_skip hK (by decide) (wft hb_92) rfl fun a hK => ?_
                      refine sl hK (by decide) rfl rfl (r_pick_t hb_92 hK rfl rfl) fun a hK => ?_
                      refine sl hK (by decide) rfl rfl (r_un hK rfl (u_not _)) fun a hK => ?_
                      refine wpList_nil ?_
                      exact ⟨false, H, hK.sub (all_cons rfl (all_cons rfl (all_cons rfl (all_nil)))), hS⟩
                    · rw [ifb_f hb_92] at H
                      refine sl hK (by decide) (wff hb_92) rfl (r_move hK rfl) fun a hK => ?_
                      refine sl hK (by decide) (wff hb_92) rfl (r_ibin hK rfl rfl rfl) fun a hK => ?_
                      refine sl hK (by decide) rfl rfl (r_pick_f hb_92 hK rfl rfl) fun a hK => ?_
                      refine sl hK (by decide) rfl rfl (r_un hK rfl (u_not _)) fun a hK => ?_
                      refine wpList_nil ?_
                      exact ⟨(!(y_74 == 35)), H, hK.sub (all_cons rfl (all_cons rfl (all_cons rfl (all_nil)))), hS⟩
                · rw [ifb_f hb_90] at H
                  refine sl_skip hK (by decide) (wtf hb_90) rfl fun a hK => ?_
                  refine sl_skip hK (by decide) (wtf hb_90) rfl fun a hK => ?_
                  refine sl hK (by decide) (wff hb_89) rfl (r_pick_f hb_90 hK rfl rfl) fun a hK => ?_
                  refine sl hK (by decide) rfl rfl (r_pick_f hb_89 hK rfl rfl) fun a hK => ?_
                  refine sl hK (by decide) rfl rfl (r_move hK rfl) fun a hK => ?_
                  refine sl hK (by decide) rfl rfl (r_move hK rfl) fun a hK => ?_
                  refine sl hK (by decide) rfl rfl (r_ibin hK rfl rfl rfl) fun a hK => ?_
                  refine sl hK (by decide) rfl rfl (r_pick hK rfl rfl rfl) fun a hK => ?_
                  refine sl hK (by decide) rfl rfl (r_move hK rfl) fun a hK => ?_
                  rcases or_b (y_74 == 95) with hb_93 | hb_93
                  · rw [ifb_t hb_93] at H
                    refine sl_skip hK (by decide) (wft hb_93) rfl fun a hK => ?_
                    refine sl_skip hK (by decide) (wft hb_93) rfl fun a hK => ?_
                    refine sl hK (by decide) rfl rfl (r_pick_t hb_93 hK rfl rfl) fun a hK => ?_
                    refine sl hK (by decide) rfl rfl (r_un hK rfl (u_not _)) fun a hK => ?_
                    refine wpList_nil ?_
                    exact ⟨false, H, hK.sub (all_cons rfl (all_cons rfl (all_cons rfl (all_nil)))), hS⟩
                  · rw [ifb_f hb_93] at H
                    refine sl hK (by decide) (wff hb_93) rfl (r_move hK rfl) fun a hK => ?_
                    refine sl hK (by decide) (wff hb_93) rfl (r_ibin hK rfl rfl rfl) fun a hK => ?_
                    refine sl hK (by decide) rfl rfl (r_pick_f hb_93 hK rfl rfl) fun a hK => ?_
                    refine sl hK (by decide) rfl rfl (r_un hK rfl (u_not _)) fun a hK => ?_
                    refine wpList_nil ?_
                    exact ⟨(!(y_74 == 35)), H, hK.sub (all_cons rfl (all_cons rfl (all_cons rfl (all_nil)))), hS⟩
            · rw [ifb_f hb_88] at H
              refine sl_skip hK (by decide) (wtf hb_88) rfl fun a hK => ?_
              refine sl_skip hK (by decide) (wtf hb_88) rfl fun a hK => ?_
              refine sl hK (by decide) rfl rfl (r_pick_f hb_88 hK rfl rfl) fun a hK => ?_
              refine sl hK (by decide) rfl rfl (r_move hK rfl) fun a hK => ?_
              refine sl hK (by decide) rfl rfl (r_move hK rfl) fun a hK => ?_
              refine sl hK (by decide) rfl rfl (r_ibin hK rfl rfl rfl) fun a hK => ?_
              refine sl hK (by decide) rfl rfl (r_move hK rfl) fun a hK => ?_
              rcases or_b (decide (y_74 ≥ 48)) with hb_94 | hb_94
              · rw [ifb_t hb_94] at H
                refine sl hK (by decide) (wtt hb_94) rfl (r_move hK rfl) fun a hK => ?_
                refine sl hK (by decide) (wtt hb_94) rfl (r_ibin hK rfl rfl rfl) fun a hK => ?_
                refine sl hK (by decide) rfl rfl (r_pick_t hb_94 hK rfl rfl) fun a hK => ?_
                refine sl hK (by decide) rfl rfl (r_pick hK rfl rfl rfl) fun a hK => ?_
                refine sl hK (by decide) rfl rfl (r_move hK rfl) fun a hK => ?_
                rcases or_b (decide (y_74 ≤ 57)) with hb_95 | hb_95
                · rw [ifb_t hb_95] at H
                  refine sl_skip hK (by decide) (wft hb_95) rfl fun a hK => ?_
                  refine sl_skip hK (by decide) (wft hb_95) rfl fun a hK => ?_
                  refine sl hK (by decide) rfl rfl (r_pick_t hb_95 hK rfl rfl) fun a hK => ?_
                  refine sl hK (by decide) rfl rfl (r_move hK rfl) fun a hK => ?_
                  refine sl_skip hK (by decide) rfl rfl fun a hK => ?_
                  refine sl_skip hK (by decide) rfl rfl fun a hK => ?_
                  refine sl hK (by decide) rfl rfl (r_pick hK rfl rfl rfl) fun a hK => ?_
                  refine sl hK (by decide) rfl rfl (r_un hK rfl (u_not _)) fun a hK => ?_
                  refine wpList_nil ?_
                  exact ⟨false, H, hK.sub (all_cons rfl (all_cons rfl (all_cons rfl (all_nil)))), hS⟩
                · rw [ifb_f hb_95] at H
                  refine sl hK (by decide) (wff hb_95) rfl (r_move hK rfl) fun a hK => ?_
                  refine sl hK (by decide) (wff hb_95) rfl (r_ibin hK rfl rfl rfl) fun a hK => ?_
                  refine sl hK (by decide) rfl rfl (r_pick_f hb_95 hK rfl rfl) fun a hK => ?_
                  refine sl hK (by decide) rfl rfl (r_move hK rfl) fun a hK => ?_
                  rcases or_b (y_74 == 95) with hb_96 | hb_96
                  · rw [ifb_t hb_96] at H
                    refine sl_skip hK (by decide) (wft hb_96) rfl fun a hK => ?_
                    refine sl_skip hK (by decide) (wft hb_96) rfl fun a hK => ?_
                    refine sl hK (by decide) rfl rfl (r_pick_t hb_96 hK rfl rfl) fun a hK => ?_
                    refine sl hK (by decide) rfl rfl (r_un hK rfl (u_not _)) fun a hK => ?_
                    refine wpList_nil ?_
                    exact ⟨false, H, hK.sub (all_cons rfl (all_cons rfl (all_cons rfl (all_nil)))), hS⟩
                  · rw [ifb_f hb_96] at H
                    refine sl hK (by decide) (wff hb_96) rfl (r_move hK rfl) fun a hK => ?_
                    refine sl hK (by decide) (wff hb_96) rfl (r_ibin hK rfl rfl rfl) fun a hK => ?_
                    refine sl hK (by decide) rfl rfl (r_pick_f hb_96 hK rfl rfl) fun a hK => ?_
                    refine sl hK (by decide) rfl rfl (r_un hK rfl (u_not _)) fun a hK => ?_
                    refine wpList_nil ?_
                    exact ⟨(!(y_74 == 35)), H, hK.sub (all_cons rfl (all_cons rfl (all_cons rfl (all_nil)))), hS⟩
              · rw [ifb_f hb_94] at H
                refine sl_skip hK (by decide) (wtf hb_94) rfl fun a hK => ?_
                refine sl_skip hK (by decide) (wtf hb_94) rfl fun a hK => ?_
                refine sl hK (by decide) rfl rfl (r_pick_f hb_94 hK rfl rfl) fun a hK => ?_
                refine sl hK (by decide) rfl rfl (r_pick hK rfl rfl rfl) fun a hK => ?_
                refine sl hK (by decide) rfl rfl (r_move hK rfl) fun a hK => ?_
                refine sl hK (by decide) rfl rfl (r_move hK rfl) fun a hK => ?_
                refine sl hK (by decide) rfl rfl (r_ibin hK rfl rfl rfl) fun a hK => ?_
                refine sl hK (by decide) rfl rfl (r_pick hK rfl rfl rfl) fun a hK => ?_
                refine sl hK (by decide) rfl rfl (r_move hK rfl) fun a hK => ?_
                rcases or_b (y_74 == 95) with hb_97 | hb_97
                · rw [ifb_t hb_97] at H
                  refine sl_skip hK (by decide) (wft hb_97) rfl fun a hK => ?_
                  refine sl_skip hK (by decide) (wft hb_97) rfl fun a hK => ?_
                  refine sl hK (by decide) rfl rfl (r_pick_t hb_97 hK rfl rfl) fun a hK => ?_
                  refine sl hK (by decide) rfl rfl (r_un hK rfl (u_not _)) fun a hK => ?_
                  refine wpList_nil ?_
                  exact ⟨false, H, hK.sub (all_cons rfl (all_cons rfl (all_cons rfl (all_nil)))), hS⟩
                · rw [ifb_f hb_97] at H
                  refine sl hK (by decide) (wff hb_97) rfl (r_move hK rfl) fun a hK => ?_
                  refine sl hK (by decide) (wff hb_97) rfl (r_ibin hK rfl rfl rfl) fun a hK => ?_
                  refine sl hK (by decide) rfl rfl (r_pick_f hb_97 hK rfl rfl) fun a hK => ?_
                  refine sl hK (by decide) rfl rfl (r_un hK rfl (u_not _)) fun a hK => ?_
                  refine wpList_nil ?_
                  exact ⟨(!(y_74 == 35)), H, hK.sub (all_cons rfl (all_cons rfl (all_cons rfl (all_nil)))), hS⟩
          · rintro a w ⟨x_86, H, hK, hS⟩
            unfold ref02_Name.j2 at H
            refine wp_cond_split (hK.ev rfl) (fun (hb_98 : x_86 = true) => ?_) (fun (hb_98 : x_86 = false) => ?_)
            · rw [ifb_t hb_98] at H
              refine wp_seq ?_
              refine wp_region_lit ?_
              refine sl hK (by decide) rfl rfl (r_assign hK rfl) fun a hK => ?_
              refine wpList_nil ?_
              obtain rfl := Option.some.inj H
              refine wp_ret ?_
              repeat (first | refine ret_then ?_ | refine ret_block ?_ | refine ret_scope ?_)
              exact ret_1 Try.results60 hK (rv_tmp hK rfl) ⟨rfl, hS.bel⟩
            · rw [ifb_f hb_98] at H
              refine wp_skip ?_
              refine wp_region_lit ?_
              refine sl hK (by decide) rfl rfl (r_move hK rfl) fun a hK => ?_
              refine sl hK (by decide) rfl rfl (r_ibin hK rfl rfl rfl) fun a hK => ?_
              refine sl hK (by decide) rfl rfl (r_assign hK rfl) fun a hK => ?_
              refine wpList_nil ?_
              exact ⟨_, Nat.lt_succ_self _, (IntKind.i64.wrap (x_45 + 1)), H, hK.sub (all_cons rfl (all_cons rfl (all_nil))), hS⟩
        · rw [ifb_f hb_73] at H
          refine wp_exit ?_
          refine wp_seq ?_
          refine wp_region_lit ?_
          refine sl hK (by decide) rfl rfl (r_assign hK rfl) fun a hK => ?_
          refine wpList_nil ?_
          obtain rfl := Option.some.inj H
          refine wp_ret ?_
          repeat (first | refine ret_then ?_ | refine ret_block ?_ | refine ret_scope ?_)
          exact ret_1 Try.results60 hK (rv_tmp hK rfl) ⟨rfl, hS.bel⟩

/-! ### catchment/catchmentref02.Cols: function 41 -/
set_option maxHeartbeats 4000000 in
set_option maxRecDepth 100000 in
theorem ref02_Cols.calls (a0 : List api_Col) {w0 : World} {RA : Hp} {v0_0 : Value} (hRA : RA.sub w0) (h0_0 : SlR ty_api_Col RA v0_0 a0) {r : Bool} (H : ref02_Cols a0 = some r) : CallsV Try.prog 41 #[v0_0] w0 (.bool r) := by
  unfold ref02_Cols at H
  refine enter (args := [v0_0]) Try.func41 rfl Try.ntmps41 rfl fun a hK => ?_
  have hS := St.init (R := fun _ => none) (w := w0) (fun _ _ h => by cases h)
  have hRL := RLe.refl (M := []) w0 (fun _ => none)
  refine wp_seq ?_
  refine wp_region_lit ?_
  refine sl hK (by decide) rfl rfl (r_assign hK rfl) fun a hK => ?_
  refine wpList_nil ?_
  refine wp_seq ?_
  refine wp_seq ?_
  refine wp_mid (fun a w => ∃ (x_2 : Bool), ref02_Cols.j0 a0 x_2 = some r ∧ Kn 52 a [(0, v0_0), (11, .bool x_2)] ∧ St [] w0 w (fun _ => none) []) ?_ ?_
  · refine wp_region_lit ?_
    refine sl hK (by decide) rfl rfl (r_move hK rfl) fun a hK => ?_
    refine sl hK (by decide) rfl rfl (r_len_R Try.underlying25 h0_0 hK rfl) fun a hK => ?_
    refine sl hK (by decide) rfl rfl (r_ibin hK rfl rfl rfl) fun a hK => ?_
    refine sl hK (by decide) rfl rfl (r_move hK rfl) fun a hK => ?_
    rcases or_b (decide ((a0.length : Int) < 1)) with hb_4 | hb_4
    · rw [ifb_t hb_4] at H
      refine sl_skip hK (by decide) (wft hb_4) rfl fun a hK => ?_
      refine sl_skip hK (by decide) (wft hb_4) rfl fun a hK => ?_
      refine sl_skip hK (by decide) (wft hb_4) rfl fun a hK => ?_
      refine sl hK (by decide) rfl rfl (r_pick_t hb_4 hK rfl rfl) fun a hK => ?_
      refine wpList_nil ?_
      exact ⟨true, H, hK.sub (all_cons rfl (all_cons rfl (all_nil))), hS⟩
    · rw [ifb_f hb_4] at H
      refine sl hK (by decide) (wff hb_4) rfl (r_move hK rfl) fun a hK => ?_
      refine sl hK (by decide) (wff hb_4) rfl (r_len_R Try.underlying25 h0_0 hK rfl) fun a hK => ?_
      refine sl hK (by decide) (wff hb_4) rfl (r_ibin hK rfl rfl rfl) fun a hK => ?_
      refine sl hK (by decide) rfl rfl (r_pick_f hb_4 hK rfl rfl) fun a hK => ?_
      refine wpList_nil ?_
      exact ⟨(decide ((a0.length : Int) > 16)), H, hK.sub (all_cons rfl (all_cons rfl (all_nil))), hS⟩
  · rintro a w ⟨x_2, H, hK, hS⟩
    unfold ref02_Cols.j0 at H
    refine wp_cond_split (hK.ev rfl) (fun (hb_5 : x_2 = true) => ?_) (fun (hb_5 : x_2 = false) => ?_)
    · rw [ifb_t hb_5] at H
      refine wp_seq ?_
      refine wp_region_lit ?_
      refine sl hK (by decide) rfl rfl (r_assign hK rfl) fun a hK => ?_
      refine wpList_nil ?_
      obtain rfl := Option.some.inj H
      refine wp_ret ?_
      repeat (first | refine ret_then ?_ | refine ret_block ?_ | refine ret_scope ?_)
      exact ret_1 Try.results41 hK (rv_tmp hK rfl) ⟨rfl, hS.bel⟩
    · rw [ifb_f hb_5] at H
      refine wp_skip ?_
      refine wp_seq ?_
      refine wp_seq ?_
      refine wp_region_lit ?_
      refine sl hK (by decide) rfl rfl (r_assign hK rfl) fun a hK => ?_
      refine wpList_nil ?_
      refine wp_block ?_
      refine wp_loop_k (fun k_l1 a w => ∃ (x_97 : Int), ref02_Cols.l1 a0 k_l1 x_97 = some r ∧ Kn 52 a [(0, v0_0), (3, .int .i64 x_97)] ∧ St [] w0 w (fun _ => none) []) (((a0.length : Int) - 0).toNat + 1) ?_ ?_
      · exact ⟨0, H, hK.sub (all_cons rfl (all_cons rfl (all_nil))), hS⟩
      · rintro k_l1 a w ⟨x_97, H, hK, hS⟩
        cases k_l1 with
        | zero => cases H
        | succ k_l1 =>
        rw [ref02_Cols.l1.eq_2] at H
        refine wp_seq ?_
        refine wp_seq ?_
        refine wp_region_lit ?_
        refine sl hK (by decide) rfl rfl (r_move hK rfl) fun a hK => ?_
        refine sl hK (by decide) rfl rfl (r_move hK rfl) fun a hK => ?_
        refine sl hK (by decide) rfl rfl (r_len_R Try.underlying25 h0_0 hK rfl) fun a hK => ?_
        refine sl hK (by decide) rfl rfl (r_ibin hK rfl rfl rfl) fun a hK => ?_
        refine wpList_nil ?_
        refine wp_cond_split (hK.ev rfl) (fun (hb_189 : (decide (x_97 < (a0.length : Int))) = true) => ?_) (fun (hb_189 : (decide (x_97 < (a0.length : Int))) = false) => ?_)
        · rw [ifb_t hb_189] at H
          refine wp_skip ?_
          refine wp_seq ?_
          refine wp_block ?_
          refine wp_seq ?_
          refine wp_mid (fun a w => ∃ (x_233 : Bool), ref02_Cols.j2 (ref02_Cols.l1 a0 k_l1) a0 x_97 x_233 = some r ∧ Kn 52 a [(0, v0_0), (3, .int .i64 x_97), (51, .bool x_233)] ∧ St [] w0 w (fun _ => none) []) ?_ ?_
          · refine wp_region_lit ?_
            refine sl hK (by decide) rfl rfl (r_move hK rfl) fun a hK => ?_
            refine sl hK (by decide) rfl rfl (r_move hK rfl) fun a hK => ?_
            obtain ⟨y_235, h_236, H⟩ := bind_some H
            obtain ⟨b_237, o_238, c_239, cs_240, hv_241, hr_242, hc_243, h_2360, h_2361⟩ := h0_0.ix h_236
            subst hr_242
            refine sl hK (by decide) rfl rfl (r_indexAddr_R Try.underlying25 Try.sizeOf57 hv_241 h_2360 h_2361 hK rfl rfl) fun a hK => ?_
            refine sl hK (by decide) rfl rfl (r_fieldAddr Try.underlying57 rfl Try.sizeOf9 hK rfl) fun a hK => ?_
            refine sl hK (by decide) rfl rfl (r_load Try.isAgg9 hK rfl ((hS.ra hRA nil_not).cell (hc_243 0 _ rfl))) fun a hK => ?_
            obtain ⟨y_244, h_245, H⟩ := bind_some H
            refine sl_callV Try.call60 hS hK (by decide) rfl rfl rfl (ref02_Name.calls y_235.Name h_245 _) fun a w hS hK => ?_
            refine sl hK (by decide) rfl rfl (r_un hK rfl (u_not _)) fun a hK => ?_
            refine sl hK (by decide) rfl rfl (r_move hK rfl) fun a hK => ?_
            rcases or_b (!y_244) with hb_246 | hb_246
            · rw [ifb_t hb_246] at H
              refine sl_skip hK (by decide) (wft hb_246) rfl fun a hK => ?_
              refine sl_skip hK (by decide) (wft hb_246) rfl fun a hK => ?_
              refine sl_skip hK (by decide) (wft hb_246) rfl fun a hK => ?_
              refine sl_skip hK (by decide) (wft hb_246) rfl fun a hK => ?_
              refine sl_skip hK (by decide) (wft hb_246) rfl fun a hK => ?_
              refine sl_skip hK (by decide) (wft hb_246) rfl fun a hK => ?_
              refine sl_skip hK (by decide) (wft hb_246) rfl fun a hK => ?_
              refine sl_skip hK (by decide) (wft hb_246) rfl fun a hK => ?_
              refine sl_skip hK (by decide) (wft hb_246) rfl fun a hK => ?_
              refine sl hK (by decide) rfl rfl (r_pick_t hb_246 hK rfl rfl) fun a hK => ?_
              refine sl hK (by decide) rfl rfl (r_move hK rfl) fun a hK => ?_
              refine sl_skip hK (by decide) rfl rfl fun a hK => ?_
              refine sl_skip hK (by decide) rfl rfl fun a hK => ?_
              refine sl_skip hK (by decide) rfl rfl fun a hK => ?_
              refine sl_skip hK (by decide) rfl rfl fun a hK => ?_
              refine sl_skip hK (by decide) rfl rfl fun a hK => ?_
              refine sl_skip hK (by decide) rfl rfl fun a hK => ?_
              refine sl hK (by decide) rfl rfl (r_pick hK rfl rfl rfl) fun a hK => ?_
              refine sl hK (by decide) rfl rfl (r_move hK rfl) fun a hK => ?_
              refine sl_skip hK (by decide) rfl rfl fun a hK => ?_
              refine sl_skip hK (by decide) rfl rfl fun a hK => ?_
              refine sl_skip hK (by decide) rfl rfl fun a hK => ?_
              refine sl_skip hK (by decide) rfl rfl fun a hK => ?_
              refine sl_skip hK (by decide) rfl rfl fun a hK => ?_
              refine sl_skip hK (by decide) rfl rfl fun a hK => ?_
              refine sl hK (by decide) rfl rfl (r_pick hK rfl rfl rfl) fun a hK => ?_
              refine wpList_nil ?_
              exact ⟨true, H, hK.sub (all_cons rfl (all_cons rfl (all_cons rfl (all_nil)))), hS⟩
            · rw [ifb_f hb_246] at H
              refine sl hK (by decide) (wff hb_246) rfl (r_move hK rfl) fun a hK => ?_
              refine sl hK (by decide) (wff hb_246) rfl (r_move hK rfl) fun a hK => ?_
              refine sl hK (by decide) (wff hb_246) rfl (r_move hK rfl) fun a hK => ?_
              obtain ⟨y_247, h_248, H⟩ := bind_some H
              obtain ⟨b_249, o_250, c_251, cs_252, hv_253, hr_254, hc_255, h_2480, h_2481⟩ := h0_0.ix h_248
              subst hr_254
              refine sl hK (by decide) (wff hb_246) rfl (r_indexAddr_R Try.underlying25 Try.sizeOf57 hv_253 h_2480 h_2481 hK rfl rfl) fun a hK => ?_
              refine sl hK (by decide) (wff hb_246) rfl (r_fieldAddr Try.underlying57 rfl Try.sizeOf9 hK rfl) fun a hK => ?_
              refine sl hK (by decide) (wff hb_246) rfl (r_load Try.isAgg9 hK rfl ((hS.ra hRA nil_not).cell (hc_255 0 _ rfl))) fun a hK => ?_
              obtain ⟨y_256, h_257, H⟩ := bind_some H
              refine sl_callV Try.call30 hS hK (by decide) (wff hb_246) rfl rfl (ref02_Find.calls a0 y_247.Name (lentOf_sub [] _) (h0_0.mono (hS.raLe0 hRA nil_not)) h_257) fun a w hS hK => ?_
              refine sl hK (by decide) (wff hb_246) rfl (r_move hK rfl) fun a hK => ?_
              refine sl hK (by decide) (wff hb_246) rfl (r_ibin hK rfl rfl rfl) fun a hK => ?_
              refine sl hK (by decide) rfl rfl (r_pick_f hb_246 hK rfl rfl) fun a hK => ?_
              refine sl hK (by decide) rfl rfl (r_move hK rfl) fun a hK => ?_
              rcases or_b (y_256 != x_97) with hb_258 | hb_258
              · rw [ifb_t hb_258] at H
                refine sl_skip hK (by decide) (wft hb_258) rfl fun a hK => ?_
                refine sl_skip hK (by decide) (wft hb_258) rfl fun a hK => ?_
                refine sl_skip hK (by decide) (wft hb_258) rfl fun a hK => ?_
                refine sl_skip hK (by decide) (wft hb_258) rfl fun a hK => ?_
                refine sl_skip hK (by decide) (wft hb_258) rfl fun a hK => ?_
                refine sl_skip hK (by decide) (wft hb_258) rfl fun a hK => ?_
                refine sl hK (by decide) rfl rfl (r_pick_t hb_258 hK rfl rfl) fun a hK => ?_
                refine sl hK (by decide) rfl rfl (r_move hK rfl) fun a hK => ?_
                refine sl_skip hK (by decide) rfl rfl fun a hK => ?_
                refine sl_skip hK (by decide) rfl rfl fun a hK => ?_
                refine sl_skip hK (by decide) rfl rfl fun a hK => ?_
                refine sl_skip hK (by decide) rfl rfl fun a hK => ?_
                refine sl_skip hK (by decide) rfl rfl fun a hK => ?_
                refine sl_skip hK (by decide) rfl rfl fun a hK => ?_
                refine sl hK (by decide) rfl rfl (r_pick hK rfl rfl rfl) fun a hK => ?_
                refine wpList_nil ?_
                exact ⟨true, H, hK.sub (all_cons rfl (all_cons rfl (all_cons rfl (all_nil)))), hS⟩
              · rw [ifb_f hb_258] at H
                refine sl hK (by decide) (wff hb_258) rfl (r_move hK rfl) fun a hK => ?_
                refine sl hK (by decide) (wff hb_258) rfl (r_move hK rfl) fun a hK => ?_
                obtain ⟨y_259, h_260, H⟩ := bind_some H
                obtain ⟨b_261, o_262, c_263, cs_264, hv_265, hr_266, hc_267, h_2600, h_2601⟩ := h0_0.ix h_260
                subst hr_266
                refine sl hK (by decide) (wff hb_258) rfl (r_indexAddr_R Try.underlying25 Try.sizeOf57 hv_265 h_2600 h_2601 hK rfl rfl) fun a hK => ?_
                refine sl hK (by decide) (wff hb_258) rfl (r_fieldAddr Try.underlying57 rfl Try.sizeOf3 hK rfl) fun a hK => ?_
                refine sl hK (by decide) (wff hb_258) rfl (r_load Try.isAgg3 hK rfl ((hS.ra hRA nil_not).cell (hc_267 1 _ rfl))) fun a hK => ?_
                refine sl hK (by decide) (wff hb_258) rfl (r_ibin hK rfl rfl rfl) fun a hK => ?_
                refine sl hK (by decide) rfl rfl (r_pick_f hb_258 hK rfl rfl) fun a hK => ?_
                refine sl hK (by decide) rfl rfl (r_move hK rfl) fun a hK => ?_
                rcases or_b (decide (y_259.Kind < 1)) with hb_268 | hb_268
                · rw [ifb_t hb_268] at H
                  refine sl_skip hK (by decide) (wft hb_268) rfl fun a hK => ?_
                  refine sl_skip hK (by decide) (wft hb_268) rfl fun a hK => ?_
                  refine sl_skip hK (by decide) (wft hb_268) rfl fun a hK => ?_
                  refine sl_skip hK (by decide) (wft hb_268) rfl fun a hK => ?_
                  refine sl_skip hK (by decide) (wft hb_268) rfl fun a hK => ?_
                  refine sl_skip hK (by decide) (wft hb_268) rfl fun a hK => ?_
                  refine sl hK (by decide) rfl rfl (r_pick_t hb_268 hK rfl rfl) fun a hK => ?_
                  refine wpList_nil ?_
                  exact ⟨true, H, hK.sub (all_cons rfl (all_cons rfl (all_cons rfl (all_nil)))), hS⟩
                · rw [ifb_f hb_268] at H
                  refine sl hK (by decide) (wff hb_268) rfl (r_move hK rfl) fun a hK => ?_
                  refine sl hK (by decide) (wff hb_268) rfl (r_move hK rfl) fun a hK => ?_
                  obtain ⟨y_269, h_270, H⟩ := bind_some H
                  obtain ⟨b_271, o_272, c_273, cs_274, hv_275, hr_276, hc_277, h_2700, h_2701⟩ := h0_0.ix h_270
                  subst hr_276
                  refine sl hK (by decide) (wff hb_268) rfl (r_indexAddr_R Try.underlying25 Try.sizeOf57 hv_275 h_2700 h_2701 hK rfl rfl) fun a hK => ?_
                  refine sl hK (by decide) (wff hb_268) rfl (r_fieldAddr Try.underlying57 rfl Try.sizeOf3 hK rfl) fun a hK => ?_
                  refine sl hK (by decide) (wff hb_268) rfl (r_load Try.isAgg3 hK rfl ((hS.ra hRA nil_not).cell (hc_277 1 _ rfl))) fun a hK => ?_
                  refine sl hK (by decide) (wff hb_268) rfl (r_ibin hK rfl rfl rfl) fun a hK => ?_
                  refine sl hK (by decide) rfl rfl (r_pick_f hb_268 hK rfl rfl) fun a hK => ?_
                  refine wpList_nil ?_
                  exact ⟨(decide (y_269.Kind > 4)), H, hK.sub (all_cons rfl (all_cons rfl (all_cons rfl (all_nil)))), hS⟩
          · rintro a w ⟨x_233, H, hK, hS⟩
            unfold ref02_Cols.j2 at H
            refine wp_cond_split (hK.ev rfl) (fun (hb_278 : x_233 = true) => ?_) (fun (hb_278 : x_233 = false) => ?_)
            · rw [ifb_t hb_278] at H
              refine wp_seq ?_
              refine wp_region_lit ?_
              refine sl hK (by decide) rfl rfl (r_assign hK rfl) fun a hK => ?_
              refine wpList_nil ?_
              obtain rfl := Option.some.inj H
              refine wp_ret ?_
              repeat (first | refine ret_then ?_ | refine ret_block ?_ | refine ret_scope ?_)
              exact ret_1 Try.results41 hK (rv_tmp hK rfl) ⟨rfl, hS.bel⟩
            · rw [ifb_f hb_278] at H
              refine wp_skip ?_
              refine wp_region_lit ?_
              refine sl hK (by decide) rfl rfl (r_move hK rfl) fun a hK => ?_
              refine sl hK (by decide) rfl rfl (r_ibin hK rfl rfl rfl) fun a hK => ?_
              refine sl hK (by decide) rfl rfl (r_assign hK rfl) fun a hK => ?_
              refine wpList_nil ?_
              exact ⟨_, Nat.lt_succ_self _, (IntKind.i64.wrap (x_97 + 1)), H, hK.sub (all_cons rfl (all_cons rfl (all_nil))), hS⟩
        · rw [ifb_f hb_189] at H
          refine wp_exit ?_
          refine wp_seq ?_
          refine wp_region_lit ?_
          refine sl hK (by decide) rfl rfl (r_assign hK rfl) fun a hK => ?_
          refine wpList_nil ?_
          obtain rfl := Option.some.inj H
          refine wp_ret ?_
          repeat (first | refine ret_then ?_ | refine ret_block ?_ | refine ret_scope ?_)
          exact ret_1 Try.results41 hK (rv_tmp hK rfl) ⟨rfl, hS.bel⟩

/-! ### catchment/catchmentref01.Valid: function 42 -/
set_option maxHeartbeats 4000000 in
set_option maxRecDepth 100000 in
theorem ref01_Valid.calls (a0 : api_Value) {r : Bool} (H : ref01_Valid a0 = some r) (w0 : World) : CallsV Try.prog 42 #[.agg #[.int .i64 a0.Kind, .int .i64 a0.N, .string a0.S, .int .i64 a0.H.a0, .int .i64 a0.H.a1, .int .i64 a0.H.a2, .int .i64 a0.H.a3, .int .i64 a0.H.a4, .int .i64 a0.H.a5, .int .i64 a0.H.a6, .int .i64 a0.H.a7]] w0 (.bool r) := by
  unfold ref01_Valid at H
  refine enter (args := [.agg #[.int .i64 a0.Kind, .int .i64 a0.N, .string a0.S, .int .i64 a0.H.a0, .int .i64 a0.H.a1, .int .i64 a0.H.a2, .int .i64 a0.H.a3, .int .i64 a0.H.a4, .int .i64 a0.H.a5, .int .i64 a0.H.a6, .int .i64 a0.H.a7]]) Try.func42 rfl Try.ntmps42 rfl fun a hK => ?_
  have hS := St.init (R := fun _ => none) (w := w0) (fun _ _ h => by cases h)
  have hRL := RLe.refl (M := []) w0 (fun _ => none)
  refine wp_seq ?_
  refine wp_region_lit ?_
  refine sl_box hS hK (by decide) rfl rfl (c := [.int .i64 a0.Kind, .int .i64 a0.N, .string a0.S, .int .i64 a0.H.a0, .int .i64 a0.H.a1, .int .i64 a0.H.a2, .int .i64 a0.H.a3, .int .i64 a0.H.a4, .int .i64 a0.H.a5, .int .i64 a0.H.a6, .int .i64 a0.H.a7]) rfl fun a w b_1 hS hK => ?_
  refine sl hK (by decide) rfl rfl (r_assign hK rfl) fun a hK => ?_
  refine wpList_nil ?_
  refine wp_seq ?_
  refine wp_region_lit ?_
  refine sl hK (by decide) rfl rfl (r_fieldAddr Try.underlying39 rfl Try.sizeOf37 hK rfl) fun a hK => ?_
  refine sl hK (by decide) rfl rfl (r_loadA (cs := [.int .i64 a0.H.a0, .int .i64 a0.H.a1, .int .i64 a0.H.a2, .int .i64 a0.H.a3, .int .i64 a0.H.a4, .int .i64 a0.H.a5, .int .i64 a0.H.a6, .int .i64 a0.H.a7]) Try.isAgg37 Try.sizeOf37 rfl hK rfl (hS.cells_of (m := 8) (.head _) rfl)) fun a hK => ?_
  refine sl hK (by decide) rfl rfl (r_buildAC (ps := []) (c := [.int .i64 0, .int .i64 0, .int .i64 0, .int .i64 0, .int .i64 0, .int .i64 0, .int .i64 0, .int .i64 0]) Try.underlying37 Try.zeroValue37 Try.sizeOf3 hK rfl pc_nil rfl rfl) fun a hK => ?_
  refine sl hK (by decide) rfl rfl (r_seq (by kernel_rfl) (eqs37 a0.H (⟨0, 0, 0, 0, 0, 0, 0, 0⟩ : Arr8)) hK rfl rfl) fun a hK => ?_
  refine sl hK (by decide) rfl rfl (r_assign hK rfl) fun a hK => ?_
  refine wpList_nil ?_
  refine wp_seq ?_
  refine wp_seq ?_
  refine wp_region_lit ?_
  refine sl hK (by decide) rfl rfl (r_fieldAddr Try.underlying39 rfl Try.sizeOf3 hK rfl) fun a hK => ?_
  refine sl hK (by decide) rfl rfl (r_load Try.isAgg3 hK rfl (hS.cell (.head _) rfl)) fun a hK => ?_
  refine wpList_nil ?_
  refine wp_block ?_
  refine wp_seq ?_
  refine wp_region_lit ?_
  refine sl hK (by decide) rfl rfl (r_ibin hK rfl rfl rfl) fun a hK => ?_
  refine sl hK (by decide) rfl rfl (r_assign hK rfl) fun a hK => ?_
  refine wpList_nil ?_
  refine wp_cond_split (hK.ev rfl) (fun (hb_2 : (a0.Kind == 1) = true) => ?_) (fun (hb_2 : (a0.Kind == 1) = false) => ?_)
  · rw [ifb_t hb_2] at H
    refine wp_seq ?_
    refine wp_region_lit ?_
    refine sl hK (by decide) rfl rfl (r_fieldAddr Try.underlying39 rfl Try.sizeOf9 hK rfl) fun a hK => ?_
    refine sl hK (by decide) rfl rfl (r_load Try.isAgg9 hK rfl (hS.cell (.head _) rfl)) fun a hK => ?_
    refine sl hK (by decide) rfl rfl (r_sbin hK rfl rfl rfl) fun a hK => ?_
    refine sl hK (by decide) rfl rfl (r_move hK rfl) fun a hK => ?_
    rcases or_b (a0.S.toList == (⟨#[]⟩ : ByteArray).toList) with hb_3 | hb_3
    · rw [ifb_t hb_3] at H
      refine sl hK (by decide) (wtt hb_3) rfl (r_move hK rfl) fun a hK => ?_
      refine sl hK (by decide) rfl rfl (r_pick_t hb_3 hK rfl rfl) fun a hK => ?_
      refine sl hK (by decide) rfl rfl (r_assign hK rfl) fun a hK => ?_
      refine wpList_nil ?_
      obtain rfl := Option.some.inj H
      refine wp_ret ?_
      repeat (first | refine ret_then ?_ | refine ret_block ?_ | refine ret_scope ?_)
      exact ret_1 Try.results42 hK (rv_tmp hK rfl) ⟨rfl, hS.bel⟩
    · rw [ifb_f hb_3] at H
      refine sl_skip hK (by decide) (wtf hb_3) rfl fun a hK => ?_
      refine sl hK (by decide) rfl rfl (r_pick_f hb_3 hK rfl rfl) fun a hK => ?_
      refine sl hK (by decide) rfl rfl (r_assign hK rfl) fun a hK => ?_
      refine wpList_nil ?_
      obtain rfl := Option.some.inj H
      refine wp_ret ?_
      repeat (first | refine ret_then ?_ | refine ret_block ?_ | refine ret_scope ?_)
      exact ret_1 Try.results42 hK (rv_tmp hK rfl) ⟨rfl, hS.bel⟩
  · rw [ifb_f hb_2] at H
    refine wp_seq ?_
    refine wp_region_lit ?_
    refine sl hK (by decide) rfl rfl (r_ibin hK rfl rfl rfl) fun a hK => ?_
    refine sl hK (by decide) rfl rfl (r_assign hK rfl) fun a hK => ?_
    refine wpList_nil ?_
    refine wp_cond_split (hK.ev rfl) (fun (hb_4 : (a0.Kind == 2) = true) => ?_) (fun (hb_4 : (a0.Kind == 2) = false) => ?_)
    · rw [ifb_t hb_4] at H
      refine wp_seq ?_
      refine wp_region_lit ?_
      refine sl hK (by decide) rfl rfl (r_fieldAddr Try.underlying39 rfl Try.sizeOf3 hK rfl) fun a hK => ?_
      refine sl hK (by decide) rfl rfl (r_load Try.isAgg3 hK rfl (hS.cell (.head _) rfl)) fun a hK => ?_
      refine sl hK (by decide) rfl rfl (r_ibin hK rfl rfl rfl) fun a hK => ?_
      refine sl hK (by decide) rfl rfl (r_move hK rfl) fun a hK => ?_
      rcases or_b (a0.N == 0) with hb_5 | hb_5
      · rw [ifb_t hb_5] at H
        refine sl hK (by decide) (wtt hb_5) rfl (r_move hK rfl) fun a hK => ?_
        refine sl hK (by decide) rfl rfl (r_pick_t hb_5 hK rfl rfl) fun a hK => ?_
        refine sl hK (by decide) rfl rfl (r_move hK rfl) fun a hK => ?_
        rcases or_b (decide (a0.H = (⟨0, 0, 0, 0, 0, 0, 0, 0⟩ : Arr8))) with hb_6 | hb_6
        · rw [ifb_t hb_6] at H
          refine sl hK (by decide) (wtt hb_6) rfl (r_fieldAddr Try.underlying39 rfl Try.sizeOf9 hK rfl) fun a hK => ?_
          refine sl hK (by decide) (wtt hb_6) rfl (r_load Try.isAgg9 hK rfl (hS.cell (.head _) rfl)) fun a hK => ?_
          refine sl hK (by decide) (wtt hb_6) rfl (r_len_str Try.underlying9 hK rfl) fun a hK => ?_
          refine sl hK (by decide) (wtt hb_6) rfl (r_ibin hK rfl rfl rfl) fun a hK => ?_
          refine sl hK (by decide) rfl rfl (r_pick_t hb_6 hK rfl rfl) fun a hK => ?_
          refine sl hK (by decide) rfl rfl (r_assign hK rfl) fun a hK => ?_
          refine wpList_nil ?_
          obtain rfl := Option.some.inj H
          refine wp_ret ?_
          repeat (first | refine ret_then ?_ | refine ret_block ?_ | refine ret_scope ?_)
          exact ret_1 Try.results42 hK (rv_tmp hK rfl) ⟨rfl, hS.bel⟩
        · rw [ifb_f hb_6] at H
          refine sl_skip hK (by decide) (wtf hb_6) rfl fun a hK => ?_
          refine sl_skip hK (by decide) (wtf hb_6) rfl fun a hK => ?_
          refine sl_skip hK (by decide) (wtf hb_6) rfl fun a hK => ?_
          refine sl_skip hK (by decide) (wtf hb_6) rfl fun a hK => ?_
          refine sl hK (by decide) rfl rfl (r_pick_f hb_6 hK rfl rfl) fun a hK => ?_
          refine sl hK (by decide) rfl rfl (r_assign hK rfl) fun a hK => ?_
          refine wpList_nil ?_
          obtain rfl := Option.some.inj H
          refine wp_ret ?_
          repeat (first | refine ret_then ?_ | refine ret_block ?_ | refine ret_scope ?_)
          exact ret_1 Try.results42 hK (rv_tmp hK rfl) ⟨rfl, hS.bel⟩
      · rw [ifb_f hb_5] at H
        refine sl_skip hK (by decide) (wtf hb_5) rfl fun a hK => ?_
        refine sl hK (by decide) rfl rfl (r_pick_f hb_5 hK rfl rfl) fun a hK => ?_
        refine sl hK (by decide) rfl rfl (r_move hK rfl) fun a hK => ?_
        refine sl_skip hK (by decide) rfl rfl fun a hK => ?_
        refine sl_skip hK (by decide) rfl rfl fun a hK => ?_
        refine sl_skip hK (by decide) rfl rfl fun a hK => ?_
        refine sl_skip hK (by decide) rfl rfl fun a hK => ?_
        refine sl hK (by decide) rfl rfl (r_pick hK rfl rfl rfl) fun a hK => ?_
        refine sl hK (by decide) rfl rfl (r_assign hK rfl) fun a hK => ?_
        refine wpList_nil ?_
        obtain rfl := Option.some.inj H
        refine wp_ret ?_
        repeat (first | refine ret_then ?_ | refine ret_block ?_ | refine ret_scope ?_)
        exact ret_1 Try.results42 hK (rv_tmp hK rfl) ⟨rfl, hS.bel⟩
    · rw [ifb_f hb_4] at H
      refine wp_seq ?_
      refine wp_region_lit ?_
      refine sl hK (by decide) rfl rfl (r_ibin hK rfl rfl rfl) fun a hK => ?_
      refine sl hK (by decide) rfl rfl (r_assign hK rfl) fun a hK => ?_
      refine wpList_nil ?_
      refine wp_cond_split (hK.ev rfl) (fun (hb_7 : (a0.Kind == 3) = true) => ?_) (fun (hb_7 : (a0.Kind == 3) = false) => ?_)
      · rw [ifb_t hb_7] at H
        refine wp_seq ?_
        refine wp_region_lit ?_
        refine sl hK (by decide) rfl rfl (r_fieldAddr Try.underlying39 rfl Try.sizeOf3 hK rfl) fun a hK => ?_
        refine sl hK (by decide) rfl rfl (r_load Try.isAgg3 hK rfl (hS.cell (.head _) rfl)) fun a hK => ?_
        refine sl hK (by decide) rfl rfl (r_ibin hK rfl rfl rfl) fun a hK => ?_
        refine sl hK (by decide) rfl rfl (r_move hK rfl) fun a hK => ?_
        rcases or_b (a0.N == 0) with hb_8 | hb_8
        · rw [ifb_t hb_8] at H
          refine sl_skip hK (by decide) (wft hb_8) rfl fun a hK => ?_
          refine sl_skip hK (by decide) (wft hb_8) rfl fun a hK => ?_
          refine sl_skip hK (by decide) (wft hb_8) rfl fun a hK => ?_
          refine sl hK (by decide) rfl rfl (r_pick_t hb_8 hK rfl rfl) fun a hK => ?_
          refine sl hK (by decide) rfl rfl (r_move hK rfl) fun a hK => ?_
          refine sl hK (by decide) rfl rfl (r_fieldAddr Try.underlying39 rfl Try.sizeOf9 hK rfl) fun a hK => ?_
          refine sl hK (by decide) rfl rfl (r_load Try.isAgg9 hK rfl (hS.cell (.head _) rfl)) fun a hK => ?_
          refine sl hK (by decide) rfl rfl (r_sbin hK rfl rfl rfl) fun a hK => ?_
          refine sl hK (by decide) rfl rfl (r_pick hK rfl rfl rfl) fun a hK => ?_
          refine sl hK (by decide) rfl rfl (r_move hK rfl) fun a hK => ?_
          rcases or_b (a0.S.toList == (⟨#[]⟩ : ByteArray).toList) with hb_9 | hb_9
          · rw [ifb_t hb_9] at H
            refine sl hK (by decide) (wtt hb_9) rfl (r_move hK rfl) fun a hK => ?_
            refine sl hK (by decide) rfl rfl (r_pick_t hb_9 hK rfl rfl) fun a hK => ?_
            refine sl hK (by decide) rfl rfl (r_assign hK rfl) fun a hK => ?_
            refine wpList_nil ?_
            obtain rfl := Option.some.inj H
            refine wp_ret ?_
            repeat (first | refine ret_then ?_ | refine ret_block ?_ | refine ret_scope ?_)
            exact ret_1 Try.results42 hK (rv_tmp hK rfl) ⟨rfl, hS.bel⟩
          · rw [ifb_f hb_9] at H
            refine sl_skip hK (by decide) (wtf hb_9) rfl fun a hK => ?_
            refine sl hK (by decide) rfl rfl (r_pick_f hb_9 hK rfl rfl) fun a hK => ?_
            refine sl hK (by decide) rfl rfl (r_assign hK rfl) fun a hK => ?_
            refine wpList_nil ?_
            obtain rfl := Option.some.inj H
            refine wp_ret ?_
            repeat (first | refine ret_then ?_ | refine ret_block ?_ | refine ret_scope ?_)
            exact ret_1 Try.results42 hK (rv_tmp hK rfl) ⟨rfl, hS.bel⟩
        · rw [ifb_f hb_8] at H
          refine sl hK (by decide) (wff hb_8) rfl (r_fieldAddr Try.underlying39 rfl Try.sizeOf3 hK rfl) fun a hK => ?_
          refine sl hK (by decide) (wff hb_8) rfl (r_load Try.isAgg3 hK rfl (hS.cell (.head _) rfl)) fun a hK => ?_
          refine sl hK (by decide) (wff hb_8) rfl (r_ibin hK rfl rfl rfl) fun a hK => ?_
          refine sl hK (by decide) rfl rfl (r_pick_f hb_8 hK rfl rfl) fun a hK => ?_
          refine sl hK (by decide) rfl rfl (r_move hK rfl) fun a hK => ?_
          rcases or_b (a0.N == 1) with hb_10 | hb_10
          · rw [ifb_t hb_10] at H
            refine sl hK (by decide) (wtt hb_10) rfl (r_fieldAddr Try.underlying39 rfl Try.sizeOf9 hK rfl) fun a hK => ?_
            refine sl hK (by decide) (wtt hb_10) rfl (r_load Try.isAgg9 hK rfl (hS.cell (.head _) rfl)) fun a hK => ?_
            refine sl hK (by decide) (wtt hb_10) rfl (r_sbin hK rfl rfl rfl) fun a hK => ?_
            refine sl hK (by decide) rfl rfl (r_pick_t hb_10 hK rfl rfl) fun a hK => ?_
            refine sl hK (by decide) rfl rfl (r_move hK rfl) fun a hK => ?_
            rcases or_b (a0.S.toList == (⟨#[]⟩ : ByteArray).toList) with hb_11 | hb_11
            · rw [ifb_t hb_11] at H
              refine sl hK (by decide) (wtt hb_11) rfl (r_move hK rfl) fun a hK => ?_
              refine sl hK (by decide) rfl rfl (r_pick_t hb_11 hK rfl rfl) fun a hK => ?_
              refine sl hK (by decide) rfl rfl (r_assign hK rfl) fun a hK => ?_
              refine wpList_nil ?_
              obtain rfl := Option.some.inj H
              refine wp_ret ?_
              repeat (first | refine ret_then ?_ | refine ret_block ?_ | refine ret_scope ?_)
              exact ret_1 Try.results42 hK (rv_tmp hK rfl) ⟨rfl, hS.bel⟩
            · rw [ifb_f hb_11] at H
              refine sl_skip hK (by decide) (wtf hb_11) rfl fun a hK => ?_
              refine sl hK (by decide) rfl rfl (r_pick_f hb_11 hK rfl rfl) fun a hK => ?_
              refine sl hK (by decide) rfl rfl (r_assign hK rfl) fun a hK => ?_
              refine wpList_nil ?_
              obtain rfl := Option.some.inj H
              refine wp_ret ?_
              repeat (first | refine ret_then ?_ | refine ret_block ?_ | refine ret_scope ?_)
              exact ret_1 Try.results42 hK (rv_tmp hK rfl) ⟨rfl, hS.bel⟩
          · rw [ifb_f hb_10] at H
            refine sl_skip hK (by decide) (wtf hb_10) rfl fun a hK => ?_
            refine sl_skip hK (by decide) (wtf hb_10) rfl fun a hK => ?_
            refine sl_skip hK (by decide) (wtf hb_10) rfl fun a hK => ?_
            refine sl hK (by decide) rfl rfl (r_pick_f hb_10 hK rfl rfl) fun a hK => ?_
            refine sl hK (by decide) rfl rfl (r_move hK rfl) fun a hK => ?_
            refine sl_skip hK (by decide) rfl rfl fun a hK => ?_
            refine sl hK (by decide) rfl rfl (r_pick hK rfl rfl rfl) fun a hK => ?_
            refine sl hK (by decide) rfl rfl (r_assign hK rfl) fun a hK => ?_
            refine wpList_nil ?_
            obtain rfl := Option.some.inj H
            refine wp_ret ?_
            repeat (first | refine ret_then ?_ | refine ret_block ?_ | refine ret_scope ?_)
            exact ret_1 Try.results42 hK (rv_tmp hK rfl) ⟨rfl, hS.bel⟩
      · rw [ifb_f hb_7] at H
        refine wp_seq ?_
        refine wp_region_lit ?_
        refine sl hK (by decide) rfl rfl (r_ibin hK rfl rfl rfl) fun a hK => ?_
        refine sl hK (by decide) rfl rfl (r_assign hK rfl) fun a hK => ?_
        refine wpList_nil ?_
        refine wp_cond_split (hK.ev rfl) (fun (hb_12 : (a0.Kind == 4) = true) => ?_) (fun (hb_12 : (a0.Kind == 4) = false) => ?_)
        · rw [ifb_t hb_12] at H
          refine wp_seq ?_
          refine wp_region_lit ?_
          refine sl hK (by decide) rfl rfl (r_fieldAddr Try.underlying39 rfl Try.sizeOf3 hK rfl) fun a hK => ?_
          refine sl hK (by decide) rfl rfl (r_load Try.isAgg3 hK rfl (hS.cell (.head _) rfl)) fun a hK => ?_
          refine sl hK (by decide) rfl rfl (r_ibin hK rfl rfl rfl) fun a hK => ?_
          refine sl hK (by decide) rfl rfl (r_move hK rfl) fun a hK => ?_
          rcases or_b (a0.N == 0) with hb_13 | hb_13
          · rw [ifb_t hb_13] at H
            refine sl hK (by decide) (wtt hb_13) rfl (r_fieldAddr Try.underlying39 rfl Try.sizeOf9 hK rfl) fun a hK => ?_
            refine sl hK (by decide) (wtt hb_13) rfl (r_load Try.isAgg9 hK rfl (hS.cell (.head _) rfl)) fun a hK => ?_
            refine sl hK (by decide) (wtt hb_13) rfl (r_sbin hK rfl rfl rfl) fun a hK => ?_
            refine sl hK (by decide) rfl rfl (r_pick_t hb_13 hK rfl rfl) fun a hK => ?_
            refine sl hK (by decide) rfl rfl (r_assign hK rfl) fun a hK => ?_
            refine wpList_nil ?_
            obtain rfl := Option.some.inj H
            refine wp_ret ?_
            repeat (first | refine ret_then ?_ | refine ret_block ?_ | refine ret_scope ?_)
            exact ret_1 Try.results42 hK (rv_tmp hK rfl) ⟨rfl, hS.bel⟩
          · rw [ifb_f hb_13] at H
            refine sl_skip hK (by decide) (wtf hb_13) rfl fun a hK => ?_
            refine sl_skip hK (by decide) (wtf hb_13) rfl fun a hK => ?_
            refine sl_skip hK (by decide) (wtf hb_13) rfl fun a hK => ?_
            refine sl hK (by decide) rfl rfl (r_pick_f hb_13 hK rfl rfl) fun a hK => ?_
            refine sl hK (by decide) rfl rfl (r_assign hK rfl) fun a hK => ?_
            refine wpList_nil ?_
            obtain rfl := Option.some.inj H
            refine wp_ret ?_
            repeat (first | refine ret_then ?_ | refine ret_block ?_ | refine ret_scope ?_)
            exact ret_1 Try.results42 hK (rv_tmp hK rfl) ⟨rfl, hS.bel⟩
        · rw [ifb_f hb_12] at H
          refine wp_skip ?_
          refine wp_seq ?_
          refine wp_region_lit ?_
          refine sl hK (by decide) rfl rfl (r_assign hK rfl) fun a hK => ?_
          refine wpList_nil ?_
          obtain rfl := Option.some.inj H
          refine wp_ret ?_
          repeat (first | refine ret_then ?_ | refine ret_block ?_ | refine ret_scope ?_)
          exact ret_1 Try.results42 hK (rv_tmp hK rfl) ⟨rfl, hS.bel⟩

/-! ### catchment/catchmentref02.Check: function 21 -/
set_option maxHeartbeats 4000000 in
set_option maxRecDepth 100000 in
theorem ref02_Check.calls (a0 : api_Table) {w0 : World} {RA : Hp} {v0_0 : Value} {v0_1 : Value} (hRA : RA.sub w0) (h0_0 : SlR ty_api_Col RA v0_0 a0.Cols) (h0_1 : SlR (tySl ty_api_Value) RA v0_1 a0.Rows) {r : Int} (H : ref02_Check a0 = some r) : CallsV Try.prog 21 #[.agg #[v0_0, v0_1]] w0 (.int .i64 r) := by
  unfold ref02_Check at H
  refine enter (args := [.agg #[v0_0, v0_1]]) Try.func21 rfl Try.ntmps21 rfl fun a hK => ?_
  have hS := St.init (R := fun _ => none) (w := w0) (fun _ _ h => by cases h)
  have hRL := RLe.refl (M := []) w0 (fun _ => none)
  refine wp_seq ?_
  refine wp_region_lit ?_
  refine sl_box hS hK (by decide) rfl rfl (c := [v0_0, v0_1]) rfl fun a w b_1 hS hK => ?_
  refine sl hK (by decide) rfl rfl (r_assign hK rfl) fun a hK => ?_
  refine wpList_nil ?_
  refine wp_seq ?_
  refine wp_seq ?_
  refine wp_region_lit ?_
  refine sl hK (by decide) rfl rfl (r_fieldAddr Try.underlying28 rfl Try.sizeOf25 hK rfl) fun a hK => ?_
  refine sl hK (by decide) rfl rfl (r_load Try.isAgg25 hK rfl (hS.cell (.head _) rfl)) fun a hK => ?_
  obtain ⟨y_2, h_3, H⟩ := bind_some H
  refine sl_callV Try.call41 hS hK (by decide) rfl rfl rfl (ref02_Cols.calls a0.Cols (lentOf_sub [] _) (h0_0.mono (hS.raLe0 hRA nil_not)) h_3) fun a w hS hK => ?_
  refine sl hK (by decide) rfl rfl (r_un hK rfl (u_not _)) fun a hK => ?_
  refine wpList_nil ?_
  refine wp_cond_split (hK.ev rfl) (fun (hb_4 : (!y_2) = true) => ?_) (fun (hb_4 : (!y_2) = false) => ?_)
  · rw [ifb_t hb_4] at H
    refine wp_seq ?_
    refine wp_region_lit ?_
    refine sl hK (by decide) rfl rfl (r_assign hK rfl) fun a hK => ?_
    refine wpList_nil ?_
    obtain rfl := Option.some.inj H
    refine wp_ret ?_
    repeat (first | refine ret_then ?_ | refine ret_block ?_ | refine ret_scope ?_)
    exact ret_1 Try.results21 hK (rv_tmp hK rfl) ⟨rfl, hS.bel⟩
  · rw [ifb_f hb_4] at H
    refine wp_skip ?_
    refine wp_seq ?_
    refine wp_seq ?_
    refine wp_region_lit ?_
    refine sl hK (by decide) rfl rfl (r_assign hK rfl) fun a hK => ?_
    refine wpList_nil ?_
    refine wp_block ?_
    refine wp_loop_k (fun k_l0 a w => ∃ (x_669 : Int), ref02_Check.l0 a0 k_l0 x_669 = some r ∧ Kn 61 a [(1, .pointer (some ⟨b_1, 0, none⟩)), (3, .int .i64 x_669)] ∧ St [] w0 w (fun _ => none) [.cells b_1 [v0_0, v0_1] 28]) (((a0.Rows.length : Int) - 0).toNat + 1) ?_ ?_
    · exact ⟨0, H, hK.sub (all_cons rfl (all_cons rfl (all_nil))), hS⟩
    · rintro k_l0 a w ⟨x_669, H, hK, hS⟩
      cases k_l0 with
      | zero => cases H
      | succ k_l0 =>
      rw [ref02_Check.l0.eq_2] at H
      refine wp_seq ?_
      refine wp_seq ?_
      refine wp_region_lit ?_
      refine sl hK (by decide) rfl rfl (r_move hK rfl) fun a hK => ?_
      refine sl hK (by decide) rfl rfl (r_fieldAddr Try.underlying28 rfl Try.sizeOf26 hK rfl) fun a hK => ?_
      refine sl hK (by decide) rfl rfl (r_load Try.isAgg26 hK rfl (hS.cell (.head _) rfl)) fun a hK => ?_
      refine sl hK (by decide) rfl rfl (r_len_R Try.underlying26 h0_1 hK rfl) fun a hK => ?_
      refine sl hK (by decide) rfl rfl (r_ibin hK rfl rfl rfl) fun a hK => ?_
      refine wpList_nil ?_
      refine wp_cond_split (hK.ev rfl) (fun (hb_1334 : (decide (x_669 < (a0.Rows.length : Int))) = true) => ?_) (fun (hb_1334 : (decide (x_669 < (a0.Rows.length : Int))) = false) => ?_)
      · rw [ifb_t hb_1334] at H
        refine wp_skip ?_
        refine wp_seq ?_
        refine wp_block ?_
        refine wp_seq ?_
        refine wp_seq ?_
        refine par_region (C := fun w => St [] w0 w (fun _ => none) [.cells b_1 [v0_0, v0_1] 28]) [(0, true), (1, true), (2, true), (3, true), (4, true), (5, true), (6, true), (7, true), (8, true), (9, true)] mixed (by kernel_rfl) hS (fun w hS => hS) fun w hS => ?_
        refine sp (k := 0) rfl hK (by decide) rfl rfl (fun w hS => r_fieldAddr Try.underlying28 rfl Try.sizeOf26 hK rfl) fun a hK => ?_
        refine sp (k := 1) rfl hK (by decide) rfl rfl (fun w hS => r_load Try.isAgg26 hK rfl (hS.cell (.head _) rfl)) fun a hK => ?_
        refine sp (k := 2) rfl hK (by decide) rfl rfl (fun w hS => r_move hK rfl) fun a hK => ?_
        obtain ⟨y_1346, h_1347, H⟩ := bind_some H
        obtain ⟨b_1348, o_1349, c_1350, cs_1351, hv_1352, hr_1353, hc_1354, h_13470, h_13471⟩ := h0_1.ix h_1347
        obtain ⟨v_1355, rfl, hs_1356⟩ := hr_1353
        refine sp (k := 3) rfl hK (by decide) rfl rfl (fun w hS => r_indexAddr_R Try.underlying26 Try.sizeOf33 hv_1352 h_13470 h_13471 hK rfl rfl) fun a hK => ?_
        refine sp (k := 4) rfl hK (by decide) rfl rfl (fun w hS => r_load Try.isAgg33 hK rfl ((hS.ra hRA nil_not).cell (hc_1354 0 _ rfl))) fun a hK => ?_
        refine sp (k := 5) rfl hK (by decide) rfl rfl (fun w hS => r_len_R Try.underlying33 hs_1356 hK rfl) fun a hK => ?_
        refine sp (k := 6) rfl hK (by decide) rfl rfl (fun w hS => r_fieldAddr Try.underlying28 rfl Try.sizeOf25 hK rfl) fun a hK => ?_
        refine sp (k := 7) rfl hK (by decide) rfl rfl (fun w hS => r_load Try.isAgg25 hK rfl (hS.cell (.head _) rfl)) fun a hK => ?_
        refine sp (k := 8) rfl hK (by decide) rfl rfl (fun w hS => r_len_R Try.underlying25 h0_0 hK rfl) fun a hK => ?_
        refine sp (k := 9) rfl hK (by decide) rfl rfl (fun w hS => r_ibin hK rfl rfl rfl) fun a hK => ?_
        refine wpPar_nil (NoP_nil ?_)
        refine wp_cond_split (hK.ev rfl) (fun (hb_1357 : ((y_1346.length : Int) != (a0.Cols.length : Int)) = true) => ?_) (fun (hb_1357 : ((y_1346.length : Int) != (a0.Cols.length : Int)) = false) => ?_)
        · rw [ifb_t hb_1357] at H
          refine wp_seq ?_
          refine wp_region_lit ?_
          refine sl hK (by decide) rfl rfl (r_assign hK rfl) fun a hK => ?_
          refine wpList_nil ?_
          obtain rfl := Option.some.inj H
          refine wp_ret ?_
          repeat (first | refine ret_then ?_ | refine ret_block ?_ | refine ret_scope ?_)
          exact ret_1 Try.results21 hK (rv_tmp hK rfl) ⟨rfl, hS.bel⟩
        · rw [ifb_f hb_1357] at H
          refine wp_skip ?_
          refine wp_seq ?_
          refine wp_region_lit ?_
          refine sl hK (by decide) rfl rfl (r_assign hK rfl) fun a hK => ?_
          refine wpList_nil ?_
          refine wp_block ?_
          refine wp_loop_k (fun k_l1 a w => ∃ (x_1571 : Int), ref02_Check.l1 (ref02_Check.l0 a0 k_l0) a0 x_669 k_l1 x_1571 = some r ∧ Kn 61 a [(1, .pointer (some ⟨b_1, 0, none⟩)), (3, .int .i64 x_669), (4, .int .i64 x_1571)] ∧ St [] w0 w (fun _ => none) [.cells b_1 [v0_0, v0_1] 28]) (((a0.Cols.length : Int) - 0).toNat + 1) ?_ ?_
          · exact ⟨0, H, hK.sub (all_cons rfl (all_cons rfl (all_cons rfl (all_nil)))), hS⟩
          · rintro k_l1 a w ⟨x_1571, H, hK, hS⟩
            cases k_l1 with
            | zero => cases H
            | succ k_l1 =>
            rw [ref02_Check.l1.eq_2] at H
            refine wp_seq ?_
            refine wp_seq ?_
            refine wp_region_lit ?_
            refine sl hK (by decide) rfl rfl (r_move hK rfl) fun a hK => ?_
            refine sl hK (by decide) rfl rfl (r_fieldAddr Try.underlying28 rfl Try.sizeOf25 hK rfl) fun a hK => ?_
            refine sl hK (by decide) rfl rfl (r_load Try.isAgg25 hK rfl (hS.cell (.head _) rfl)) fun a hK => ?_
            refine sl hK (by decide) rfl rfl (r_len_R Try.underlying25 h0_0 hK rfl) fun a hK => ?_
            refine sl hK (by decide) rfl rfl (r_ibin hK rfl rfl rfl) fun a hK => ?_
            refine wpList_nil ?_
            refine wp_cond_split (hK.ev rfl) (fun (hb_1785 : (decide (x_1571 < (a0.Cols.length : Int))) = true) => ?_) (fun (hb_1785 : (decide (x_1571 < (a0.Cols.length : Int))) = false) => ?_)
            · rw [ifb_t hb_1785] at H
              refine wp_skip ?_
              refine wp_seq ?_
              refine wp_block ?_
              refine wp_seq ?_
              refine wp_mid (fun a w => ∃ (x_1890 : Bool), ref02_Check.j2 (ref02_Check.l1 (ref02_Check.l0 a0 k_l0) a0 x_669 k_l1) a0 x_1571 x_1890 = some r ∧ Kn 61 a [(1, .pointer (some ⟨b_1, 0, none⟩)), (3, .int .i64 x_669), (4, .int .i64 x_1571), (60, .bool x_1890)] ∧ St [] w0 w (fun _ => none) [.cells b_1 [v0_0, v0_1] 28]) ?_ ?_
              · refine parT_region (C := fun w => St [] w0 w (fun _ => none) [.cells b_1 [v0_0, v0_1] 28]) 23 [(0, true), (1, true), (2, true), (3, true), (4, true), (5, true), (6, true), (7, true), (8, true), (9, true), (10, true), (11, true), (12, true), (13, true), (14, true), (15, true), (16, true), (17, true), (18, true), (19, true), (20, true), (21, true), (22, true)] mixed (by kernel_rfl) hS (fun w hS => hS) fun w hS => ?_
                refine sp (k := 0) rfl hK (by decide) rfl rfl (fun w hS => r_fieldAddr Try.underlying28 rfl Try.sizeOf26 hK rfl) fun a hK => ?_
                refine sp (k := 1) rfl hK (by decide) rfl rfl (fun w hS => r_load Try.isAgg26 hK rfl (hS.cell (.head _) rfl)) fun a hK => ?_
                refine sp (k := 2) rfl hK (by decide) rfl rfl (fun w hS => r_move hK rfl) fun a hK => ?_
                obtain ⟨y_1944, h_1945, H⟩ := bind_some H
                obtain ⟨b_1946, o_1947, c_1948, cs_1949, hv_1950, hr_1951, hc_1952, h_19450, h_19451⟩ := h0_1.ix h_1945
                obtain ⟨v_1953, rfl, hs_1954⟩ := hr_1951
                refine sp (k := 3) rfl hK (by decide) rfl rfl (fun w hS => r_indexAddr_R Try.underlying26 Try.sizeOf33 hv_1950 h_19450 h_19451 hK rfl rfl) fun a hK => ?_
                refine sp (k := 4) rfl hK (by decide) rfl rfl (fun w hS => r_load Try.isAgg33 hK rfl ((hS.ra hRA nil_not).cell (hc_1952 0 _ rfl))) fun a hK => ?_
                refine sp (k := 5) rfl hK (by decide) rfl rfl (fun w hS => r_move hK rfl) fun a hK => ?_
                obtain ⟨y_1955, h_1956, H⟩ := bind_some H
                obtain ⟨b_1957, o_1958, c_1959, cs_1960, hv_1961, hr_1962, hc_1963, h_19560, h_19561⟩ := hs_1954.ix h_1956
                subst hr_1962
                refine sp (k := 6) rfl hK (by decide) rfl rfl (fun w hS => r_indexAddr_R Try.underlying33 Try.sizeOf39 hv_1961 h_19560 h_19561 hK rfl rfl) fun a hK => ?_
                refine sp (k := 7) rfl hK (by decide) rfl rfl (fun w hS => r_fieldAddr Try.underlying39 rfl Try.sizeOf3 hK rfl) fun a hK => ?_
                refine sp (k := 8) rfl hK (by decide) rfl rfl (fun w hS => r_load Try.isAgg3 hK rfl ((hS.ra hRA nil_not).cell (hc_1963 0 _ rfl))) fun a hK => ?_
                refine sp (k := 9) rfl hK (by decide) rfl rfl (fun w hS => r_fieldAddr Try.underlying28 rfl Try.sizeOf25 hK rfl) fun a hK => ?_
                refine sp (k := 10) rfl hK (by decide) rfl rfl (fun w hS => r_load Try.isAgg25 hK rfl (hS.cell (.head _) rfl)) fun a hK => ?_
                refine sp (k := 11) rfl hK (by decide) rfl rfl (fun w hS => r_move hK rfl) fun a hK => ?_
                obtain ⟨y_1964, h_1965, H⟩ := bind_some H
                obtain ⟨b_1966, o_1967, c_1968, cs_1969, hv_1970, hr_1971, hc_1972, h_19650, h_19651⟩ := h0_0.ix h_1965
                subst hr_1971
                refine sp (k := 12) rfl hK (by decide) rfl rfl (fun w hS => r_indexAddr_R Try.underlying25 Try.sizeOf57 hv_1970 h_19650 h_19651 hK rfl rfl) fun a hK => ?_
                refine sp (k := 13) rfl hK (by decide) rfl rfl (fun w hS => r_fieldAddr Try.underlying57 rfl Try.sizeOf3 hK rfl) fun a hK => ?_
                refine sp (k := 14) rfl hK (by decide) rfl rfl (fun w hS => r_load Try.isAgg3 hK rfl ((hS.ra hRA nil_not).cell (hc_1972 1 _ rfl))) fun a hK => ?_
                refine sp (k := 15) rfl hK (by decide) rfl rfl (fun w hS => r_ibin hK rfl rfl rfl) fun a hK => ?_
                refine sp (k := 16) rfl hK (by decide) rfl rfl (fun w hS => r_move hK rfl) fun a hK => ?_
                rcases or_b (y_1955.Kind != y_1964.Kind) with hb_1973 | hb_1973
                · rw [ifb_t hb_1973] at H
                  refine sp_skip (k := 17) rfl hK (by decide) (wft hb_1973) rfl fun a hK => ?_
                  refine sp_skip (k := 18) rfl hK (by decide) (wft hb_1973) rfl fun a hK => ?_
                  refine sp_skip (k := 19) rfl hK (by decide) (wft hb_1973) rfl fun a hK => ?_
                  refine sp_skip (k := 20) rfl hK (by decide) (wft hb_1973) rfl fun a hK => ?_
                  refine sp_skip (k := 21) rfl hK (by decide) (wft hb_1973) rfl fun a hK => ?_
                  refine sp_skip (k := 22) rfl hK (by decide) (wft hb_1973) rfl fun a hK => ?_
                  refine thenL_nil ?_
                  refine sl_skip hK (by decide) (wft hb_1973) rfl fun a hK => ?_
                  refine sl_skip hK (by decide) (wft hb_1973) rfl fun a hK => ?_
                  refine sl_skip hK (by decide) (wft hb_1973) rfl fun a hK => ?_
                  refine sl_skip hK (by decide) (wft hb_1973) rfl fun a hK => ?_
                  refine sl hK (by decide) rfl rfl (r_pick_t hb_1973 hK rfl rfl) fun a hK => ?_
                  refine wpList_nil (NoP_nil ?_)
                  exact ⟨true, H, hK.sub (all_cons rfl (all_cons rfl (all_cons rfl (all_cons rfl (all_nil))))), hS⟩
                · rw [ifb_f hb_1973] at H
                  refine sp (k := 17) rfl hK (by decide) (wff hb_1973) rfl (fun w hS => r_fieldAddr Try.underlying28 rfl Try.sizeOf26 hK rfl) fun a hK => ?_
                  refine sp (k := 18) rfl hK (by decide) (wff hb_1973) rfl (fun w hS => r_load Try.isAgg26 hK rfl (hS.cell (.head _) rfl)) fun a hK => ?_
                  refine sp (k := 19) rfl hK (by decide) (wff hb_1973) rfl (fun w hS => r_move hK rfl) fun a hK => ?_
                  obtain ⟨y_1974, h_1975, H⟩ := bind_some H
                  obtain ⟨b_1976, o_1977, c_1978, cs_1979, hv_1980, hr_1981, hc_1982, h_19750, h_19751⟩ := h0_1.ix h_1975
                  obtain ⟨v_1983, rfl, hs_1984⟩ := hr_1981
                  refine sp (k := 20) rfl hK (by decide) (wff hb_1973) rfl (fun w hS => r_indexAddr_R Try.underlying26 Try.sizeOf33 hv_1980 h_19750 h_19751 hK rfl rfl) fun a hK => ?_
                  refine sp (k := 21) rfl hK (by decide) (wff hb_1973) rfl (fun w hS => r_load Try.isAgg33 hK rfl ((hS.ra hRA nil_not).cell (hc_1982 0 _ rfl))) fun a hK => ?_
                  refine sp (k := 22) rfl hK (by decide) (wff hb_1973) rfl (fun w hS => r_move hK rfl) fun a hK => ?_
                  refine thenL_nil ?_
                  obtain ⟨y_1985, h_1986, H⟩ := bind_some H
                  obtain ⟨b_1987, o_1988, c_1989, cs_1990, hv_1991, hr_1992, hc_1993, h_19860, h_19861⟩ := hs_1984.ix h_1986
                  subst hr_1992
                  refine sl hK (by decide) (wff hb_1973) rfl (r_indexAddr_R Try.underlying33 Try.sizeOf39 hv_1991 h_19860 h_19861 hK rfl rfl) fun a hK => ?_
                  refine sl hK (by decide) (wff hb_1973) rfl (r_loadA (cs := [.int .i64 y_1985.Kind, .int .i64 y_1985.N, .string y_1985.S, .int .i64 y_1985.H.a0, .int .i64 y_1985.H.a1, .int .i64 y_1985.H.a2, .int .i64 y_1985.H.a3, .int .i64 y_1985.H.a4, .int .i64 y_1985.H.a5, .int .i64 y_1985.H.a6, .int .i64 y_1985.H.a7]) Try.isAgg39 Try.sizeOf39 rfl hK rfl (fun j v hv => (hS.ra hRA nil_not).cell (hc_1993 j v hv))) fun a hK => ?_
                  obtain ⟨y_1994, h_1995, H⟩ := bind_some H
                  refine sl_callV Try.call42 hS hK (by decide) (wff hb_1973) rfl rfl (ref01_Valid.calls y_1985 h_1995 _) fun a w hS hK => ?_
                  refine sl hK (by decide) (wff hb_1973) rfl (r_un hK rfl (u_not _)) fun a hK => ?_
                  refine sl hK (by decide) rfl rfl (r_pick_f hb_1973 hK rfl rfl) fun a hK => ?_
                  refine wpList_nil (NoP_nil ?_)
                  exact ⟨(!y_1994), H, hK.sub (all_cons rfl (all_cons rfl (all_cons rfl (all_cons rfl (all_nil))))), hS⟩
              · rintro a w ⟨x_1890, H, hK, hS⟩
                unfold ref02_Check.j2 at H
                refine wp_cond_split (hK.ev rfl) (fun (hb_1996 : x_1890 = true) => ?_) (fun (hb_1996 : x_1890 = false) => ?_)
                · rw [ifb_t hb_1996] at H
                  refine wp_seq ?_
                  refine wp_region_lit ?_
                  refine sl hK (by decide) rfl rfl (r_assign hK rfl) fun a hK => ?_
                  refine wpList_nil ?_
                  obtain rfl := Option.some.inj H
                  refine wp_ret ?_
                  repeat (first | refine ret_then ?_ | refine ret_block ?_ | refine ret_scope ?_)
                  exact ret_1 Try.results21 hK (rv_tmp hK rfl) ⟨rfl, hS.bel⟩
                · rw [ifb_f hb_1996] at H
                  refine wp_skip ?_
                  refine wp_region_lit ?_
                  refine sl hK (by decide) rfl rfl (r_move hK rfl) fun a hK => ?_
                  refine sl hK (by decide) rfl rfl (r_ibin hK rfl rfl rfl) fun a hK => ?_
                  refine sl hK (by decide) rfl rfl (r_assign hK rfl) fun a hK => ?_
                  refine wpList_nil ?_
                  exact ⟨_, Nat.lt_succ_self _, (IntKind.i64.wrap (x_1571 + 1)), H, hK.sub (all_cons rfl (all_cons rfl (all_cons rfl (all_nil)))), hS⟩
            · rw [ifb_f hb_1785] at H
              refine wp_exit ?_
              refine wp_region_lit ?_
              refine sl hK (by decide) rfl rfl (r_move hK rfl) fun a hK => ?_
              refine sl hK (by decide) rfl rfl (r_ibin hK rfl rfl rfl) fun a hK => ?_
              refine sl hK (by decide) rfl rfl (r_assign hK rfl) fun a hK => ?_
              refine wpList_nil ?_
              exact ⟨_, Nat.lt_succ_self _, (IntKind.i64.wrap (x_669 + 1)), H, hK.sub (all_cons rfl (all_cons rfl (all_nil))), hS⟩
      · rw [ifb_f hb_1334] at H
        refine wp_exit ?_
        refine wp_seq ?_
        refine wp_region_lit ?_
        refine sl hK (by decide) rfl rfl (r_assign hK rfl) fun a hK => ?_
        refine wpList_nil ?_
        obtain rfl := Option.some.inj H
        refine wp_ret ?_
        repeat (first | refine ret_then ?_ | refine ret_block ?_ | refine ret_scope ?_)
        exact ret_1 Try.results21 hK (rv_tmp hK rfl) ⟨rfl, hS.bel⟩

/-! ### catchment/catchmentlaw15.PredEquals: function 8 -/
set_option maxHeartbeats 4000000 in
set_option maxRecDepth 100000 in
theorem law15_PredEquals.calls (a0 : api_Table) (a1 : Int) (a2 : Int) {w0 : World} {R : Hp} {RA : Hp} {v0_0 : Value} {v0_1 : Value} (hRA : RA.sub w0) (hR : R.sub w0) (h0_0 : SlR ty_api_Col R v0_0 a0.Cols) (h0_1 : SlR (tySl ty_api_Value) R v0_1 a0.Rows) (hG : GF RA) (H : law15_PredEquals a0 a1 a2 = some true) : CallsV Try.prog 8 #[.agg #[v0_0, v0_1], .int .i64 a1, .int .i64 a2] w0 (.bool true) := by
  unfold law15_PredEquals at H
  refine enter (args := [.agg #[v0_0, v0_1], .int .i64 a1, .int .i64 a2]) Try.func8 rfl Try.ntmps8 rfl fun a hK => ?_
  have hS := St.init hR
  have hRL := RLe.refl (M := []) w0 R
  refine wp_seq ?_
  refine wp_region_lit ?_
  refine sl_box hS hK (by decide) rfl rfl (c := [v0_0, v0_1]) rfl fun a w b_1 hS hK => ?_
  refine sl hK (by decide) rfl rfl (r_assign hK rfl) fun a hK => ?_
  refine wpList_nil ?_
  refine wp_seq ?_
  refine wp_region_lit ?_
  obtain ⟨y_2, h_3, H⟩ := bind_some H
  refine sl_callV Try.call9 hS hK (by decide) rfl rfl rfl (law15_shown.calls (lentOf_sub [] _) (GF.mono (hS.raLe0 hRA nil_not) hG) h_3) fun a w hS hK => ?_
  refine sl hK (by decide) rfl rfl (r_assign hK rfl) fun a hK => ?_
  refine wpList_nil ?_
  refine wp_seq ?_
  refine wp_region_lit ?_
  refine sl hK (by decide) rfl rfl (r_loadA (cs := [v0_0, v0_1]) Try.isAgg28 Try.sizeOf28 rfl hK rfl (hS.cells_of (m := 2) (.head _) rfl)) fun a hK => ?_
  obtain ⟨y_4, h_5, H⟩ := bind_some H
  refine sl_call Try.call11 hK (by decide) rfl rfl rfl (law15_cut.calls a0 hS.sub h0_0 h0_1 h_5) fun a v_ w hv_ hK => ?_
  obtain ⟨R_6, v_8, v_10, hv_, hr_, hl_7, hs_9, hs_11⟩ := hv_
  have hv_ := hv_.symm
  subst hv_
  obtain ⟨hS, hl_7⟩ := hS.sp0.back hr_ hl_7
  have hS := hS.un0
  have hRL := hRL.trans hl_7
  refine sl_storeA (vs := [v_8, v_10]) (c' := [v_8, v_10]) Try.sizeOf28 hS hK rfl rfl rfl rfl (all_cons hs_9.one (all_cons hs_11.one (all_nil))) (Nat.le_of_ble_eq_true rfl) rfl fun a w hS hK => ?_
  refine wpList_nil ?_
  refine wp_seq ?_
  refine wp_seq ?_
  refine wp_mid (fun a w => ∃ (x_15 : Bool), law15_PredEquals.j0 a1 a2 y_2 y_4 x_15 = some true ∧ Kn 133 a [(1, .int .i64 a1), (2, .int .i64 a2), (3, .pointer (some ⟨b_1, 0, none⟩)), (7, .bool y_2), (26, .bool x_15)] ∧ St [] w0 w R_6 [.cells b_1 [v_8, v_10] 28]) ?_ ?_
  · refine wp_region_lit ?_
    refine sl hK (by decide) rfl rfl (r_loadA (cs := [v_8, v_10]) Try.isAgg28 Try.sizeOf28 rfl hK rfl (hS.cells_of (m := 2) (.head _) rfl)) fun a hK => ?_
    obtain ⟨y_17, h_18, H⟩ := bind_some H
    refine sl_callV Try.call21 hS hK (by decide) rfl rfl rfl (ref02_Check.calls y_4 (lentOf_sub [] _) (hs_9.mono hS.rLe0) (hs_11.mono hS.rLe0) h_18) fun a w hS hK => ?_
    refine sl hK (by decide) rfl rfl (r_ibin hK rfl rfl rfl) fun a hK => ?_
    refine sl hK (by decide) rfl rfl (r_move hK rfl) fun a hK => ?_
    rcases or_b (y_17 != 0) with hb_19 | hb_19
    · rw [ifb_t hb_19] at H
      refine sl_skip hK (by decide) (wft hb_19) rfl fun a hK => ?_
      refine sl_skip hK (by decide) (wft hb_19) rfl fun a hK => ?_
      refine sl_skip hK (by decide) (wft hb_19) rfl fun a hK => ?_
      refine sl_skip hK (by decide) (wft hb_19) rfl fun a hK => ?_
      refine sl hK (by decide) rfl rfl (r_pick_t hb_19 hK rfl rfl) fun a hK => ?_
      refine wpList_nil ?_
      exact ⟨true, H, hK.sub (all_cons rfl (all_cons rfl (all_cons rfl (all_cons rfl (all_cons rfl (all_nil)))))), hS⟩
    · rw [ifb_f hb_19] at H
      refine sl hK (by decide) (wff hb_19) rfl (r_fieldAddr Try.underlying28 rfl Try.sizeOf26 hK rfl) fun a hK => ?_
      refine sl hK (by decide) (wff hb_19) rfl (r_load Try.isAgg26 hK rfl (hS.cell (.head _) rfl)) fun a hK => ?_
      refine sl hK (by decide) (wff hb_19) rfl (r_len_R Try.underlying26 hs_11 hK rfl) fun a hK => ?_
      refine sl hK (by decide) (wff hb_19) rfl (r_ibin hK rfl rfl rfl) fun a hK => ?_
      refine sl hK (by decide) rfl rfl (r_pick_f hb_19 hK rfl rfl) fun a hK => ?_
      refine wpList_nil ?_
      exact ⟨((y_4.Rows.length : Int) == 0), H, hK.sub (all_cons rfl (all_cons rfl (all_cons rfl (all_cons rfl (all_cons rfl (all_nil)))))), hS⟩
  · rintro a w ⟨x_15, H, hK, hS⟩
    unfold law15_PredEquals.j0 at H
    refine wp_cond_split (hK.ev rfl) (fun (hb_20 : x_15 = true) => ?_) (fun (hb_20 : x_15 = false) => ?_)
    · rw [ifb_t hb_20] at H
      refine wp_seq ?_
      refine wp_region_lit ?_
      refine sl hK (by decide) rfl rfl (r_move hK rfl) fun a hK => ?_
      refine sl hK (by decide) rfl rfl (r_assign hK rfl) fun a hK => ?_
      refine wpList_nil ?_
      have hr_ := Option.some.inj H
      refine wp_ret ?_
      repeat (first | refine ret_then ?_ | refine ret_block ?_ | refine ret_scope ?_)
      exact ret_1 Try.results8 hK (rv_tmp hK rfl) ⟨congrArg (fun b => Ending.returned (Value.bool b)) hr_, hS.bel⟩
    · rw [ifb_f hb_20] at H
      refine wp_skip ?_
      refine wp_seq ?_
      refine wp_seq ?_
      refine wp_region_lit ?_
      refine sl hK (by decide) rfl rfl (r_move hK rfl) fun a hK => ?_
      refine sl hK (by decide) rfl rfl (r_ibin hK rfl rfl rfl) fun a hK => ?_
      refine wpList_nil ?_
      refine wp_mid (fun a w => ∃ (x_22 : Int), law15_PredEquals.j1 a2 y_2 y_4 x_22 = some true ∧ Kn 133 a [(1, .int .i64 x_22), (2, .int .i64 a2), (3, .pointer (some ⟨b_1, 0, none⟩)), (7, .bool y_2)] ∧ St [] w0 w R_6 [.cells b_1 [v_8, v_10] 28]) ?_ ?_
      · refine wp_cond_split (hK.ev rfl) (fun (hb_24 : (decide (a1 < 0)) = true) => ?_) (fun (hb_24 : (decide (a1 < 0)) = false) => ?_)
        · rw [ifb_t hb_24] at H
          refine wp_region_lit ?_
          refine sl hK (by decide) rfl rfl (r_move hK rfl) fun a hK => ?_
          refine sl hK (by decide) rfl rfl (r_ibin hK rfl rfl rfl) fun a hK => ?_
          refine sl hK (by decide) rfl rfl (r_un hK rfl (u_neg _ _)) fun a hK => ?_
          refine sl hK (by decide) rfl rfl (r_assign hK rfl) fun a hK => ?_
          refine wpList_nil ?_
          exact ⟨(IntKind.i64.wrap (0 - (IntKind.i64.wrap (a1 + 1)))), H, hK.sub (all_cons rfl (all_cons rfl (all_cons rfl (all_cons rfl (all_nil))))), hS⟩
        · rw [ifb_f hb_24] at H
          refine wp_skip ?_
          exact ⟨a1, H, hK.sub (all_cons rfl (all_cons rfl (all_cons rfl (all_cons rfl (all_nil))))), hS⟩
      · rintro a w ⟨x_22, H, hK, hS⟩
        unfold law15_PredEquals.j1 at H
        refine wp_seq ?_
        refine wp_seq ?_
        refine wp_region_lit ?_
        refine sl hK (by decide) rfl rfl (r_move hK rfl) fun a hK => ?_
        refine sl hK (by decide) rfl rfl (r_ibin hK rfl rfl rfl) fun a hK => ?_
        refine wpList_nil ?_
        refine wp_mid (fun a w => ∃ (x_26 : Int), law15_PredEquals.j2 y_2 y_4 x_22 x_26 = some true ∧ Kn 133 a [(1, .int .i64 x_22), (2, .int .i64 x_26), (3, .pointer (some ⟨b_1, 0, none⟩)), (7, .bool y_2)] ∧ St [] w0 w R_6 [.cells b_1 [v_8, v_10] 28]) ?_ ?_
        · refine wp_cond_split (hK.ev rfl) (fun (hb_28 : (decide (a2 < 0)) = true) => ?_) (fun (hb_28 : (decide (a2 < 0)) = false) => ?_)
          · rw [ifb_t hb_28] at H
            refine wp_region_lit ?_
            refine sl hK (by decide) rfl rfl (r_move hK rfl) fun a hK => ?_
            refine sl hK (by decide) rfl rfl (r_ibin hK rfl rfl rfl) fun a hK => ?_
            refine sl hK (by decide) rfl rfl (r_un hK rfl (u_neg _ _)) fun a hK => ?_
            refine sl hK (by decide) rfl rfl (r_assign hK rfl) fun a hK => ?_
            refine wpList_nil ?_
            exact ⟨(IntKind.i64.wrap (0 - (IntKind.i64.wrap (a2 + 1)))), H, hK.sub (all_cons rfl (all_cons rfl (all_cons rfl (all_cons rfl (all_nil))))), hS⟩
          · rw [ifb_f hb_28] at H
            refine wp_skip ?_
            exact ⟨a2, H, hK.sub (all_cons rfl (all_cons rfl (all_cons rfl (all_cons rfl (all_nil))))), hS⟩
        · rintro a w ⟨x_26, H, hK, hS⟩
          unfold law15_PredEquals.j2 at H
          refine wp_seq ?_
          refine wp_region_lit ?_
          refine sl hK (by decide) rfl rfl (r_move hK rfl) fun a hK => ?_
          refine sl hK (by decide) rfl rfl (r_fieldAddr Try.underlying28 rfl Try.sizeOf25 hK rfl) fun a hK => ?_
          refine sl hK (by decide) rfl rfl (r_load Try.isAgg25 hK rfl (hS.cell (.head _) rfl)) fun a hK => ?_
          refine sl hK (by decide) rfl rfl (r_len_R Try.underlying25 hs_9 hK rfl) fun a hK => ?_
          rcases or_b ((y_4.Cols.length : Int) != 0) with hn_29 | hn_29
          · rw [ifb_t hn_29] at H
            refine sl hK (by decide) rfl rfl (r_rem hK rfl rfl (ne_of_bne hn_29)) fun a hK => ?_
            refine sl hK (by decide) rfl rfl (r_assign hK rfl) fun a hK => ?_
            refine wpList_nil ?_
            refine wp_seq ?_
            refine parT_region (C := fun w => St [] w0 w R_6 [.cells b_1 [v_8, v_10] 28]) 13 [(0, true), (1, true), (2, true), (3, true), (4, true), (5, true), (6, true), (7, true), (8, true), (9, true), (10, true), (11, true), (12, false)] mixed (by kernel_rfl) hS (fun w hS => hS) fun w hS => ?_
            refine sp (k := 0) rfl hK (by decide) rfl rfl (fun w hS => r_fieldAddr Try.underlying28 rfl Try.sizeOf26 hK rfl) fun a hK => ?_
            refine sp (k := 1) rfl hK (by decide) rfl rfl (fun w hS => r_load Try.isAgg26 hK rfl (hS.cell (.head _) rfl)) fun a hK => ?_
            refine sp (k := 2) rfl hK (by decide) rfl rfl (fun w hS => r_move hK rfl) fun a hK => ?_
            refine sp (k := 3) rfl hK (by decide) rfl rfl (fun w hS => r_fieldAddr Try.underlying28 rfl Try.sizeOf26 hK rfl) fun a hK => ?_
            refine sp (k := 4) rfl hK (by decide) rfl rfl (fun w hS => r_load Try.isAgg26 hK rfl (hS.cell (.head _) rfl)) fun a hK => ?_
            refine sp (k := 5) rfl hK (by decide) rfl rfl (fun w hS => r_len_R Try.underlying26 hs_11 hK rfl) fun a hK => ?_
            rcases or_b ((y_4.Rows.length : Int) != 0) with hn_52 | hn_52
            · rw [ifb_t hn_52] at H
              refine sp (k := 6) rfl hK (by decide) rfl rfl (fun w hS => r_rem hK rfl rfl (ne_of_bne hn_52)) fun a hK => ?_
              obtain ⟨y_53, h_54, H⟩ := bind_some H
              obtain ⟨b_55, o_56, c_57, cs_58, hv_59, hr_60, hc_61, h_540, h_541⟩ := hs_11.ix h_54
              obtain ⟨v_62, rfl, hs_63⟩ := hr_60
              refine sp (k := 7) rfl hK (by decide) rfl rfl (fun w hS => r_indexAddr_R Try.underlying26 Try.sizeOf33 hv_59 h_540 h_541 hK rfl rfl) fun a hK => ?_
              refine sp (k := 8) rfl hK (by decide) rfl rfl (fun w hS => r_load Try.isAgg33 hK rfl (hS.sub.cell (hc_61 0 _ rfl))) fun a hK => ?_
              refine sp (k := 9) rfl hK (by decide) rfl rfl (fun w hS => r_move hK rfl) fun a hK => ?_
              obtain ⟨y_64, h_65, H⟩ := bind_some H
              obtain ⟨b_66, o_67, c_68, cs_69, hv_70, hr_71, hc_72, h_650, h_651⟩ := hs_63.ix h_65
              subst hr_71
              refine sp (k := 10) rfl hK (by decide) rfl rfl (fun w hS => r_indexAddr_R Try.underlying33 Try.sizeOf39 hv_70 h_650 h_651 hK rfl rfl) fun a hK => ?_
              refine sp (k := 11) rfl hK (by decide) rfl rfl (fun w hS => r_loadA (cs := [.int .i64 y_64.Kind, .int .i64 y_64.N, .string y_64.S, .int .i64 y_64.H.a0, .int .i64 y_64.H.a1, .int .i64 y_64.H.a2, .int .i64 y_64.H.a3, .int .i64 y_64.H.a4, .int .i64 y_64.H.a5, .int .i64 y_64.H.a6, .int .i64 y_64.H.a7]) Try.isAgg39 Try.sizeOf39 rfl hK rfl (fun j v hv => hS.sub.cell (hc_72 j v hv))) fun a hK => ?_
              refine spw (k := 12) rfl rfl hS ?_
              refine sl_alloc Try.zeroValue39 hS hK (by decide) rfl rfl fun a w b_73 hS hK => ?_
              refine parK_nil (hS.pk1.trunc 1) ?_
              refine thenL_nil ?_
              refine sl_storeA (vs := [.int .i64 y_64.Kind, .int .i64 y_64.N, .string y_64.S, .int .i64 y_64.H.a0, .int .i64 y_64.H.a1, .int .i64 y_64.H.a2, .int .i64 y_64.H.a3, .int .i64 y_64.H.a4, .int .i64 y_64.H.a5, .int .i64 y_64.H.a6, .int .i64 y_64.H.a7]) (c' := [.int .i64 y_64.Kind, .int .i64 y_64.N, .string y_64.S, .int .i64 y_64.H.a0, .int .i64 y_64.H.a1, .int .i64 y_64.H.a2, .int .i64 y_64.H.a3, .int .i64 y_64.H.a4, .int .i64 y_64.H.a5, .int .i64 y_64.H.a6, .int .i64 y_64.H.a7]) Try.sizeOf39 hS hK rfl rfl rfl rfl (all_cons rfl (all_cons rfl (all_cons rfl (all_cons rfl (all_cons rfl (all_cons rfl (all_cons rfl (all_cons rfl (all_cons rfl (all_cons rfl (all_cons rfl (all_nil)))))))))))) (Nat.le_of_ble_eq_true rfl) rfl fun a w hS hK => ?_
              refine wpList_nil (NoP_nil ?_)
              refine wp_seq ?_
              refine wp_mid (fun a w => ∃ (x_120 : List api_Node) (v_121 : Value) (cs_122 : List Value) (b_118 : Nat), law15_PredEquals.j3 y_2 y_4 x_22 y_64 x_120 = some true ∧ Reps ty_api_Node R_6 cs_122 x_120 ∧ Kn 133 a [(3, .pointer (some ⟨b_1, 0, none⟩)), (7, .bool y_2), (8, .int .i64 (x_22.tmod (y_4.Cols.length : Int))), (9, .pointer (some ⟨b_73, 0, none⟩)), (10, .pointer (some ⟨b_118, 0, none⟩))] ∧ St [] w0 w R_6 [.cells b_1 [v_8, v_10] 28, .cells b_73 [.int .i64 y_64.Kind, .int .i64 y_64.N, .string y_64.S, .int .i64 y_64.H.a0, .int .i64 y_64.H.a1, .int .i64 y_64.H.a2, .int .i64 y_64.H.a3, .int .i64 y_64.H.a4, .int .i64 y_64.H.a5, .int .i64 y_64.H.a6, .int .i64 y_64.H.a7] 39, .row 51 19 v_121 x_120.length cs_122, .cells b_118 [v_121] 24]) ?_ ?_
              · refine treeT_region (C := fun w => St [] w0 w R_6 [.cells b_73 [.int .i64 y_64.Kind, .int .i64 y_64.N, .string y_64.S, .int .i64 y_64.H.a0, .int .i64 y_64.H.a1, .int .i64 y_64.H.a2, .int .i64 y_64.H.a3, .int .i64 y_64.H.a4, .int .i64 y_64.H.a5, .int .i64 y_64.H.a6, .int .i64 y_64.H.a7] 39, .cells b_1 [v_8, v_10] 28]) 19 (.br [(0, true), (1, true), (2, true), (3, true), (4, true), (5, true), (6, true), (7, true), (8, true), (9, true), (10, true), (11, true), (12, true), (13, true), (14, true), (15, true)] 16 (.list [(17, true), (18, false)]) 18 (.list [(16, false), (17, true)])) mixed (by kernel_rfl) hS (fun w hS => hS) fun w hS => ?_
                refine tree_fork ?_
                refine sp (k := 0) rfl hK (by decide) rfl rfl (fun w hS => r_fieldAddr Try.underlying28 rfl Try.sizeOf25 hK rfl) fun a hK => ?_
                refine sp (k := 1) rfl hK (by decide) rfl rfl (fun w hS => r_load Try.isAgg25 hK rfl (hS.cell (.tail _ (.head _)) rfl)) fun a hK => ?_
                refine sp (k := 2) rfl hK (by decide) rfl rfl (fun w hS => r_move hK rfl) fun a hK => ?_
                obtain ⟨y_147, h_148, H⟩ := bind_some H
                obtain ⟨b_149, o_150, c_151, cs_152, hv_153, hr_154, hc_155, h_1480, h_1481⟩ := hs_9.ix h_148
                subst hr_154
                refine sp (k := 3) rfl hK (by decide) rfl rfl (fun w hS => r_indexAddr_R Try.underlying25 Try.sizeOf57 hv_153 h_1480 h_1481 hK rfl rfl) fun a hK => ?_
                refine sp (k := 4) rfl hK (by decide) rfl rfl (fun w hS => r_fieldAddr Try.underlying57 rfl Try.sizeOf9 hK rfl) fun a hK => ?_
                refine sp (k := 5) rfl hK (by decide) rfl rfl (fun w hS => r_load Try.isAgg9 hK rfl (hS.sub.cell (hc_155 0 _ rfl))) fun a hK => ?_
                refine sp (k := 6) rfl hK (by decide) rfl rfl (fun w hS => r_loadA (cs := [.int .i64 y_64.Kind, .int .i64 y_64.N, .string y_64.S, .int .i64 y_64.H.a0, .int .i64 y_64.H.a1, .int .i64 y_64.H.a2, .int .i64 y_64.H.a3, .int .i64 y_64.H.a4, .int .i64 y_64.H.a5, .int .i64 y_64.H.a6, .int .i64 y_64.H.a7]) Try.isAgg39 Try.sizeOf39 rfl hK rfl (hS.cells_of (m := 11) (.head _) rfl)) fun a hK => ?_
                refine sp (k := 7) rfl hK (by decide) rfl rfl (fun w hS => r_buildC (ps := [(0, .int .i64 14), (1, .string y_147.Name), (2, .int .i64 1), (5, .agg #[.int .i64 y_64.Kind, .int .i64 y_64.N, .string y_64.S, .int .i64 y_64.H.a0, .int .i64 y_64.H.a1, .int .i64 y_64.H.a2, .int .i64 y_64.H.a3, .int .i64 y_64.H.a4, .int .i64 y_64.H.a5, .int .i64 y_64.H.a6, .int .i64 y_64.H.a7])]) (c := [.int .i64 14, .string y_147.Name, .int .i64 1, .int .i64 0, .int .i64 0, .int .i64 y_64.Kind, .int .i64 y_64.N, .string y_64.S, .int .i64 y_64.H.a0, .int .i64 y_64.H.a1, .int .i64 y_64.H.a2, .int .i64 y_64.H.a3, .int .i64 y_64.H.a4, .int .i64 y_64.H.a5, .int .i64 y_64.H.a6, .int .i64 y_64.H.a7, .slice none 0 0, .slice none 0 0, .slice none 0 0]) Try.underlying51 Try.zeroValue51 places51 hK rfl (pc_cons rfl (pc_cons rfl (pc_cons rfl (pc_cons rfl pc_nil)))) rfl rfl) fun a hK => ?_
                refine sp (k := 8) rfl hK (by decide) rfl rfl (fun w hS => r_fieldAddr Try.underlying28 rfl Try.sizeOf25 hK rfl) fun a hK => ?_
                refine sp (k := 9) rfl hK (by decide) rfl rfl (fun w hS => r_load Try.isAgg25 hK rfl (hS.cell (.tail _ (.head _)) rfl)) fun a hK => ?_
                refine sp (k := 10) rfl hK (by decide) rfl rfl (fun w hS => r_move hK rfl) fun a hK => ?_
                obtain ⟨y_156, h_157, H⟩ := bind_some H
                obtain ⟨b_158, o_159, c_160, cs_161, hv_162, hr_163, hc_164, h_1570, h_1571⟩ := hs_9.ix h_157
                subst hr_163
                refine sp (k := 11) rfl hK (by decide) rfl rfl (fun w hS => r_indexAddr_R Try.underlying25 Try.sizeOf57 hv_162 h_1570 h_1571 hK rfl rfl) fun a hK => ?_
                refine sp (k := 12) rfl hK (by decide) rfl rfl (fun w hS => r_fieldAddr Try.underlying57 rfl Try.sizeOf9 hK rfl) fun a hK => ?_
                refine sp (k := 13) rfl hK (by decide) rfl rfl (fun w hS => r_load Try.isAgg9 hK rfl (hS.sub.cell (hc_164 0 _ rfl))) fun a hK => ?_
                refine sp (k := 14) rfl hK (by decide) rfl rfl (fun w hS => r_loadA (cs := [.int .i64 y_64.Kind, .int .i64 y_64.N, .string y_64.S, .int .i64 y_64.H.a0, .int .i64 y_64.H.a1, .int .i64 y_64.H.a2, .int .i64 y_64.H.a3, .int .i64 y_64.H.a4, .int .i64 y_64.H.a5, .int .i64 y_64.H.a6, .int .i64 y_64.H.a7]) Try.isAgg39 Try.sizeOf39 rfl hK rfl (hS.cells_of (m := 11) (.head _) rfl)) fun a hK => ?_
                refine sp (k := 15) rfl hK (by decide) rfl rfl (fun w hS => r_buildC (ps := [(0, .int .i64 14), (1, .string y_156.Name), (2, .int .i64 2), (5, .agg #[.int .i64 y_64.Kind, .int .i64 y_64.N, .string y_64.S, .int .i64 y_64.H.a0, .int .i64 y_64.H.a1, .int .i64 y_64.H.a2, .int .i64 y_64.H.a3, .int .i64 y_64.H.a4, .int .i64 y_64.H.a5, .int .i64 y_64.H.a6, .int .i64 y_64.H.a7])]) (c := [.int .i64 14, .string y_156.Name, .int .i64 2, .int .i64 0, .int .i64 0, .int .i64 y_64.Kind, .int .i64 y_64.N, .string y_64.S, .int .i64 y_64.H.a0, .int .i64 y_64.H.a1, .int .i64 y_64.H.a2, .int .i64 y_64.H.a3, .int .i64 y_64.H.a4, .int .i64 y_64.H.a5, .int .i64 y_64.H.a6, .int .i64 y_64.H.a7, .slice none 0 0, .slice none 0 0, .slice none 0 0]) Try.underlying51 Try.zeroValue51 places51 hK rfl (pc_cons rfl (pc_cons rfl (pc_cons rfl (pc_cons rfl pc_nil)))) rfl rfl) fun a hK => ?_
                refine wpPar_nil (tree_br ?_ ?_)
                · refine spwB (k := 16) rfl rfl hS ?_
                  refine sl_buildSliceF (zc := [.int .i64 0, .string (⟨#[]⟩ : ByteArray), .int .i64 0, .int .i64 0, .int .i64 0, .int .i64 0, .int .i64 0, .string (⟨#[]⟩ : ByteArray), .int .i64 0, .int .i64 0, .int .i64 0, .int .i64 0, .int .i64 0, .int .i64 0, .int .i64 0, .int .i64 0, .slice none 0 0, .slice none 0 0, .slice none 0 0]) (ps := [(0, .agg #[.int .i64 14, .string y_147.Name, .int .i64 1, .int .i64 0, .int .i64 0, .int .i64 y_64.Kind, .int .i64 y_64.N, .string y_64.S, .int .i64 y_64.H.a0, .int .i64 y_64.H.a1, .int .i64 y_64.H.a2, .int .i64 y_64.H.a3, .int .i64 y_64.H.a4, .int .i64 y_64.H.a5, .int .i64 y_64.H.a6, .int .i64 y_64.H.a7, .slice none 0 0, .slice none 0 0, .slice none 0 0]), (1, .agg #[.int .i64 14, .string y_156.Name, .int .i64 2, .int .i64 0, .int .i64 0, .int .i64 y_64.Kind, .int .i64 y_64.N, .string y_64.S, .int .i64 y_64.H.a0, .int .i64 y_64.H.a1, .int .i64 y_64.H.a2, .int .i64 y_64.H.a3, .int .i64 y_64.H.a4, .int .i64 y_64.H.a5, .int .i64 y_64.H.a6, .int .i64 y_64.H.a7, .slice none 0 0, .slice none 0 0, .slice none 0 0])]) (c := [.int .i64 14, .string y_147.Name, .int .i64 1, .int .i64 0, .int .i64 0, .int .i64 y_64.Kind, .int .i64 y_64.N, .string y_64.S, .int .i64 y_64.H.a0, .int .i64 y_64.H.a1, .int .i64 y_64.H.a2, .int .i64 y_64.H.a3, .int .i64 y_64.H.a4, .int .i64 y_64.H.a5, .int .i64 y_64.H.a6, .int .i64 y_64.H.a7, .slice none 0 0, .slice none 0 0, .slice none 0 0, .int .i64 14, .string y_156.Name, .int .i64 2, .int .i64 0, .int .i64 0, .int .i64 y_64.Kind, .int .i64 y_64.N, .string y_64.S, .int .i64 y_64.H.a0, .int .i64 y_64.H.a1, .int .i64 y_64.H.a2, .int .i64 y_64.H.a3, .int .i64 y_64.H.a4, .int .i64 y_64.H.a5, .int .i64 y_64.H.a6, .int .i64 y_64.H.a7, .slice none 0 0, .slice none 0 0, .slice none 0 0]) [[.int .i64 14, .string y_147.Name, .int .i64 1, .int .i64 0, .int .i64 0, .int .i64 y_64.Kind, .int .i64 y_64.N, .string y_64.S, .int .i64 y_64.H.a0, .int .i64 y_64.H.a1, .int .i64 y_64.H.a2, .int .i64 y_64.H.a3, .int .i64 y_64.H.a4, .int .i64 y_64.H.a5, .int .i64 y_64.H.a6, .int .i64 y_64.H.a7, .slice none 0 0, .slice none 0 0, .slice none 0 0], [.int .i64 14, .string y_156.Name, .int .i64 2, .int .i64 0, .int .i64 0, .int .i64 y_64.Kind, .int .i64 y_64.N, .string y_64.S, .int .i64 y_64.H.a0, .int .i64 y_64.H.a1, .int .i64 y_64.H.a2, .int .i64 y_64.H.a3, .int .i64 y_64.H.a4, .int .i64 y_64.H.a5, .int .i64 y_64.H.a6, .int .i64 y_64.H.a7, .slice none 0 0, .slice none 0 0, .slice none 0 0]] Try.underlying22 Try.sizeOf51 Try.zeroValue51 rfl (pc_cons rfl (pc_cons rfl pc_nil)) rfl rfl (Nat.le_of_ble_eq_true rfl) rfl (all_cons rfl (all_cons rfl (all_nil))) rfl hS hK (by decide) rfl fun a w b_165 hS hK => ?_
                  refine parKK_nil (hS.pk2.pk2.trunc 2) ?_
                  refine tree_list ?_
                  refine sp (k := 17) rfl hK (by decide) rfl rfl (fun w hS => r_buildC (ps := [(0, .slice (some ⟨b_165, 0, none⟩) 2 2)]) (c := [.slice (some ⟨b_165, 0, none⟩) 2 2]) Try.underlying24 Try.zeroValue24 places24 hK rfl (pc_cons rfl pc_nil) rfl rfl) fun a hK => ?_
                  refine spw (k := 18) rfl rfl (hS.pk2.pk2.trunc 2) ?_
                  refine sl_alloc Try.zeroValue24 hS hK (by decide) rfl rfl fun a w b_166 hS hK => ?_
                  refine parK_nil (hS.pk3.pk3.trunc 2) ?_
                  refine thenL_nil ?_
                  refine sl_storeA (vs := [.slice (some ⟨b_165, 0, none⟩) 2 2]) (c' := [.slice (some ⟨b_165, 0, none⟩) 2 2]) Try.sizeOf24 hS hK rfl rfl rfl rfl (all_cons rfl (all_nil)) (Nat.le_of_ble_eq_true rfl) rfl fun a w hS hK => ?_
                  refine wpList_nil (NoP_nil ?_)
                  have hS := hS.pk1
                  have hS := hS.row_lit (size := 19) (m := 2) rfl (by decide)
                  have hq_168 : Reps ty_api_Node R_6 [.int .i64 14, .string y_147.Name, .int .i64 1, .int .i64 0, .int .i64 0, .int .i64 y_64.Kind, .int .i64 y_64.N, .string y_64.S, .int .i64 y_64.H.a0, .int .i64 y_64.H.a1, .int .i64 y_64.H.a2, .int .i64 y_64.H.a3, .int .i64 y_64.H.a4, .int .i64 y_64.H.a5, .int .i64 y_64.H.a6, .int .i64 y_64.H.a7, .slice none 0 0, .slice none 0 0, .slice none 0 0, .int .i64 14, .string y_156.Name, .int .i64 2, .int .i64 0, .int .i64 0, .int .i64 y_64.Kind, .int .i64 y_64.N, .string y_64.S, .int .i64 y_64.H.a0, .int .i64 y_64.H.a1, .int .i64 y_64.H.a2, .int .i64 y_64.H.a3, .int .i64 y_64.H.a4, .int .i64 y_64.H.a5, .int .i64 y_64.H.a6, .int .i64 y_64.H.a7, .slice none 0 0, .slice none 0 0, .slice none 0 0] [(⟨14, y_147.Name, 1, 0, 0, y_64, [], [], []⟩ : api_Node), (⟨14, y_156.Name, 2, 0, 0, y_64, [], [], []⟩ : api_Node)] := (Reps.cons (show Ty.rep ty_api_Node _ [.int .i64 14, .string y_147.Name, .int .i64 1, .int .i64 0, .int .i64 0, .int .i64 y_64.Kind, .int .i64 y_64.N, .string y_64.S, .int .i64 y_64.H.a0, .int .i64 y_64.H.a1, .int .i64 y_64.H.a2, .int .i64 y_64.H.a3, .int .i64 y_64.H.a4, .int .i64 y_64.H.a5, .int .i64 y_64.H.a6, .int .i64 y_64.H.a7, .slice none 0 0, .slice none 0 0, .slice none 0 0] (⟨14, y_147.Name, 1, 0, 0, y_64, [], [], []⟩ : api_Node) from ⟨_, _, _, rfl, SlR.nil _ _, SlR.nil _ _, SlR.nil _ _⟩) (Reps.cons (show Ty.rep ty_api_Node _ [.int .i64 14, .string y_156.Name, .int .i64 2, .int .i64 0, .int .i64 0, .int .i64 y_64.Kind, .int .i64 y_64.N, .string y_64.S, .int .i64 y_64.H.a0, .int .i64 y_64.H.a1, .int .i64 y_64.H.a2, .int .i64 y_64.H.a3, .int .i64 y_64.H.a4, .int .i64 y_64.H.a5, .int .i64 y_64.H.a6, .int .i64 y_64.H.a7, .slice none 0 0, .slice none 0 0, .slice none 0 0] (⟨14, y_156.Name, 2, 0, 0, y_64, [], [], []⟩ : api_Node) from ⟨_, _, _, rfl, SlR.nil _ _, SlR.nil _ _, SlR.nil _ _⟩) (Reps.nil _ _)))
                  have hS := hS.pk1
                  have hS := hS.pk1
                  have hS := hS.pk2
                  have hS := hS.pk3
                  exact ⟨[(⟨14, y_147.Name, 1, 0, 0, y_64, [], [], []⟩ : api_Node), (⟨14, y_156.Name, 2, 0, 0, y_64, [], [], []⟩ : api_Node)], _, _, _, H, hq_168, hK.sub (all_cons rfl (all_cons rfl (all_cons rfl (all_cons rfl (all_cons rfl (all_nil)))))), hS⟩
                · refine spwB (k := 18) rfl rfl hS ?_
                  refine sl_alloc Try.zeroValue24 hS hK (by decide) rfl rfl fun a w b_169 hS hK => ?_
                  refine parKK_nil (hS.pk2.pk2.trunc 2) ?_
                  refine tree_list ?_
                  refine spw (k := 16) rfl rfl (hS.pk2.pk2.trunc 2) ?_
                  refine sl_buildSliceF (zc := [.int .i64 0, .string (⟨#[]⟩ : ByteArray), .int .i64 0, .int .i64 0, .int .i64 0, .int .i64 0, .int .i64 0, .string (⟨#[]⟩ : ByteArray), .int .i64 0, .int .i64 0, .int .i64 0, .int .i64 0, .int .i64 0, .int .i64 0, .int .i64 0, .int .i64 0, .slice none 0 0, .slice none 0 0, .slice none 0 0]) (ps := [(0, .agg #[.int .i64 14, .string y_147.Name, .int .i64 1, .int .i64 0, .int .i64 0, .int .i64 y_64.Kind, .int .i64 y_64.N, .string y_64.S, .int .i64 y_64.H.a0, .int .i64 y_64.H.a1, .int .i64 y_64.H.a2, .int .i64 y_64.H.a3, .int .i64 y_64.H.a4, .int .i64 y_64.H.a5, .int .i64 y_64.H.a6, .int .i64 y_64.H.a7, .slice none 0 0, .slice none 0 0, .slice none 0 0]), (1, .agg #[.int .i64 14, .string y_156.Name, .int .i64 2, .int .i64 0, .int .i64 0, .int .i64 y_64.Kind, .int .i64 y_64.N, .string y_64.S, .int .i64 y_64.H.a0, .int .i64 y_64.H.a1, .int .i64 y_64.H.a2, .int .i64 y_64.H.a3, .int .i64 y_64.H.a4, .int .i64 y_64.H.a5, .int .i64 y_64.H.a6, .int .i64 y_64.H.a7, .slice none 0 0, .slice none 0 0, .slice none 0 0])]) (c := [.int .i64 14, .string y_147.Name, .int .i64 1, .int .i64 0, .int .i64 0, .int .i64 y_64.Kind, .int .i64 y_64.N, .string y_64.S, .int .i64 y_64.H.a0, .int .i64 y_64.H.a1, .int .i64 y_64.H.a2, .int .i64 y_64.H.a3, .int .i64 y_64.H.a4, .int .i64 y_64.H.a5, .int .i64 y_64.H.a6, .int .i64 y_64.H.a7, .slice none 0 0, .slice none 0 0, .slice none 0 0, .int .i64 14, .string y_156.Name, .int .i64 2, .int .i64 0, .int .i64 0, .int .i64 y_64.Kind, .int .i64 y_64.N, .string y_64.S, .int .i64 y_64.H.a0, .int .i64 y_64.H.a1, .int .i64 y_64.H.a2, .int .i64 y_64.H.a3, .int .i64 y_64.H.a4, .int .i64 y_64.H.a5, .int .i64 y_64.H.a6, .int .i64 y_64.H.a7, .slice none 0 0, .slice none 0 0, .slice none 0 0]) [[.int .i64 14, .string y_147.Name, .int .i64 1, .int .i64 0, .int .i64 0, .int .i64 y_64.Kind, .int .i64 y_64.N, .string y_64.S, .int .i64 y_64.H.a0, .int .i64 y_64.H.a1, .int .i64 y_64.H.a2, .int .i64 y_64.H.a3, .int .i64 y_64.H.a4, .int .i64 y_64.H.a5, .int .i64 y_64.H.a6, .int .i64 y_64.H.a7, .slice none 0 0, .slice none 0 0, .slice none 0 0], [.int .i64 14, .string y_156.Name, .int .i64 2, .int .i64 0, .int .i64 0, .int .i64 y_64.Kind, .int .i64 y_64.N, .string y_64.S, .int .i64 y_64.H.a0, .int .i64 y_64.H.a1, .int .i64 y_64.H.a2, .int .i64 y_64.H.a3, .int .i64 y_64.H.a4, .int .i64 y_64.H.a5, .int .i64 y_64.H.a6, .int .i64 y_64.H.a7, .slice none 0 0, .slice none 0 0, .slice none 0 0]] Try.underlying22 Try.sizeOf51 Try.zeroValue51 rfl (pc_cons rfl (pc_cons rfl pc_nil)) rfl rfl (Nat.le_of_ble_eq_true rfl) rfl (all_cons rfl (all_cons rfl (all_nil))) rfl hS hK (by decide) rfl fun a w b_170 hS hK => ?_
                  refine parK_nil (hS.pk3.pk3.trunc 2) ?_
                  refine sp (k := 17) rfl hK (by decide) rfl rfl (fun w hS => r_buildC (ps := [(0, .slice (some ⟨b_170, 0, none⟩) 2 2)]) (c := [.slice (some ⟨b_170, 0, none⟩) 2 2]) Try.underlying24 Try.zeroValue24 places24 hK rfl (pc_cons rfl pc_nil) rfl rfl) fun a hK => ?_
                  refine thenL_nil ?_
                  have hS := hS.pk1
                  refine sl_storeA (vs := [.slice (some ⟨b_170, 0, none⟩) 2 2]) (c' := [.slice (some ⟨b_170, 0, none⟩) 2 2]) Try.sizeOf24 hS hK rfl rfl rfl rfl (all_cons rfl (all_nil)) (Nat.le_of_ble_eq_true rfl) rfl fun a w hS hK => ?_
                  refine wpList_nil (NoP_nil ?_)
                  have hS := hS.pk1
                  have hS := hS.row_lit (size := 19) (m := 2) rfl (by decide)
                  have hq_172 : Reps ty_api_Node R_6 [.int .i64 14, .string y_147.Name, .int .i64 1, .int .i64 0, .int .i64 0, .int .i64 y_64.Kind, .int .i64 y_64.N, .string y_64.S, .int .i64 y_64.H.a0, .int .i64 y_64.H.a1, .int .i64 y_64.H.a2, .int .i64 y_64.H.a3, .int .i64 y_64.H.a4, .int .i64 y_64.H.a5, .int .i64 y_64.H.a6, .int .i64 y_64.H.a7, .slice none 0 0, .slice none 0 0, .slice none 0 0, .int .i64 14, .string y_156.Name, .int .i64 2, .int .i64 0, .int .i64 0, .int .i64 y_64.Kind, .int .i64 y_64.N, .string y_64.S, .int .i64 y_64.H.a0, .int .i64 y_64.H.a1, .int .i64 y_64.H.a2, .int .i64 y_64.H.a3, .int .i64 y_64.H.a4, .int .i64 y_64.H.a5, .int .i64 y_64.H.a6, .int .i64 y_64.H.a7, .slice none 0 0, .slice none 0 0, .slice none 0 0] [(⟨14, y_147.Name, 1, 0, 0, y_64, [], [], []⟩ : api_Node), (⟨14, y_156.Name, 2, 0, 0, y_64, [], [], []⟩ : api_Node)] := (Reps.cons (show Ty.rep ty_api_Node _ [.int .i64 14, .string y_147.Name, .int .i64 1, .int .i64 0, .int .i64 0, .int .i64 y_64.Kind, .int .i64 y_64.N, .string y_64.S, .int .i64 y_64.H.a0, .int .i64 y_64.H.a1, .int .i64 y_64.H.a2, .int .i64 y_64.H.a3, .int .i64 y_64.H.a4, .int .i64 y_64.H.a5, .int .i64 y_64.H.a6, .int .i64 y_64.H.a7, .slice none 0 0, .slice none 0 0, .slice none 0 0] (⟨14, y_147.Name, 1, 0, 0, y_64, [], [], []⟩ : api_Node) from ⟨_, _, _, rfl, SlR.nil _ _, SlR.nil _ _, SlR.nil _ _⟩) (Reps.cons (show Ty.rep ty_api_Node _ [.int .i64 14, .string y_156.Name, .int .i64 2, .int .i64 0, .int .i64 0, .int .i64 y_64.Kind, .int .i64 y_64.N, .string y_64.S, .int .i64 y_64.H.a0, .int .i64 y_64.H.a1, .int .i64 y_64.H.a2, .int .i64 y_64.H.a3, .int .i64 y_64.H.a4, .int .i64 y_64.H.a5, .int .i64 y_64.H.a6, .int .i64 y_64.H.a7, .slice none 0 0, .slice none 0 0, .slice none 0 0] (⟨14, y_156.Name, 2, 0, 0, y_64, [], [], []⟩ : api_Node) from ⟨_, _, _, rfl, SlR.nil _ _, SlR.nil _ _, SlR.nil _ _⟩) (Reps.nil _ _)))
                  have hS := hS.pk1
                  have hS := hS.pk1
                  have hS := hS.pk2
                  have hS := hS.pk3
                  exact ⟨[(⟨14, y_147.Name, 1, 0, 0, y_64, [], [], []⟩ : api_Node), (⟨14, y_156.Name, 2, 0, 0, y_64, [], [], []⟩ : api_Node)], _, _, _, H, hq_172, hK.sub (all_cons rfl (all_cons rfl (all_cons rfl (all_cons rfl (all_cons rfl (all_nil)))))), hS⟩
              · rintro a w ⟨x_120, v_121, cs_122, b_118, H, hq_123, hK, hS⟩
                unfold law15_PredEquals.j3 at H
                refine wp_seq ?_
                refine wp_region_lit ?_
                refine sl hK (by decide) rfl rfl (r_loadA (cs := [v_8, v_10]) Try.isAgg28 Try.sizeOf28 rfl hK rfl (hS.cells_of (m := 2) (.head _) rfl)) fun a hK => ?_
                refine sl hK (by decide) rfl rfl (r_loadA (cs := [v_121]) Try.isAgg24 Try.sizeOf24 rfl hK rfl (hS.cells_of (m := 1) (.tail _ (.tail _ (.tail _ (.head _)))) rfl)) fun a hK => ?_
                obtain ⟨y_173, h_174, H⟩ := bind_some H
                refine sl_call Try.call14 hK (by decide) rfl rfl rfl (pred_Where.calls y_4 (⟨x_120⟩ : api_Query) 0 (lentOf_sub [] _) hS.sub (hs_9.mono hS.rLe0) (hs_11.mono hS.rLe0) (hS.lend_row0 (.tail _ (.tail _ (.head _))) hq_123 rfl rfl) (GF.mono (hS.raLe0 hRA nil_not) hG) h_174) fun a v_ w hv_ hK => ?_
                obtain ⟨R_175, v_178, cs_179, v_182, cs_183, hv_, hr_, hl_176, hq_180, hq_184, hap_185⟩ := hv_
                have hv_ := hv_.symm
                subst hv_
                obtain ⟨hS, hl_176⟩ := hS.sp0.back hr_ hl_176
                have hS := hS.un2
                have hRL := hRL.trans hl_176
                refine sl_alloc Try.zeroValue28 hS hK (by decide) rfl rfl fun a w b_186 hS hK => ?_
                refine sl_storeA (vs := [v_178, v_182]) (c' := [v_178, v_182]) Try.sizeOf28 hS hK rfl rfl rfl rfl (all_cons (hS.row_one (.tail _ (.head _))) (all_cons (hS.row_one (.tail _ (.tail _ (.head _)))) (all_nil))) (Nat.le_of_ble_eq_true rfl) rfl fun a w hS hK => ?_
                refine wpList_nil ?_
                refine wp_seq ?_
                refine wp_region_lit ?_
                refine sl hK (by decide) rfl rfl (r_loadA (cs := [v_8, v_10]) Try.isAgg28 Try.sizeOf28 rfl hK rfl (hS.cells_of (m := 2) (.tail _ (.tail _ (.tail _ (.head _)))) rfl)) fun a hK => ?_
                refine sl hK (by decide) rfl rfl (r_loadA (cs := [v_121]) Try.isAgg24 Try.sizeOf24 rfl hK rfl (hS.cells_of (m := 1) (.tail _ (.tail _ (.tail _ (.tail _ (.tail _ (.tail _ (.head _))))))) rfl)) fun a hK => ?_
                obtain ⟨y_187, h_188, H⟩ := bind_some H
                refine sl_call Try.call14 hK (by decide) rfl rfl rfl (pred_Where.calls y_4 (⟨x_120⟩ : api_Query) 1 (lentOf_sub [] _) hS.sub (hs_9.mono (hl_176.le.trans hS.rLe0)) (hs_11.mono (hl_176.le.trans hS.rLe0)) (hS.lend_row0 (.tail _ (.tail _ (.tail _ (.tail _ (.tail _ (.head _)))))) (hq_123.mono hl_176.le) rfl rfl) (GF.mono (hS.raLe0 hRA nil_not) hG) h_188) fun a v_ w hv_ hK => ?_
                obtain ⟨R_189, v_192, cs_193, v_196, cs_197, hv_, hr_, hl_190, hq_194, hq_198, hap_199⟩ := hv_
                have hv_ := hv_.symm
                subst hv_
                obtain ⟨hS, hl_190⟩ := hS.sp0.back hr_ hl_190
                have hS := hS.un2
                have hRL := hRL.trans hl_190
                refine sl_alloc Try.zeroValue28 hS hK (by decide) rfl rfl fun a w b_200 hS hK => ?_
                refine sl_storeA (vs := [v_192, v_196]) (c' := [v_192, v_196]) Try.sizeOf28 hS hK rfl rfl rfl rfl (all_cons (hS.row_one (.tail _ (.head _))) (all_cons (hS.row_one (.tail _ (.tail _ (.head _)))) (all_nil))) (Nat.le_of_ble_eq_true rfl) rfl fun a w hS hK => ?_
                refine wpList_nil ?_
                refine wp_seq ?_
                refine wp_seq ?_
                refine wp_region_lit ?_
                refine sl hK (by decide) rfl rfl (r_assign hK rfl) fun a hK => ?_
                refine wpList_nil ?_
                refine wp_block ?_
                refine wp_loop_k (fun k_l4 a w => ∃ (x_242 : Int), law15_PredEquals.l4 y_2 y_4 x_22 y_64 y_173 y_187 k_l4 x_242 = some true ∧ Kn 133 a [(3, .pointer (some ⟨b_1, 0, none⟩)), (7, .bool y_2), (8, .int .i64 (x_22.tmod (y_4.Cols.length : Int))), (9, .pointer (some ⟨b_73, 0, none⟩)), (11, .pointer (some ⟨b_186, 0, none⟩)), (12, .pointer (some ⟨b_200, 0, none⟩)), (13, .int .i64 x_242)] ∧ St [] w0 w R_189 [.cells b_1 [v_8, v_10] 28, .cells b_73 [.int .i64 y_64.Kind, .int .i64 y_64.N, .string y_64.S, .int .i64 y_64.H.a0, .int .i64 y_64.H.a1, .int .i64 y_64.H.a2, .int .i64 y_64.H.a3, .int .i64 y_64.H.a4, .int .i64 y_64.H.a5, .int .i64 y_64.H.a6, .int .i64 y_64.H.a7] 39, .row 57 2 v_178 y_173.Cols.length cs_179, .row 33 1 v_182 y_173.Rows.length cs_183, .cells b_186 [v_178, v_182] 28, .row 57 2 v_192 y_187.Cols.length cs_193, .row 33 1 v_196 y_187.Rows.length cs_197, .cells b_200 [v_192, v_196] 28]) (((y_173.Rows.length : Int) - 0).toNat + 1) ?_ ?_
                · have hS := hS.pk2
                  have hS := hS.pk2
                  have hS := hS.pk3
                  have hS := hS.pk5
                  have hS := hS.pk5
                  have hS := hS.pk7
                  have hS := hS.pk7
                  exact ⟨0, H, hK.sub (all_cons rfl (all_cons rfl (all_cons rfl (all_cons rfl (all_cons rfl (all_cons rfl (all_cons rfl (all_nil)))))))), hS.trunc 8⟩
                · rintro k_l4 a w ⟨x_242, H, hK, hS⟩
                  cases k_l4 with
                  | zero => cases H
                  | succ k_l4 =>
                  rw [law15_PredEquals.l4.eq_2] at H
                  refine wp_seq ?_
                  refine wp_seq ?_
                  refine wp_region_lit ?_
                  refine sl hK (by decide) rfl rfl (r_move hK rfl) fun a hK => ?_
                  refine sl hK (by decide) rfl rfl (r_fieldAddr Try.underlying28 rfl Try.sizeOf26 hK rfl) fun a hK => ?_
                  refine sl hK (by decide) rfl rfl (r_load Try.isAgg26 hK rfl (hS.cell (.tail _ (.tail _ (.tail _ (.tail _ (.head _))))) rfl)) fun a hK => ?_
                  refine sl hK (by decide) rfl rfl (r_len_O Try.underlying26 hS (.tail _ (.tail _ (.tail _ (.head _)))) hK rfl) fun a hK => ?_
                  refine sl hK (by decide) rfl rfl (r_ibin hK rfl rfl rfl) fun a hK => ?_
                  refine wpList_nil ?_
                  refine wp_cond_split (hK.ev rfl) (fun (hb_284 : (decide (x_242 < (y_173.Rows.length : Int))) = true) => ?_) (fun (hb_284 : (decide (x_242 < (y_173.Rows.length : Int))) = false) => ?_)
                  · rw [ifb_t hb_284] at H
                    refine wp_skip ?_
                    refine wp_seq ?_
                    refine wp_block ?_
                    refine wp_seq ?_
                    refine par_region (C := fun w => St [] w0 w R_189 [.cells b_1 [v_8, v_10] 28, .cells b_73 [.int .i64 y_64.Kind, .int .i64 y_64.N, .string y_64.S, .int .i64 y_64.H.a0, .int .i64 y_64.H.a1, .int .i64 y_64.H.a2, .int .i64 y_64.H.a3, .int .i64 y_64.H.a4, .int .i64 y_64.H.a5, .int .i64 y_64.H.a6, .int .i64 y_64.H.a7] 39, .row 57 2 v_178 y_173.Cols.length cs_179, .row 33 1 v_182 y_173.Rows.length cs_183, .cells b_186 [v_178, v_182] 28, .row 57 2 v_192 y_187.Cols.length cs_193, .row 33 1 v_196 y_187.Rows.length cs_197, .cells b_200 [v_192, v_196] 28]) [(0, true), (1, true), (2, true), (3, true), (4, true), (5, true), (6, true), (7, true), (8, true), (9, true)] mixed (by kernel_rfl) hS (fun w hS => hS) fun w hS => ?_
                    refine sp (k := 0) rfl hK (by decide) rfl rfl (fun w hS => r_fieldAddr Try.underlying28 rfl Try.sizeOf26 hK rfl) fun a hK => ?_
                    refine sp (k := 1) rfl hK (by decide) rfl rfl (fun w hS => r_load Try.isAgg26 hK rfl (hS.cell (.tail _ (.tail _ (.tail _ (.tail _ (.head _))))) rfl)) fun a hK => ?_
                    refine sp (k := 2) rfl hK (by decide) rfl rfl (fun w hS => r_move hK rfl) fun a hK => ?_
                    obtain ⟨y_304, h_305, H⟩ := bind_some H
                    obtain ⟨b_307, c_308, cs_309, hv_306, hr_310, hc_311, h_3050, h_3051⟩ := hS.row_ix (.tail _ (.tail _ (.tail _ (.head _)))) (hq_184.mono hl_190.le) rfl rfl h_305
                    obtain ⟨v_312, rfl, hs_313⟩ := hr_310
                    refine sp (k := 3) rfl hK (by decide) rfl rfl (fun w hS => r_indexAddr_R Try.underlying26 Try.sizeOf33 hv_306 h_3050 h_3051 hK rfl rfl) fun a hK => ?_
                    refine sp (k := 4) rfl hK (by decide) rfl rfl (fun w hS => r_load Try.isAgg33 hK rfl (hS.row_cell (.tail _ (.tail _ (.tail _ (.head _)))) hv_306 (hc_311 0 _ rfl))) fun a hK => ?_
                    refine sp (k := 5) rfl hK (by decide) rfl rfl (fun w hS => r_move hK rfl) fun a hK => ?_
                    obtain ⟨y_314, h_315, H⟩ := bind_some H
                    obtain ⟨b_316, o_317, c_318, cs_319, hv_320, hr_321, hc_322, h_3150, h_3151⟩ := hs_313.ix h_315
                    subst hr_321
                    refine sp (k := 6) rfl hK (by decide) rfl rfl (fun w hS => r_indexAddr_R Try.underlying33 Try.sizeOf39 hv_320 h_3150 h_3151 hK rfl rfl) fun a hK => ?_
                    refine sp (k := 7) rfl hK (by decide) rfl rfl (fun w hS => r_loadA (cs := [.int .i64 y_314.Kind, .int .i64 y_314.N, .string y_314.S, .int .i64 y_314.H.a0, .int .i64 y_314.H.a1, .int .i64 y_314.H.a2, .int .i64 y_314.H.a3, .int .i64 y_314.H.a4, .int .i64 y_314.H.a5, .int .i64 y_314.H.a6, .int .i64 y_314.H.a7]) Try.isAgg39 Try.sizeOf39 rfl hK rfl (fun j v hv => hS.sub.cell (hc_322 j v hv))) fun a hK => ?_
                    refine sp (k := 8) rfl hK (by decide) rfl rfl (fun w hS => r_loadA (cs := [.int .i64 y_64.Kind, .int .i64 y_64.N, .string y_64.S, .int .i64 y_64.H.a0, .int .i64 y_64.H.a1, .int .i64 y_64.H.a2, .int .i64 y_64.H.a3, .int .i64 y_64.H.a4, .int .i64 y_64.H.a5, .int .i64 y_64.H.a6, .int .i64 y_64.H.a7]) Try.isAgg39 Try.sizeOf39 rfl hK rfl (hS.cells_of (m := 11) (.tail _ (.head _)) rfl)) fun a hK => ?_
                    refine sp (k := 9) rfl hK (by decide) rfl rfl (fun w hS => r_sne (by kernel_rfl) (eqs39 y_314 y_64) hK rfl rfl) fun a hK => ?_
                    refine wpPar_nil (NoP_nil ?_)
                    refine wp_cond_split (hK.ev rfl) (fun (hb_323 : (!decide (y_314 = y_64)) = true) => ?_) (fun (hb_323 : (!decide (y_314 = y_64)) = false) => ?_)
                    · rw [ifb_t hb_323] at H
                      refine wp_seq ?_
                      refine wp_region_lit ?_
                      refine sl hK (by decide) rfl rfl (r_assign hK rfl) fun a hK => ?_
                      refine wpList_nil ?_
                      exact absurd (Option.some.inj H) (by decide)
                    · rw [ifb_f hb_323] at H
                      refine wp_skip ?_
                      refine wp_region_lit ?_
                      refine sl hK (by decide) rfl rfl (r_move hK rfl) fun a hK => ?_
                      refine sl hK (by decide) rfl rfl (r_ibin hK rfl rfl rfl) fun a hK => ?_
                      refine sl hK (by decide) rfl rfl (r_assign hK rfl) fun a hK => ?_
                      refine wpList_nil ?_
                      have hS := hS.pk7
                      have hS := hS.pk7
                      have hS := hS.pk7
                      have hS := hS.pk7
                      have hS := hS.pk7
                      have hS := hS.pk7
                      have hS := hS.pk7
                      have hS := hS.pk7
                      exact ⟨_, Nat.lt_succ_self _, (IntKind.i64.wrap (x_242 + 1)), H, hK.sub (all_cons rfl (all_cons rfl (all_cons rfl (all_cons rfl (all_cons rfl (all_cons rfl (all_cons rfl (all_nil)))))))), hS⟩
                  · rw [ifb_f hb_284] at H
                    refine wp_exit ?_
                    refine wp_seq ?_
                    refine wp_seq ?_
                    refine wp_region_lit ?_
                    refine sl hK (by decide) rfl rfl (r_assign hK rfl) fun a hK => ?_
                    refine wpList_nil ?_
                    refine wp_block ?_
                    refine wp_loop_k (fun k_l5 a w => ∃ (x_365 : Int), law15_PredEquals.l5 y_2 y_4 x_22 y_64 y_173 y_187 k_l5 x_365 = some true ∧ Kn 133 a [(3, .pointer (some ⟨b_1, 0, none⟩)), (7, .bool y_2), (8, .int .i64 (x_22.tmod (y_4.Cols.length : Int))), (9, .pointer (some ⟨b_73, 0, none⟩)), (11, .pointer (some ⟨b_186, 0, none⟩)), (12, .pointer (some ⟨b_200, 0, none⟩)), (14, .int .i64 x_365)] ∧ St [] w0 w R_189 [.cells b_1 [v_8, v_10] 28, .cells b_73 [.int .i64 y_64.Kind, .int .i64 y_64.N, .string y_64.S, .int .i64 y_64.H.a0, .int .i64 y_64.H.a1, .int .i64 y_64.H.a2, .int .i64 y_64.H.a3, .int .i64 y_64.H.a4, .int .i64 y_64.H.a5, .int .i64 y_64.H.a6, .int .i64 y_64.H.a7] 39, .row 57 2 v_178 y_173.Cols.length cs_179, .row 33 1 v_182 y_173.Rows.length cs_183, .cells b_186 [v_178, v_182] 28, .row 57 2 v_192 y_187.Cols.length cs_193, .row 33 1 v_196 y_187.Rows.length cs_197, .cells b_200 [v_192, v_196] 28]) (((y_187.Rows.length : Int) - 0).toNat + 1) ?_ ?_
                    · have hS := hS.pk7
                      have hS := hS.pk7
                      have hS := hS.pk7
                      have hS := hS.pk7
                      have hS := hS.pk7
                      have hS := hS.pk7
                      have hS := hS.pk7
                      have hS := hS.pk7
                      exact ⟨0, H, hK.sub (all_cons rfl (all_cons rfl (all_cons rfl (all_cons rfl (all_cons rfl (all_cons rfl (all_cons rfl (all_nil)))))))), hS⟩
                    · rintro k_l5 a w ⟨x_365, H, hK, hS⟩
                      cases k_l5 with
                      | zero => cases H
                      | succ k_l5 =>
                      rw [law15_PredEquals.l5.eq_2] at H
                      refine wp_seq ?_
                      refine wp_seq ?_
                      refine wp_region_lit ?_
                      refine sl hK (by decide) rfl rfl (r_move hK rfl) fun a hK => ?_
                      refine sl hK (by decide) rfl rfl (r_fieldAddr Try.underlying28 rfl Try.sizeOf26 hK rfl) fun a hK => ?_
                      refine sl hK (by decide) rfl rfl (r_load Try.isAgg26 hK rfl (hS.cell (.tail _ (.tail _ (.tail _ (.tail _ (.tail _ (.tail _ (.tail _ (.head _)))))))) rfl)) fun a hK => ?_
                      refine sl hK (by decide) rfl rfl (r_len_O Try.underlying26 hS (.tail _ (.tail _ (.tail _ (.tail _ (.tail _ (.tail _ (.head _))))))) hK rfl) fun a hK => ?_
                      refine sl hK (by decide) rfl rfl (r_ibin hK rfl rfl rfl) fun a hK => ?_
                      refine wpList_nil ?_
                      refine wp_cond_split (hK.ev rfl) (fun (hb_407 : (decide (x_365 < (y_187.Rows.length : Int))) = true) => ?_) (fun (hb_407 : (decide (x_365 < (y_187.Rows.length : Int))) = false) => ?_)
                      · rw [ifb_t hb_407] at H
                        refine wp_skip ?_
                        refine wp_seq ?_
                        refine wp_block ?_
                        refine wp_seq ?_
                        refine par_region (C := fun w => St [] w0 w R_189 [.cells b_1 [v_8, v_10] 28, .cells b_73 [.int .i64 y_64.Kind, .int .i64 y_64.N, .string y_64.S, .int .i64 y_64.H.a0, .int .i64 y_64.H.a1, .int .i64 y_64.H.a2, .int .i64 y_64.H.a3, .int .i64 y_64.H.a4, .int .i64 y_64.H.a5, .int .i64 y_64.H.a6, .int .i64 y_64.H.a7] 39, .row 57 2 v_178 y_173.Cols.length cs_179, .row 33 1 v_182 y_173.Rows.length cs_183, .cells b_186 [v_178, v_182] 28, .row 57 2 v_192 y_187.Cols.length cs_193, .row 33 1 v_196 y_187.Rows.length cs_197, .cells b_200 [v_192, v_196] 28]) [(0, true), (1, true), (2, true), (3, true), (4, true), (5, true), (6, true), (7, true), (8, true), (9, true)] mixed (by kernel_rfl) hS (fun w hS => hS) fun w hS => ?_
                        refine sp (k := 0) rfl hK (by decide) rfl rfl (fun w hS => r_fieldAddr Try.underlying28 rfl Try.sizeOf26 hK rfl) fun a hK => ?_
                        refine sp (k := 1) rfl hK (by decide) rfl rfl (fun w hS => r_load Try.isAgg26 hK rfl (hS.cell (.tail _ (.tail _ (.tail _ (.tail _ (.tail _ (.tail _ (.tail _ (.head _)))))))) rfl)) fun a hK => ?_
                        refine sp (k := 2) rfl hK (by decide) rfl rfl (fun w hS => r_move hK rfl) fun a hK => ?_
                        obtain ⟨y_427, h_428, H⟩ := bind_some H
                        obtain ⟨b_430, c_431, cs_432, hv_429, hr_433, hc_434, h_4280, h_4281⟩ := hS.row_ix (.tail _ (.tail _ (.tail _ (.tail _ (.tail _ (.tail _ (.head _))))))) hq_198 rfl rfl h_428
                        obtain ⟨v_435, rfl, hs_436⟩ := hr_433
                        refine sp (k := 3) rfl hK (by decide) rfl rfl (fun w hS => r_indexAddr_R Try.underlying26 Try.sizeOf33 hv_429 h_4280 h_4281 hK rfl rfl) fun a hK => ?_
                        refine sp (k := 4) rfl hK (by decide) rfl rfl (fun w hS => r_load Try.isAgg33 hK rfl (hS.row_cell (.tail _ (.tail _ (.tail _ (.tail _ (.tail _ (.tail _ (.head _))))))) hv_429 (hc_434 0 _ rfl))) fun a hK => ?_
                        refine sp (k := 5) rfl hK (by decide) rfl rfl (fun w hS => r_move hK rfl) fun a hK => ?_
                        obtain ⟨y_437, h_438, H⟩ := bind_some H
                        obtain ⟨b_439, o_440, c_441, cs_442, hv_443, hr_444, hc_445, h_4380, h_4381⟩ := hs_436.ix h_438
                        subst hr_444
                        refine sp (k := 6) rfl hK (by decide) rfl rfl (fun w hS => r_indexAddr_R Try.underlying33 Try.sizeOf39 hv_443 h_4380 h_4381 hK rfl rfl) fun a hK => ?_
                        refine sp (k := 7) rfl hK (by decide) rfl rfl (fun w hS => r_loadA (cs := [.int .i64 y_437.Kind, .int .i64 y_437.N, .string y_437.S, .int .i64 y_437.H.a0, .int .i64 y_437.H.a1, .int .i64 y_437.H.a2, .int .i64 y_437.H.a3, .int .i64 y_437.H.a4, .int .i64 y_437.H.a5, .int .i64 y_437.H.a6, .int .i64 y_437.H.a7]) Try.isAgg39 Try.sizeOf39 rfl hK rfl (fun j v hv => hS.sub.cell (hc_445 j v hv))) fun a hK => ?_
                        refine sp (k := 8) rfl hK (by decide) rfl rfl (fun w hS => r_loadA (cs := [.int .i64 y_64.Kind, .int .i64 y_64.N, .string y_64.S, .int .i64 y_64.H.a0, .int .i64 y_64.H.a1, .int .i64 y_64.H.a2, .int .i64 y_64.H.a3, .int .i64 y_64.H.a4, .int .i64 y_64.H.a5, .int .i64 y_64.H.a6, .int .i64 y_64.H.a7]) Try.isAgg39 Try.sizeOf39 rfl hK rfl (hS.cells_of (m := 11) (.tail _ (.head _)) rfl)) fun a hK => ?_
                        refine sp (k := 9) rfl hK (by decide) rfl rfl (fun w hS => r_seq (by kernel_rfl) (eqs39 y_437 y_64) hK rfl rfl) fun a hK => ?_
                        refine wpPar_nil (NoP_nil ?_)
                        refine wp_cond_split (hK.ev rfl) (fun (hb_446 : (decide (y_437 = y_64)) = true) => ?_) (fun (hb_446 : (decide (y_437 = y_64)) = false) => ?_)
                        · rw [ifb_t hb_446] at H
                          refine wp_seq ?_
                          refine wp_region_lit ?_
                          refine sl hK (by decide) rfl rfl (r_assign hK rfl) fun a hK => ?_
                          refine wpList_nil ?_
                          exact absurd (Option.some.inj H) (by decide)
                        · rw [ifb_f hb_446] at H
                          refine wp_skip ?_
                          refine wp_region_lit ?_
                          refine sl hK (by decide) rfl rfl (r_move hK rfl) fun a hK => ?_
                          refine sl hK (by decide) rfl rfl (r_ibin hK rfl rfl rfl) fun a hK => ?_
                          refine sl hK (by decide) rfl rfl (r_assign hK rfl) fun a hK => ?_
                          refine wpList_nil ?_
                          have hS := hS.pk7
                          have hS := hS.pk7
                          have hS := hS.pk7
                          have hS := hS.pk7
                          have hS := hS.pk7
                          have hS := hS.pk7
                          have hS := hS.pk7
                          have hS := hS.pk7
                          exact ⟨_, Nat.lt_succ_self _, (IntKind.i64.wrap (x_365 + 1)), H, hK.sub (all_cons rfl (all_cons rfl (all_cons rfl (all_cons rfl (all_cons rfl (all_cons rfl (all_cons rfl (all_nil)))))))), hS⟩
                      · rw [ifb_f hb_407] at H
                        refine wp_exit ?_
                        refine wp_seq ?_
                        refine wp_region_lit ?_
                        refine sl hK (by decide) rfl rfl (r_move hK rfl) fun a hK => ?_
                        refine sl hK (by decide) rfl rfl (r_move hK rfl) fun a hK => ?_
                        rcases or_b y_2 with hb_447 | hb_447
                        · rw [ifb_t hb_447] at H
                          refine sl hK (by decide) (wtt hb_447) rfl (r_fieldAddr Try.underlying28 rfl Try.sizeOf26 hK rfl) fun a hK => ?_
                          refine sl hK (by decide) (wtt hb_447) rfl (r_load Try.isAgg26 hK rfl (hS.cell (.tail _ (.tail _ (.tail _ (.tail _ (.head _))))) rfl)) fun a hK => ?_
                          refine sl hK (by decide) (wtt hb_447) rfl (r_len_O Try.underlying26 hS (.tail _ (.tail _ (.tail _ (.head _)))) hK rfl) fun a hK => ?_
                          refine sl hK (by decide) (wtt hb_447) rfl (r_ibin hK rfl rfl rfl) fun a hK => ?_
                          refine sl hK (by decide) rfl rfl (r_pick_t hb_447 hK rfl rfl) fun a hK => ?_
                          refine sl hK (by decide) rfl rfl (r_move hK rfl) fun a hK => ?_
                          rcases or_b (decide ((y_173.Rows.length : Int) > 0)) with hb_448 | hb_448
                          · rw [ifb_t hb_448] at H
                            refine sl hK (by decide) (wtt hb_448) rfl (r_fieldAddr Try.underlying28 rfl Try.sizeOf26 hK rfl) fun a hK => ?_
                            refine sl hK (by decide) (wtt hb_448) rfl (r_load Try.isAgg26 hK rfl (hS.cell (.tail _ (.tail _ (.tail _ (.tail _ (.head _))))) rfl)) fun a hK => ?_
                            refine sl hK (by decide) (wtt hb_448) rfl (r_len_O Try.underlying26 hS (.tail _ (.tail _ (.tail _ (.head _)))) hK rfl) fun a hK => ?_
                            refine sl hK (by decide) (wtt hb_448) rfl (r_fieldAddr Try.underlying28 rfl Try.sizeOf26 hK rfl) fun a hK => ?_
                            refine sl hK (by decide) (wtt hb_448) rfl (r_load Try.isAgg26 hK rfl (hS.cell (.tail _ (.tail _ (.tail _ (.tail _ (.tail _ (.tail _ (.tail _ (.head _)))))))) rfl)) fun a hK => ?_
                            refine sl hK (by decide) (wtt hb_448) rfl (r_len_O Try.underlying26 hS (.tail _ (.tail _ (.tail _ (.tail _ (.tail _ (.tail _ (.head _))))))) hK rfl) fun a hK => ?_
                            refine sl hK (by decide) (wtt hb_448) rfl (r_ibin hK rfl rfl rfl) fun a hK => ?_
                            refine sl hK (by decide) (wtt hb_448) rfl (r_fieldAddr Try.underlying28 rfl Try.sizeOf26 hK rfl) fun a hK => ?_
                            refine sl hK (by decide) (wtt hb_448) rfl (r_load Try.isAgg26 hK rfl (hS.cell (.head _) rfl)) fun a hK => ?_
                            refine sl hK (by decide) (wtt hb_448) rfl (r_len_R Try.underlying26 hs_11 hK rfl) fun a hK => ?_
                            refine sl hK (by decide) (wtt hb_448) rfl (r_ibin hK rfl rfl rfl) fun a hK => ?_
                            refine sl hK (by decide) rfl rfl (r_pick_t hb_448 hK rfl rfl) fun a hK => ?_
                            refine sl hK (by decide) rfl rfl (r_assign hK rfl) fun a hK => ?_
                            refine wpList_nil ?_
                            have hr_ := Option.some.inj H
                            refine wp_ret ?_
                            repeat (first | refine ret_then ?_ | refine ret_block ?_ | refine ret_scope ?_)
                            exact ret_1 Try.results8 hK (rv_tmp hK rfl) ⟨congrArg (fun b => Ending.returned (Value.bool b)) hr_, hS.bel⟩
                          · rw [ifb_f hb_448] at H
                            refine sl_skip hK (by decide) (wtf hb_448) rfl fun a hK => ?_
                            refine sl_skip hK (by decide) (wtf hb_448) rfl fun a hK => ?_
                            refine sl_skip hK (by decide) (wtf hb_448) rfl fun a hK => ?_
                            refine sl_skip hK (by decide) (wtf hb_448) rfl fun a hK => ?_
                            refine sl_skip hK (by decide) (wtf hb_448) rfl fun a hK => ?_
                            refine sl_skip hK (by decide) (wtf hb_448) rfl fun a hK => ?_
                            refine sl_skip hK (by decide) (wtf hb_448) rfl fun a hK => ?_
                            refine sl_skip hK (by decide) (wtf hb_448) rfl fun a hK => ?_
                            refine sl_skip hK (by decide) (wtf hb_448) rfl fun a hK => ?_
                            refine sl_skip hK (by decide) (wtf hb_448) rfl fun a hK => ?_
                            refine sl_skip hK (by decide) (wtf hb_448) rfl fun a hK => ?_
                            refine sl hK (by decide) rfl rfl (r_pick_f hb_448 hK rfl rfl) fun a hK => ?_
                            refine sl hK (by decide) rfl rfl (r_assign hK rfl) fun a hK => ?_
                            refine wpList_nil ?_
                            exact absurd (Option.some.inj H) (by decide)
                        · rw [ifb_f hb_447] at H
                          refine sl_skip hK (by decide) (wtf hb_447) rfl fun a hK => ?_
                          refine sl_skip hK (by decide) (wtf hb_447) rfl fun a hK => ?_
                          refine sl_skip hK (by decide) (wtf hb_447) rfl fun a hK => ?_
                          refine sl_skip hK (by decide) (wtf hb_447) rfl fun a hK => ?_
                          refine sl hK (by decide) rfl rfl (r_pick_f hb_447 hK rfl rfl) fun a hK => ?_
                          refine sl hK (by decide) rfl rfl (r_move hK rfl) fun a hK => ?_
                          refine sl_skip hK (by decide) rfl rfl fun a hK => ?_
                          refine sl_skip hK (by decide) rfl rfl fun a hK => ?_
                          refine sl_skip hK (by decide) rfl rfl fun a hK => ?_
                          refine sl_skip hK (by decide) rfl rfl fun a hK => ?_
                          refine sl_skip hK (by decide) rfl rfl fun a hK => ?_
                          refine sl_skip hK (by decide) rfl rfl fun a hK => ?_
                          refine sl_skip hK (by decide) rfl rfl fun a hK => ?_
                          refine sl_skip hK (by decide) rfl rfl fun a hK => ?_
                          refine sl_skip hK (by decide) rfl rfl fun a hK => ?_
                          refine sl_skip hK (by decide) rfl rfl fun a hK => ?_
                          refine sl_skip hK (by decide) rfl rfl fun a hK => ?_
                          refine sl hK (by decide) rfl rfl (r_pick hK rfl rfl rfl) fun a hK => ?_
                          refine sl hK (by decide) rfl rfl (r_assign hK rfl) fun a hK => ?_
                          refine wpList_nil ?_
                          exact absurd (Option.some.inj H) (by decide)
            · rw [ifb_f hn_52] at H
              cases H
          · rw [ifb_f hn_29] at H
            cases H

end Go.Proofs.Ytjklfkiaebipnaa.M
