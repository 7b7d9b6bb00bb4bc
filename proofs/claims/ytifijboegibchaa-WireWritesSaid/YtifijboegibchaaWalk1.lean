/- Each Go function of the laws answers as its plain Lean function tells, wherever that tells something. Printed by wip/eng/gen.py. -/
import Derived.Test.YtifijboegibchaaPure
import Derived.Test.YtifijboegibchaaProg
namespace Go.Proofs.Ytifijboegibchaa.M
open Go Go.Eng Go.Proofs Go.RowKit
set_option linter.unusedVariables false
set_option linter.unusedSimpArgs false

theorem mixed : Try.prog.follows .mixedOrders = true := by kernel_rfl
theorem elT22 : ElT Try.prog 22 5 1 1 := ⟨Try.underlying22, ⟨Try.t5, _, Try.type5, rfl, rfl, rfl, rfl⟩, by decide⟩
theorem elT34 : ElT Try.prog 34 48 2 24 := ⟨Try.underlying34, ⟨Try.t48, _, Try.type48, rfl, rfl, rfl, rfl⟩, by decide⟩
theorem elT49 : ElT Try.prog 49 25 11 96 := ⟨Try.underlying49, ⟨Try.t25, _, Try.type25, rfl, rfl, rfl, rfl⟩, by decide⟩
theorem elT35 : ElT Try.prog 35 49 1 24 := ⟨Try.underlying35, ⟨Try.t49, _, Try.type49, rfl, rfl, rfl, rfl⟩, by decide⟩
theorem places25 (w : World) : (placesOf Try.prog 25).run Try.prog w = .ok #[(0, 1), (1, 1), (2, 1), (3, 8)] w := by
  unfold placesOf
  rw [Try.underlying25]
  simp [Try.sizeOf23, Try.sizeOf3, Try.sizeOf9]
theorem eqs25 (x y : api_Value) : EqS Try.prog 25 #[.int .i64 x.Kind, .int .i64 x.N, .string x.S, .int .i64 x.H.a0, .int .i64 x.H.a1, .int .i64 x.H.a2, .int .i64 x.H.a3, .int .i64 x.H.a4, .int .i64 x.H.a5, .int .i64 x.H.a6, .int .i64 x.H.a7] #[.int .i64 y.Kind, .int .i64 y.N, .string y.S, .int .i64 y.H.a0, .int .i64 y.H.a1, .int .i64 y.H.a2, .int .i64 y.H.a3, .int .i64 y.H.a4, .int .i64 y.H.a5, .int .i64 y.H.a6, .int .i64 y.H.a7] (decide (x = y)) := by
  refine eqS_of (by kernel_rfl) (by kernel_rfl) (fun w => by
    simp only [Program.fieldsOf, Try.underlying25]
    exact eqF_cons (by decide) (run_part1 Try.isAgg3 rfl) (run_part1 Try.isAgg3 rfl) (run_equalIn_int w _ _ _ _ _ _ Try.underlying3) (eqF_cons (by decide) (run_part1 Try.isAgg3 rfl) (run_part1 Try.isAgg3 rfl) (run_equalIn_int w _ _ _ _ _ _ Try.underlying3) (eqF_cons (by decide) (run_part1 Try.isAgg9 rfl) (run_part1 Try.isAgg9 rfl) (run_equalIn_string w _ _ _ _ Try.underlying9) (eqF_cons (by decide) (run_partA (ys := (x.H.list.map (Value.int .i64)).toArray) Try.isAgg23 Try.sizeOf23 rfl) (run_partA (ys := (y.H.list.map (Value.int .i64)).toArray) Try.isAgg23 Try.sizeOf23 rfl) (eq_arr' (q := 9998) Try.underlying23 (fun a b w => run_equalIn_int w 9997 _ _ _ a b Try.underlying3) Try.isAgg3 Try.sizeOf3 x.H.list y.H.list rfl rfl w) (eqF_nil))))) ?_
  simp only [beq_bytes, Arr8.list_inj, Arr2.list_inj, Bool.and_true]
  cases x; cases y; simp <;> rfl
theorem places58 (w : World) : (placesOf Try.prog 58).run Try.prog w = .ok #[(0, 1)] w := by
  unfold placesOf
  rw [Try.underlying58]
  simp [Try.sizeOf22]
theorem places71 (w : World) : (placesOf Try.prog 71).run Try.prog w = .ok #[] w := by
  unfold placesOf
  rw [Try.underlying71]
  simp []
theorem places48 (w : World) : (placesOf Try.prog 48).run Try.prog w = .ok #[(0, 1), (1, 1)] w := by
  unfold placesOf
  rw [Try.underlying48]
  simp [Try.sizeOf3, Try.sizeOf9]
theorem places37 (w : World) : (placesOf Try.prog 37).run Try.prog w = .ok #[(0, 1), (1, 1)] w := by
  unfold placesOf
  rw [Try.underlying37]
  simp [Try.sizeOf34, Try.sizeOf35]
theorem eqs23 (x y : Arr8) : EqS Try.prog 23 (x.list.map (Value.int .i64)).toArray (y.list.map (Value.int .i64)).toArray (decide (x = y)) := eqA_of Try.underlying23 Try.underlying3 Try.isAgg3 Try.sizeOf3 rfl rfl rfl rfl Arr8.list_inj
theorem eqs48 (x y : api_Col) : EqS Try.prog 48 #[.string x.Name, .int .i64 x.Kind] #[.string y.Name, .int .i64 y.Kind] (decide (x = y)) := by
  refine eqS_of (by kernel_rfl) (by kernel_rfl) (fun w => by
    simp only [Program.fieldsOf, Try.underlying48]
    exact eqF_cons (by decide) (run_part1 Try.isAgg9 rfl) (run_part1 Try.isAgg9 rfl) (run_equalIn_string w _ _ _ _ Try.underlying9) (eqF_cons (by decide) (run_part1 Try.isAgg3 rfl) (run_part1 Try.isAgg3 rfl) (run_equalIn_int w _ _ _ _ _ _ Try.underlying3) (eqF_nil))) ?_
  simp only [beq_bytes, Arr8.list_inj, Arr2.list_inj, Bool.and_true]
  cases x; cases y; simp <;> rfl

/-! ### catchment/value.Valid: function 22 -/
set_option maxHeartbeats 4000000 in
set_option maxRecDepth 100000 in
theorem value_Valid.calls (a0 : api_Value) {r : Bool} (H : value_Valid a0 = some r) (w0 : World) : CallsV Try.prog 22 #[.agg #[.int .i64 a0.Kind, .int .i64 a0.N, .string a0.S, .int .i64 a0.H.a0, .int .i64 a0.H.a1, .int .i64 a0.H.a2, .int .i64 a0.H.a3, .int .i64 a0.H.a4, .int .i64 a0.H.a5, .int .i64 a0.H.a6, .int .i64 a0.H.a7]] w0 (.bool r) := by
  unfold value_Valid at H
  refine enter (args := [.agg #[.int .i64 a0.Kind, .int .i64 a0.N, .string a0.S, .int .i64 a0.H.a0, .int .i64 a0.H.a1, .int .i64 a0.H.a2, .int .i64 a0.H.a3, .int .i64 a0.H.a4, .int .i64 a0.H.a5, .int .i64 a0.H.a6, .int .i64 a0.H.a7]]) Try.func22 rfl Try.ntmps22 rfl fun a hK => ?_
  have hS := St.init (R := fun _ => none) (w := w0) (fun _ _ h => by cases h)
  have hRL := RLe.refl (M := []) w0 (fun _ => none)
  refine wp_seq ?_
  refine wp_region_lit ?_
  refine sl_box hS hK (by decide) rfl rfl (c := [.int .i64 a0.Kind, .int .i64 a0.N, .string a0.S, .int .i64 a0.H.a0, .int .i64 a0.H.a1, .int .i64 a0.H.a2, .int .i64 a0.H.a3, .int .i64 a0.H.a4, .int .i64 a0.H.a5, .int .i64 a0.H.a6, .int .i64 a0.H.a7]) rfl fun a w b_1 hS hK => ?_
  refine sl hK (by decide) rfl rfl (r_assign hK rfl) fun a hK => ?_
  refine wpList_nil ?_
  refine wp_seq ?_
  refine wp_region_lit ?_
  refine sl hK (by decide) rfl rfl (r_loadA (cs := [.int .i64 a0.Kind, .int .i64 a0.N, .string a0.S, .int .i64 a0.H.a0, .int .i64 a0.H.a1, .int .i64 a0.H.a2, .int .i64 a0.H.a3, .int .i64 a0.H.a4, .int .i64 a0.H.a5, .int .i64 a0.H.a6, .int .i64 a0.H.a7]) Try.isAgg25 Try.sizeOf25 rfl hK rfl (hS.cells_of (m := 11) (.head _) rfl)) fun a hK => ?_
  refine sl_alloc Try.zeroValue25 hS hK (by decide) rfl rfl fun a w b_2 hS hK => ?_
  refine sl_storeA (vs := [.int .i64 a0.Kind, .int .i64 a0.N, .string a0.S, .int .i64 a0.H.a0, .int .i64 a0.H.a1, .int .i64 a0.H.a2, .int .i64 a0.H.a3, .int .i64 a0.H.a4, .int .i64 a0.H.a5, .int .i64 a0.H.a6, .int .i64 a0.H.a7]) (c' := [.int .i64 a0.Kind, .int .i64 a0.N, .string a0.S, .int .i64 a0.H.a0, .int .i64 a0.H.a1, .int .i64 a0.H.a2, .int .i64 a0.H.a3, .int .i64 a0.H.a4, .int .i64 a0.H.a5, .int .i64 a0.H.a6, .int .i64 a0.H.a7]) Try.sizeOf25 hS hK rfl rfl rfl rfl (all_cons rfl (all_cons rfl (all_cons rfl (all_cons rfl (all_cons rfl (all_cons rfl (all_cons rfl (all_cons rfl (all_cons rfl (all_cons rfl (all_cons rfl (all_nil)))))))))))) (Nat.le_of_ble_eq_true rfl) rfl fun a w hS hK => ?_
  refine wpList_nil ?_
  refine wp_seq ?_
  refine wp_region_lit ?_
  refine sl hK (by decide) rfl rfl (r_fieldAddr Try.underlying25 rfl Try.sizeOf3 hK rfl) fun a hK => ?_
  refine sl_store1 (c' := [.int .i64 0, .int .i64 a0.N, .string a0.S, .int .i64 a0.H.a0, .int .i64 a0.H.a1, .int .i64 a0.H.a2, .int .i64 a0.H.a3, .int .i64 a0.H.a4, .int .i64 a0.H.a5, .int .i64 a0.H.a6, .int .i64 a0.H.a7]) Try.sizeOf3 hS hK rfl rfl rfl rfl (Nat.le_of_ble_eq_true rfl) rfl fun a w hS hK => ?_
  refine wpList_nil ?_
  refine wp_seq ?_
  refine wp_region_lit ?_
  refine sl hK (by decide) rfl rfl (r_assign hK rfl) fun a hK => ?_
  refine wpList_nil ?_
  refine wp_seq ?_
  refine wp_seq ?_
  refine wp_region_lit ?_
  refine sl hK (by decide) rfl rfl (r_fieldAddr Try.underlying25 rfl Try.sizeOf3 hK rfl) fun a hK => ?_
  refine sl hK (by decide) rfl rfl (r_load Try.isAgg3 hK rfl (hS.cell (.tail _ (.head _)) rfl)) fun a hK => ?_
  refine wpList_nil ?_
  refine wp_block ?_
  refine wp_seq ?_
  refine wp_region_lit ?_
  refine sl hK (by decide) rfl rfl (r_ibin hK rfl rfl rfl) fun a hK => ?_
  refine sl hK (by decide) rfl rfl (r_assign hK rfl) fun a hK => ?_
  refine wpList_nil ?_
  refine wp_mid (fun a w => ∃ (x_59 : Int) (x_60 : ByteArray) (x_61 : Arr8) (x_62 : Bool), value_Valid.j0 x_59 x_60 x_61 x_62 = some r ∧ Kn 40 a [(3, .pointer (some ⟨b_2, 0, none⟩)), (4, .bool x_62)] ∧ St [] w0 w (fun _ => none) [.cells b_2 [.int .i64 0, .int .i64 x_59, .string x_60, .int .i64 x_61.a0, .int .i64 x_61.a1, .int .i64 x_61.a2, .int .i64 x_61.a3, .int .i64 x_61.a4, .int .i64 x_61.a5, .int .i64 x_61.a6, .int .i64 x_61.a7] 25]) ?_ ?_
  · refine wp_cond_split (hK.ev rfl) (fun (hb_64 : (a0.Kind == 1) = true) => ?_) (fun (hb_64 : (a0.Kind == 1) = false) => ?_)
    · rw [ifb_t hb_64] at H
      refine wp_region_lit ?_
      refine sl hK (by decide) rfl rfl (r_fieldAddr Try.underlying25 rfl Try.sizeOf3 hK rfl) fun a hK => ?_
      refine sl_store1 (c' := [.int .i64 0, .int .i64 0, .string a0.S, .int .i64 a0.H.a0, .int .i64 a0.H.a1, .int .i64 a0.H.a2, .int .i64 a0.H.a3, .int .i64 a0.H.a4, .int .i64 a0.H.a5, .int .i64 a0.H.a6, .int .i64 a0.H.a7]) Try.sizeOf3 hS hK rfl rfl rfl rfl (Nat.le_of_ble_eq_true rfl) rfl fun a w hS hK => ?_
      refine wpList_nil ?_
      exact ⟨0, a0.S, a0.H, true, H, hK.sub (all_cons rfl (all_cons rfl (all_nil))), hS.trunc 1⟩
    · rw [ifb_f hb_64] at H
      refine wp_seq ?_
      refine wp_region_lit ?_
      refine sl hK (by decide) rfl rfl (r_ibin hK rfl rfl rfl) fun a hK => ?_
      refine sl hK (by decide) rfl rfl (r_assign hK rfl) fun a hK => ?_
      refine wpList_nil ?_
      refine wp_mid (fun a w => ∃ (x_90 : Int) (x_91 : ByteArray) (x_92 : Arr8) (x_93 : Bool), value_Valid.j1 x_90 x_91 x_92 x_93 = some r ∧ Kn 40 a [(3, .pointer (some ⟨b_2, 0, none⟩)), (4, .bool x_93)] ∧ St [] w0 w (fun _ => none) [.cells b_2 [.int .i64 0, .int .i64 x_90, .string x_91, .int .i64 x_92.a0, .int .i64 x_92.a1, .int .i64 x_92.a2, .int .i64 x_92.a3, .int .i64 x_92.a4, .int .i64 x_92.a5, .int .i64 x_92.a6, .int .i64 x_92.a7] 25]) ?_ ?_
      · refine wp_cond_split (hK.ev rfl) (fun (hb_95 : (a0.Kind == 2) = true) => ?_) (fun (hb_95 : (a0.Kind == 2) = false) => ?_)
        · rw [ifb_t hb_95] at H
          refine wp_seq ?_
          refine wp_region_lit ?_
          refine sl hK (by decide) rfl rfl (r_fieldAddr Try.underlying25 rfl Try.sizeOf9 hK rfl) fun a hK => ?_
          refine sl_store1 (c' := [.int .i64 0, .int .i64 a0.N, .string (⟨#[]⟩ : ByteArray), .int .i64 a0.H.a0, .int .i64 a0.H.a1, .int .i64 a0.H.a2, .int .i64 a0.H.a3, .int .i64 a0.H.a4, .int .i64 a0.H.a5, .int .i64 a0.H.a6, .int .i64 a0.H.a7]) Try.sizeOf9 hS hK rfl rfl rfl rfl (Nat.le_of_ble_eq_true rfl) rfl fun a w hS hK => ?_
          refine wpList_nil ?_
          refine wp_region_lit ?_
          refine sl hK (by decide) rfl rfl (r_fieldAddr Try.underlying25 rfl Try.sizeOf9 hK rfl) fun a hK => ?_
          refine sl hK (by decide) rfl rfl (r_load Try.isAgg9 hK rfl (hS.cell (.tail _ (.head _)) rfl)) fun a hK => ?_
          refine sl hK (by decide) rfl rfl (r_len_str Try.underlying9 hK rfl) fun a hK => ?_
          refine sl hK (by decide) rfl rfl (r_ibin hK rfl rfl rfl) fun a hK => ?_
          refine sl hK (by decide) rfl rfl (r_assign hK rfl) fun a hK => ?_
          refine wpList_nil ?_
          exact ⟨a0.N, (⟨#[]⟩ : ByteArray), a0.H, (decide ((a0.S.size : Int) ≤ 64)), H, hK.sub (all_cons rfl (all_cons rfl (all_nil))), hS.trunc 1⟩
        · rw [ifb_f hb_95] at H
          refine wp_seq ?_
          refine wp_region_lit ?_
          refine sl hK (by decide) rfl rfl (r_ibin hK rfl rfl rfl) fun a hK => ?_
          refine sl hK (by decide) rfl rfl (r_assign hK rfl) fun a hK => ?_
          refine wpList_nil ?_
          refine wp_mid (fun a w => ∃ (x_106 : Int) (x_107 : Arr8) (x_108 : Bool), value_Valid.j2 a0 x_106 x_107 x_108 = some r ∧ Kn 40 a [(3, .pointer (some ⟨b_2, 0, none⟩)), (4, .bool x_108)] ∧ St [] w0 w (fun _ => none) [.cells b_2 [.int .i64 0, .int .i64 x_106, .string a0.S, .int .i64 x_107.a0, .int .i64 x_107.a1, .int .i64 x_107.a2, .int .i64 x_107.a3, .int .i64 x_107.a4, .int .i64 x_107.a5, .int .i64 x_107.a6, .int .i64 x_107.a7] 25]) ?_ ?_
          · refine wp_cond_split (hK.ev rfl) (fun (hb_110 : (a0.Kind == 3) = true) => ?_) (fun (hb_110 : (a0.Kind == 3) = false) => ?_)
            · rw [ifb_t hb_110] at H
              refine wp_seq ?_
              refine wp_region_lit ?_
              refine sl hK (by decide) rfl rfl (r_fieldAddr Try.underlying25 rfl Try.sizeOf3 hK rfl) fun a hK => ?_
              refine sl_store1 (c' := [.int .i64 0, .int .i64 0, .string a0.S, .int .i64 a0.H.a0, .int .i64 a0.H.a1, .int .i64 a0.H.a2, .int .i64 a0.H.a3, .int .i64 a0.H.a4, .int .i64 a0.H.a5, .int .i64 a0.H.a6, .int .i64 a0.H.a7]) Try.sizeOf3 hS hK rfl rfl rfl rfl (Nat.le_of_ble_eq_true rfl) rfl fun a w hS hK => ?_
              refine wpList_nil ?_
              refine wp_mid (fun a w => ∃ (x_112 : Bool), value_Valid.j3 a0 x_112 = some r ∧ Kn 40 a [(3, .pointer (some ⟨b_2, 0, none⟩)), (4, .bool x_112)] ∧ St [] w0 w (fun _ => none) [.cells b_2 [.int .i64 0, .int .i64 0, .string a0.S, .int .i64 a0.H.a0, .int .i64 a0.H.a1, .int .i64 a0.H.a2, .int .i64 a0.H.a3, .int .i64 a0.H.a4, .int .i64 a0.H.a5, .int .i64 a0.H.a6, .int .i64 a0.H.a7] 25]) ?_ ?_
              · refine wp_region_lit ?_
                refine sl hK (by decide) rfl rfl (r_fieldAddr Try.underlying25 rfl Try.sizeOf3 hK rfl) fun a hK => ?_
                refine sl hK (by decide) rfl rfl (r_load Try.isAgg3 hK rfl (hS.cell (.tail _ (.head _)) rfl)) fun a hK => ?_
                refine sl hK (by decide) rfl rfl (r_ibin hK rfl rfl rfl) fun a hK => ?_
                refine sl hK (by decide) rfl rfl (r_move hK rfl) fun a hK => ?_
                rcases or_b (a0.N == 0) with hb_114 | hb_114
                · rw [ifb_t hb_114] at H
                  refine sl_skip hK (by decide) (wft hb_114) rfl fun a hK => ?_
                  refine sl_skip hK (by decide) (wft hb_114) rfl fun a hK => ?_
                  refine sl_skip hK (by decide) (wft hb_114) rfl fun a hK => ?_
                  refine sl hK (by decide) rfl rfl (r_pick_t hb_114 hK rfl rfl) fun a hK => ?_
                  refine sl hK (by decide) rfl rfl (r_assign hK rfl) fun a hK => ?_
                  refine wpList_nil ?_
                  exact ⟨true, H, hK.sub (all_cons rfl (all_cons rfl (all_nil))), hS.trunc 1⟩
                · rw [ifb_f hb_114] at H
                  refine sl hK (by decide) (wff hb_114) rfl (r_fieldAddr Try.underlying25 rfl Try.sizeOf3 hK rfl) fun a hK => ?_
                  refine sl hK (by decide) (wff hb_114) rfl (r_load Try.isAgg3 hK rfl (hS.cell (.tail _ (.head _)) rfl)) fun a hK => ?_
                  refine sl hK (by decide) (wff hb_114) rfl (r_ibin hK rfl rfl rfl) fun a hK => ?_
                  refine sl hK (by decide) rfl rfl (r_pick_f hb_114 hK rfl rfl) fun a hK => ?_
                  refine sl hK (by decide) rfl rfl (r_assign hK rfl) fun a hK => ?_
                  refine wpList_nil ?_
                  exact ⟨(a0.N == 1), H, hK.sub (all_cons rfl (all_cons rfl (all_nil))), hS.trunc 1⟩
              · rintro a w ⟨x_112, H, hK, hS⟩
                unfold value_Valid.j3 at H
                exact ⟨0, a0.H, x_112, H, hK.sub (all_cons rfl (all_cons rfl (all_nil))), hS⟩
            · rw [ifb_f hb_110] at H
              refine wp_seq ?_
              refine wp_region_lit ?_
              refine sl hK (by decide) rfl rfl (r_ibin hK rfl rfl rfl) fun a hK => ?_
              refine sl hK (by decide) rfl rfl (r_assign hK rfl) fun a hK => ?_
              refine wpList_nil ?_
              refine wp_mid (fun a w => ∃ (x_116 : Arr8) (x_117 : Bool), value_Valid.j4 a0 x_116 x_117 = some r ∧ Kn 40 a [(3, .pointer (some ⟨b_2, 0, none⟩)), (4, .bool x_117)] ∧ St [] w0 w (fun _ => none) [.cells b_2 [.int .i64 0, .int .i64 a0.N, .string a0.S, .int .i64 x_116.a0, .int .i64 x_116.a1, .int .i64 x_116.a2, .int .i64 x_116.a3, .int .i64 x_116.a4, .int .i64 x_116.a5, .int .i64 x_116.a6, .int .i64 x_116.a7] 25]) ?_ ?_
              · refine wp_cond_split (hK.ev rfl) (fun (hb_119 : (a0.Kind == 4) = true) => ?_) (fun (hb_119 : (a0.Kind == 4) = false) => ?_)
                · rw [ifb_t hb_119] at H
                  refine wp_region_lit ?_
                  refine sl hK (by decide) rfl rfl (r_buildAC (ps := []) (c := [.int .i64 0, .int .i64 0, .int .i64 0, .int .i64 0, .int .i64 0, .int .i64 0, .int .i64 0, .int .i64 0]) Try.underlying23 Try.zeroValue23 Try.sizeOf3 hK rfl pc_nil rfl rfl) fun a hK => ?_
                  refine sl hK (by decide) rfl rfl (r_fieldAddr Try.underlying25 rfl Try.sizeOf23 hK rfl) fun a hK => ?_
                  refine sl_storeA (vs := [.int .i64 0, .int .i64 0, .int .i64 0, .int .i64 0, .int .i64 0, .int .i64 0, .int .i64 0, .int .i64 0]) (c' := [.int .i64 0, .int .i64 a0.N, .string a0.S, .int .i64 0, .int .i64 0, .int .i64 0, .int .i64 0, .int .i64 0, .int .i64 0, .int .i64 0, .int .i64 0]) Try.sizeOf23 hS hK rfl rfl rfl rfl (all_cons rfl (all_cons rfl (all_cons rfl (all_cons rfl (all_cons rfl (all_cons rfl (all_cons rfl (all_cons rfl (all_nil))))))))) (Nat.le_of_ble_eq_true rfl) rfl fun a w hS hK => ?_
                  refine wpList_nil ?_
                  exact ⟨(⟨0, 0, 0, 0, 0, 0, 0, 0⟩ : Arr8), true, H, hK.sub (all_cons rfl (all_cons rfl (all_nil))), hS.trunc 1⟩
                · rw [ifb_f hb_119] at H
                  refine wp_region_lit ?_
                  refine sl hK (by decide) rfl rfl (r_assign hK rfl) fun a hK => ?_
                  refine wpList_nil ?_
                  exact ⟨a0.H, false, H, hK.sub (all_cons rfl (all_cons rfl (all_nil))), hS.trunc 1⟩
              · rintro a w ⟨x_116, x_117, H, hK, hS⟩
                unfold value_Valid.j4 at H
                exact ⟨a0.N, x_116, x_117, H, hK.sub (all_cons rfl (all_cons rfl (all_nil))), hS⟩
          · rintro a w ⟨x_106, x_107, x_108, H, hK, hS⟩
            unfold value_Valid.j2 at H
            exact ⟨x_106, a0.S, x_107, x_108, H, hK.sub (all_cons rfl (all_cons rfl (all_nil))), hS⟩
      · rintro a w ⟨x_90, x_91, x_92, x_93, H, hK, hS⟩
        unfold value_Valid.j1 at H
        exact ⟨x_90, x_91, x_92, x_93, H, hK.sub (all_cons rfl (all_cons rfl (all_nil))), hS⟩
  · rintro a w ⟨x_59, x_60, x_61, x_62, H, hK, hS⟩
    unfold value_Valid.j0 at H
    refine wp_seq ?_
    refine wp_region_lit ?_
    refine sl hK (by decide) rfl rfl (r_move hK rfl) fun a hK => ?_
    refine sl hK (by decide) rfl rfl (r_move hK rfl) fun a hK => ?_
    rcases or_b x_62 with hb_120 | hb_120
    · rw [ifb_t hb_120] at H
      refine sl hK (by decide) (wtt hb_120) rfl (r_loadA (cs := [.int .i64 0, .int .i64 x_59, .string x_60, .int .i64 x_61.a0, .int .i64 x_61.a1, .int .i64 x_61.a2, .int .i64 x_61.a3, .int .i64 x_61.a4, .int .i64 x_61.a5, .int .i64 x_61.a6, .int .i64 x_61.a7]) Try.isAgg25 Try.sizeOf25 rfl hK rfl (hS.cells_of (m := 11) (.head _) rfl)) fun a hK => ?_
      refine sl hK (by decide) (wtt hb_120) rfl (r_buildC (ps := []) (c := [.int .i64 0, .int .i64 0, .string (⟨#[]⟩ : ByteArray), .int .i64 0, .int .i64 0, .int .i64 0, .int .i64 0, .int .i64 0, .int .i64 0, .int .i64 0, .int .i64 0]) Try.underlying25 Try.zeroValue25 places25 hK rfl pc_nil rfl rfl) fun a hK => ?_
      refine sl hK (by decide) (wtt hb_120) rfl (r_seq (by kernel_rfl) (eqs25 (⟨0, x_59, x_60, x_61⟩ : api_Value) (⟨0, 0, (⟨#[]⟩ : ByteArray), (⟨0, 0, 0, 0, 0, 0, 0, 0⟩ : Arr8)⟩ : api_Value)) hK rfl rfl) fun a hK => ?_
      refine sl hK (by decide) rfl rfl (r_pick_t hb_120 hK rfl rfl) fun a hK => ?_
      refine sl hK (by decide) rfl rfl (r_assign hK rfl) fun a hK => ?_
      refine wpList_nil ?_
      obtain rfl := Option.some.inj H
      refine wp_ret ?_
      repeat (first | refine ret_then ?_ | refine ret_block ?_ | refine ret_scope ?_)
      exact ret_1 Try.results22 hK (rv_tmp hK rfl) ⟨rfl, hS.bel⟩
    · rw [ifb_f hb_120] at H
      refine sl_skip hK (by decide) (wtf hb_120) rfl fun a hK => ?_
      refine sl_skip hK (by decide) (wtf hb_120) rfl fun a hK => ?_
      refine sl_skip hK (by decide) (wtf hb_120) rfl fun a hK => ?_
      refine sl hK (by decide) rfl rfl (r_pick_f hb_120 hK rfl rfl) fun a hK => ?_
      refine sl hK (by decide) rfl rfl (r_assign hK rfl) fun a hK => ?_
      refine wpList_nil ?_
      obtain rfl := Option.some.inj H
      refine wp_ret ?_
      repeat (first | refine ret_then ?_ | refine ret_block ?_ | refine ret_scope ?_)
      exact ret_1 Try.results22 hK (rv_tmp hK rfl) ⟨rfl, hS.bel⟩

/-! ### slices.Clone[[]byte,byte]: function 24 -/
set_option maxHeartbeats 4000000 in
set_option maxRecDepth 100000 in
theorem slices_Clone_byte_byte.calls (a0 : List Int) {w0 : World} {R : Hp} {RA : Hp} {v0_0 : Value} (hRA : RA.sub w0) (hR : R.sub w0) (h0_0 : SlR (tyInt .u8) RA v0_0 a0) {r : List Int} (H : slices_Clone_byte_byte a0 = some r) : Calls Try.prog 24 #[v0_0] w0 (Rets fun v w' => ∃ (R' : Hp) (u0 : Value) (cu0 : List Value), v = u0 ∧ St [] w0 w' R' [.row 5 1 u0 r.length cu0] ∧ RLe [] w0 R R' ∧ Reps (tyInt .u8) R' cu0 r) := by
  unfold slices_Clone_byte_byte at H
  rcases SlR.nilcase h0_0 with ⟨hn, hx⟩ | ⟨ad_, m_, c_, hn⟩
  · subst hx
    have H : some ([] : List Int) = some r := by simpa [apd] using H
    refine enter (args := [v0_0]) Try.func24 rfl Try.ntmps24 rfl fun a hK => ?_
    have hS := St.init hR
    have hRL := RLe.refl (M := []) w0 R
    refine wp_seq ?_
    refine wp_region_lit ?_
    refine sl hK (by decide) rfl rfl (r_assign hK rfl) fun a hK => ?_
    refine wpList_nil ?_
    refine wp_seq ?_
    refine wp_seq ?_
    refine wp_region_lit ?_
    refine sl hK (by decide) rfl rfl (r_move hK rfl) fun a hK => ?_
    refine sl hK (by decide) rfl rfl (r_sleqN Try.underlying22 hn hK rfl rfl) fun a hK => ?_
    refine wpList_nil ?_
    refine wp_cond_true (hK.ev rfl) ?_
    refine wp_seq ?_
    refine wp_region_lit ?_
    refine sl hK (by decide) rfl rfl (r_assign hK rfl) fun a hK => ?_
    refine wpList_nil ?_
    have hS := hS.row_nil 5 1
    have hq_11 : Reps (tyInt .u8) R [] ([] : List Int) := Reps.nil _ _
    obtain rfl := Option.some.inj H
    refine wp_ret ?_
    repeat (first | refine ret_then ?_ | refine ret_block ?_ | refine ret_scope ?_)
    exact ret_1 Try.results24 hK (rv_tmp hK rfl) ⟨_, rfl, _, _, _, rfl, hS, hRL, hq_11⟩
  · refine enter (args := [v0_0]) Try.func24 rfl Try.ntmps24 rfl fun a hK => ?_
    have hS := St.init hR
    have hRL := RLe.refl (M := []) w0 R
    refine wp_seq ?_
    refine wp_region_lit ?_
    refine sl hK (by decide) rfl rfl (r_assign hK rfl) fun a hK => ?_
    refine wpList_nil ?_
    refine wp_seq ?_
    refine wp_seq ?_
    refine wp_region_lit ?_
    refine sl hK (by decide) rfl rfl (r_move hK rfl) fun a hK => ?_
    refine sl hK (by decide) rfl rfl (r_sleqS Try.underlying22 hn hK rfl rfl) fun a hK => ?_
    refine wpList_nil ?_
    refine wp_cond_false (hK.ev rfl) ?_
    refine wp_skip ?_
    refine wp_seq ?_
    refine wp_region_lit ?_
    refine sl_buildSliceC (zc := [.int .u8 0]) (zs := []) (ps := []) (c := []) Try.underlying22 Try.sizeOf5 Try.zeroValue5 rfl pc_nil rfl rfl (by decide) (by kernel_rfl) rfl hS hK (by decide) rfl fun a w b_1 hS hK => ?_
    refine sl hK (by decide) rfl rfl (r_move hK rfl) fun a hK => ?_
    obtain ⟨y_4, h_5, H⟩ := bind_some H
    have hS := hS.row_lit (size := 1) (m := 0) rfl (by decide)
    have hq_3 : Reps (tyInt .u8) R [] ([] : List Int) := (Reps.nil _ _)
    refine sl_append_A elT22 (by decide) rfl (fun _ _ _ _ h => h) (hS.ra hRA nil_not) hq_3 rfl h0_0 h_5 hS hK (by decide) rfl rfl rfl fun a w v_6 cs_7 hq_8 hS hK => ?_
    refine sl hK (by decide) rfl rfl (r_assign hK rfl) fun a hK => ?_
    refine wpList_nil ?_
    obtain rfl := Option.some.inj H
    refine wp_ret ?_
    repeat (first | refine ret_then ?_ | refine ret_block ?_ | refine ret_scope ?_)
    exact ret_1 Try.results24 hK (rv_tmp hK rfl) ⟨_, rfl, _, _, _, rfl, hS, hRL, hq_8⟩

/-! ### catchment/wire.big: function 31 -/
set_option maxHeartbeats 4000000 in
set_option maxRecDepth 100000 in
theorem wire_big.calls (a0 : List Int) (a1 : Int) (a2 : Int) {w0 : World} {R : Hp} {M : List Own} {v0_0 : Value} {cs0_0 : List Value} (hS0 : St M w0 w0 R [.row 5 1 v0_0 a0.length cs0_0]) (h0_0 : Reps (tyInt .u8) R cs0_0 a0) {r : List Int} (H : wire_big a0 a1 a2 = some r) : Calls Try.prog 31 #[v0_0, .int .i64 a1, .int .i64 a2] w0 (Rets fun v w' => ∃ (R' : Hp) (u0 : Value) (cu0 : List Value), v = u0 ∧ St M w0 w' R' [.row 5 1 u0 r.length cu0] ∧ RLe M w0 R R' ∧ Reps (tyInt .u8) R' cu0 r) := by
  unfold wire_big at H
  refine enter (args := [v0_0, .int .i64 a1, .int .i64 a2]) Try.func31 rfl Try.ntmps31 rfl fun a hK => ?_
  have hS := hS0
  have hRL := RLe.refl (M := M) w0 R
  refine wp_seq ?_
  refine wp_region_lit ?_
  refine sl hK (by decide) rfl rfl (r_assign hK rfl) fun a hK => ?_
  refine wpList_nil ?_
  refine wp_seq ?_
  refine wp_seq ?_
  refine wp_region_lit ?_
  refine sl hK (by decide) rfl rfl (r_move hK rfl) fun a hK => ?_
  refine sl hK (by decide) rfl rfl (r_ibin hK rfl rfl rfl) fun a hK => ?_
  refine sl hK (by decide) rfl rfl (r_assign hK rfl) fun a hK => ?_
  refine wpList_nil ?_
  refine wp_block ?_
  refine wp_loop_k (fun k_l0 a w => ∃ (x_12 : List Int) (x_16 : Int) (v_13 : Value) (cs_14 : List Value), wire_big.l0 a1 a2 k_l0 x_12 x_16 = some r ∧ Reps (tyInt .u8) R cs_14 x_12 ∧ Kn 23 a [(0, v_13), (1, .int .i64 a1), (7, .int .i64 x_16)] ∧ St M w0 w R [.row 5 1 v_13 x_12.length cs_14]) (((IntKind.i64.wrap (a2 - 1)) - 0).toNat + 2) ?_ ?_
  · exact ⟨a0, (IntKind.i64.wrap (a2 - 1)), _, _, H, h0_0, hK.sub (all_cons rfl (all_cons rfl (all_cons rfl (all_nil)))), hS⟩
  · rintro k_l0 a w ⟨x_12, x_16, v_13, cs_14, H, hq_15, hK, hS⟩
    cases k_l0 with
    | zero => cases H
    | succ k_l0 =>
    rw [wire_big.l0.eq_2] at H
    refine wp_seq ?_
    refine wp_seq ?_
    refine wp_region_lit ?_
    refine sl hK (by decide) rfl rfl (r_move hK rfl) fun a hK => ?_
    refine sl hK (by decide) rfl rfl (r_ibin hK rfl rfl rfl) fun a hK => ?_
    refine wpList_nil ?_
    refine wp_cond_split (hK.ev rfl) (fun (hb_27 : (decide (x_16 ≥ 0)) = true) => ?_) (fun (hb_27 : (decide (x_16 ≥ 0)) = false) => ?_)
    · rw [ifb_t hb_27] at H
      refine wp_skip ?_
      refine wp_seq ?_
      refine wp_block ?_
      refine wp_region_lit ?_
      refine sl hK (by decide) rfl rfl (r_move hK rfl) fun a hK => ?_
      refine sl hK (by decide) rfl rfl (r_move hK rfl) fun a hK => ?_
      refine sl hK (by decide) rfl rfl (r_move hK rfl) fun a hK => ?_
      refine sl hK (by decide) rfl rfl (r_ibin hK rfl rfl rfl) fun a hK => ?_
      rcases or_b (decide (0 ≤ (IntKind.i64.wrap (8 * x_16)))) with hn_28 | hn_28
      · rw [ifb_t hn_28] at H
        refine sl hK (by decide) rfl rfl (r_shr hK rfl rfl (of_decide_eq_true hn_28)) fun a hK => ?_
        refine sl hK (by decide) rfl rfl (r_conv Try.underlying3 Try.underlying5 hK rfl) fun a hK => ?_
        refine sl_buildSliceF (zc := [.int .u8 0]) (ps := [(0, .int .u8 (IntKind.u8.wrap (a1.fdiv (2 ^ (min (IntKind.i64.wrap (8 * x_16)).toNat 64)))))]) (c := [.int .u8 (IntKind.u8.wrap (a1.fdiv (2 ^ (min (IntKind.i64.wrap (8 * x_16)).toNat 64))))]) [[.int .u8 (IntKind.u8.wrap (a1.fdiv (2 ^ (min (IntKind.i64.wrap (8 * x_16)).toNat 64))))]] Try.underlying22 Try.sizeOf5 Try.zeroValue5 rfl (pc_cons rfl pc_nil) rfl rfl (Nat.le_of_ble_eq_true rfl) rfl (all_cons rfl (all_nil)) rfl hS hK (by decide) rfl fun a w b_29 hS hK => ?_
        obtain ⟨y_30, h_31, H⟩ := bind_some H
        have hS := hS.pk1
        refine sl_append_L (ty := (tyInt .u8)) (ys := [IntKind.u8.wrap (a1.fdiv (2 ^ (min (IntKind.i64.wrap (8 * x_16)).toNat 64)))]) elT22 (by decide) rfl hq_15 rfl (Reps.cons (show Ty.rep (tyInt .u8) _ [.int .u8 (IntKind.u8.wrap (a1.fdiv (2 ^ (min (IntKind.i64.wrap (8 * x_16)).toNat 64))))] (IntKind.u8.wrap (a1.fdiv (2 ^ (min (IntKind.i64.wrap (8 * x_16)).toNat 64)))) from rfl) (Reps.nil _ _)) rfl h_31 hS hK (by decide) rfl rfl rfl fun a w v_32 cs_33 hq_34 hS hK => ?_
        refine sl hK (by decide) rfl rfl (r_assign hK rfl) fun a hK => ?_
        refine wpList_nil ?_
        refine wp_region_lit ?_
        refine sl hK (by decide) rfl rfl (r_move hK rfl) fun a hK => ?_
        refine sl hK (by decide) rfl rfl (r_ibin hK rfl rfl rfl) fun a hK => ?_
        refine sl hK (by decide) rfl rfl (r_assign hK rfl) fun a hK => ?_
        refine wpList_nil ?_
        exact ⟨_, Nat.lt_succ_self _, y_30, (IntKind.i64.wrap (x_16 - 1)), _, _, H, hq_34, hK.sub (all_cons rfl (all_cons rfl (all_cons rfl (all_nil)))), hS⟩
      · rw [ifb_f hn_28] at H
        cases H
    · rw [ifb_f hb_27] at H
      refine wp_exit ?_
      refine wp_seq ?_
      refine wp_region_lit ?_
      refine sl hK (by decide) rfl rfl (r_move hK rfl) fun a hK => ?_
      refine sl hK (by decide) rfl rfl (r_assign hK rfl) fun a hK => ?_
      refine wpList_nil ?_
      obtain rfl := Option.some.inj H
      refine wp_ret ?_
      repeat (first | refine ret_then ?_ | refine ret_block ?_ | refine ret_scope ?_)
      exact ret_1 Try.results31 hK (rv_tmp hK rfl) ⟨_, rfl, _, _, _, rfl, hS, hRL, hq_15⟩

/-! ### catchment/wire.put: function 23 -/
set_option maxHeartbeats 4000000 in
set_option maxRecDepth 100000 in
theorem wire_put.calls (a0 : List Int) (a1 : api_Value) {w0 : World} {R : Hp} {M : List Own} {v0_0 : Value} {cs0_0 : List Value} (hS0 : St M w0 w0 R [.row 5 1 v0_0 a0.length cs0_0]) (h0_0 : Reps (tyInt .u8) R cs0_0 a0) {r : List Int} (H : wire_put a0 a1 = some r) : Calls Try.prog 23 #[v0_0, .agg #[.int .i64 a1.Kind, .int .i64 a1.N, .string a1.S, .int .i64 a1.H.a0, .int .i64 a1.H.a1, .int .i64 a1.H.a2, .int .i64 a1.H.a3, .int .i64 a1.H.a4, .int .i64 a1.H.a5, .int .i64 a1.H.a6, .int .i64 a1.H.a7]] w0 (Rets fun v w' => ∃ (R' : Hp) (u0 : Value) (cu0 : List Value), v = u0 ∧ St M w0 w' R' [.row 5 1 u0 r.length cu0] ∧ RLe M w0 R R' ∧ Reps (tyInt .u8) R' cu0 r) := by
  unfold wire_put at H
  refine enter (args := [v0_0, .agg #[.int .i64 a1.Kind, .int .i64 a1.N, .string a1.S, .int .i64 a1.H.a0, .int .i64 a1.H.a1, .int .i64 a1.H.a2, .int .i64 a1.H.a3, .int .i64 a1.H.a4, .int .i64 a1.H.a5, .int .i64 a1.H.a6, .int .i64 a1.H.a7]]) Try.func23 rfl Try.ntmps23 rfl fun a hK => ?_
  have hS := hS0
  have hRL := RLe.refl (M := M) w0 R
  refine wp_seq ?_
  refine wp_region_lit ?_
  refine sl_box hS hK (by decide) rfl rfl (c := [.int .i64 a1.Kind, .int .i64 a1.N, .string a1.S, .int .i64 a1.H.a0, .int .i64 a1.H.a1, .int .i64 a1.H.a2, .int .i64 a1.H.a3, .int .i64 a1.H.a4, .int .i64 a1.H.a5, .int .i64 a1.H.a6, .int .i64 a1.H.a7]) rfl fun a w b_1 hS hK => ?_
  refine sl hK (by decide) rfl rfl (r_assign hK rfl) fun a hK => ?_
  refine wpList_nil ?_
  refine wp_seq ?_
  refine wp_seq ?_
  refine wp_region_lit ?_
  refine sl hK (by decide) rfl rfl (r_fieldAddr Try.underlying25 rfl Try.sizeOf3 hK rfl) fun a hK => ?_
  refine sl hK (by decide) rfl rfl (r_load Try.isAgg3 hK rfl (hS.cell (.head _) rfl)) fun a hK => ?_
  refine wpList_nil ?_
  refine wp_block ?_
  refine wp_seq ?_
  refine wp_region_lit ?_
  refine sl hK (by decide) rfl rfl (r_ibin hK rfl rfl rfl) fun a hK => ?_
  refine sl hK (by decide) rfl rfl (r_assign hK rfl) fun a hK => ?_
  refine wpList_nil ?_
  refine wp_cond_split (hK.ev rfl) (fun (hb_2 : (a1.Kind == 1) = true) => ?_) (fun (hb_2 : (a1.Kind == 1) = false) => ?_)
  · rw [ifb_t hb_2] at H
    refine wp_seq ?_
    refine wp_region_lit ?_
    refine sl hK (by decide) rfl rfl (r_move hK rfl) fun a hK => ?_
    refine sl hK (by decide) rfl rfl (r_fieldAddr Try.underlying25 rfl Try.sizeOf3 hK rfl) fun a hK => ?_
    refine sl hK (by decide) rfl rfl (r_load Try.isAgg3 hK rfl (hS.cell (.head _) rfl)) fun a hK => ?_
    obtain ⟨y_3, h_4, H⟩ := bind_some H
    have hS := hS.pk1
    have hS1 := hS.sp1
    refine sl_call Try.call31 hK (by decide) rfl rfl rfl (wire_big.calls a0 a1.N 8 hS1.lend h0_0 h_4) fun a v_ w hv_ hK => ?_
    obtain ⟨R_5, v_8, cs_9, hv_, hr_, hl_6, hq_10⟩ := hv_
    have hv_ := hv_.symm
    subst hv_
    obtain ⟨hS, hl_6⟩ := hS1.back hr_ hl_6
    have hS := hS.un1
    have hRL := hRL.trans hl_6
    refine sl hK (by decide) rfl rfl (r_assign hK rfl) fun a hK => ?_
    refine wpList_nil ?_
    obtain rfl := Option.some.inj H
    refine wp_ret ?_
    repeat (first | refine ret_then ?_ | refine ret_block ?_ | refine ret_scope ?_)
    exact ret_1 Try.results23 hK (rv_tmp hK rfl) ⟨_, rfl, _, _, _, rfl, (hS.trunc 1), hRL, hq_10⟩
  · rw [ifb_f hb_2] at H
    refine wp_seq ?_
    refine wp_region_lit ?_
    refine sl hK (by decide) rfl rfl (r_ibin hK rfl rfl rfl) fun a hK => ?_
    refine sl hK (by decide) rfl rfl (r_assign hK rfl) fun a hK => ?_
    refine wpList_nil ?_
    refine wp_cond_split (hK.ev rfl) (fun (hb_11 : (a1.Kind == 2) = true) => ?_) (fun (hb_11 : (a1.Kind == 2) = false) => ?_)
    · rw [ifb_t hb_11] at H
      refine wp_seq ?_
      refine parT_region (C := fun w => St M w0 w R [.cells b_1 [.int .i64 a1.Kind, .int .i64 a1.N, .string a1.S, .int .i64 a1.H.a0, .int .i64 a1.H.a1, .int .i64 a1.H.a2, .int .i64 a1.H.a3, .int .i64 a1.H.a4, .int .i64 a1.H.a5, .int .i64 a1.H.a6, .int .i64 a1.H.a7] 25]) 9 [(0, true), (1, true), (2, true), (3, true), (4, true), (7, true), (8, true), (5, false), (6, false)] mixed (by kernel_rfl) hS (fun w hS => (hS.trunc 1)) fun w hS => ?_
      refine sp (k := 0) rfl hK (by decide) rfl rfl (fun w hS => r_move hK rfl) fun a hK => ?_
      refine sp (k := 1) rfl hK (by decide) rfl rfl (fun w hS => r_fieldAddr Try.underlying25 rfl Try.sizeOf9 hK rfl) fun a hK => ?_
      refine sp (k := 2) rfl hK (by decide) rfl rfl (fun w hS => r_load Try.isAgg9 hK rfl (hS.cell (.head _) rfl)) fun a hK => ?_
      refine sp (k := 3) rfl hK (by decide) rfl rfl (fun w hS => r_len_str Try.underlying9 hK rfl) fun a hK => ?_
      refine sp (k := 4) rfl hK (by decide) rfl rfl (fun w hS => r_conv Try.underlying3 Try.underlying5 hK rfl) fun a hK => ?_
      refine sp (k := 7) rfl hK (by decide) rfl rfl (fun w hS => r_fieldAddr Try.underlying25 rfl Try.sizeOf9 hK rfl) fun a hK => ?_
      refine sp (k := 8) rfl hK (by decide) rfl rfl (fun w hS => r_load Try.isAgg9 hK rfl (hS.cell (.head _) rfl)) fun a hK => ?_
      refine spw (k := 5) rfl rfl (hS.trunc 1) ?_
      refine sl_buildSliceF (zc := [.int .u8 0]) (ps := [(0, .int .u8 (IntKind.u8.wrap (a1.S.size : Int)))]) (c := [.int .u8 (IntKind.u8.wrap (a1.S.size : Int))]) [[.int .u8 (IntKind.u8.wrap (a1.S.size : Int))]] Try.underlying22 Try.sizeOf5 Try.zeroValue5 rfl (pc_cons rfl pc_nil) rfl rfl (Nat.le_of_ble_eq_true rfl) rfl (all_cons rfl (all_nil)) rfl hS hK (by decide) rfl fun a w b_25 hS hK => ?_
      refine parK_nil (hS.pk1.trunc 1) ?_
      refine spw (k := 6) rfl rfl (hS.pk1.trunc 1) ?_
      obtain ⟨y_26, h_27, H⟩ := bind_some H
      have hS := hS.pk2
      refine sl_append_L (ty := (tyInt .u8)) (ys := [IntKind.u8.wrap (a1.S.size : Int)]) elT22 (by decide) rfl h0_0 rfl (Reps.cons (show Ty.rep (tyInt .u8) _ [.int .u8 (IntKind.u8.wrap (a1.S.size : Int))] (IntKind.u8.wrap (a1.S.size : Int)) from rfl) (Reps.nil _ _)) rfl h_27 hS hK (by decide) rfl rfl rfl fun a w v_28 cs_29 hq_30 hS hK => ?_
      refine parK_nil (hS.pk1.trunc 1) ?_
      refine thenL_nil ?_
      obtain ⟨y_32, h_33, H⟩ := bind_some H
      refine sl_append_S elT22 Try.underlying9 Try.zeroValue5 hq_30 rfl h_33 hS hK (by decide) rfl rfl rfl fun a w v_34 cs_35 hq_36 hS hK => ?_
      refine sl hK (by decide) rfl rfl (r_assign hK rfl) fun a hK => ?_
      refine wpList_nil (NoP_nil ?_)
      obtain rfl := Option.some.inj H
      refine wp_ret ?_
      repeat (first | refine ret_then ?_ | refine ret_block ?_ | refine ret_scope ?_)
      exact ret_1 Try.results23 hK (rv_tmp hK rfl) ⟨_, rfl, _, _, _, rfl, (hS.trunc 1), hRL, hq_36⟩
    · rw [ifb_f hb_11] at H
      refine wp_seq ?_
      refine wp_region_lit ?_
      refine sl hK (by decide) rfl rfl (r_ibin hK rfl rfl rfl) fun a hK => ?_
      refine sl hK (by decide) rfl rfl (r_assign hK rfl) fun a hK => ?_
      refine wpList_nil ?_
      refine wp_cond_split (hK.ev rfl) (fun (hb_38 : (a1.Kind == 3) = true) => ?_) (fun (hb_38 : (a1.Kind == 3) = false) => ?_)
      · rw [ifb_t hb_38] at H
        refine wp_seq ?_
        refine wp_region_lit ?_
        refine sl hK (by decide) rfl rfl (r_move hK rfl) fun a hK => ?_
        refine sl hK (by decide) rfl rfl (r_fieldAddr Try.underlying25 rfl Try.sizeOf3 hK rfl) fun a hK => ?_
        refine sl hK (by decide) rfl rfl (r_load Try.isAgg3 hK rfl (hS.cell (.head _) rfl)) fun a hK => ?_
        refine sl hK (by decide) rfl rfl (r_conv Try.underlying3 Try.underlying5 hK rfl) fun a hK => ?_
        refine sl_buildSliceF (zc := [.int .u8 0]) (ps := [(0, .int .u8 (IntKind.u8.wrap a1.N))]) (c := [.int .u8 (IntKind.u8.wrap a1.N)]) [[.int .u8 (IntKind.u8.wrap a1.N)]] Try.underlying22 Try.sizeOf5 Try.zeroValue5 rfl (pc_cons rfl pc_nil) rfl rfl (Nat.le_of_ble_eq_true rfl) rfl (all_cons rfl (all_nil)) rfl hS hK (by decide) rfl fun a w b_39 hS hK => ?_
        obtain ⟨y_40, h_41, H⟩ := bind_some H
        have hS := hS.pk2
        refine sl_append_L (ty := (tyInt .u8)) (ys := [IntKind.u8.wrap a1.N]) elT22 (by decide) rfl h0_0 rfl (Reps.cons (show Ty.rep (tyInt .u8) _ [.int .u8 (IntKind.u8.wrap a1.N)] (IntKind.u8.wrap a1.N) from rfl) (Reps.nil _ _)) rfl h_41 hS hK (by decide) rfl rfl rfl fun a w v_42 cs_43 hq_44 hS hK => ?_
        refine sl hK (by decide) rfl rfl (r_assign hK rfl) fun a hK => ?_
        refine wpList_nil ?_
        obtain rfl := Option.some.inj H
        refine wp_ret ?_
        repeat (first | refine ret_then ?_ | refine ret_block ?_ | refine ret_scope ?_)
        exact ret_1 Try.results23 hK (rv_tmp hK rfl) ⟨_, rfl, _, _, _, rfl, (hS.trunc 1), hRL, hq_44⟩
      · rw [ifb_f hb_38] at H
        refine wp_skip ?_
        refine wp_seq ?_
        refine wp_seq ?_
        refine wp_region_lit ?_
        refine sl hK (by decide) rfl rfl (r_fieldAddr Try.underlying25 rfl Try.sizeOf23 hK rfl) fun a hK => ?_
        refine sl hK (by decide) rfl rfl (r_loadA (cs := [.int .i64 a1.H.a0, .int .i64 a1.H.a1, .int .i64 a1.H.a2, .int .i64 a1.H.a3, .int .i64 a1.H.a4, .int .i64 a1.H.a5, .int .i64 a1.H.a6, .int .i64 a1.H.a7]) Try.isAgg23 Try.sizeOf23 rfl hK rfl (hS.cells_of (m := 8) (.head _) rfl)) fun a hK => ?_
        refine sl hK (by decide) rfl rfl (r_move hK rfl) fun a hK => ?_
        refine wpList_nil ?_
        refine wp_block ?_
        refine wp_loop_k (fun k_l0 a w => ∃ (x_56 : List Int) (x_60 : Int) (R_61 : Hp) (v_57 : Value) (cs_58 : List Value), wire_put.l0 a1 k_l0 x_56 x_60 = some r ∧ RLe M w0 R R_61 ∧ Reps (tyInt .u8) R_61 cs_58 x_56 ∧ Kn 45 a [(0, v_57), (36, .agg #[.int .i64 a1.H.a0, .int .i64 a1.H.a1, .int .i64 a1.H.a2, .int .i64 a1.H.a3, .int .i64 a1.H.a4, .int .i64 a1.H.a5, .int .i64 a1.H.a6, .int .i64 a1.H.a7]), (37, .int .i64 x_60)] ∧ St M w0 w R_61 [.row 5 1 v_57 x_56.length cs_58]) (((8 : Int) - 0).toNat + 1) ?_ ?_
        · have hS := hS.pk1
          exact ⟨a0, 0, _, _, _, H, (RLe.refl _ _), h0_0, hK.sub (all_cons rfl (all_cons rfl (all_cons rfl (all_nil)))), hS.trunc 1⟩
        · rintro k_l0 a w ⟨x_56, x_60, R_61, v_57, cs_58, H, hl_62, hq_59, hK, hS⟩
          cases k_l0 with
          | zero => cases H
          | succ k_l0 =>
          rw [wire_put.l0.eq_2] at H
          have hRL := hRL.trans hl_62
          refine wp_seq ?_
          refine wp_region_lit ?_
          refine sl hK (by decide) rfl rfl (r_ibin hK rfl rfl rfl) fun a hK => ?_
          refine wpList_nil ?_
          refine wp_seq ?_
          refine wp_cond_split (hK.ev rfl) (fun (hb_74 : (decide (x_60 < 8)) = true) => ?_) (fun (hb_74 : (decide (x_60 < 8)) = false) => ?_)
          · rw [ifb_t hb_74] at H
            refine wp_skip ?_
            refine wp_seq ?_
            refine wp_block ?_
            refine wp_seq ?_
            refine wp_region_lit ?_
            obtain ⟨y_75, h_76, H⟩ := bind_some H
            refine sl hK (by decide) rfl rfl (r_index_arr Try.underlying23 Try.isAgg3 Try.sizeOf3 (Arr8.ix_lt h_76).1 (Arr8.ix_lt h_76).2 (Arr8.ix_agg h_76) hK rfl rfl) fun a hK => ?_
            refine sl hK (by decide) rfl rfl (r_assign hK rfl) fun a hK => ?_
            refine wpList_nil ?_
            refine wp_region_lit ?_
            refine sl hK (by decide) rfl rfl (r_move hK rfl) fun a hK => ?_
            refine sl hK (by decide) rfl rfl (r_move hK rfl) fun a hK => ?_
            obtain ⟨y_77, h_78, H⟩ := bind_some H
            have hS1 := hS.sp1
            refine sl_call Try.call31 hK (by decide) rfl rfl rfl (wire_big.calls x_56 y_75 8 hS1.lend hq_59 h_78) fun a v_ w hv_ hK => ?_
            obtain ⟨R_79, v_82, cs_83, hv_, hr_, hl_80, hq_84⟩ := hv_
            have hv_ := hv_.symm
            subst hv_
            obtain ⟨hS, hl_80⟩ := hS1.back hr_ hl_80
            have hS := hS.un1
            have hRL := hRL.trans hl_80
            refine sl hK (by decide) rfl rfl (r_assign hK rfl) fun a hK => ?_
            refine wpList_nil ?_
            refine wp_region_lit ?_
            refine sl hK (by decide) rfl rfl (r_ibin hK rfl rfl rfl) fun a hK => ?_
            refine sl hK (by decide) rfl rfl (r_move hK rfl) fun a hK => ?_
            refine wpList_nil ?_
            exact ⟨_, Nat.lt_succ_self _, y_77, (IntKind.i64.wrap (x_60 + 1)), _, _, _, H, (hl_62.trans hl_80), hq_84, hK.sub (all_cons rfl (all_cons rfl (all_cons rfl (all_nil)))), hS⟩
          · rw [ifb_f hb_74] at H
            refine wp_exit ?_
            refine wp_seq ?_
            refine wp_region_lit ?_
            refine sl hK (by decide) rfl rfl (r_move hK rfl) fun a hK => ?_
            refine sl hK (by decide) rfl rfl (r_assign hK rfl) fun a hK => ?_
            refine wpList_nil ?_
            obtain rfl := Option.some.inj H
            refine wp_ret ?_
            repeat (first | refine ret_then ?_ | refine ret_block ?_ | refine ret_scope ?_)
            exact ret_1 Try.results23 hK (rv_tmp hK rfl) ⟨_, rfl, _, _, _, rfl, hS, hRL, hq_59⟩

/-! ### catchment/wire.Put: function 12 -/
set_option maxHeartbeats 4000000 in
set_option maxRecDepth 100000 in
theorem wire_Put.calls (a0 : List Int) (a1 : api_Value) {w0 : World} {R : Hp} {RA : Hp} {v0_0 : Value} (hRA : RA.sub w0) (hR : R.sub w0) (h0_0 : SlR (tyInt .u8) RA v0_0 a0) {r : (List Int) × Int} (H : wire_Put a0 a1 = some r) : Calls Try.prog 12 #[v0_0, .agg #[.int .i64 a1.Kind, .int .i64 a1.N, .string a1.S, .int .i64 a1.H.a0, .int .i64 a1.H.a1, .int .i64 a1.H.a2, .int .i64 a1.H.a3, .int .i64 a1.H.a4, .int .i64 a1.H.a5, .int .i64 a1.H.a6, .int .i64 a1.H.a7]] w0 (Rets fun v w' => ∃ (R' : Hp) (u0 : Value) (cu0 : List Value), v = .tuple #[u0, .int .i64 r.2] ∧ St [] w0 w' R' [.row 5 1 u0 r.1.length cu0] ∧ RLe [] w0 R R' ∧ Reps (tyInt .u8) R' cu0 r.1) := by
  unfold wire_Put at H
  refine enter (args := [v0_0, .agg #[.int .i64 a1.Kind, .int .i64 a1.N, .string a1.S, .int .i64 a1.H.a0, .int .i64 a1.H.a1, .int .i64 a1.H.a2, .int .i64 a1.H.a3, .int .i64 a1.H.a4, .int .i64 a1.H.a5, .int .i64 a1.H.a6, .int .i64 a1.H.a7]]) Try.func12 rfl Try.ntmps12 rfl fun a hK => ?_
  have hS := St.init hR
  have hRL := RLe.refl (M := []) w0 R
  refine wp_seq ?_
  refine wp_region_lit ?_
  refine sl_box hS hK (by decide) rfl rfl (c := [.int .i64 a1.Kind, .int .i64 a1.N, .string a1.S, .int .i64 a1.H.a0, .int .i64 a1.H.a1, .int .i64 a1.H.a2, .int .i64 a1.H.a3, .int .i64 a1.H.a4, .int .i64 a1.H.a5, .int .i64 a1.H.a6, .int .i64 a1.H.a7]) rfl fun a w b_1 hS hK => ?_
  refine sl hK (by decide) rfl rfl (r_assign hK rfl) fun a hK => ?_
  refine sl hK (by decide) rfl rfl (r_assign hK rfl) fun a hK => ?_
  refine wpList_nil ?_
  refine wp_seq ?_
  refine wp_seq ?_
  refine wp_region_lit ?_
  refine sl hK (by decide) rfl rfl (r_loadA (cs := [.int .i64 a1.Kind, .int .i64 a1.N, .string a1.S, .int .i64 a1.H.a0, .int .i64 a1.H.a1, .int .i64 a1.H.a2, .int .i64 a1.H.a3, .int .i64 a1.H.a4, .int .i64 a1.H.a5, .int .i64 a1.H.a6, .int .i64 a1.H.a7]) Try.isAgg25 Try.sizeOf25 rfl hK rfl (hS.cells_of (m := 11) (.head _) rfl)) fun a hK => ?_
  obtain ⟨y_2, h_3, H⟩ := bind_some H
  refine sl_callV Try.call22 hS hK (by decide) rfl rfl rfl (value_Valid.calls a1 h_3 _) fun a w hS hK => ?_
  refine sl hK (by decide) rfl rfl (r_un hK rfl (u_not _)) fun a hK => ?_
  refine wpList_nil ?_
  refine wp_cond_split (hK.ev rfl) (fun (hb_4 : (!y_2) = true) => ?_) (fun (hb_4 : (!y_2) = false) => ?_)
  · rw [ifb_t hb_4] at H
    refine wp_seq ?_
    refine wp_region_lit ?_
    refine sl hK (by decide) rfl rfl (r_assign hK rfl) fun a hK => ?_
    refine sl hK (by decide) rfl rfl (r_assign hK rfl) fun a hK => ?_
    refine wpList_nil ?_
    have hS := hS.row_nil 5 1
    have hq_6 : Reps (tyInt .u8) R [] ([] : List Int) := Reps.nil _ _
    obtain rfl := Option.some.inj H
    refine wp_ret ?_
    repeat (first | refine ret_then ?_ | refine ret_block ?_ | refine ret_scope ?_)
    exact ret_2 Try.results12 hK (rv_tmp hK rfl) (rv_tmp hK rfl) ⟨_, rfl, _, _, _, rfl, (hS.trunc 1), hRL, hq_6⟩
  · rw [ifb_f hb_4] at H
    refine wp_skip ?_
    refine wp_seq ?_
    refine parT_region (C := fun w => St [] w0 w R [.cells b_1 [.int .i64 a1.Kind, .int .i64 a1.N, .string a1.S, .int .i64 a1.H.a0, .int .i64 a1.H.a1, .int .i64 a1.H.a2, .int .i64 a1.H.a3, .int .i64 a1.H.a4, .int .i64 a1.H.a5, .int .i64 a1.H.a6, .int .i64 a1.H.a7] 25]) 3 [(0, true), (2, true), (1, false)] mixed (by kernel_rfl) hS (fun w hS => hS) fun w hS => ?_
    refine sp (k := 0) rfl hK (by decide) rfl rfl (fun w hS => r_move hK rfl) fun a hK => ?_
    refine sp (k := 2) rfl hK (by decide) rfl rfl (fun w hS => r_loadA (cs := [.int .i64 a1.Kind, .int .i64 a1.N, .string a1.S, .int .i64 a1.H.a0, .int .i64 a1.H.a1, .int .i64 a1.H.a2, .int .i64 a1.H.a3, .int .i64 a1.H.a4, .int .i64 a1.H.a5, .int .i64 a1.H.a6, .int .i64 a1.H.a7]) Try.isAgg25 Try.sizeOf25 rfl hK rfl (hS.cells_of (m := 11) (.head _) rfl)) fun a hK => ?_
    refine spw (k := 1) rfl rfl hS ?_
    obtain ⟨y_23, h_24, H⟩ := bind_some H
    refine sl_call Try.call24 hK (by decide) rfl rfl rfl (slices_Clone_byte_byte.calls a0 (lentOf_sub [] _) hS.sub (h0_0.mono (hS.raLe0 hRA nil_not)) h_24) fun a v_ w hv_ hK => ?_
    obtain ⟨R_25, v_28, cs_29, hv_, hr_, hl_26, hq_30⟩ := hv_
    have hv_ := hv_.symm
    subst hv_
    obtain ⟨hS, hl_26⟩ := hS.sp0.back hr_ hl_26
    have hS := hS.un1
    have hRL := hRL.trans hl_26
    refine parK_nil ((hS.pk1.trunc 1).lower hl_26.le) ?_
    refine thenL_nil ?_
    obtain ⟨y_31, h_32, H⟩ := bind_some H
    have hS1 := hS.sp1
    refine sl_call Try.call23 hK (by decide) rfl rfl rfl (wire_put.calls y_23 a1 hS1.lend hq_30 h_32) fun a v_ w hv_ hK => ?_
    obtain ⟨R_33, v_36, cs_37, hv_, hr_, hl_34, hq_38⟩ := hv_
    have hv_ := hv_.symm
    subst hv_
    obtain ⟨hS, hl_34⟩ := hS1.back hr_ hl_34
    have hS := hS.un1
    have hRL := hRL.trans hl_34
    refine sl hK (by decide) rfl rfl (r_assign hK rfl) fun a hK => ?_
    refine sl hK (by decide) rfl rfl (r_assign hK rfl) fun a hK => ?_
    refine wpList_nil (NoP_nil ?_)
    obtain rfl := Option.some.inj H
    refine wp_ret ?_
    repeat (first | refine ret_then ?_ | refine ret_block ?_ | refine ret_scope ?_)
    exact ret_2 Try.results12 hK (rv_tmp hK rfl) (rv_tmp hK rfl) ⟨_, rfl, _, _, _, rfl, (hS.trunc 1), hRL, hq_38⟩

/-! ### catchment/wire.caught: function 27 -/
set_option maxHeartbeats 4000000 in
set_option maxRecDepth 100000 in
def brk : Value := .iface 71 (.agg #[])
def dCaught (be : Nat) : Deferred := ⟨.fn (.func 27) #[], #[.pointer (some ⟨be, 0, none⟩)]⟩
section
variable {fn : Func} {tmps : Array Value} {RR : Ending → World → Prop} {ds : List Deferred} {w0 w : World} {M : List Own} {R : Hp} {O : List Own} {be : Nat} {c : List Value}
theorem caught_ret (hS : St M w0 w R (.cells be c 27 :: O)) (h : ∀ w', St M w0 w' R (.cells be c 27 :: O) → Leaves Try.prog fn tmps RR ds .returning w') : Leaves Try.prog fn tmps RR (dCaught be :: ds) .returning w := by
  refine leaves_cons (f := 27) (args := #[.pointer (some ⟨be, 0, none⟩)]) (by simp) (by simp [invoke, Try.call27]) ?_
  refine (callsD_of_wpS (R := fun e u' w' => (∃ v, e = .returned v) ∧ u' = .returning ∧ St M w0 w' R (.cells be c 27 :: O)) Try.func27 rfl fun c₀ cs hm => ?_).mono (fun e u' w' ⟨⟨v, he⟩, hu, hS'⟩ => by subst he; subst hu; exact h w' hS')
  refine wpS_seq (wpS_region (recover_one ?_))
  have hr : recoverD (c₀ :: cs) = none := by simp [recoverD, hm]
  rw [hr]
  refine wpS_of_wp ?_
  suffices H : ∀ a, Kn ⟨13, []⟩ a ((5, Value.nilIface) :: initL 0 [.pointer (some ⟨be, 0, none⟩)]) → Code.wp Try.prog _ _ a w from H _ ((Kn.init [.pointer (some ⟨be, 0, none⟩)] 13 (by simp)).put (d := 5) (by decide) Value.nilIface)
  intro a hK
  refine wp_block ?_
  refine wp_seq ?_
  refine wp_region_lit ?_
  refine sl (v := .bool true) hK (by decide) rfl rfl (by simp [Runs, execOp, hK.ev (x := .tmp 5) rfl, hK.ev (x := .const .nilIface) rfl, eqGuard, binOp, Op.equal, eqi_nil Try.underlying20]) fun a hK => ?_
  refine wpList_nil ?_
  refine wp_cond_true (hK.ev rfl) ?_
  refine wp_region_lit ?_
  refine sl hK (by decide) rfl rfl (r_assign hK rfl) fun a hK => ?_
  refine wpList_nil ?_
  exact ⟨hK.dfs, .returning, by rw [← hm], .tuple #[], by simp [results, Try.f27], ⟨_, rfl⟩, rfl, hS⟩
theorem caught_pan {x : Int} (hS : St M w0 w R (.cells be [.int .i64 x] 27 :: O)) (h : ∀ w', St M w0 w' R (.cells be [.int .i64 40] 27 :: O) → Leaves Try.prog fn tmps RR ds .returning w') : Leaves Try.prog fn tmps RR (dCaught be :: ds) (.panicking [{ v := brk, recovered := false }]) w := by
  refine leaves_cons (f := 27) (args := #[.pointer (some ⟨be, 0, none⟩)]) (by simp) (by simp [invoke, Try.call27]) ?_
  refine (callsD_of_wpS (R := fun e u' w' => (∃ v, e = .returned v) ∧ u' = .panicking [{ v := brk, recovered := true }] ∧ St M w0 w' R (.cells be [.int .i64 40] 27 :: O)) Try.func27 rfl fun c₀ cs hm => ?_).mono (fun e u' w' ⟨⟨v, he⟩, hu, hS'⟩ => by subst he; subst hu; exact h w' hS')
  refine wpS_seq (wpS_region (recover_one ?_))
  have hr : recoverD (c₀ :: cs) = some (brk, { c₀ with mode := .panicking [{ v := brk, recovered := true }] } :: cs) := by simp [recoverD, hm]
  rw [hr]
  refine wpS_of_wp ?_
  suffices H : ∀ a, Kn ⟨13, []⟩ a ((5, brk) :: initL 0 [.pointer (some ⟨be, 0, none⟩)]) → Code.wp Try.prog _ _ a w from H _ ((Kn.init [.pointer (some ⟨be, 0, none⟩)] 13 (by simp)).put (d := 5) (by decide) brk)
  intro a hK
  refine wp_block ?_
  refine wp_seq ?_
  refine wp_region_lit ?_
  refine sl (v := .bool false) hK (by decide) rfl rfl (by simp [Runs, execOp, hK.ev (x := .tmp 5) rfl, hK.ev (x := .const .nilIface) rfl, eqGuard, binOp, Op.equal, eqi_some Try.underlying20, brk]) fun a hK => ?_
  refine wpList_nil ?_
  refine wp_cond_false (hK.ev rfl) ?_
  refine wp_seq ?_
  refine wp_region_lit ?_
  refine sl (v := .tuple #[.agg #[], .bool true]) hK (by decide) rfl rfl (by simp [Runs, execOp, hK.ev (x := .tmp 5) rfl, Instr.typeAssert, run_underlying Try.underlying71, brk]) fun a hK => ?_
  refine sl hK (by decide) rfl rfl (r_extract hK rfl rfl) fun a hK => ?_
  refine sl hK (by decide) rfl rfl (r_extract hK rfl rfl) fun a hK => ?_
  refine wpList_nil ?_
  refine wp_cond_true (hK.ev rfl) ?_
  refine wp_seq ?_
  refine wp_region_lit ?_
  refine sl_alloc (c := []) Try.zeroValue71 hS hK (by decide) rfl rfl fun a w b hS hK => ?_
  refine sl_storeA (vs := []) (c' := []) Try.sizeOf71 hS hK rfl rfl rfl rfl all_nil (Nat.le_refl _) rfl fun a w hS hK => ?_
  refine wpList_nil ?_
  refine wp_region_lit ?_
  refine sl hK (by decide) rfl rfl (r_move hK rfl) fun a hK => ?_
  refine sl hK (by decide) rfl rfl (r_nilCheck hK rfl) fun a hK => ?_
  have hS := hS.pk1
  refine sl_store1 (c' := [.int .i64 40]) Try.sizeOf27 hS hK rfl rfl rfl rfl (Nat.le_of_ble_eq_true rfl) rfl fun a w hS hK => ?_
  refine wpList_nil ?_
  have hS := hS.pk1.tail
  exact ⟨hK.dfs, .panicking [{ v := brk, recovered := true }], rfl, .tuple #[], by simp [results, Try.f27], ⟨_, rfl⟩, rfl, hS⟩
end


/-! ### (*catchment/wire.reader).take: function 37 -/
set_option maxHeartbeats 4000000 in
set_option maxRecDepth 100000 in
theorem wire_reader_take.calls (a0 : wire_reader) (a1 : Int) {w0 : World} {R : Hp} {M : List Own} {b0 : Nat} {v0_0 : Value} (hS0 : St M w0 w0 R [.cells b0 [v0_0] 58]) (h0_0 : SlR (tyInt .u8) R v0_0 a0.b) {r : Option ((List Int) × wire_reader)} (H : wire_reader_take a0 a1 = some r) : Calls Try.prog 37 #[.pointer (some ⟨b0, 0, none⟩), .int .i64 a1] w0 (RetsO r (fun r v w' => ∃ (R' : Hp) (u0 : Value) (u1 : Value), v = u0 ∧ St M w0 w' R' [.cells b0 [u1] 58] ∧ RLe M w0 R R' ∧ SlR (tyInt .u8) R' u0 r.1 ∧ SlR (tyInt .u8) R' u1 r.2.b) (ThrowP M w0 R (.iface 71 (.agg #[])))) := by
  unfold wire_reader_take at H
  refine enter (args := [.pointer (some ⟨b0, 0, none⟩), .int .i64 a1]) Try.func37 rfl Try.ntmps37 rfl fun a hK => ?_
  have hS := hS0
  have hRL := RLe.refl (M := M) w0 R
  refine wp_seq ?_
  refine wp_region_lit ?_
  refine sl hK (by decide) rfl rfl (r_assign hK rfl) fun a hK => ?_
  refine wpList_nil ?_
  refine wp_seq ?_
  refine wp_seq ?_
  refine wp_region_lit ?_
  refine sl hK (by decide) rfl rfl (r_move hK rfl) fun a hK => ?_
  refine sl hK (by decide) rfl rfl (r_move hK rfl) fun a hK => ?_
  refine sl hK (by decide) rfl rfl (r_nilCheck hK rfl) fun a hK => ?_
  refine sl hK (by decide) rfl rfl (r_fieldAddr Try.underlying58 rfl Try.sizeOf22 hK rfl) fun a hK => ?_
  refine sl hK (by decide) rfl rfl (r_load Try.isAgg22 hK rfl (hS.cell (.head _) rfl)) fun a hK => ?_
  refine sl hK (by decide) rfl rfl (r_len_R Try.underlying22 h0_0 hK rfl) fun a hK => ?_
  refine sl hK (by decide) rfl rfl (r_ibin hK rfl rfl rfl) fun a hK => ?_
  refine wpList_nil ?_
  refine wp_cond_split (hK.ev rfl) (fun (hb_1 : (decide (a1 > (a0.b.length : Int))) = true) => ?_) (fun (hb_1 : (decide (a1 > (a0.b.length : Int))) = false) => ?_)
  · rw [ifb_t hb_1] at H
    refine wp_region_lit ?_
    refine sl hK (by decide) rfl rfl (r_buildC (ps := []) (c := []) Try.underlying71 Try.zeroValue71 places71 hK rfl pc_nil rfl rfl) fun a hK => ?_
    refine sl hK (by decide) rfl rfl (r_mkiface Try.underlying71 hK rfl) fun a hK => ?_
    obtain rfl := Option.some.inj H
    refine sl_panic hK rfl rfl ?_
    repeat (first | refine pan_then ?_ | refine pan_block ?_ | refine pan_scope ?_ | refine pan_parK ?_ | refine pan_parKK ?_ | refine pan_thenT ?_ | refine pan_thenL ?_)
    exact throw_post hK ⟨rfl, _, hS.trunc0, hRL⟩
  · rw [ifb_f hb_1] at H
    refine wp_skip ?_
    refine wp_seq ?_
    refine wp_region_lit ?_
    refine sl hK (by decide) rfl rfl (r_move hK rfl) fun a hK => ?_
    refine sl hK (by decide) rfl rfl (r_nilCheck hK rfl) fun a hK => ?_
    refine sl hK (by decide) rfl rfl (r_fieldAddr Try.underlying58 rfl Try.sizeOf22 hK rfl) fun a hK => ?_
    refine sl hK (by decide) rfl rfl (r_load Try.isAgg22 hK rfl (hS.cell (.head _) rfl)) fun a hK => ?_
    refine sl hK (by decide) rfl rfl (r_move hK rfl) fun a hK => ?_
    obtain ⟨y_2, h_3, H⟩ := bind_some H
    obtain ⟨v_4, hs_5, hr_6⟩ := r_slice_R (x := .tmp 18) (lo := none) (hi := some (.tmp 19)) Try.underlying22 Try.sizeOf5 h0_0 h_3 hK rfl rfl ⟨_, rfl⟩
    refine sl hK (by decide) rfl rfl (hr_6 _ _ _ _ _ _ _ hK) fun a hK => ?_
    refine sl hK (by decide) rfl rfl (r_assign hK rfl) fun a hK => ?_
    refine wpList_nil ?_
    refine wp_seq ?_
    refine wp_region_lit ?_
    refine sl hK (by decide) rfl rfl (r_move hK rfl) fun a hK => ?_
    refine sl hK (by decide) rfl rfl (r_move hK rfl) fun a hK => ?_
    refine sl hK (by decide) rfl rfl (r_nilCheck hK rfl) fun a hK => ?_
    refine sl hK (by decide) rfl rfl (r_fieldAddr Try.underlying58 rfl Try.sizeOf22 hK rfl) fun a hK => ?_
    refine sl hK (by decide) rfl rfl (r_load Try.isAgg22 hK rfl (hS.cell (.head _) rfl)) fun a hK => ?_
    refine sl hK (by decide) rfl rfl (r_move hK rfl) fun a hK => ?_
    obtain ⟨y_7, h_8, H⟩ := bind_some H
    obtain ⟨v_9, hs_10, hr_11⟩ := r_slice_R (x := .tmp 25) (lo := some (.tmp 26)) (hi := none) Try.underlying22 Try.sizeOf5 h0_0 h_8 hK rfl ⟨_, rfl⟩ rfl
    refine sl hK (by decide) rfl rfl (hr_11 _ _ _ _ _ _ _ hK) fun a hK => ?_
    refine sl hK (by decide) rfl rfl (r_nilCheck hK rfl) fun a hK => ?_
    refine sl hK (by decide) rfl rfl (r_fieldAddr Try.underlying58 rfl Try.sizeOf22 hK rfl) fun a hK => ?_
    refine sl_store1 (c' := [v_9]) Try.sizeOf22 hS hK rfl rfl rfl hs_10.one (Nat.le_of_ble_eq_true rfl) rfl fun a w hS hK => ?_
    refine wpList_nil ?_
    refine wp_seq ?_
    refine wp_region_lit ?_
    refine sl hK (by decide) rfl rfl (r_move hK rfl) fun a hK => ?_
    refine sl hK (by decide) rfl rfl (r_assign hK rfl) fun a hK => ?_
    refine wpList_nil ?_
    obtain rfl := Option.some.inj H
    refine wp_ret ?_
    repeat (first | refine ret_then ?_ | refine ret_block ?_ | refine ret_scope ?_)
    exact ret_1 Try.results37 hK (rv_tmp hK rfl) ⟨_, rfl, _, _, _, rfl, hS, hRL, hs_5, hs_10⟩

/-! ### catchment/wire.small: function 39 -/
set_option maxHeartbeats 4000000 in
set_option maxRecDepth 100000 in
theorem wire_small.calls (a0 : List Int) {w0 : World} {RA : Hp} {v0_0 : Value} (hRA : RA.sub w0) (h0_0 : SlR (tyInt .u8) RA v0_0 a0) {r : Int} (H : wire_small a0 = some r) : CallsV Try.prog 39 #[v0_0] w0 (.int .i64 r) := by
  unfold wire_small at H
  refine enter (args := [v0_0]) Try.func39 rfl Try.ntmps39 rfl fun a hK => ?_
  have hS := St.init (R := fun _ => none) (w := w0) (fun _ _ h => by cases h)
  have hRL := RLe.refl (M := []) w0 (fun _ => none)
  refine wp_seq ?_
  refine wp_region_lit ?_
  refine sl hK (by decide) rfl rfl (r_assign hK rfl) fun a hK => ?_
  refine wpList_nil ?_
  refine wp_seq ?_
  refine wp_region_lit ?_
  refine sl hK (by decide) rfl rfl (r_assign hK rfl) fun a hK => ?_
  refine wpList_nil ?_
  refine wp_seq ?_
  refine wp_seq ?_
  refine wp_region_lit ?_
  refine sl hK (by decide) rfl rfl (r_move hK rfl) fun a hK => ?_
  refine sl hK (by decide) rfl rfl (r_len_R Try.underlying22 h0_0 hK rfl) fun a hK => ?_
  refine sl hK (by decide) rfl rfl (r_move hK rfl) fun a hK => ?_
  refine wpList_nil ?_
  refine wp_block ?_
  refine wp_loop_k (fun k_l0 a w => ∃ (x_12 : Int) (x_13 : Int), wire_small.l0 a0 k_l0 x_12 x_13 = some r ∧ Kn 19 a [(3, .int .i64 x_12), (6, v0_0), (7, .int .i64 (a0.length : Int)), (8, .int .i64 x_13)] ∧ St [] w0 w (fun _ => none) []) (((a0.length : Int) - 0).toNat + 1) ?_ ?_
  · exact ⟨0, 0, H, hK.sub (all_cons rfl (all_cons rfl (all_cons rfl (all_cons rfl (all_nil))))), hS⟩
  · rintro k_l0 a w ⟨x_12, x_13, H, hK, hS⟩
    cases k_l0 with
    | zero => cases H
    | succ k_l0 =>
    rw [wire_small.l0.eq_2] at H
    refine wp_seq ?_
    refine wp_region_lit ?_
    refine sl hK (by decide) rfl rfl (r_ibin hK rfl rfl rfl) fun a hK => ?_
    refine wpList_nil ?_
    refine wp_seq ?_
    refine wp_cond_split (hK.ev rfl) (fun (hb_25 : (decide (x_13 < (a0.length : Int))) = true) => ?_) (fun (hb_25 : (decide (x_13 < (a0.length : Int))) = false) => ?_)
    · rw [ifb_t hb_25] at H
      refine wp_skip ?_
      refine wp_seq ?_
      refine wp_block ?_
      refine wp_seq ?_
      refine wp_region_lit ?_
      obtain ⟨y_26, h_27, H⟩ := bind_some H
      obtain ⟨b_28, o_29, c_30, cs_31, hv_32, hr_33, hc_34, h_270, h_271⟩ := h0_0.ix h_27
      subst hr_33
      refine sl hK (by decide) rfl rfl (r_indexAddr_R Try.underlying22 Try.sizeOf5 hv_32 h_270 h_271 hK rfl rfl) fun a hK => ?_
      refine sl hK (by decide) rfl rfl (r_load Try.isAgg5 hK rfl ((hS.ra hRA nil_not).cell (hc_34 0 _ rfl))) fun a hK => ?_
      refine sl hK (by decide) rfl rfl (r_assign hK rfl) fun a hK => ?_
      refine wpList_nil ?_
      refine wp_region_lit ?_
      refine sl hK (by decide) rfl rfl (r_move hK rfl) fun a hK => ?_
      refine sl hK (by decide) rfl rfl (r_shl hK rfl rfl (by decide)) fun a hK => ?_
      refine sl hK (by decide) rfl rfl (r_move hK rfl) fun a hK => ?_
      refine sl hK (by decide) rfl rfl (r_conv Try.underlying5 Try.underlying3 hK rfl) fun a hK => ?_
      refine sl hK (by decide) rfl rfl (r_ibin hK rfl rfl rfl) fun a hK => ?_
      refine sl hK (by decide) rfl rfl (r_assign hK rfl) fun a hK => ?_
      refine wpList_nil ?_
      refine wp_region_lit ?_
      refine sl hK (by decide) rfl rfl (r_ibin hK rfl rfl rfl) fun a hK => ?_
      refine sl hK (by decide) rfl rfl (r_move hK rfl) fun a hK => ?_
      refine wpList_nil ?_
      exact ⟨_, Nat.lt_succ_self _, (IntKind.i64.wrap (BitVec.ofInt 64 (IntKind.i64.wrap (x_12 * 2 ^ (min (8 : Int).toNat 64))) ||| BitVec.ofInt 64 (IntKind.i64.wrap y_26)).toNat), (IntKind.i64.wrap (x_13 + 1)), H, hK.sub (all_cons rfl (all_cons rfl (all_cons rfl (all_cons rfl (all_nil))))), hS⟩
    · rw [ifb_f hb_25] at H
      refine wp_exit ?_
      refine wp_seq ?_
      refine wp_region_lit ?_
      refine sl hK (by decide) rfl rfl (r_move hK rfl) fun a hK => ?_
      refine sl hK (by decide) rfl rfl (r_assign hK rfl) fun a hK => ?_
      refine wpList_nil ?_
      obtain rfl := Option.some.inj H
      refine wp_ret ?_
      repeat (first | refine ret_then ?_ | refine ret_block ?_ | refine ret_scope ?_)
      exact ret_1 Try.results39 hK (rv_tmp hK rfl) ⟨rfl, hS.bel⟩

/-! ### (*catchment/wire.reader).number: function 38 -/
set_option maxHeartbeats 4000000 in
set_option maxRecDepth 100000 in
theorem wire_reader_number.calls (a0 : wire_reader) (a1 : Int) {w0 : World} {R : Hp} {M : List Own} {b0 : Nat} {v0_0 : Value} (hS0 : St M w0 w0 R [.cells b0 [v0_0] 58]) (h0_0 : SlR (tyInt .u8) R v0_0 a0.b) {r : Option (Int × wire_reader)} (H : wire_reader_number a0 a1 = some r) : Calls Try.prog 38 #[.pointer (some ⟨b0, 0, none⟩), .int .i64 a1] w0 (RetsO r (fun r v w' => ∃ (R' : Hp) (u0 : Value), v = .int .i64 r.1 ∧ St M w0 w' R' [.cells b0 [u0] 58] ∧ RLe M w0 R R' ∧ SlR (tyInt .u8) R' u0 r.2.b) (ThrowP M w0 R (.iface 71 (.agg #[])))) := by
  unfold wire_reader_number at H
  refine enter (args := [.pointer (some ⟨b0, 0, none⟩), .int .i64 a1]) Try.func38 rfl Try.ntmps38 rfl fun a hK => ?_
  have hS := hS0
  have hRL := RLe.refl (M := M) w0 R
  refine wp_seq ?_
  refine wp_region_lit ?_
  refine sl hK (by decide) rfl rfl (r_assign hK rfl) fun a hK => ?_
  refine wpList_nil ?_
  refine wp_seq ?_
  refine wp_region_lit ?_
  refine sl hK (by decide) rfl rfl (r_move hK rfl) fun a hK => ?_
  refine sl hK (by decide) rfl rfl (r_move hK rfl) fun a hK => ?_
  rcases tb_some H with ⟨h_2, hz_⟩ | ⟨y_1, h_3, H⟩
  · subst hz_
    have hS1 := hS.sp1
    refine sl_callP Try.call37 hK rfl rfl rfl (retsO_bad (wire_reader_take.calls a0 a1 hS1.lend h0_0 h_2)) fun c_ w hp_ => ?_
    obtain ⟨hc_, R_4, hr_, hl_5⟩ := hp_
    subst hc_
    obtain ⟨hS, hl_5⟩ := hS1.back hr_ hl_5
    have hS := hS.un0
    repeat (first | refine pan_then ?_ | refine pan_block ?_ | refine pan_scope ?_ | refine pan_parK ?_ | refine pan_parKK ?_ | refine pan_thenT ?_ | refine pan_thenL ?_)
    have hRL := hRL.trans hl_5
    exact throw_post hK ⟨rfl, _, hS.trunc0, hRL⟩
  · have hS1 := hS.sp1
    refine sl_call Try.call37 hK (by decide) rfl rfl rfl (retsO_ok (wire_reader_take.calls a0 a1 hS1.lend h0_0 h_3)) fun a v_ w hv_ hK => ?_
    obtain ⟨R_6, v_8, v_10, hv_, hr_, hl_7, hs_9, hs_11⟩ := hv_
    have hv_ := hv_.symm
    subst hv_
    obtain ⟨hS, hl_7⟩ := hS1.back hr_ hl_7
    have hS := hS.un1
    have hRL := hRL.trans hl_7
    obtain ⟨y_12, h_13, H⟩ := bind_some H
    refine sl_callV Try.call39 hS hK (by decide) rfl rfl rfl (wire_small.calls y_1.1 (lentOf_sub [] _) (hs_9.mono hS.rLe0) h_13) fun a w hS hK => ?_
    refine sl hK (by decide) rfl rfl (r_assign hK rfl) fun a hK => ?_
    refine wpList_nil ?_
    obtain rfl := Option.some.inj H
    refine wp_ret ?_
    repeat (first | refine ret_then ?_ | refine ret_block ?_ | refine ret_scope ?_)
    exact ret_1 Try.results38 hK (rv_tmp hK rfl) ⟨_, rfl, _, _, rfl, hS, hRL, hs_11⟩

/-! ### (*catchment/wire.reader).value: function 28 -/
set_option maxHeartbeats 4000000 in
set_option maxRecDepth 100000 in
theorem wire_reader_value.calls (a0 : wire_reader) (a1 : Int) {w0 : World} {R : Hp} {M : List Own} {b0 : Nat} {v0_0 : Value} (hS0 : St M w0 w0 R [.cells b0 [v0_0] 58]) (h0_0 : SlR (tyInt .u8) R v0_0 a0.b) {r : Option (api_Value × wire_reader)} (H : wire_reader_value a0 a1 = some r) : Calls Try.prog 28 #[.pointer (some ⟨b0, 0, none⟩), .int .i64 a1] w0 (RetsO r (fun r v w' => ∃ (R' : Hp) (u0 : Value), v = .agg #[.int .i64 r.1.Kind, .int .i64 r.1.N, .string r.1.S, .int .i64 r.1.H.a0, .int .i64 r.1.H.a1, .int .i64 r.1.H.a2, .int .i64 r.1.H.a3, .int .i64 r.1.H.a4, .int .i64 r.1.H.a5, .int .i64 r.1.H.a6, .int .i64 r.1.H.a7] ∧ St M w0 w' R' [.cells b0 [u0] 58] ∧ RLe M w0 R R' ∧ SlR (tyInt .u8) R' u0 r.2.b) (ThrowP M w0 R (.iface 71 (.agg #[])))) := by
  unfold wire_reader_value at H
  refine enter (args := [.pointer (some ⟨b0, 0, none⟩), .int .i64 a1]) Try.func28 rfl Try.ntmps28 rfl fun a hK => ?_
  have hS := hS0
  have hRL := RLe.refl (M := M) w0 R
  refine wp_seq ?_
  refine wp_region_lit ?_
  refine sl_alloc Try.zeroValue25 hS hK (by decide) rfl rfl fun a w b_1 hS hK => ?_
  refine wpList_nil ?_
  refine wp_seq ?_
  refine wp_region_lit ?_
  refine sl hK (by decide) rfl rfl (r_move hK rfl) fun a hK => ?_
  refine sl hK (by decide) rfl rfl (r_buildC (ps := [(0, .int .i64 a1)]) (c := [.int .i64 a1, .int .i64 0, .string (⟨#[]⟩ : ByteArray), .int .i64 0, .int .i64 0, .int .i64 0, .int .i64 0, .int .i64 0, .int .i64 0, .int .i64 0, .int .i64 0]) Try.underlying25 Try.zeroValue25 places25 hK rfl (pc_cons rfl pc_nil) rfl rfl) fun a hK => ?_
  refine sl_alloc Try.zeroValue25 hS hK (by decide) rfl rfl fun a w b_2 hS hK => ?_
  refine sl_storeA (vs := [.int .i64 a1, .int .i64 0, .string (⟨#[]⟩ : ByteArray), .int .i64 0, .int .i64 0, .int .i64 0, .int .i64 0, .int .i64 0, .int .i64 0, .int .i64 0, .int .i64 0]) (c' := [.int .i64 a1, .int .i64 0, .string (⟨#[]⟩ : ByteArray), .int .i64 0, .int .i64 0, .int .i64 0, .int .i64 0, .int .i64 0, .int .i64 0, .int .i64 0, .int .i64 0]) Try.sizeOf25 hS hK rfl rfl rfl rfl (all_cons rfl (all_cons rfl (all_cons rfl (all_cons rfl (all_cons rfl (all_cons rfl (all_cons rfl (all_cons rfl (all_cons rfl (all_cons rfl (all_cons rfl (all_nil)))))))))))) (Nat.le_of_ble_eq_true rfl) rfl fun a w hS hK => ?_
  refine wpList_nil ?_
  refine wp_seq ?_
  refine wp_seq ?_
  refine wp_region_lit ?_
  refine sl hK (by decide) rfl rfl (r_move hK rfl) fun a hK => ?_
  refine wpList_nil ?_
  refine wp_block ?_
  refine wp_seq ?_
  refine wp_region_lit ?_
  refine sl hK (by decide) rfl rfl (r_ibin hK rfl rfl rfl) fun a hK => ?_
  refine sl hK (by decide) rfl rfl (r_assign hK rfl) fun a hK => ?_
  refine wpList_nil ?_
  refine wp_mid (fun a w => ∃ (x_511 : List Int) (x_512 : Int) (x_513 : ByteArray) (x_514 : Arr8) (R_515 : Hp) (v_509 : Value), wire_reader_value.j0 a1 x_511 x_512 x_513 x_514 = some r ∧ RLe M w0 R R_515 ∧ SlR (tyInt .u8) R_515 v_509 x_511 ∧ Kn 45 a [(0, .pointer (some ⟨b0, 0, none⟩)), (4, .pointer (some ⟨b_1, 0, none⟩)), (5, .pointer (some ⟨b_2, 0, none⟩))] ∧ St M w0 w R_515 [.cells b0 [v_509] 58, .cells b_1 [.int .i64 0, .int .i64 0, .string (⟨#[]⟩ : ByteArray), .int .i64 0, .int .i64 0, .int .i64 0, .int .i64 0, .int .i64 0, .int .i64 0, .int .i64 0, .int .i64 0] 25, .cells b_2 [.int .i64 a1, .int .i64 x_512, .string x_513, .int .i64 x_514.a0, .int .i64 x_514.a1, .int .i64 x_514.a2, .int .i64 x_514.a3, .int .i64 x_514.a4, .int .i64 x_514.a5, .int .i64 x_514.a6, .int .i64 x_514.a7] 25]) ?_ ?_
  · refine wp_cond_split (hK.ev rfl) (fun (hb_517 : (a1 == 1) = true) => ?_) (fun (hb_517 : (a1 == 1) = false) => ?_)
    · rw [ifb_t hb_517] at H
      refine wp_region_lit ?_
      refine sl hK (by decide) rfl rfl (r_move hK rfl) fun a hK => ?_
      rcases tb_some H with ⟨h_519, hz_⟩ | ⟨y_518, h_520, H⟩
      · subst hz_
        have hS := hS.pk2
        have hS1 := hS.sp1
        refine sl_callP Try.call38 hK rfl rfl rfl (retsO_bad (wire_reader_number.calls a0 8 hS1.lend h0_0 h_519)) fun c_ w hp_ => ?_
        obtain ⟨hc_, R_521, hr_, hl_522⟩ := hp_
        subst hc_
        obtain ⟨hS, hl_522⟩ := hS1.back hr_ hl_522
        have hS := hS.un0
        repeat (first | refine pan_then ?_ | refine pan_block ?_ | refine pan_scope ?_ | refine pan_parK ?_ | refine pan_parKK ?_ | refine pan_thenT ?_ | refine pan_thenL ?_)
        have hRL := hRL.trans hl_522
        exact throw_post hK ⟨rfl, _, hS.trunc0, hRL⟩
      · have hS := hS.pk2
        have hS1 := hS.sp1
        refine sl_call Try.call38 hK (by decide) rfl rfl rfl (retsO_ok (wire_reader_number.calls a0 8 hS1.lend h0_0 h_520)) fun a v_ w hv_ hK => ?_
        obtain ⟨R_523, v_525, hv_, hr_, hl_524, hs_526⟩ := hv_
        have hv_ := hv_.symm
        subst hv_
        obtain ⟨hS, hl_524⟩ := hS1.back hr_ hl_524
        have hS := hS.un1
        have hRL := hRL.trans hl_524
        refine sl hK (by decide) rfl rfl (r_fieldAddr Try.underlying25 rfl Try.sizeOf3 hK rfl) fun a hK => ?_
        have hS := hS.pk1
        refine sl_store1 (c' := [.int .i64 a1, .int .i64 y_518.1, .string (⟨#[]⟩ : ByteArray), .int .i64 0, .int .i64 0, .int .i64 0, .int .i64 0, .int .i64 0, .int .i64 0, .int .i64 0, .int .i64 0]) Try.sizeOf3 hS hK rfl rfl rfl rfl (Nat.le_of_ble_eq_true rfl) rfl fun a w hS hK => ?_
        refine wpList_nil ?_
        have hS := hS.pk2
        have hS := hS.pk2
        exact ⟨y_518.2.b, y_518.1, (⟨#[]⟩ : ByteArray), (⟨0, 0, 0, 0, 0, 0, 0, 0⟩ : Arr8), _, v_525, H, hl_524, hs_526, hK.sub (all_cons rfl (all_cons rfl (all_cons rfl (all_nil)))), hS⟩
    · rw [ifb_f hb_517] at H
      refine wp_seq ?_
      refine wp_region_lit ?_
      refine sl hK (by decide) rfl rfl (r_ibin hK rfl rfl rfl) fun a hK => ?_
      refine sl hK (by decide) rfl rfl (r_assign hK rfl) fun a hK => ?_
      refine wpList_nil ?_
      refine wp_mid (fun a w => ∃ (x_773 : List Int) (x_774 : Int) (x_775 : ByteArray) (x_776 : Arr8) (R_777 : Hp) (v_771 : Value), wire_reader_value.j1 a1 x_773 x_774 x_775 x_776 = some r ∧ RLe M w0 R R_777 ∧ SlR (tyInt .u8) R_777 v_771 x_773 ∧ Kn 45 a [(0, .pointer (some ⟨b0, 0, none⟩)), (4, .pointer (some ⟨b_1, 0, none⟩)), (5, .pointer (some ⟨b_2, 0, none⟩))] ∧ St M w0 w R_777 [.cells b0 [v_771] 58, .cells b_1 [.int .i64 0, .int .i64 0, .string (⟨#[]⟩ : ByteArray), .int .i64 0, .int .i64 0, .int .i64 0, .int .i64 0, .int .i64 0, .int .i64 0, .int .i64 0, .int .i64 0] 25, .cells b_2 [.int .i64 a1, .int .i64 x_774, .string x_775, .int .i64 x_776.a0, .int .i64 x_776.a1, .int .i64 x_776.a2, .int .i64 x_776.a3, .int .i64 x_776.a4, .int .i64 x_776.a5, .int .i64 x_776.a6, .int .i64 x_776.a7] 25]) ?_ ?_
      · refine wp_cond_split (hK.ev rfl) (fun (hb_779 : (a1 == 2) = true) => ?_) (fun (hb_779 : (a1 == 2) = false) => ?_)
        · rw [ifb_t hb_779] at H
          refine wp_region_lit ?_
          refine sl hK (by decide) rfl rfl (r_move hK rfl) fun a hK => ?_
          refine sl hK (by decide) rfl rfl (r_move hK rfl) fun a hK => ?_
          rcases tb_some H with ⟨h_781, hz_⟩ | ⟨y_780, h_782, H⟩
          · subst hz_
            have hS := hS.pk2
            have hS1 := hS.sp1
            refine sl_callP Try.call38 hK rfl rfl rfl (retsO_bad (wire_reader_number.calls a0 1 hS1.lend h0_0 h_781)) fun c_ w hp_ => ?_
            obtain ⟨hc_, R_783, hr_, hl_784⟩ := hp_
            subst hc_
            obtain ⟨hS, hl_784⟩ := hS1.back hr_ hl_784
            have hS := hS.un0
            repeat (first | refine pan_then ?_ | refine pan_block ?_ | refine pan_scope ?_ | refine pan_parK ?_ | refine pan_parKK ?_ | refine pan_thenT ?_ | refine pan_thenL ?_)
            have hRL := hRL.trans hl_784
            exact throw_post hK ⟨rfl, _, hS.trunc0, hRL⟩
          · have hS := hS.pk2
            have hS1 := hS.sp1
            refine sl_call Try.call38 hK (by decide) rfl rfl rfl (retsO_ok (wire_reader_number.calls a0 1 hS1.lend h0_0 h_782)) fun a v_ w hv_ hK => ?_
            obtain ⟨R_785, v_787, hv_, hr_, hl_786, hs_788⟩ := hv_
            have hv_ := hv_.symm
            subst hv_
            obtain ⟨hS, hl_786⟩ := hS1.back hr_ hl_786
            have hS := hS.un1
            have hRL := hRL.trans hl_786
            rcases tb_some H with ⟨h_790, hz_⟩ | ⟨y_789, h_791, H⟩
            · subst hz_
              have hS1 := hS.sp1
              refine sl_callP Try.call37 hK rfl rfl rfl (retsO_bad (wire_reader_take.calls y_780.2 y_780.1 hS1.lend hs_788 h_790)) fun c_ w hp_ => ?_
              obtain ⟨hc_, R_792, hr_, hl_793⟩ := hp_
              subst hc_
              obtain ⟨hS, hl_793⟩ := hS1.back hr_ hl_793
              have hS := hS.un0
              repeat (first | refine pan_then ?_ | refine pan_block ?_ | refine pan_scope ?_ | refine pan_parK ?_ | refine pan_parKK ?_ | refine pan_thenT ?_ | refine pan_thenL ?_)
              have hRL := hRL.trans hl_793
              exact throw_post hK ⟨rfl, _, hS.trunc0, hRL⟩
            · have hS1 := hS.sp1
              refine sl_call Try.call37 hK (by decide) rfl rfl rfl (retsO_ok (wire_reader_take.calls y_780.2 y_780.1 hS1.lend hs_788 h_791)) fun a v_ w hv_ hK => ?_
              obtain ⟨R_794, v_796, v_798, hv_, hr_, hl_795, hs_797, hs_799⟩ := hv_
              have hv_ := hv_.symm
              subst hv_
              obtain ⟨hS, hl_795⟩ := hS1.back hr_ hl_795
              have hS := hS.un1
              have hRL := hRL.trans hl_795
              refine sl hK (by decide) rfl rfl (r_conv_bs Try.underlying22 Try.underlying9 Try.underlying5 hs_797 hK rfl hS.sub) fun a hK => ?_
              refine sl hK (by decide) rfl rfl (r_fieldAddr Try.underlying25 rfl Try.sizeOf9 hK rfl) fun a hK => ?_
              have hS := hS.pk1
              refine sl_store1 (c' := [.int .i64 a1, .int .i64 0, .string (bstr y_789.1), .int .i64 0, .int .i64 0, .int .i64 0, .int .i64 0, .int .i64 0, .int .i64 0, .int .i64 0, .int .i64 0]) Try.sizeOf9 hS hK rfl rfl rfl rfl (Nat.le_of_ble_eq_true rfl) rfl fun a w hS hK => ?_
              refine wpList_nil ?_
              have hS := hS.pk2
              have hS := hS.pk2
              exact ⟨y_789.2.b, 0, (bstr y_789.1), (⟨0, 0, 0, 0, 0, 0, 0, 0⟩ : Arr8), _, v_798, H, (hl_786.trans hl_795), hs_799, hK.sub (all_cons rfl (all_cons rfl (all_cons rfl (all_nil)))), hS⟩
        · rw [ifb_f hb_779] at H
          refine wp_seq ?_
          refine wp_region_lit ?_
          refine sl hK (by decide) rfl rfl (r_ibin hK rfl rfl rfl) fun a hK => ?_
          refine sl hK (by decide) rfl rfl (r_assign hK rfl) fun a hK => ?_
          refine wpList_nil ?_
          refine wp_mid (fun a w => ∃ (x_910 : List Int) (x_911 : Int) (x_912 : Arr8) (R_913 : Hp) (v_908 : Value), wire_reader_value.j2 a1 x_910 x_911 x_912 = some r ∧ RLe M w0 R R_913 ∧ SlR (tyInt .u8) R_913 v_908 x_910 ∧ Kn 45 a [(0, .pointer (some ⟨b0, 0, none⟩)), (4, .pointer (some ⟨b_1, 0, none⟩)), (5, .pointer (some ⟨b_2, 0, none⟩))] ∧ St M w0 w R_913 [.cells b0 [v_908] 58, .cells b_1 [.int .i64 0, .int .i64 0, .string (⟨#[]⟩ : ByteArray), .int .i64 0, .int .i64 0, .int .i64 0, .int .i64 0, .int .i64 0, .int .i64 0, .int .i64 0, .int .i64 0] 25, .cells b_2 [.int .i64 a1, .int .i64 x_911, .string (⟨#[]⟩ : ByteArray), .int .i64 x_912.a0, .int .i64 x_912.a1, .int .i64 x_912.a2, .int .i64 x_912.a3, .int .i64 x_912.a4, .int .i64 x_912.a5, .int .i64 x_912.a6, .int .i64 x_912.a7] 25]) ?_ ?_
          · refine wp_cond_split (hK.ev rfl) (fun (hb_915 : (a1 == 3) = true) => ?_) (fun (hb_915 : (a1 == 3) = false) => ?_)
            · rw [ifb_t hb_915] at H
              refine wp_region_lit ?_
              refine sl hK (by decide) rfl rfl (r_move hK rfl) fun a hK => ?_
              rcases tb_some H with ⟨h_917, hz_⟩ | ⟨y_916, h_918, H⟩
              · subst hz_
                have hS := hS.pk2
                have hS1 := hS.sp1
                refine sl_callP Try.call38 hK rfl rfl rfl (retsO_bad (wire_reader_number.calls a0 1 hS1.lend h0_0 h_917)) fun c_ w hp_ => ?_
                obtain ⟨hc_, R_919, hr_, hl_920⟩ := hp_
                subst hc_
                obtain ⟨hS, hl_920⟩ := hS1.back hr_ hl_920
                have hS := hS.un0
                repeat (first | refine pan_then ?_ | refine pan_block ?_ | refine pan_scope ?_ | refine pan_parK ?_ | refine pan_parKK ?_ | refine pan_thenT ?_ | refine pan_thenL ?_)
                have hRL := hRL.trans hl_920
                exact throw_post hK ⟨rfl, _, hS.trunc0, hRL⟩
              · have hS := hS.pk2
                have hS1 := hS.sp1
                refine sl_call Try.call38 hK (by decide) rfl rfl rfl (retsO_ok (wire_reader_number.calls a0 1 hS1.lend h0_0 h_918)) fun a v_ w hv_ hK => ?_
                obtain ⟨R_921, v_923, hv_, hr_, hl_922, hs_924⟩ := hv_
                have hv_ := hv_.symm
                subst hv_
                obtain ⟨hS, hl_922⟩ := hS1.back hr_ hl_922
                have hS := hS.un1
                have hRL := hRL.trans hl_922
                refine sl hK (by decide) rfl rfl (r_fieldAddr Try.underlying25 rfl Try.sizeOf3 hK rfl) fun a hK => ?_
                have hS := hS.pk1
                refine sl_store1 (c' := [.int .i64 a1, .int .i64 y_916.1, .string (⟨#[]⟩ : ByteArray), .int .i64 0, .int .i64 0, .int .i64 0, .int .i64 0, .int .i64 0, .int .i64 0, .int .i64 0, .int .i64 0]) Try.sizeOf3 hS hK rfl rfl rfl rfl (Nat.le_of_ble_eq_true rfl) rfl fun a w hS hK => ?_
                refine wpList_nil ?_
                have hS := hS.pk2
                have hS := hS.pk2
                exact ⟨y_916.2.b, y_916.1, (⟨0, 0, 0, 0, 0, 0, 0, 0⟩ : Arr8), _, v_923, H, hl_922, hs_924, hK.sub (all_cons rfl (all_cons rfl (all_cons rfl (all_nil)))), hS⟩
            · rw [ifb_f hb_915] at H
              refine wp_seq ?_
              refine wp_region_lit ?_
              refine sl hK (by decide) rfl rfl (r_ibin hK rfl rfl rfl) fun a hK => ?_
              refine sl hK (by decide) rfl rfl (r_assign hK rfl) fun a hK => ?_
              refine wpList_nil ?_
              refine wp_mid (fun a w => ∃ (x_973 : List Int) (x_974 : Arr8) (R_975 : Hp) (v_971 : Value), wire_reader_value.j3 a1 x_973 x_974 = some r ∧ RLe M w0 R R_975 ∧ SlR (tyInt .u8) R_975 v_971 x_973 ∧ Kn 45 a [(0, .pointer (some ⟨b0, 0, none⟩)), (4, .pointer (some ⟨b_1, 0, none⟩)), (5, .pointer (some ⟨b_2, 0, none⟩))] ∧ St M w0 w R_975 [.cells b0 [v_971] 58, .cells b_1 [.int .i64 0, .int .i64 0, .string (⟨#[]⟩ : ByteArray), .int .i64 0, .int .i64 0, .int .i64 0, .int .i64 0, .int .i64 0, .int .i64 0, .int .i64 0, .int .i64 0] 25, .cells b_2 [.int .i64 a1, .int .i64 0, .string (⟨#[]⟩ : ByteArray), .int .i64 x_974.a0, .int .i64 x_974.a1, .int .i64 x_974.a2, .int .i64 x_974.a3, .int .i64 x_974.a4, .int .i64 x_974.a5, .int .i64 x_974.a6, .int .i64 x_974.a7] 25]) ?_ ?_
              · refine wp_cond_split (hK.ev rfl) (fun (hb_977 : (a1 == 4) = true) => ?_) (fun (hb_977 : (a1 == 4) = false) => ?_)
                · rw [ifb_t hb_977] at H
                  refine wp_seq ?_
                  refine wp_region_lit ?_
                  refine sl hK (by decide) rfl rfl (r_move hK rfl) fun a hK => ?_
                  refine wpList_nil ?_
                  refine wp_block ?_
                  refine wp_loop_k (fun k_l4 a w => ∃ (x_990 : List Int) (x_991 : Arr8) (x_992 : Int) (R_993 : Hp) (v_988 : Value), wire_reader_value.l4 a1 k_l4 x_990 x_991 x_992 = some r ∧ RLe M w0 R R_993 ∧ SlR (tyInt .u8) R_993 v_988 x_990 ∧ Kn 45 a [(0, .pointer (some ⟨b0, 0, none⟩)), (4, .pointer (some ⟨b_1, 0, none⟩)), (5, .pointer (some ⟨b_2, 0, none⟩)), (30, .int .i64 x_992)] ∧ St M w0 w R_993 [.cells b0 [v_988] 58, .cells b_1 [.int .i64 0, .int .i64 0, .string (⟨#[]⟩ : ByteArray), .int .i64 0, .int .i64 0, .int .i64 0, .int .i64 0, .int .i64 0, .int .i64 0, .int .i64 0, .int .i64 0] 25, .cells b_2 [.int .i64 a1, .int .i64 0, .string (⟨#[]⟩ : ByteArray), .int .i64 x_991.a0, .int .i64 x_991.a1, .int .i64 x_991.a2, .int .i64 x_991.a3, .int .i64 x_991.a4, .int .i64 x_991.a5, .int .i64 x_991.a6, .int .i64 x_991.a7] 25]) (((8 : Int) - 0).toNat + 1) ?_ ?_
                  · have hS := hS.pk1
                    have hS := hS.pk2
                    exact ⟨a0.b, (⟨0, 0, 0, 0, 0, 0, 0, 0⟩ : Arr8), 0, _, v0_0, H, (RLe.refl _ _), h0_0, hK.sub (all_cons rfl (all_cons rfl (all_cons rfl (all_cons rfl (all_nil))))), hS⟩
                  · rintro k_l4 a w ⟨x_990, x_991, x_992, R_993, v_988, H, hl_994, hs_989, hK, hS⟩
                    cases k_l4 with
                    | zero => cases H
                    | succ k_l4 =>
                    rw [wire_reader_value.l4.eq_2] at H
                    have hRL := hRL.trans hl_994
                    refine wp_seq ?_
                    refine wp_region_lit ?_
                    refine sl hK (by decide) rfl rfl (r_ibin hK rfl rfl rfl) fun a hK => ?_
                    refine wpList_nil ?_
                    refine wp_seq ?_
                    refine wp_cond_split (hK.ev rfl) (fun (hb_1009 : (decide (x_992 < 8)) = true) => ?_) (fun (hb_1009 : (decide (x_992 < 8)) = false) => ?_)
                    · rw [ifb_t hb_1009] at H
                      refine wp_skip ?_
                      refine wp_seq ?_
                      refine wp_block ?_
                      refine wp_seq ?_
                      refine wp_region_lit ?_
                      refine sl hK (by decide) rfl rfl (r_move hK rfl) fun a hK => ?_
                      refine sl hK (by decide) rfl rfl (r_assign hK rfl) fun a hK => ?_
                      refine wpList_nil ?_
                      refine wp_region_lit ?_
                      refine sl hK (by decide) rfl rfl (r_move hK rfl) fun a hK => ?_
                      refine sl hK (by decide) rfl rfl (r_move hK rfl) fun a hK => ?_
                      rcases tb_some H with ⟨h_1011, hz_⟩ | ⟨y_1010, h_1012, H⟩
                      · subst hz_
                        have hS1 := hS.sp1
                        refine sl_callP Try.call38 hK rfl rfl rfl (retsO_bad (wire_reader_number.calls (⟨x_990⟩ : wire_reader) 8 hS1.lend hs_989 h_1011)) fun c_ w hp_ => ?_
                        obtain ⟨hc_, R_1013, hr_, hl_1014⟩ := hp_
                        subst hc_
                        obtain ⟨hS, hl_1014⟩ := hS1.back hr_ hl_1014
                        have hS := hS.un0
                        repeat (first | refine pan_then ?_ | refine pan_block ?_ | refine pan_scope ?_ | refine pan_parK ?_ | refine pan_parKK ?_ | refine pan_thenT ?_ | refine pan_thenL ?_)
                        have hRL := hRL.trans hl_1014
                        exact throw_post hK ⟨rfl, _, hS.trunc0, hRL⟩
                      · have hS1 := hS.sp1
                        refine sl_call Try.call38 hK (by decide) rfl rfl rfl (retsO_ok (wire_reader_number.calls (⟨x_990⟩ : wire_reader) 8 hS1.lend hs_989 h_1012)) fun a v_ w hv_ hK => ?_
                        obtain ⟨R_1015, v_1017, hv_, hr_, hl_1016, hs_1018⟩ := hv_
                        have hv_ := hv_.symm
                        subst hv_
                        obtain ⟨hS, hl_1016⟩ := hS1.back hr_ hl_1016
                        have hS := hS.un1
                        have hRL := hRL.trans hl_1016
                        refine sl hK (by decide) rfl rfl (r_fieldAddr Try.underlying25 rfl Try.sizeOf23 hK rfl) fun a hK => ?_
                        obtain ⟨y_1019, h_1020, H⟩ := bind_some H
                        refine sl hK (by decide) rfl rfl (r_indexAddr_arr Try.underlying23 Try.sizeOf3 hK rfl rfl (Arr8.ix_lt h_1020).1 (Arr8.ix_lt h_1020).2) fun a hK => ?_
                        obtain ⟨y_1021, h_1022, H⟩ := bind_some H
                        have hS := hS.pk2
                        refine sl_store1 (c' := [.int .i64 a1, .int .i64 0, .string (⟨#[]⟩ : ByteArray), .int .i64 y_1021.a0, .int .i64 y_1021.a1, .int .i64 y_1021.a2, .int .i64 y_1021.a3, .int .i64 y_1021.a4, .int .i64 y_1021.a5, .int .i64 y_1021.a6, .int .i64 y_1021.a7]) Try.sizeOf3 hS hK rfl rfl rfl rfl (Arr8.put_lt h_1022 (Nat.le_of_ble_eq_true rfl)) (Arr8.put_cells h_1022 [.int .i64 a1, .int .i64 0, .string (⟨#[]⟩ : ByteArray)] [] rfl) fun a w hS hK => ?_
                        refine wpList_nil ?_
                        refine wp_region_lit ?_
                        refine sl hK (by decide) rfl rfl (r_ibin hK rfl rfl rfl) fun a hK => ?_
                        refine sl hK (by decide) rfl rfl (r_move hK rfl) fun a hK => ?_
                        refine wpList_nil ?_
                        have hS := hS.pk2
                        have hS := hS.pk2
                        exact ⟨_, Nat.lt_succ_self _, y_1010.2.b, y_1021, (IntKind.i64.wrap (x_992 + 1)), _, v_1017, H, (hl_994.trans hl_1016), hs_1018, hK.sub (all_cons rfl (all_cons rfl (all_cons rfl (all_cons rfl (all_nil))))), hS⟩
                    · rw [ifb_f hb_1009] at H
                      refine wp_exit ?_
                      have hS := hS.pk2
                      have hS := hS.pk2
                      have hS := hS.pk2
                      exact ⟨x_990, x_991, _, v_988, H, hl_994, hs_989, hK.sub (all_cons rfl (all_cons rfl (all_cons rfl (all_nil)))), hS⟩
                · rw [ifb_f hb_977] at H
                  refine wp_skip ?_
                  have hS := hS.pk1
                  have hS := hS.pk2
                  exact ⟨a0.b, (⟨0, 0, 0, 0, 0, 0, 0, 0⟩ : Arr8), _, v0_0, H, (RLe.refl _ _), h0_0, hK.sub (all_cons rfl (all_cons rfl (all_cons rfl (all_nil)))), hS⟩
              · rintro a w ⟨x_973, x_974, R_975, v_971, H, hl_976, hs_972, hK, hS⟩
                unfold wire_reader_value.j3 at H
                have hRL := hRL.trans hl_976
                have hS := hS.pk2
                have hS := hS.pk2
                have hS := hS.pk2
                exact ⟨x_973, 0, x_974, _, v_971, H, hl_976, hs_972, hK.sub (all_cons rfl (all_cons rfl (all_cons rfl (all_nil)))), hS⟩
          · rintro a w ⟨x_910, x_911, x_912, R_913, v_908, H, hl_914, hs_909, hK, hS⟩
            unfold wire_reader_value.j2 at H
            have hRL := hRL.trans hl_914
            have hS := hS.pk2
            have hS := hS.pk2
            have hS := hS.pk2
            exact ⟨x_910, x_911, (⟨#[]⟩ : ByteArray), x_912, _, v_908, H, hl_914, hs_909, hK.sub (all_cons rfl (all_cons rfl (all_cons rfl (all_nil)))), hS⟩
      · rintro a w ⟨x_773, x_774, x_775, x_776, R_777, v_771, H, hl_778, hs_772, hK, hS⟩
        unfold wire_reader_value.j1 at H
        have hRL := hRL.trans hl_778
        have hS := hS.pk2
        have hS := hS.pk2
        have hS := hS.pk2
        exact ⟨x_773, x_774, x_775, x_776, _, v_771, H, hl_778, hs_772, hK.sub (all_cons rfl (all_cons rfl (all_cons rfl (all_nil)))), hS⟩
  · rintro a w ⟨x_511, x_512, x_513, x_514, R_515, v_509, H, hl_516, hs_510, hK, hS⟩
    unfold wire_reader_value.j0 at H
    have hRL := hRL.trans hl_516
    refine wp_seq ?_
    refine wp_seq ?_
    refine wp_region_lit ?_
    refine sl hK (by decide) rfl rfl (r_loadA (cs := [.int .i64 a1, .int .i64 x_512, .string x_513, .int .i64 x_514.a0, .int .i64 x_514.a1, .int .i64 x_514.a2, .int .i64 x_514.a3, .int .i64 x_514.a4, .int .i64 x_514.a5, .int .i64 x_514.a6, .int .i64 x_514.a7]) Try.isAgg25 Try.sizeOf25 rfl hK rfl (hS.cells_of (m := 11) (.tail _ (.tail _ (.head _))) rfl)) fun a hK => ?_
    obtain ⟨y_1023, h_1024, H⟩ := bind_some H
    refine sl_callV Try.call22 hS hK (by decide) rfl rfl rfl (value_Valid.calls (⟨a1, x_512, x_513, x_514⟩ : api_Value) h_1024 _) fun a w hS hK => ?_
    refine sl hK (by decide) rfl rfl (r_un hK rfl (u_not _)) fun a hK => ?_
    refine wpList_nil ?_
    refine wp_cond_split (hK.ev rfl) (fun (hb_1025 : (!y_1023) = true) => ?_) (fun (hb_1025 : (!y_1023) = false) => ?_)
    · rw [ifb_t hb_1025] at H
      refine wp_region_lit ?_
      refine sl hK (by decide) rfl rfl (r_buildC (ps := []) (c := []) Try.underlying71 Try.zeroValue71 places71 hK rfl pc_nil rfl rfl) fun a hK => ?_
      refine sl hK (by decide) rfl rfl (r_mkiface Try.underlying71 hK rfl) fun a hK => ?_
      obtain rfl := Option.some.inj H
      refine sl_panic hK rfl rfl ?_
      repeat (first | refine pan_then ?_ | refine pan_block ?_ | refine pan_scope ?_ | refine pan_parK ?_ | refine pan_parKK ?_ | refine pan_thenT ?_ | refine pan_thenL ?_)
      exact throw_post hK ⟨rfl, _, hS.trunc0, hRL⟩
    · rw [ifb_f hb_1025] at H
      refine wp_skip ?_
      refine wp_seq ?_
      refine wp_region_lit ?_
      refine sl hK (by decide) rfl rfl (r_loadA (cs := [.int .i64 a1, .int .i64 x_512, .string x_513, .int .i64 x_514.a0, .int .i64 x_514.a1, .int .i64 x_514.a2, .int .i64 x_514.a3, .int .i64 x_514.a4, .int .i64 x_514.a5, .int .i64 x_514.a6, .int .i64 x_514.a7]) Try.isAgg25 Try.sizeOf25 rfl hK rfl (hS.cells_of (m := 11) (.tail _ (.tail _ (.head _))) rfl)) fun a hK => ?_
      have hS := hS.pk1
      refine sl_storeA (vs := [.int .i64 a1, .int .i64 x_512, .string x_513, .int .i64 x_514.a0, .int .i64 x_514.a1, .int .i64 x_514.a2, .int .i64 x_514.a3, .int .i64 x_514.a4, .int .i64 x_514.a5, .int .i64 x_514.a6, .int .i64 x_514.a7]) (c' := [.int .i64 a1, .int .i64 x_512, .string x_513, .int .i64 x_514.a0, .int .i64 x_514.a1, .int .i64 x_514.a2, .int .i64 x_514.a3, .int .i64 x_514.a4, .int .i64 x_514.a5, .int .i64 x_514.a6, .int .i64 x_514.a7]) Try.sizeOf25 hS hK rfl rfl rfl rfl (all_cons rfl (all_cons rfl (all_cons rfl (all_cons rfl (all_cons rfl (all_cons rfl (all_cons rfl (all_cons rfl (all_cons rfl (all_cons rfl (all_cons rfl (all_nil)))))))))))) (Nat.le_of_ble_eq_true rfl) rfl fun a w hS hK => ?_
      refine wpList_nil ?_
      obtain rfl := Option.some.inj H
      refine wp_ret ?_
      repeat (first | refine ret_then ?_ | refine ret_block ?_ | refine ret_scope ?_)
      exact ret_1 Try.results28 hK (rv_cell (c := [.int .i64 a1, .int .i64 x_512, .string x_513, .int .i64 x_514.a0, .int .i64 x_514.a1, .int .i64 x_514.a2, .int .i64 x_514.a3, .int .i64 x_514.a4, .int .i64 x_514.a5, .int .i64 x_514.a6, .int .i64 x_514.a7]) Try.isAgg25 Try.sizeOf25 hS (.head _) rfl hK rfl) ⟨_, rfl, _, _, rfl, (hS.pk1.trunc 1), hRL, hs_510⟩

/-! ### catchment/wire.Take: function 14 -/
set_option maxHeartbeats 4000000 in
set_option maxRecDepth 100000 in
theorem wire_Take.calls (a0 : List Int) (a1 : Int) {w0 : World} {R : Hp} {v0_0 : Value} (hR : R.sub w0) (h0_0 : SlR (tyInt .u8) R v0_0 a0) {r : api_Value × (List Int) × Int} (H : wire_Take a0 a1 = some r) : Calls Try.prog 14 #[v0_0, .int .i64 a1] w0 (Rets fun v w' => ∃ (R' : Hp) (u0 : Value) (cu0 : List Value), v = .tuple #[.agg #[.int .i64 r.1.Kind, .int .i64 r.1.N, .string r.1.S, .int .i64 r.1.H.a0, .int .i64 r.1.H.a1, .int .i64 r.1.H.a2, .int .i64 r.1.H.a3, .int .i64 r.1.H.a4, .int .i64 r.1.H.a5, .int .i64 r.1.H.a6, .int .i64 r.1.H.a7], u0, .int .i64 r.2.2] ∧ St [] w0 w' R' [.row 5 1 u0 r.2.1.length cu0] ∧ RLe [] w0 R R' ∧ Reps (tyInt .u8) R' cu0 r.2.1) := by
  unfold wire_Take at H
  refine enterD (args := [v0_0, .int .i64 a1]) Try.func14 rfl Try.ntmps14 rfl fun a hK => ?_
  have hS := St.init hR
  have hRL := RLe.refl (M := []) w0 R
  refine wp_seq ?_
  refine wp_region_lit ?_
  refine sl_alloc Try.zeroValue25 hS hK (Nat.le_of_ble_eq_true rfl) rfl rfl fun a w b_1 hS hK => ?_
  refine sl hK (Nat.le_of_ble_eq_true rfl) rfl rfl (r_assign hK rfl) fun a hK => ?_
  refine sl_alloc Try.zeroValue27 hS hK (Nat.le_of_ble_eq_true rfl) rfl rfl fun a w b_2 hS hK => ?_
  refine wpList_nil ?_
  refine wp_seq ?_
  refine wp_seq ?_
  refine wp_mid (fun a w => ∃ (x_4 : Bool), wire_Take.j0 a0 a1 x_4 = some r ∧ Kn ⟨28, []⟩ a [(0, v0_0), (1, .int .i64 a1), (4, .pointer (some ⟨b_1, 0, none⟩)), (5, .slice none 0 0), (6, .pointer (some ⟨b_2, 0, none⟩)), (14, .bool x_4)] ∧ St [] w0 w R [.cells b_1 [.int .i64 0, .int .i64 0, .string (⟨#[]⟩ : ByteArray), .int .i64 0, .int .i64 0, .int .i64 0, .int .i64 0, .int .i64 0, .int .i64 0, .int .i64 0, .int .i64 0] 25, .cells b_2 [.int .i64 0] 27]) ?_ ?_
  · refine wp_region_lit ?_
    refine sl hK (Nat.le_of_ble_eq_true rfl) rfl rfl (r_move hK rfl) fun a hK => ?_
    refine sl hK (Nat.le_of_ble_eq_true rfl) rfl rfl (r_ibin hK rfl rfl rfl) fun a hK => ?_
    refine sl hK (Nat.le_of_ble_eq_true rfl) rfl rfl (r_move hK rfl) fun a hK => ?_
    rcases or_b (decide (a1 < 1)) with hb_6 | hb_6
    · rw [ifb_t hb_6] at H
      refine sl_skip hK (Nat.le_of_ble_eq_true rfl) (wft hb_6) rfl fun a hK => ?_
      refine sl_skip hK (Nat.le_of_ble_eq_true rfl) (wft hb_6) rfl fun a hK => ?_
      refine sl hK (Nat.le_of_ble_eq_true rfl) rfl rfl (r_pick_t hb_6 hK rfl rfl) fun a hK => ?_
      refine wpList_nil ?_
      have hS := hS.pk1
      exact ⟨true, H, hK.sub (all_cons rfl (all_cons rfl (all_cons rfl (all_cons rfl (all_cons rfl (all_cons rfl (all_nil))))))), hS⟩
    · rw [ifb_f hb_6] at H
      refine sl hK (Nat.le_of_ble_eq_true rfl) (wff hb_6) rfl (r_move hK rfl) fun a hK => ?_
      refine sl hK (Nat.le_of_ble_eq_true rfl) (wff hb_6) rfl (r_ibin hK rfl rfl rfl) fun a hK => ?_
      refine sl hK (Nat.le_of_ble_eq_true rfl) rfl rfl (r_pick_f hb_6 hK rfl rfl) fun a hK => ?_
      refine wpList_nil ?_
      have hS := hS.pk1
      exact ⟨(decide (a1 > 4)), H, hK.sub (all_cons rfl (all_cons rfl (all_cons rfl (all_cons rfl (all_cons rfl (all_cons rfl (all_nil))))))), hS⟩
  · rintro a w ⟨x_4, H, hK, hS⟩
    unfold wire_Take.j0 at H
    refine wp_cond_split (hK.ev rfl) (fun (hb_7 : x_4 = true) => ?_) (fun (hb_7 : x_4 = false) => ?_)
    · rw [ifb_t hb_7] at H
      refine wp_seq ?_
      refine wp_region_lit ?_
      refine sl hK (Nat.le_of_ble_eq_true rfl) rfl rfl (r_buildC (ps := []) (c := [.int .i64 0, .int .i64 0, .string (⟨#[]⟩ : ByteArray), .int .i64 0, .int .i64 0, .int .i64 0, .int .i64 0, .int .i64 0, .int .i64 0, .int .i64 0, .int .i64 0]) Try.underlying25 Try.zeroValue25 places25 hK rfl pc_nil rfl rfl) fun a hK => ?_
      refine sl_storeA (vs := [.int .i64 0, .int .i64 0, .string (⟨#[]⟩ : ByteArray), .int .i64 0, .int .i64 0, .int .i64 0, .int .i64 0, .int .i64 0, .int .i64 0, .int .i64 0, .int .i64 0]) (c' := [.int .i64 0, .int .i64 0, .string (⟨#[]⟩ : ByteArray), .int .i64 0, .int .i64 0, .int .i64 0, .int .i64 0, .int .i64 0, .int .i64 0, .int .i64 0, .int .i64 0]) Try.sizeOf25 hS hK rfl rfl rfl rfl (all_cons rfl (all_cons rfl (all_cons rfl (all_cons rfl (all_cons rfl (all_cons rfl (all_cons rfl (all_cons rfl (all_cons rfl (all_cons rfl (all_cons rfl (all_nil)))))))))))) (Nat.le_of_ble_eq_true rfl) rfl fun a w hS hK => ?_
      refine sl hK (Nat.le_of_ble_eq_true rfl) rfl rfl (r_assign hK rfl) fun a hK => ?_
      have hS := hS.pk1
      refine sl_store1 (c' := [.int .i64 10]) Try.sizeOf27 hS hK rfl rfl rfl rfl (Nat.le_of_ble_eq_true rfl) rfl fun a w hS hK => ?_
      refine wpList_nil ?_
      refine wp_ret ?_
      repeat (first | refine ret_then ?_ | refine ret_block ?_ | refine ret_scope ?_)
      refine retD' (KS := [(4, .pointer (some ⟨b_1, 0, none⟩)), (5, .slice none 0 0), (6, .pointer (some ⟨b_2, 0, none⟩))]) (D := []) hK rfl (all_cons rfl (all_cons rfl (all_cons rfl (all_nil)))) fun tm_ ht_ => ?_
      have hS := hS.row_nil 5 1
      have hq_9 : Reps (tyInt .u8) R [] ([] : List Int) := Reps.nil _ _
      obtain rfl := Option.some.inj H
      exact leaves_3 Try.results14 (rt_cell (c := [.int .i64 0, .int .i64 0, .string (⟨#[]⟩ : ByteArray), .int .i64 0, .int .i64 0, .int .i64 0, .int .i64 0, .int .i64 0, .int .i64 0, .int .i64 0, .int .i64 0]) (ht_ _ (.head _)) Try.isAgg25 Try.sizeOf25 hS (.tail _ (.tail _ (.head _))) rfl) (rt_tmp (ht_ _ (.tail _ (.head _)))) (rt_cell1 (ht_ _ (.tail _ (.tail _ (.head _)))) Try.isAgg27 hS (.tail _ (.head _))) ⟨_, rfl, _, _, _, rfl, (hS.trunc 1), hRL, hq_9⟩
    · rw [ifb_f hb_7] at H
      refine wp_skip ?_
      refine wp_seq ?_
      refine wp_region_lit ?_
      refine sl_defer hK rfl rfl (r_defer (cap := []) (vs := [.pointer (some ⟨b_2, 0, none⟩)]) hK rfl rfl) fun a hK => ?_
      refine wpList_nil ?_
      refine wp_seq ?_
      refine wp_region_lit ?_
      refine sl hK (Nat.le_of_ble_eq_true rfl) rfl rfl (r_move hK rfl) fun a hK => ?_
      refine sl hK (Nat.le_of_ble_eq_true rfl) rfl rfl (r_buildC (ps := [(0, v0_0)]) (c := [v0_0]) Try.underlying58 Try.zeroValue58 places58 hK rfl (pc_cons (cells1 h0_0.one) pc_nil) rfl rfl) fun a hK => ?_
      refine sl_box hS hK (Nat.le_of_ble_eq_true rfl) rfl rfl (c := [v0_0]) rfl fun a w b_10 hS hK => ?_
      refine sl hK (Nat.le_of_ble_eq_true rfl) rfl rfl (r_assign hK rfl) fun a hK => ?_
      refine wpList_nil ?_
      refine wp_seq ?_
      refine wp_region_lit ?_
      refine sl hK (Nat.le_of_ble_eq_true rfl) rfl rfl (r_move hK rfl) fun a hK => ?_
      refine sl hK (Nat.le_of_ble_eq_true rfl) rfl rfl (r_move hK rfl) fun a hK => ?_
      rcases tc_some H with ⟨h_12, H⟩ | ⟨y_11, h_13, H⟩
      · have hS1 := hS.sp1
        refine sl_callP Try.call28 hK rfl rfl rfl (retsO_bad (wire_reader_value.calls (⟨a0⟩ : wire_reader) a1 hS1.lend h0_0 h_12)) fun c_ w hp_ => ?_
        obtain ⟨hc_, R_14, hr_, hl_15⟩ := hp_
        subst hc_
        obtain ⟨hS, hl_15⟩ := hS1.back hr_ hl_15
        have hS := hS.un0
        repeat (first | refine pan_then ?_ | refine pan_block ?_ | refine pan_scope ?_ | refine pan_parK ?_ | refine pan_parKK ?_ | refine pan_thenT ?_ | refine pan_thenL ?_)
        have hRL := hRL.trans hl_15
        refine throwD (throwA_of (KS := [(4, .pointer (some ⟨b_1, 0, none⟩)), (5, .slice none 0 0), (6, .pointer (some ⟨b_2, 0, none⟩))]) (D := [⟨.fn (.func 27) #[], #[.pointer (some ⟨b_2, 0, none⟩)]⟩]) hK rfl (all_cons rfl (all_cons rfl (all_cons rfl (all_nil)))) fun tm_ ht_ => ?_)
        have hS := hS.pk1
        refine caught_pan hS fun w hS => ?_
        have hS := hS.row_nil 5 1
        have hq_17 : Reps (tyInt .u8) R_14 [] ([] : List Int) := Reps.nil _ _
        obtain rfl := Option.some.inj H
        exact leaves_3 Try.results14 (rt_cell (c := [.int .i64 0, .int .i64 0, .string (⟨#[]⟩ : ByteArray), .int .i64 0, .int .i64 0, .int .i64 0, .int .i64 0, .int .i64 0, .int .i64 0, .int .i64 0, .int .i64 0]) (ht_ _ (.head _)) Try.isAgg25 Try.sizeOf25 hS (.tail _ (.tail _ (.head _))) rfl) (rt_tmp (ht_ _ (.tail _ (.head _)))) (rt_cell1 (ht_ _ (.tail _ (.tail _ (.head _)))) Try.isAgg27 hS (.tail _ (.head _))) ⟨_, rfl, _, _, _, rfl, (hS.trunc 1), hRL, hq_17⟩
      · have hS1 := hS.sp1
        refine sl_call Try.call28 hK (Nat.le_of_ble_eq_true rfl) rfl rfl rfl (retsO_ok (wire_reader_value.calls (⟨a0⟩ : wire_reader) a1 hS1.lend h0_0 h_13)) fun a v_ w hv_ hK => ?_
        obtain ⟨R_18, v_20, hv_, hr_, hl_19, hs_21⟩ := hv_
        have hv_ := hv_.symm
        subst hv_
        obtain ⟨hS, hl_19⟩ := hS1.back hr_ hl_19
        have hS := hS.un1
        have hRL := hRL.trans hl_19
        refine sl_alloc Try.zeroValue25 hS hK (Nat.le_of_ble_eq_true rfl) rfl rfl fun a w b_22 hS hK => ?_
        refine sl_storeA (vs := [.int .i64 y_11.1.Kind, .int .i64 y_11.1.N, .string y_11.1.S, .int .i64 y_11.1.H.a0, .int .i64 y_11.1.H.a1, .int .i64 y_11.1.H.a2, .int .i64 y_11.1.H.a3, .int .i64 y_11.1.H.a4, .int .i64 y_11.1.H.a5, .int .i64 y_11.1.H.a6, .int .i64 y_11.1.H.a7]) (c' := [.int .i64 y_11.1.Kind, .int .i64 y_11.1.N, .string y_11.1.S, .int .i64 y_11.1.H.a0, .int .i64 y_11.1.H.a1, .int .i64 y_11.1.H.a2, .int .i64 y_11.1.H.a3, .int .i64 y_11.1.H.a4, .int .i64 y_11.1.H.a5, .int .i64 y_11.1.H.a6, .int .i64 y_11.1.H.a7]) Try.sizeOf25 hS hK rfl rfl rfl rfl (all_cons rfl (all_cons rfl (all_cons rfl (all_cons rfl (all_cons rfl (all_cons rfl (all_cons rfl (all_cons rfl (all_cons rfl (all_cons rfl (all_cons rfl (all_nil)))))))))))) (Nat.le_of_ble_eq_true rfl) rfl fun a w hS hK => ?_
        refine wpList_nil ?_
        refine wp_seq ?_
        refine parT_region (C := fun w => St [] w0 w R_18 [.cells b_22 [.int .i64 y_11.1.Kind, .int .i64 y_11.1.N, .string y_11.1.S, .int .i64 y_11.1.H.a0, .int .i64 y_11.1.H.a1, .int .i64 y_11.1.H.a2, .int .i64 y_11.1.H.a3, .int .i64 y_11.1.H.a4, .int .i64 y_11.1.H.a5, .int .i64 y_11.1.H.a6, .int .i64 y_11.1.H.a7] 25, .cells b_10 [v_20] 58, .cells b_1 [.int .i64 0, .int .i64 0, .string (⟨#[]⟩ : ByteArray), .int .i64 0, .int .i64 0, .int .i64 0, .int .i64 0, .int .i64 0, .int .i64 0, .int .i64 0, .int .i64 0] 25, .cells b_2 [.int .i64 0] 27]) 6 [(0, true), (1, true), (2, true), (3, true), (4, true), (5, false)] mixed (by kernel_rfl) hS (fun w hS => hS) fun w hS => ?_
        refine sp (k := 0) rfl hK (Nat.le_of_ble_eq_true rfl) rfl rfl (fun w hS => r_loadA (cs := [.int .i64 y_11.1.Kind, .int .i64 y_11.1.N, .string y_11.1.S, .int .i64 y_11.1.H.a0, .int .i64 y_11.1.H.a1, .int .i64 y_11.1.H.a2, .int .i64 y_11.1.H.a3, .int .i64 y_11.1.H.a4, .int .i64 y_11.1.H.a5, .int .i64 y_11.1.H.a6, .int .i64 y_11.1.H.a7]) Try.isAgg25 Try.sizeOf25 rfl hK rfl (hS.cells_of (m := 11) (.head _) rfl)) fun a hK => ?_
        refine sp (k := 1) rfl hK (Nat.le_of_ble_eq_true rfl) rfl rfl (fun w hS => r_move hK rfl) fun a hK => ?_
        refine sp (k := 2) rfl hK (Nat.le_of_ble_eq_true rfl) rfl rfl (fun w hS => r_nilCheck hK rfl) fun a hK => ?_
        refine sp (k := 3) rfl hK (Nat.le_of_ble_eq_true rfl) rfl rfl (fun w hS => r_fieldAddr Try.underlying58 rfl Try.sizeOf22 hK rfl) fun a hK => ?_
        refine sp (k := 4) rfl hK (Nat.le_of_ble_eq_true rfl) rfl rfl (fun w hS => r_load Try.isAgg22 hK rfl (hS.cell (.tail _ (.head _)) rfl)) fun a hK => ?_
        refine spw (k := 5) rfl rfl hS ?_
        obtain ⟨y_31, h_32, H⟩ := bind_some H
        refine sl_call Try.call24 hK (Nat.le_of_ble_eq_true rfl) rfl rfl rfl (slices_Clone_byte_byte.calls y_11.2.b (lentOf_sub [] _) hS.sub (hs_21.mono hS.rLe0) h_32) fun a v_ w hv_ hK => ?_
        obtain ⟨R_33, v_36, cs_37, hv_, hr_, hl_34, hq_38⟩ := hv_
        have hv_ := hv_.symm
        subst hv_
        obtain ⟨hS, hl_34⟩ := hS.sp0.back hr_ hl_34
        have hS := hS.un1
        have hRL := hRL.trans hl_34
        refine parK_nil ((hS.pk4.pk4.pk4.pk4.trunc 4).lower hl_34.le) ?_
        refine thenL_nil ?_
        have hS := hS.pk3
        refine sl_storeA (vs := [.int .i64 y_11.1.Kind, .int .i64 y_11.1.N, .string y_11.1.S, .int .i64 y_11.1.H.a0, .int .i64 y_11.1.H.a1, .int .i64 y_11.1.H.a2, .int .i64 y_11.1.H.a3, .int .i64 y_11.1.H.a4, .int .i64 y_11.1.H.a5, .int .i64 y_11.1.H.a6, .int .i64 y_11.1.H.a7]) (c' := [.int .i64 y_11.1.Kind, .int .i64 y_11.1.N, .string y_11.1.S, .int .i64 y_11.1.H.a0, .int .i64 y_11.1.H.a1, .int .i64 y_11.1.H.a2, .int .i64 y_11.1.H.a3, .int .i64 y_11.1.H.a4, .int .i64 y_11.1.H.a5, .int .i64 y_11.1.H.a6, .int .i64 y_11.1.H.a7]) Try.sizeOf25 hS hK rfl rfl rfl rfl (all_cons rfl (all_cons rfl (all_cons rfl (all_cons rfl (all_cons rfl (all_cons rfl (all_cons rfl (all_cons rfl (all_cons rfl (all_cons rfl (all_cons rfl (all_nil)))))))))))) (Nat.le_of_ble_eq_true rfl) rfl fun a w hS hK => ?_
        refine sl hK (Nat.le_of_ble_eq_true rfl) rfl rfl (r_assign hK rfl) fun a hK => ?_
        have hS := hS.pk4
        refine sl_store1 (c' := [.int .i64 0]) Try.sizeOf27 hS hK rfl rfl rfl rfl (Nat.le_of_ble_eq_true rfl) rfl fun a w hS hK => ?_
        refine wpList_nil (NoP_nil ?_)
        refine wp_ret ?_
        repeat (first | refine ret_then ?_ | refine ret_block ?_ | refine ret_scope ?_)
        refine retD' (KS := [(4, .pointer (some ⟨b_1, 0, none⟩)), (5, v_36), (6, .pointer (some ⟨b_2, 0, none⟩))]) (D := [⟨.fn (.func 27) #[], #[.pointer (some ⟨b_2, 0, none⟩)]⟩]) hK rfl (all_cons rfl (all_cons rfl (all_cons rfl (all_nil)))) fun tm_ ht_ => ?_
        refine caught_ret hS fun w hS => ?_
        obtain rfl := Option.some.inj H
        exact leaves_3 Try.results14 (rt_cell (c := [.int .i64 y_11.1.Kind, .int .i64 y_11.1.N, .string y_11.1.S, .int .i64 y_11.1.H.a0, .int .i64 y_11.1.H.a1, .int .i64 y_11.1.H.a2, .int .i64 y_11.1.H.a3, .int .i64 y_11.1.H.a4, .int .i64 y_11.1.H.a5, .int .i64 y_11.1.H.a6, .int .i64 y_11.1.H.a7]) (ht_ _ (.head _)) Try.isAgg25 Try.sizeOf25 hS (.tail _ (.head _)) rfl) (rt_tmp (ht_ _ (.tail _ (.head _)))) (rt_cell1 (ht_ _ (.tail _ (.tail _ (.head _)))) Try.isAgg27 hS (.head _)) ⟨_, rfl, _, _, _, rfl, (hS.pk2.trunc 1), hRL, hq_38⟩

/-! ### catchment/table.Name: function 49 -/
set_option maxHeartbeats 4000000 in
set_option maxRecDepth 100000 in
theorem table_Name.calls (a0 : ByteArray) {r : Bool} (H : table_Name a0 = some r) (w0 : World) : CallsV Try.prog 49 #[.string a0] w0 (.bool r) := by
  unfold table_Name at H
  refine enter (args := [.string a0]) Try.func49 rfl Try.ntmps49 rfl fun a hK => ?_
  have hS := St.init (R := fun _ => none) (w := w0) (fun _ _ h => by cases h)
  have hRL := RLe.refl (M := []) w0 (fun _ => none)
  refine wp_seq ?_
  refine wp_region_lit ?_
  refine sl hK (by decide) rfl rfl (r_assign hK rfl) fun a hK => ?_
  refine wpList_nil ?_
  refine wp_seq ?_
  refine wp_seq ?_
  refine wp_region_lit ?_
  refine sl hK (by decide) rfl rfl (r_move hK rfl) fun a hK => ?_
  refine sl hK (by decide) rfl rfl (r_len_str Try.underlying9 hK rfl) fun a hK => ?_
  refine sl hK (by decide) rfl rfl (r_move hK rfl) fun a hK => ?_
  refine wpList_nil ?_
  refine wp_block ?_
  refine wp_loop_k (fun k_l0 a w => ∃ (x_11 : Int), table_Name.l0 a0 k_l0 x_11 = some r ∧ Kn 48 a [(0, .string a0), (6, .int .i64 (a0.size : Int)), (7, .int .i64 x_11)] ∧ St [] w0 w (fun _ => none) []) (((a0.size : Int) - 0).toNat + 1) ?_ ?_
  · exact ⟨0, H, hK.sub (all_cons rfl (all_cons rfl (all_cons rfl (all_nil)))), hS⟩
  · rintro k_l0 a w ⟨x_11, H, hK, hS⟩
    cases k_l0 with
    | zero => cases H
    | succ k_l0 =>
    rw [table_Name.l0.eq_2] at H
    refine wp_seq ?_
    refine wp_region_lit ?_
    refine sl hK (by decide) rfl rfl (r_ibin hK rfl rfl rfl) fun a hK => ?_
    refine wpList_nil ?_
    refine wp_seq ?_
    refine wp_cond_split (hK.ev rfl) (fun (hb_49 : (decide (x_11 < (a0.size : Int))) = true) => ?_) (fun (hb_49 : (decide (x_11 < (a0.size : Int))) = false) => ?_)
    · rw [ifb_t hb_49] at H
      refine wp_skip ?_
      refine wp_seq ?_
      refine wp_block ?_
      refine wp_seq ?_
      refine wp_region_lit ?_
      refine sl hK (by decide) rfl rfl (r_move hK rfl) fun a hK => ?_
      refine sl hK (by decide) rfl rfl (r_assign hK rfl) fun a hK => ?_
      refine wpList_nil ?_
      refine wp_seq ?_
      refine wp_region_lit ?_
      refine sl hK (by decide) rfl rfl (r_move hK rfl) fun a hK => ?_
      refine sl hK (by decide) rfl rfl (r_move hK rfl) fun a hK => ?_
      obtain ⟨y_50, h_51, H⟩ := bind_some H
      refine sl hK (by decide) rfl rfl (r_index_str' Try.underlying9 h_51 hK rfl rfl) fun a hK => ?_
      refine sl hK (by decide) rfl rfl (r_assign hK rfl) fun a hK => ?_
      refine wpList_nil ?_
      refine wp_block ?_
      refine wp_seq ?_
      refine wp_mid (fun a w => ∃ (x_53 : Bool), table_Name.j1 (table_Name.l0 a0 k_l0) a0 x_11 y_50 x_53 = some r ∧ Kn 48 a [(0, .string a0), (3, .int .i64 x_11), (4, .int .u8 y_50), (6, .int .i64 (a0.size : Int)), (7, .int .i64 x_11), (13, .bool x_53)] ∧ St [] w0 w (fun _ => none) []) ?_ ?_
      · refine wp_region_lit ?_
        refine sl hK (by decide) rfl rfl (r_move hK rfl) fun a hK => ?_
        refine sl hK (by decide) rfl rfl (r_ibin hK rfl rfl rfl) fun a hK => ?_
        refine sl hK (by decide) rfl rfl (r_move hK rfl) fun a hK => ?_
        rcases or_b (decide (y_50 ≥ 97)) with hb_55 | hb_55
        · rw [ifb_t hb_55] at H
          refine sl hK (by decide) (wtt hb_55) rfl (r_move hK rfl) fun a hK => ?_
          refine sl hK (by decide) (wtt hb_55) rfl (r_ibin hK rfl rfl rfl) fun a hK => ?_
          refine sl hK (by decide) rfl rfl (r_pick_t hb_55 hK rfl rfl) fun a hK => ?_
          refine sl hK (by decide) rfl rfl (r_assign hK rfl) fun a hK => ?_
          refine wpList_nil ?_
          exact ⟨(decide (y_50 ≤ 122)), H, hK.sub (all_cons rfl (all_cons rfl (all_cons rfl (all_cons rfl (all_cons rfl (all_cons rfl (all_nil))))))), hS⟩
        · rw [ifb_f hb_55] at H
          refine sl_skip hK (by decide) (wtf hb_55) rfl fun a hK => ?_
          refine sl_skip hK (by decide) (wtf hb_55) rfl fun a hK => ?_
          refine sl hK (by decide) rfl rfl (r_pick_f hb_55 hK rfl rfl) fun a hK => ?_
          refine sl hK (by decide) rfl rfl (r_assign hK rfl) fun a hK => ?_
          refine wpList_nil ?_
          exact ⟨false, H, hK.sub (all_cons rfl (all_cons rfl (all_cons rfl (all_cons rfl (all_cons rfl (all_cons rfl (all_nil))))))), hS⟩
      · rintro a w ⟨x_53, H, hK, hS⟩
        unfold table_Name.j1 at H
        refine wp_mid (fun a w => table_Name.j2 (table_Name.l0 a0 k_l0) a0 x_11 = some r ∧ Kn 48 a [(0, .string a0), (6, .int .i64 (a0.size : Int)), (7, .int .i64 x_11)] ∧ St [] w0 w (fun _ => none) []) ?_ ?_
        · refine wp_cond_split (hK.ev rfl) (fun (hb_71 : x_53 = true) => ?_) (fun (hb_71 : x_53 = false) => ?_)
          · rw [ifb_t hb_71] at H
            refine wp_skip ?_
            exact ⟨H, hK.sub (all_cons rfl (all_cons rfl (all_cons rfl (all_nil)))), hS⟩
          · rw [ifb_f hb_71] at H
            refine wp_seq ?_
            refine wp_mid (fun a w => ∃ (x_77 : Bool), table_Name.j3 (table_Name.l0 a0 k_l0) a0 x_11 x_77 = some r ∧ Kn 48 a [(0, .string a0), (6, .int .i64 (a0.size : Int)), (7, .int .i64 x_11), (20, .bool x_77)] ∧ St [] w0 w (fun _ => none) []) ?_ ?_
            · refine wp_region_lit ?_
              refine sl hK (by decide) rfl rfl (r_move hK rfl) fun a hK => ?_
              refine sl hK (by decide) rfl rfl (r_ibin hK rfl rfl rfl) fun a hK => ?_
              refine sl hK (by decide) rfl rfl (r_move hK rfl) fun a hK => ?_
              rcases or_b (decide (x_11 > 0)) with hb_79 | hb_79
              · rw [ifb_t hb_79] at H
                refine sl hK (by decide) (wtt hb_79) rfl (r_move hK rfl) fun a hK => ?_
                refine sl hK (by decide) (wtt hb_79) rfl (r_ibin hK rfl rfl rfl) fun a hK => ?_
                refine sl hK (by decide) (wtt hb_79) rfl (r_move hK rfl) fun a hK => ?_
                rcases or_b (decide (y_50 ≥ 48)) with hb_80 | hb_80
                · rw [ifb_t hb_80] at H
                  refine sl hK (by decide) (wtt hb_80) rfl (r_move hK rfl) fun a hK => ?_
                  refine sl hK (by decide) (wtt hb_80) rfl (r_ibin hK rfl rfl rfl) fun a hK => ?_
                  refine sl hK (by decide) (wtt hb_79) rfl (r_pick_t hb_80 hK rfl rfl) fun a hK => ?_
                  refine sl hK (by decide) (wtt hb_79) rfl (r_move hK rfl) fun a hK => ?_
                  rcases or_b (decide (y_50 ≤ 57)) with hb_81 | hb_81
                  · rw [ifb_t hb_81] at H
                    refine sl_skip hK (by decide) (wft hb_81) rfl fun a hK => ?_
                    refine sl_skip hK (by decide) (wft hb_81) rfl fun a hK => ?_
                    refine sl hK (by decide) (wtt hb_79) rfl (r_pick_t hb_81 hK rfl rfl) fun a hK => ?_
                    refine sl hK (by decide) (wtt hb_79) rfl (r_move hK rfl) fun a hK => ?_
                    refine sl_skip hK (by decide) rfl rfl fun a hK => ?_
                    refine sl_skip hK (by decide) rfl rfl fun a hK => ?_
                    refine sl hK (by decide) (wtt hb_79) rfl (r_pick hK rfl rfl rfl) fun a hK => ?_
                    refine sl hK (by decide) rfl rfl (r_pick_t hb_79 hK rfl rfl) fun a hK => ?_
                    refine sl hK (by decide) rfl rfl (r_assign hK rfl) fun a hK => ?_
                    refine wpList_nil ?_
                    exact ⟨true, H, hK.sub (all_cons rfl (all_cons rfl (all_cons rfl (all_cons rfl (all_nil))))), hS⟩
                  · rw [ifb_f hb_81] at H
                    refine sl hK (by decide) (wff hb_81) rfl (r_move hK rfl) fun a hK => ?_
                    refine sl hK (by decide) (wff hb_81) rfl (r_ibin hK rfl rfl rfl) fun a hK => ?_
                    refine sl hK (by decide) (wtt hb_79) rfl (r_pick_f hb_81 hK rfl rfl) fun a hK => ?_
                    refine sl hK (by decide) (wtt hb_79) rfl (r_move hK rfl) fun a hK => ?_
                    rcases or_b (y_50 == 95) with hb_82 | hb_82
                    · rw [ifb_t hb_82] at H
                      refine sl_skip hK (by decide) (wft hb_82) rfl fun a hK => ?_
                      refine sl_skip hK (by decide) (wft hb_82) rfl fun a hK => ?_
                      refine sl hK (by decide) (wtt hb_79) rfl (r_pick_t hb_82 hK rfl rfl) fun a hK => ?_
                      refine sl hK (by decide) rfl rfl (r_pick_t hb_79 hK rfl rfl) fun a hK => ?_
                      refine sl hK (by decide) rfl rfl (r_assign hK rfl) fun a hK => ?_
                      refine wpList_nil ?_
                      exact ⟨true, H, hK.sub (all_cons rfl (all_cons rfl (all_cons rfl (all_cons rfl (all_nil))))), hS⟩
                    · rw [ifb_f hb_82] at H
                      refine sl hK (by decide) (wff hb_82) rfl (r_move hK rfl) fun a hK => ?_
                      refine sl hK (by decide) (wff hb_82) rfl (r_ibin hK rfl rfl rfl) fun a hK => ?_
                      refine sl hK (by decide) (wtt hb_79) rfl (r_pick_f hb_82 hK rfl rfl) fun a hK => ?_
                      refine sl hK (by decide) rfl rfl (r_pick_t hb_79 hK rfl rfl) fun a hK => ?_
                      refine sl hK (by decide) rfl rfl (r_assign hK rfl) fun a hK => ?_
                      refine wpList_nil ?_
                      exact ⟨(y_50 == 35), H, hK.sub (all_cons rfl (all_cons rfl (all_cons rfl (all_cons rfl (all_nil))))), hS⟩
                · rw [ifb_f hb_80] at H
                  refine sl_skip hK (by decide) (wtf hb_80) rfl fun a hK => ?_
                  refine sl_skip hK (by decide) (wtf hb_80) rfl fun a hK => ?_
                  refine sl hK (by decide) (wtt hb_79) rfl (r_pick_f hb_80 hK rfl rfl) fun a hK => ?_
                  refine sl hK (by decide) (wtt hb_79) rfl (r_move hK rfl) fun a hK => ?_
                  refine sl hK (by decide) rfl rfl (r_move hK rfl) fun a hK => ?_
                  refine sl hK (by decide) rfl rfl (r_ibin hK rfl rfl rfl) fun a hK => ?_
                  refine sl hK (by decide) (wtt hb_79) rfl (r_pick hK rfl rfl rfl) fun a hK => ?_
                  refine sl hK (by decide) (wtt hb_79) rfl (r_move hK rfl) fun a hK => ?_
                  rcases or_b (y_50 == 95) with hb_83 | hb_83
                  · rw [ifb_t hb_83] at H
                    refine sl_skip hK (by decide) (wft hb_83) rfl fun a hK => ?_
                    refine sl_skip hK (by decide) (wft hb_83) rfl fun a hK => ?_
                    refine sl hK (by decide) (wtt hb_79) rfl (r_pick_t hb_83 hK rfl rfl) fun a hK => ?_
                    refine sl hK (by decide) rfl rfl (r_pick_t hb_79 hK rfl rfl) fun a hK => ?_
                    refine sl hK (by decide) rfl rfl (r_assign hK rfl) fun a hK => ?_
                    refine wpList_nil ?_
                    exact ⟨true, H, hK.sub (all_cons rfl (all_cons rfl (all_cons rfl (all_cons rfl (all_nil))))), hS⟩
                  · rw [ifb_f hb_83] at H
                    refine sl hK (by decide) (wff hb_83) rfl (r_move hK rfl) fun a hK => ?_
                    refine sl hK (by decide) (wff hb_83) rfl (r_ibin hK rfl rfl rfl) fun a hK => ?_
                    refine sl hK (by decide) (wtt hb_79) rfl (r_pick_f hb_83 hK rfl rfl) fun a hK => ?_
                    refine sl hK (by decide) rfl rfl (r_pick_t hb_79 hK rfl rfl) fun a hK => ?_
                    refine sl hK (by decide) rfl rfl (r_assign hK rfl) fun a hK => ?_
                    refine wpList_nil ?_
                    exact ⟨(y_50 == 35), H, hK.sub (all_cons rfl (all_cons rfl (all_cons rfl (all_cons rfl (all_nil))))), hS⟩
              · rw [ifb_f hb_79] at H
                refine sl_skip hK (by decide) (wtf hb_79) rfl fun a hK => ?_
                refine sl_skip hK (by decide) (wtf hb_79) rfl fun a hK => ?_
                refine sl_skip hK (by decide) (wtf hb_79) rfl fun a hK => ?_
                refine sl_skip hK (by decide) rfl rfl fun a hK => ?_
                refine sl_skip hK (by decide) rfl rfl fun a hK => ?_
                refine sl_skip hK (by decide) (wtf hb_79) rfl fun a hK => ?_
                refine sl_skip hK (by decide) (wtf hb_79) rfl fun a hK => ?_
                refine sl_skip hK (by decide) rfl rfl fun a hK => ?_
                refine sl_skip hK (by decide) rfl rfl fun a hK => ?_
                refine sl_skip hK (by decide) (wtf hb_79) rfl fun a hK => ?_
                refine sl_skip hK (by decide) (wtf hb_79) rfl fun a hK => ?_
                refine sl_skip hK (by decide) rfl rfl fun a hK => ?_
                refine sl_skip hK (by decide) rfl rfl fun a hK => ?_
                refine sl_skip hK (by decide) (wtf hb_79) rfl fun a hK => ?_
                refine sl hK (by decide) rfl rfl (r_pick_f hb_79 hK rfl rfl) fun a hK => ?_
                refine sl hK (by decide) rfl rfl (r_assign hK rfl) fun a hK => ?_
                refine wpList_nil ?_
                exact ⟨false, H, hK.sub (all_cons rfl (all_cons rfl (all_cons rfl (all_cons rfl (all_nil))))), hS⟩
            · rintro a w ⟨x_77, H, hK, hS⟩
              unfold table_Name.j3 at H
              refine wp_cond_split (hK.ev rfl) (fun (hb_84 : x_77 = true) => ?_) (fun (hb_84 : x_77 = false) => ?_)
              · rw [ifb_t hb_84] at H
                refine wp_skip ?_
                exact ⟨H, hK.sub (all_cons rfl (all_cons rfl (all_cons rfl (all_nil)))), hS⟩
              · rw [ifb_f hb_84] at H
                refine wp_seq ?_
                refine wp_region_lit ?_
                refine sl hK (by decide) rfl rfl (r_assign hK rfl) fun a hK => ?_
                refine wpList_nil ?_
                obtain rfl := Option.some.inj H
                refine wp_ret ?_
                repeat (first | refine ret_then ?_ | refine ret_block ?_ | refine ret_scope ?_)
                exact ret_1 Try.results49 hK (rv_tmp hK rfl) ⟨rfl, hS.bel⟩
        · rintro a w ⟨H, hK, hS⟩
          unfold table_Name.j2 at H
          refine wp_region_lit ?_
          refine sl hK (by decide) rfl rfl (r_ibin hK rfl rfl rfl) fun a hK => ?_
          refine sl hK (by decide) rfl rfl (r_move hK rfl) fun a hK => ?_
          refine wpList_nil ?_
          exact ⟨_, Nat.lt_succ_self _, (IntKind.i64.wrap (x_11 + 1)), H, hK.sub (all_cons rfl (all_cons rfl (all_cons rfl (all_nil)))), hS⟩
    · rw [ifb_f hb_49] at H
      refine wp_exit ?_
      refine wp_seq ?_
      refine wp_region_lit ?_
      refine sl hK (by decide) rfl rfl (r_move hK rfl) fun a hK => ?_
      refine sl hK (by decide) rfl rfl (r_len_str Try.underlying9 hK rfl) fun a hK => ?_
      refine sl hK (by decide) rfl rfl (r_ibin hK rfl rfl rfl) fun a hK => ?_
      refine sl hK (by decide) rfl rfl (r_move hK rfl) fun a hK => ?_
      rcases or_b (decide ((a0.size : Int) ≥ 1)) with hb_85 | hb_85
      · rw [ifb_t hb_85] at H
        refine sl hK (by decide) (wtt hb_85) rfl (r_move hK rfl) fun a hK => ?_
        refine sl hK (by decide) (wtt hb_85) rfl (r_len_str Try.underlying9 hK rfl) fun a hK => ?_
        refine sl hK (by decide) (wtt hb_85) rfl (r_ibin hK rfl rfl rfl) fun a hK => ?_
        refine sl hK (by decide) rfl rfl (r_pick_t hb_85 hK rfl rfl) fun a hK => ?_
        refine sl hK (by decide) rfl rfl (r_assign hK rfl) fun a hK => ?_
        refine wpList_nil ?_
        obtain rfl := Option.some.inj H
        refine wp_ret ?_
        repeat (first | refine ret_then ?_ | refine ret_block ?_ | refine ret_scope ?_)
        exact ret_1 Try.results49 hK (rv_tmp hK rfl) ⟨rfl, hS.bel⟩
      · rw [ifb_f hb_85] at H
        refine sl_skip hK (by decide) (wtf hb_85) rfl fun a hK => ?_
        refine sl_skip hK (by decide) (wtf hb_85) rfl fun a hK => ?_
        refine sl_skip hK (by decide) (wtf hb_85) rfl fun a hK => ?_
        refine sl hK (by decide) rfl rfl (r_pick_f hb_85 hK rfl rfl) fun a hK => ?_
        refine sl hK (by decide) rfl rfl (r_assign hK rfl) fun a hK => ?_
        refine wpList_nil ?_
        obtain rfl := Option.some.inj H
        refine wp_ret ?_
        repeat (first | refine ret_then ?_ | refine ret_block ?_ | refine ret_scope ?_)
        exact ret_1 Try.results49 hK (rv_tmp hK rfl) ⟨rfl, hS.bel⟩

/-! ### catchment/table.Find$1: function 54 -/
set_option maxHeartbeats 4000000 in
set_option maxRecDepth 100000 in
theorem table_Find_1_cp.calls (a0 : api_Col) (a1 : ByteArray) {w0 : World} {RA : Hp} {b1 : Nat} {o1 : Nat} (hRA : RA.sub w0) (hc1 : ∀ j u, ([.string a1] : List Value)[j]? = some u → RA.cell b1 (o1 + j) = some u) {r : Bool} (H : table_Find_1_cp a0 a1 = some r) : CallsV Try.prog 54 #[.agg #[.string a0.Name, .int .i64 a0.Kind], .pointer (some ⟨b1, o1, none⟩)] w0 (.bool r) := by
  unfold table_Find_1_cp at H
  refine enter (args := [.agg #[.string a0.Name, .int .i64 a0.Kind], .pointer (some ⟨b1, o1, none⟩)]) Try.func54 rfl Try.ntmps54 rfl fun a hK => ?_
  have hS := St.init (R := fun _ => none) (w := w0) (fun _ _ h => by cases h)
  have hRL := RLe.refl (M := []) w0 (fun _ => none)
  refine wp_seq ?_
  refine wp_region_lit ?_
  refine sl_box hS hK (by decide) rfl rfl (c := [.string a0.Name, .int .i64 a0.Kind]) rfl fun a w b_1 hS hK => ?_
  refine sl hK (by decide) rfl rfl (r_assign hK rfl) fun a hK => ?_
  refine wpList_nil ?_
  refine wp_seq ?_
  refine wp_region_lit ?_
  refine sl hK (by decide) rfl rfl (r_fieldAddr Try.underlying48 rfl Try.sizeOf9 hK rfl) fun a hK => ?_
  refine sl hK (by decide) rfl rfl (r_load Try.isAgg9 hK rfl (hS.cell (.head _) rfl)) fun a hK => ?_
  refine sl hK (by decide) rfl rfl (r_load Try.isAgg9 hK rfl ((hS.ra hRA nil_not).cell (hc1 0 _ rfl))) fun a hK => ?_
  refine sl hK (by decide) rfl rfl (r_sbin hK rfl rfl rfl) fun a hK => ?_
  refine sl hK (by decide) rfl rfl (r_assign hK rfl) fun a hK => ?_
  refine wpList_nil ?_
  obtain rfl := Option.some.inj H
  refine wp_ret ?_
  repeat (first | refine ret_then ?_ | refine ret_block ?_ | refine ret_scope ?_)
  exact ret_1 Try.results54 hK (rv_tmp hK rfl) ⟨rfl, hS.bel⟩

/-! ### slices.IndexFunc[[]catchment/api.Col,catchment/api.Col]: function 53 -/
set_option maxHeartbeats 4000000 in
set_option maxRecDepth 100000 in
theorem slices_IndexFunc_api_Col_api_Col_f_table_Find_1p.calls (a0 : List api_Col) (a1_0 : ByteArray) {w0 : World} {RA : Hp} {v0_0 : Value} {b1q0 : Nat} {o1q0 : Nat} (hRA : RA.sub w0) (h0_0 : SlR ty_api_Col RA v0_0 a0) (hc1q0 : ∀ j u, ([.string a1_0] : List Value)[j]? = some u → RA.cell b1q0 (o1q0 + j) = some u) {r : Int} (H : slices_IndexFunc_api_Col_api_Col_f_table_Find_1p a0 a1_0 = some r) : CallsV Try.prog 53 #[v0_0, .func (.func 54) #[] #[.pointer (some ⟨b1q0, o1q0, none⟩)]] w0 (.int .i64 r) := by
  unfold slices_IndexFunc_api_Col_api_Col_f_table_Find_1p at H
  refine enter (args := [v0_0, .func (.func 54) #[] #[.pointer (some ⟨b1q0, o1q0, none⟩)]]) Try.func53 rfl Try.ntmps53 rfl fun a hK => ?_
  have hS := St.init (R := fun _ => none) (w := w0) (fun _ _ h => by cases h)
  have hRL := RLe.refl (M := []) w0 (fun _ => none)
  refine wp_seq ?_
  refine wp_region_lit ?_
  refine sl hK (by decide) rfl rfl (r_assign hK rfl) fun a hK => ?_
  refine wpList_nil ?_
  refine wp_seq ?_
  refine wp_seq ?_
  refine wp_region_lit ?_
  refine sl hK (by decide) rfl rfl (r_move hK rfl) fun a hK => ?_
  refine sl hK (by decide) rfl rfl (r_len_R Try.underlying34 h0_0 hK rfl) fun a hK => ?_
  refine sl hK (by decide) rfl rfl (r_move hK rfl) fun a hK => ?_
  refine wpList_nil ?_
  refine wp_block ?_
  refine wp_loop_k (fun k_l0 a w => ∃ (x_15 : Int), slices_IndexFunc_api_Col_api_Col_f_table_Find_1p.l0 a0 a1_0 k_l0 x_15 = some r ∧ Kn 19 a [(0, v0_0), (1, .func (.func 54) #[] #[.pointer (some ⟨b1q0, o1q0, none⟩)]), (7, .int .i64 (a0.length : Int)), (8, .int .i64 x_15)] ∧ St [] w0 w (fun _ => none) []) (((a0.length : Int) - 0).toNat + 1) ?_ ?_
  · exact ⟨0, H, hK.sub (all_cons rfl (all_cons rfl (all_cons rfl (all_cons rfl (all_nil))))), hS⟩
  · rintro k_l0 a w ⟨x_15, H, hK, hS⟩
    cases k_l0 with
    | zero => cases H
    | succ k_l0 =>
    rw [slices_IndexFunc_api_Col_api_Col_f_table_Find_1p.l0.eq_2] at H
    refine wp_seq ?_
    refine wp_region_lit ?_
    refine sl hK (by decide) rfl rfl (r_ibin hK rfl rfl rfl) fun a hK => ?_
    refine wpList_nil ?_
    refine wp_seq ?_
    refine wp_cond_split (hK.ev rfl) (fun (hb_30 : (decide (x_15 < (a0.length : Int))) = true) => ?_) (fun (hb_30 : (decide (x_15 < (a0.length : Int))) = false) => ?_)
    · rw [ifb_t hb_30] at H
      refine wp_skip ?_
      refine wp_seq ?_
      refine wp_block ?_
      refine wp_seq ?_
      refine wp_region_lit ?_
      refine sl hK (by decide) rfl rfl (r_move hK rfl) fun a hK => ?_
      refine sl hK (by decide) rfl rfl (r_assign hK rfl) fun a hK => ?_
      refine wpList_nil ?_
      refine wp_seq ?_
      refine wp_region_lit ?_
      refine sl hK (by decide) rfl rfl (r_move hK rfl) fun a hK => ?_
      refine sl hK (by decide) rfl rfl (r_move hK rfl) fun a hK => ?_
      refine sl hK (by decide) rfl rfl (r_move hK rfl) fun a hK => ?_
      obtain ⟨y_31, h_32, H⟩ := bind_some H
      obtain ⟨b_33, o_34, c_35, cs_36, hv_37, hr_38, hc_39, h_320, h_321⟩ := h0_0.ix h_32
      subst hr_38
      refine sl hK (by decide) rfl rfl (r_indexAddr_R Try.underlying34 Try.sizeOf48 hv_37 h_320 h_321 hK rfl rfl) fun a hK => ?_
      refine sl hK (by decide) rfl rfl (r_loadA (cs := [.string y_31.Name, .int .i64 y_31.Kind]) Try.isAgg48 Try.sizeOf48 rfl hK rfl (fun j v hv => (hS.ra hRA nil_not).cell (hc_39 j v hv))) fun a hK => ?_
      obtain ⟨y_40, h_41, H⟩ := bind_some H
      refine sl_callV Try.call54 hS hK (by decide) rfl rfl rfl (table_Find_1_cp.calls y_31 a1_0 (lentOf_sub [] _) (fun j u hu => Hp.cell_le (hS.raLe0 hRA nil_not) (hc1q0 j u hu)) h_41) fun a w hS hK => ?_
      refine wpList_nil ?_
      refine wp_cond_split (hK.ev rfl) (fun (hb_42 : y_40 = true) => ?_) (fun (hb_42 : y_40 = false) => ?_)
      · rw [ifb_t hb_42] at H
        refine wp_seq ?_
        refine wp_region_lit ?_
        refine sl hK (by decide) rfl rfl (r_move hK rfl) fun a hK => ?_
        refine sl hK (by decide) rfl rfl (r_assign hK rfl) fun a hK => ?_
        refine wpList_nil ?_
        obtain rfl := Option.some.inj H
        refine wp_ret ?_
        repeat (first | refine ret_then ?_ | refine ret_block ?_ | refine ret_scope ?_)
        exact ret_1 Try.results53 hK (rv_tmp hK rfl) ⟨rfl, hS.bel⟩
      · rw [ifb_f hb_42] at H
        refine wp_skip ?_
        refine wp_region_lit ?_
        refine sl hK (by decide) rfl rfl (r_ibin hK rfl rfl rfl) fun a hK => ?_
        refine sl hK (by decide) rfl rfl (r_move hK rfl) fun a hK => ?_
        refine wpList_nil ?_
        exact ⟨_, Nat.lt_succ_self _, (IntKind.i64.wrap (x_15 + 1)), H, hK.sub (all_cons rfl (all_cons rfl (all_cons rfl (all_cons rfl (all_nil))))), hS⟩
    · rw [ifb_f hb_30] at H
      refine wp_exit ?_
      refine wp_seq ?_
      refine wp_region_lit ?_
      refine sl hK (by decide) rfl rfl (r_assign hK rfl) fun a hK => ?_
      refine wpList_nil ?_
      obtain rfl := Option.some.inj H
      refine wp_ret ?_
      repeat (first | refine ret_then ?_ | refine ret_block ?_ | refine ret_scope ?_)
      exact ret_1 Try.results53 hK (rv_tmp hK rfl) ⟨rfl, hS.bel⟩

/-! ### catchment/table.Find: function 50 -/
set_option maxHeartbeats 4000000 in
set_option maxRecDepth 100000 in
theorem table_Find.calls (a0 : List api_Col) (a1 : ByteArray) {w0 : World} {RA : Hp} {v0_0 : Value} (hRA : RA.sub w0) (h0_0 : SlR ty_api_Col RA v0_0 a0) {r : Int} (H : table_Find a0 a1 = some r) : CallsV Try.prog 50 #[v0_0, .string a1] w0 (.int .i64 r) := by
  unfold table_Find at H
  refine enter (args := [v0_0, .string a1]) Try.func50 rfl Try.ntmps50 rfl fun a hK => ?_
  have hS := St.init (R := fun _ => none) (w := w0) (fun _ _ h => by cases h)
  have hRL := RLe.refl (M := []) w0 (fun _ => none)
  refine wp_seq ?_
  refine wp_region_lit ?_
  refine sl_box hS hK (by decide) rfl rfl (c := [.string a1]) rfl fun a w b_1 hS hK => ?_
  refine sl hK (by decide) rfl rfl (r_assign hK rfl) fun a hK => ?_
  refine wpList_nil ?_
  refine wp_seq ?_
  refine wp_region_lit ?_
  refine sl hK (by decide) rfl rfl (r_move hK rfl) fun a hK => ?_
  refine sl hK (by decide) rfl rfl (r_func (us := []) (vs := [.pointer (some ⟨b_1, 0, none⟩)]) rfl (hK.evs rfl)) fun a hK => ?_
  obtain ⟨y_2, h_3, H⟩ := bind_some H
  refine sl_callV Try.call53 hS hK (by decide) rfl rfl rfl (slices_IndexFunc_api_Col_api_Col_f_table_Find_1p.calls a0 a1 (lentOf_sub [] _) (h0_0.mono (hS.raLe0 hRA nil_not)) (hS.lend_box0 (.head _)) h_3) fun a w hS hK => ?_
  refine sl hK (by decide) rfl rfl (r_assign hK rfl) fun a hK => ?_
  refine wpList_nil ?_
  obtain rfl := Option.some.inj H
  refine wp_ret ?_
  repeat (first | refine ret_then ?_ | refine ret_block ?_ | refine ret_scope ?_)
  exact ret_1 Try.results50 hK (rv_tmp hK rfl) ⟨rfl, hS.bel⟩

/-! ### catchment/table.columns: function 43 -/
set_option maxHeartbeats 4000000 in
set_option maxRecDepth 100000 in
theorem table_columns.calls (a0 : List api_Col) {w0 : World} {RA : Hp} {v0_0 : Value} (hRA : RA.sub w0) (h0_0 : SlR ty_api_Col RA v0_0 a0) {r : Bool} (H : table_columns a0 = some r) : CallsV Try.prog 43 #[v0_0] w0 (.bool r) := by
  unfold table_columns at H
  refine enter (args := [v0_0]) Try.func43 rfl Try.ntmps43 rfl fun a hK => ?_
  have hS := St.init (R := fun _ => none) (w := w0) (fun _ _ h => by cases h)
  have hRL := RLe.refl (M := []) w0 (fun _ => none)
  refine wp_seq ?_
  refine wp_region_lit ?_
  refine sl hK (by decide) rfl rfl (r_assign hK rfl) fun a hK => ?_
  refine wpList_nil ?_
  refine wp_seq ?_
  refine wp_seq ?_
  refine wp_region_lit ?_
  refine sl hK (by decide) rfl rfl (r_move hK rfl) fun a hK => ?_
  refine sl hK (by decide) rfl rfl (r_len_R Try.underlying34 h0_0 hK rfl) fun a hK => ?_
  refine sl hK (by decide) rfl rfl (r_move hK rfl) fun a hK => ?_
  refine wpList_nil ?_
  refine wp_block ?_
  refine wp_loop_k (fun k_l0 a w => ∃ (x_30 : Int), table_columns.l0 a0 k_l0 x_30 = some r ∧ Kn 43 a [(0, v0_0), (5, v0_0), (6, .int .i64 (a0.length : Int)), (7, .int .i64 x_30)] ∧ St [] w0 w (fun _ => none) []) (((a0.length : Int) - 0).toNat + 1) ?_ ?_
  · exact ⟨0, H, hK.sub (all_cons rfl (all_cons rfl (all_cons rfl (all_cons rfl (all_nil))))), hS⟩
  · rintro k_l0 a w ⟨x_30, H, hK, hS⟩
    cases k_l0 with
    | zero => cases H
    | succ k_l0 =>
    rw [table_columns.l0.eq_2] at H
    refine wp_seq ?_
    refine wp_region_lit ?_
    refine sl hK (by decide) rfl rfl (r_ibin hK rfl rfl rfl) fun a hK => ?_
    refine wpList_nil ?_
    refine wp_seq ?_
    refine wp_cond_split (hK.ev rfl) (fun (hb_60 : (decide (x_30 < (a0.length : Int))) = true) => ?_) (fun (hb_60 : (decide (x_30 < (a0.length : Int))) = false) => ?_)
    · rw [ifb_t hb_60] at H
      refine wp_skip ?_
      refine wp_seq ?_
      refine wp_block ?_
      refine wp_seq ?_
      refine wp_region_lit ?_
      refine sl hK (by decide) rfl rfl (r_move hK rfl) fun a hK => ?_
      obtain ⟨y_61, h_62, H⟩ := bind_some H
      obtain ⟨b_63, o_64, c_65, cs_66, hv_67, hr_68, hc_69, h_620, h_621⟩ := h0_0.ix h_62
      subst hr_68
      refine sl hK (by decide) rfl rfl (r_indexAddr_R Try.underlying34 Try.sizeOf48 hv_67 h_620 h_621 hK rfl rfl) fun a hK => ?_
      refine sl hK (by decide) rfl rfl (r_loadA (cs := [.string y_61.Name, .int .i64 y_61.Kind]) Try.isAgg48 Try.sizeOf48 rfl hK rfl (fun j v hv => (hS.ra hRA nil_not).cell (hc_69 j v hv))) fun a hK => ?_
      refine sl_alloc Try.zeroValue48 hS hK (by decide) rfl rfl fun a w b_70 hS hK => ?_
      refine sl hK (by decide) rfl rfl (r_assign hK rfl) fun a hK => ?_
      refine sl_storeA (vs := [.string y_61.Name, .int .i64 y_61.Kind]) (c' := [.string y_61.Name, .int .i64 y_61.Kind]) Try.sizeOf48 hS hK rfl rfl rfl rfl (all_cons rfl (all_cons rfl (all_nil))) (Nat.le_of_ble_eq_true rfl) rfl fun a w hS hK => ?_
      refine wpList_nil ?_
      refine wp_seq ?_
      refine wp_mid (fun a w => ∃ (x_78 : Bool), table_columns.j1 (table_columns.l0 a0 k_l0) a0 x_30 x_78 = some r ∧ Kn 43 a [(0, v0_0), (5, v0_0), (6, .int .i64 (a0.length : Int)), (7, .int .i64 x_30), (33, .bool x_78)] ∧ St [] w0 w (fun _ => none) []) ?_ ?_
      · refine wp_region_lit ?_
        refine sl hK (by decide) rfl rfl (r_fieldAddr Try.underlying48 rfl Try.sizeOf9 hK rfl) fun a hK => ?_
        refine sl hK (by decide) rfl rfl (r_load Try.isAgg9 hK rfl (hS.cell (.head _) rfl)) fun a hK => ?_
        obtain ⟨y_80, h_81, H⟩ := bind_some H
        refine sl_callV Try.call49 hS hK (by decide) rfl rfl rfl (table_Name.calls y_61.Name h_81 _) fun a w hS hK => ?_
        refine sl hK (by decide) rfl rfl (r_un hK rfl (u_not _)) fun a hK => ?_
        refine sl hK (by decide) rfl rfl (r_move hK rfl) fun a hK => ?_
        rcases or_b (!y_80) with hb_82 | hb_82
        · rw [ifb_t hb_82] at H
          refine sl_skip hK (by decide) (wft hb_82) rfl fun a hK => ?_
          refine sl_skip hK (by decide) (wft hb_82) rfl fun a hK => ?_
          refine sl_skip hK (by decide) (wft hb_82) rfl fun a hK => ?_
          refine sl hK (by decide) rfl rfl (r_pick_t hb_82 hK rfl rfl) fun a hK => ?_
          refine sl hK (by decide) rfl rfl (r_move hK rfl) fun a hK => ?_
          refine sl_skip hK (by decide) rfl rfl fun a hK => ?_
          refine sl_skip hK (by decide) rfl rfl fun a hK => ?_
          refine sl_skip hK (by decide) rfl rfl fun a hK => ?_
          refine sl hK (by decide) rfl rfl (r_pick hK rfl rfl rfl) fun a hK => ?_
          refine sl hK (by decide) rfl rfl (r_move hK rfl) fun a hK => ?_
          refine sl_skip hK (by decide) rfl rfl fun a hK => ?_
          refine sl_skip hK (by decide) rfl rfl fun a hK => ?_
          refine sl_skip hK (by decide) rfl rfl fun a hK => ?_
          refine sl_skip hK (by decide) rfl rfl fun a hK => ?_
          refine sl_skip hK (by decide) rfl rfl fun a hK => ?_
          refine sl_skip hK (by decide) rfl rfl fun a hK => ?_
          refine sl hK (by decide) rfl rfl (r_pick hK rfl rfl rfl) fun a hK => ?_
          refine wpList_nil ?_
          exact ⟨true, H, hK.sub (all_cons rfl (all_cons rfl (all_cons rfl (all_cons rfl (all_cons rfl (all_nil)))))), hS.trunc 0⟩
        · rw [ifb_f hb_82] at H
          refine sl hK (by decide) (wff hb_82) rfl (r_fieldAddr Try.underlying48 rfl Try.sizeOf3 hK rfl) fun a hK => ?_
          refine sl hK (by decide) (wff hb_82) rfl (r_load Try.isAgg3 hK rfl (hS.cell (.head _) rfl)) fun a hK => ?_
          refine sl hK (by decide) (wff hb_82) rfl (r_ibin hK rfl rfl rfl) fun a hK => ?_
          refine sl hK (by decide) rfl rfl (r_pick_f hb_82 hK rfl rfl) fun a hK => ?_
          refine sl hK (by decide) rfl rfl (r_move hK rfl) fun a hK => ?_
          rcases or_b (decide (y_61.Kind < 1)) with hb_83 | hb_83
          · rw [ifb_t hb_83] at H
            refine sl_skip hK (by decide) (wft hb_83) rfl fun a hK => ?_
            refine sl_skip hK (by decide) (wft hb_83) rfl fun a hK => ?_
            refine sl_skip hK (by decide) (wft hb_83) rfl fun a hK => ?_
            refine sl hK (by decide) rfl rfl (r_pick_t hb_83 hK rfl rfl) fun a hK => ?_
            refine sl hK (by decide) rfl rfl (r_move hK rfl) fun a hK => ?_
            refine sl_skip hK (by decide) rfl rfl fun a hK => ?_
            refine sl_skip hK (by decide) rfl rfl fun a hK => ?_
            refine sl_skip hK (by decide) rfl rfl fun a hK => ?_
            refine sl_skip hK (by decide) rfl rfl fun a hK => ?_
            refine sl_skip hK (by decide) rfl rfl fun a hK => ?_
            refine sl_skip hK (by decide) rfl rfl fun a hK => ?_
            refine sl hK (by decide) rfl rfl (r_pick hK rfl rfl rfl) fun a hK => ?_
            refine wpList_nil ?_
            exact ⟨true, H, hK.sub (all_cons rfl (all_cons rfl (all_cons rfl (all_cons rfl (all_cons rfl (all_nil)))))), hS.trunc 0⟩
          · rw [ifb_f hb_83] at H
            refine sl hK (by decide) (wff hb_83) rfl (r_fieldAddr Try.underlying48 rfl Try.sizeOf3 hK rfl) fun a hK => ?_
            refine sl hK (by decide) (wff hb_83) rfl (r_load Try.isAgg3 hK rfl (hS.cell (.head _) rfl)) fun a hK => ?_
            refine sl hK (by decide) (wff hb_83) rfl (r_ibin hK rfl rfl rfl) fun a hK => ?_
            refine sl hK (by decide) rfl rfl (r_pick_f hb_83 hK rfl rfl) fun a hK => ?_
            refine sl hK (by decide) rfl rfl (r_move hK rfl) fun a hK => ?_
            rcases or_b (decide (y_61.Kind > 4)) with hb_84 | hb_84
            · rw [ifb_t hb_84] at H
              refine sl_skip hK (by decide) (wft hb_84) rfl fun a hK => ?_
              refine sl_skip hK (by decide) (wft hb_84) rfl fun a hK => ?_
              refine sl_skip hK (by decide) (wft hb_84) rfl fun a hK => ?_
              refine sl_skip hK (by decide) (wft hb_84) rfl fun a hK => ?_
              refine sl_skip hK (by decide) (wft hb_84) rfl fun a hK => ?_
              refine sl_skip hK (by decide) (wft hb_84) rfl fun a hK => ?_
              refine sl hK (by decide) rfl rfl (r_pick_t hb_84 hK rfl rfl) fun a hK => ?_
              refine wpList_nil ?_
              exact ⟨true, H, hK.sub (all_cons rfl (all_cons rfl (all_cons rfl (all_cons rfl (all_cons rfl (all_nil)))))), hS.trunc 0⟩
            · rw [ifb_f hb_84] at H
              refine sl hK (by decide) (wff hb_84) rfl (r_move hK rfl) fun a hK => ?_
              refine sl hK (by decide) (wff hb_84) rfl (r_fieldAddr Try.underlying48 rfl Try.sizeOf9 hK rfl) fun a hK => ?_
              refine sl hK (by decide) (wff hb_84) rfl (r_load Try.isAgg9 hK rfl (hS.cell (.head _) rfl)) fun a hK => ?_
              obtain ⟨y_85, h_86, H⟩ := bind_some H
              refine sl_callV Try.call50 hS hK (by decide) (wff hb_84) rfl rfl (table_Find.calls a0 y_61.Name (lentOf_sub [] _) (h0_0.mono (hS.raLe0 hRA nil_not)) h_86) fun a w hS hK => ?_
              refine sl hK (by decide) (wff hb_84) rfl (r_move hK rfl) fun a hK => ?_
              refine sl hK (by decide) (wff hb_84) rfl (r_ibin hK rfl rfl rfl) fun a hK => ?_
              refine sl hK (by decide) rfl rfl (r_pick_f hb_84 hK rfl rfl) fun a hK => ?_
              refine wpList_nil ?_
              exact ⟨(y_85 != x_30), H, hK.sub (all_cons rfl (all_cons rfl (all_cons rfl (all_cons rfl (all_cons rfl (all_nil)))))), hS.trunc 0⟩
      · rintro a w ⟨x_78, H, hK, hS⟩
        unfold table_columns.j1 at H
        refine wp_cond_split (hK.ev rfl) (fun (hb_87 : x_78 = true) => ?_) (fun (hb_87 : x_78 = false) => ?_)
        · rw [ifb_t hb_87] at H
          refine wp_seq ?_
          refine wp_region_lit ?_
          refine sl hK (by decide) rfl rfl (r_assign hK rfl) fun a hK => ?_
          refine wpList_nil ?_
          obtain rfl := Option.some.inj H
          refine wp_ret ?_
          repeat (first | refine ret_then ?_ | refine ret_block ?_ | refine ret_scope ?_)
          exact ret_1 Try.results43 hK (rv_tmp hK rfl) ⟨rfl, hS.bel⟩
        · rw [ifb_f hb_87] at H
          refine wp_skip ?_
          refine wp_region_lit ?_
          refine sl hK (by decide) rfl rfl (r_ibin hK rfl rfl rfl) fun a hK => ?_
          refine sl hK (by decide) rfl rfl (r_move hK rfl) fun a hK => ?_
          refine wpList_nil ?_
          exact ⟨_, Nat.lt_succ_self _, (IntKind.i64.wrap (x_30 + 1)), H, hK.sub (all_cons rfl (all_cons rfl (all_cons rfl (all_cons rfl (all_nil))))), hS⟩
    · rw [ifb_f hb_60] at H
      refine wp_exit ?_
      refine wp_seq ?_
      refine wp_region_lit ?_
      refine sl hK (by decide) rfl rfl (r_move hK rfl) fun a hK => ?_
      refine sl hK (by decide) rfl rfl (r_len_R Try.underlying34 h0_0 hK rfl) fun a hK => ?_
      refine sl hK (by decide) rfl rfl (r_ibin hK rfl rfl rfl) fun a hK => ?_
      refine sl hK (by decide) rfl rfl (r_move hK rfl) fun a hK => ?_
      rcases or_b (decide ((a0.length : Int) ≥ 1)) with hb_88 | hb_88
      · rw [ifb_t hb_88] at H
        refine sl hK (by decide) (wtt hb_88) rfl (r_move hK rfl) fun a hK => ?_
        refine sl hK (by decide) (wtt hb_88) rfl (r_len_R Try.underlying34 h0_0 hK rfl) fun a hK => ?_
        refine sl hK (by decide) (wtt hb_88) rfl (r_ibin hK rfl rfl rfl) fun a hK => ?_
        refine sl hK (by decide) rfl rfl (r_pick_t hb_88 hK rfl rfl) fun a hK => ?_
        refine sl hK (by decide) rfl rfl (r_assign hK rfl) fun a hK => ?_
        refine wpList_nil ?_
        obtain rfl := Option.some.inj H
        refine wp_ret ?_
        repeat (first | refine ret_then ?_ | refine ret_block ?_ | refine ret_scope ?_)
        exact ret_1 Try.results43 hK (rv_tmp hK rfl) ⟨rfl, hS.bel⟩
      · rw [ifb_f hb_88] at H
        refine sl_skip hK (by decide) (wtf hb_88) rfl fun a hK => ?_
        refine sl_skip hK (by decide) (wtf hb_88) rfl fun a hK => ?_
        refine sl_skip hK (by decide) (wtf hb_88) rfl fun a hK => ?_
        refine sl hK (by decide) rfl rfl (r_pick_f hb_88 hK rfl rfl) fun a hK => ?_
        refine sl hK (by decide) rfl rfl (r_assign hK rfl) fun a hK => ?_
        refine wpList_nil ?_
        obtain rfl := Option.some.inj H
        refine wp_ret ?_
        repeat (first | refine ret_then ?_ | refine ret_block ?_ | refine ret_scope ?_)
        exact ret_1 Try.results43 hK (rv_tmp hK rfl) ⟨rfl, hS.bel⟩

/-! ### catchment/table.Check: function 30 -/
set_option maxHeartbeats 4000000 in
set_option maxRecDepth 100000 in
theorem table_Check.calls (a0 : api_Table) {w0 : World} {RA : Hp} {v0_0 : Value} {v0_1 : Value} (hRA : RA.sub w0) (h0_0 : SlR ty_api_Col RA v0_0 a0.Cols) (h0_1 : SlR (tySl ty_api_Value) RA v0_1 a0.Rows) {r : Int} (H : table_Check a0 = some r) : CallsV Try.prog 30 #[.agg #[v0_0, v0_1]] w0 (.int .i64 r) := by
  unfold table_Check at H
  refine enter (args := [.agg #[v0_0, v0_1]]) Try.func30 rfl Try.ntmps30 rfl fun a hK => ?_
  have hS := St.init (R := fun _ => none) (w := w0) (fun _ _ h => by cases h)
  have hRL := RLe.refl (M := []) w0 (fun _ => none)
  refine wp_seq ?_
  refine wp_region_lit ?_
  refine sl_box hS hK (by decide) rfl rfl (c := [v0_0, v0_1]) rfl fun a w b_1 hS hK => ?_
  refine sl hK (by decide) rfl rfl (r_assign hK rfl) fun a hK => ?_
  refine wpList_nil ?_
  refine wp_seq ?_
  refine wp_seq ?_
  refine wp_region_lit ?_
  refine sl hK (by decide) rfl rfl (r_fieldAddr Try.underlying37 rfl Try.sizeOf34 hK rfl) fun a hK => ?_
  refine sl hK (by decide) rfl rfl (r_load Try.isAgg34 hK rfl (hS.cell (.head _) rfl)) fun a hK => ?_
  obtain ⟨y_2, h_3, H⟩ := bind_some H
  refine sl_callV Try.call43 hS hK (by decide) rfl rfl rfl (table_columns.calls a0.Cols (lentOf_sub [] _) (h0_0.mono (hS.raLe0 hRA nil_not)) h_3) fun a w hS hK => ?_
  refine sl hK (by decide) rfl rfl (r_un hK rfl (u_not _)) fun a hK => ?_
  refine wpList_nil ?_
  refine wp_cond_split (hK.ev rfl) (fun (hb_4 : (!y_2) = true) => ?_) (fun (hb_4 : (!y_2) = false) => ?_)
  · rw [ifb_t hb_4] at H
    refine wp_seq ?_
    refine wp_region_lit ?_
    refine sl hK (by decide) rfl rfl (r_assign hK rfl) fun a hK => ?_
    refine wpList_nil ?_
    obtain rfl := Option.some.inj H
    refine wp_ret ?_
    repeat (first | refine ret_then ?_ | refine ret_block ?_ | refine ret_scope ?_)
    exact ret_1 Try.results30 hK (rv_tmp hK rfl) ⟨rfl, hS.bel⟩
  · rw [ifb_f hb_4] at H
    refine wp_skip ?_
    refine wp_seq ?_
    refine wp_seq ?_
    refine wp_region_lit ?_
    refine sl hK (by decide) rfl rfl (r_fieldAddr Try.underlying37 rfl Try.sizeOf35 hK rfl) fun a hK => ?_
    refine sl hK (by decide) rfl rfl (r_load Try.isAgg35 hK rfl (hS.cell (.head _) rfl)) fun a hK => ?_
    refine sl hK (by decide) rfl rfl (r_len_R Try.underlying35 h0_1 hK rfl) fun a hK => ?_
    refine sl hK (by decide) rfl rfl (r_move hK rfl) fun a hK => ?_
    refine wpList_nil ?_
    refine wp_block ?_
    refine wp_loop_k (fun k_l0 a w => ∃ (x_208 : Int), table_Check.l0 a0 k_l0 x_208 = some r ∧ Kn 47 a [(1, .pointer (some ⟨b_1, 0, none⟩)), (12, v0_1), (13, .int .i64 (a0.Rows.length : Int)), (14, .int .i64 x_208)] ∧ St [] w0 w (fun _ => none) [.cells b_1 [v0_0, v0_1] 37]) (((a0.Rows.length : Int) - 0).toNat + 1) ?_ ?_
    · exact ⟨0, H, hK.sub (all_cons rfl (all_cons rfl (all_cons rfl (all_cons rfl (all_nil))))), hS⟩
    · rintro k_l0 a w ⟨x_208, H, hK, hS⟩
      cases k_l0 with
      | zero => cases H
      | succ k_l0 =>
      rw [table_Check.l0.eq_2] at H
      refine wp_seq ?_
      refine wp_region_lit ?_
      refine sl hK (by decide) rfl rfl (r_ibin hK rfl rfl rfl) fun a hK => ?_
      refine wpList_nil ?_
      refine wp_seq ?_
      refine wp_cond_split (hK.ev rfl) (fun (hb_412 : (decide (x_208 < (a0.Rows.length : Int))) = true) => ?_) (fun (hb_412 : (decide (x_208 < (a0.Rows.length : Int))) = false) => ?_)
      · rw [ifb_t hb_412] at H
        refine wp_skip ?_
        refine wp_seq ?_
        refine wp_block ?_
        refine wp_seq ?_
        refine wp_region_lit ?_
        obtain ⟨y_413, h_414, H⟩ := bind_some H
        obtain ⟨b_415, o_416, c_417, cs_418, hv_419, hr_420, hc_421, h_4140, h_4141⟩ := h0_1.ix h_414
        obtain ⟨v_422, rfl, hs_423⟩ := hr_420
        refine sl hK (by decide) rfl rfl (r_indexAddr_R Try.underlying35 Try.sizeOf49 hv_419 h_4140 h_4141 hK rfl rfl) fun a hK => ?_
        refine sl hK (by decide) rfl rfl (r_load Try.isAgg49 hK rfl ((hS.ra hRA nil_not).cell (hc_421 0 _ rfl))) fun a hK => ?_
        refine sl hK (by decide) rfl rfl (r_assign hK rfl) fun a hK => ?_
        refine wpList_nil ?_
        refine wp_seq ?_
        refine wp_seq ?_
        refine wp_region_lit ?_
        refine sl hK (by decide) rfl rfl (r_move hK rfl) fun a hK => ?_
        refine sl hK (by decide) rfl rfl (r_len_R Try.underlying49 hs_423 hK rfl) fun a hK => ?_
        refine sl hK (by decide) rfl rfl (r_fieldAddr Try.underlying37 rfl Try.sizeOf34 hK rfl) fun a hK => ?_
        refine sl hK (by decide) rfl rfl (r_load Try.isAgg34 hK rfl (hS.cell (.head _) rfl)) fun a hK => ?_
        refine sl hK (by decide) rfl rfl (r_len_R Try.underlying34 h0_0 hK rfl) fun a hK => ?_
        refine sl hK (by decide) rfl rfl (r_ibin hK rfl rfl rfl) fun a hK => ?_
        refine wpList_nil ?_
        refine wp_cond_split (hK.ev rfl) (fun (hb_424 : ((y_413.length : Int) != (a0.Cols.length : Int)) = true) => ?_) (fun (hb_424 : ((y_413.length : Int) != (a0.Cols.length : Int)) = false) => ?_)
        · rw [ifb_t hb_424] at H
          refine wp_seq ?_
          refine wp_region_lit ?_
          refine sl hK (by decide) rfl rfl (r_assign hK rfl) fun a hK => ?_
          refine wpList_nil ?_
          obtain rfl := Option.some.inj H
          refine wp_ret ?_
          repeat (first | refine ret_then ?_ | refine ret_block ?_ | refine ret_scope ?_)
          exact ret_1 Try.results30 hK (rv_tmp hK rfl) ⟨rfl, hS.bel⟩
        · rw [ifb_f hb_424] at H
          refine wp_skip ?_
          refine wp_seq ?_
          refine wp_region_lit ?_
          refine sl hK (by decide) rfl rfl (r_move hK rfl) fun a hK => ?_
          refine sl hK (by decide) rfl rfl (r_len_R Try.underlying49 hs_423 hK rfl) fun a hK => ?_
          refine sl hK (by decide) rfl rfl (r_move hK rfl) fun a hK => ?_
          refine wpList_nil ?_
          refine wp_block ?_
          refine wp_loop_k (fun k_l1 a w => ∃ (x_488 : Int), table_Check.l1 (table_Check.l0 a0 k_l0) a0 x_208 y_413 k_l1 x_488 = some r ∧ Kn 47 a [(1, .pointer (some ⟨b_1, 0, none⟩)), (12, v0_1), (13, .int .i64 (a0.Rows.length : Int)), (14, .int .i64 x_208), (24, v_422), (25, .int .i64 (y_413.length : Int)), (26, .int .i64 x_488)] ∧ St [] w0 w (fun _ => none) [.cells b_1 [v0_0, v0_1] 37]) (((y_413.length : Int) - 0).toNat + 1) ?_ ?_
          · exact ⟨0, H, hK.sub (all_cons rfl (all_cons rfl (all_cons rfl (all_cons rfl (all_cons rfl (all_cons rfl (all_cons rfl (all_nil)))))))), hS⟩
          · rintro k_l1 a w ⟨x_488, H, hK, hS⟩
            cases k_l1 with
            | zero => cases H
            | succ k_l1 =>
            rw [table_Check.l1.eq_2] at H
            refine wp_seq ?_
            refine wp_region_lit ?_
            refine sl hK (by decide) rfl rfl (r_ibin hK rfl rfl rfl) fun a hK => ?_
            refine wpList_nil ?_
            refine wp_seq ?_
            refine wp_cond_split (hK.ev rfl) (fun (hb_552 : (decide (x_488 < (y_413.length : Int))) = true) => ?_) (fun (hb_552 : (decide (x_488 < (y_413.length : Int))) = false) => ?_)
            · rw [ifb_t hb_552] at H
              refine wp_skip ?_
              refine wp_seq ?_
              refine wp_block ?_
              refine wp_seq ?_
              refine wp_region_lit ?_
              refine sl hK (by decide) rfl rfl (r_move hK rfl) fun a hK => ?_
              obtain ⟨y_553, h_554, H⟩ := bind_some H
              obtain ⟨b_555, o_556, c_557, cs_558, hv_559, hr_560, hc_561, h_5540, h_5541⟩ := hs_423.ix h_554
              subst hr_560
              refine sl hK (by decide) rfl rfl (r_indexAddr_R Try.underlying49 Try.sizeOf25 hv_559 h_5540 h_5541 hK rfl rfl) fun a hK => ?_
              refine sl hK (by decide) rfl rfl (r_loadA (cs := [.int .i64 y_553.Kind, .int .i64 y_553.N, .string y_553.S, .int .i64 y_553.H.a0, .int .i64 y_553.H.a1, .int .i64 y_553.H.a2, .int .i64 y_553.H.a3, .int .i64 y_553.H.a4, .int .i64 y_553.H.a5, .int .i64 y_553.H.a6, .int .i64 y_553.H.a7]) Try.isAgg25 Try.sizeOf25 rfl hK rfl (fun j v hv => (hS.ra hRA nil_not).cell (hc_561 j v hv))) fun a hK => ?_
              refine sl_alloc Try.zeroValue25 hS hK (by decide) rfl rfl fun a w b_562 hS hK => ?_
              refine sl hK (by decide) rfl rfl (r_assign hK rfl) fun a hK => ?_
              refine sl_storeA (vs := [.int .i64 y_553.Kind, .int .i64 y_553.N, .string y_553.S, .int .i64 y_553.H.a0, .int .i64 y_553.H.a1, .int .i64 y_553.H.a2, .int .i64 y_553.H.a3, .int .i64 y_553.H.a4, .int .i64 y_553.H.a5, .int .i64 y_553.H.a6, .int .i64 y_553.H.a7]) (c' := [.int .i64 y_553.Kind, .int .i64 y_553.N, .string y_553.S, .int .i64 y_553.H.a0, .int .i64 y_553.H.a1, .int .i64 y_553.H.a2, .int .i64 y_553.H.a3, .int .i64 y_553.H.a4, .int .i64 y_553.H.a5, .int .i64 y_553.H.a6, .int .i64 y_553.H.a7]) Try.sizeOf25 hS hK rfl rfl rfl rfl (all_cons rfl (all_cons rfl (all_cons rfl (all_cons rfl (all_cons rfl (all_cons rfl (all_cons rfl (all_cons rfl (all_cons rfl (all_cons rfl (all_cons rfl (all_nil)))))))))))) (Nat.le_of_ble_eq_true rfl) rfl fun a w hS hK => ?_
              refine wpList_nil ?_
              refine wp_seq ?_
              refine wp_mid (fun a w => ∃ (x_587 : Bool), table_Check.j2 (table_Check.l1 (table_Check.l0 a0 k_l0) a0 x_208 y_413 k_l1) y_413 x_488 x_587 = some r ∧ Kn 47 a [(1, .pointer (some ⟨b_1, 0, none⟩)), (12, v0_1), (13, .int .i64 (a0.Rows.length : Int)), (14, .int .i64 x_208), (24, v_422), (25, .int .i64 (y_413.length : Int)), (26, .int .i64 x_488), (44, .bool x_587)] ∧ St [] w0 w (fun _ => none) [.cells b_1 [v0_0, v0_1] 37]) ?_ ?_
              · refine parT_region (C := fun w => St [] w0 w (fun _ => none) [.cells b_562 [.int .i64 y_553.Kind, .int .i64 y_553.N, .string y_553.S, .int .i64 y_553.H.a0, .int .i64 y_553.H.a1, .int .i64 y_553.H.a2, .int .i64 y_553.H.a3, .int .i64 y_553.H.a4, .int .i64 y_553.H.a5, .int .i64 y_553.H.a6, .int .i64 y_553.H.a7] 25, .cells b_1 [v0_0, v0_1] 37]) 8 [(0, true), (1, true), (2, true), (3, true), (4, true), (5, true), (6, true), (7, true)] mixed (by kernel_rfl) hS (fun w hS => hS) fun w hS => ?_
                refine sp (k := 0) rfl hK (by decide) rfl rfl (fun w hS => r_fieldAddr Try.underlying25 rfl Try.sizeOf3 hK rfl) fun a hK => ?_
                refine sp (k := 1) rfl hK (by decide) rfl rfl (fun w hS => r_load Try.isAgg3 hK rfl (hS.cell (.head _) rfl)) fun a hK => ?_
                refine sp (k := 2) rfl hK (by decide) rfl rfl (fun w hS => r_fieldAddr Try.underlying37 rfl Try.sizeOf34 hK rfl) fun a hK => ?_
                refine sp (k := 3) rfl hK (by decide) rfl rfl (fun w hS => r_load Try.isAgg34 hK rfl (hS.cell (.tail _ (.head _)) rfl)) fun a hK => ?_
                refine sp (k := 4) rfl hK (by decide) rfl rfl (fun w hS => r_move hK rfl) fun a hK => ?_
                obtain ⟨y_601, h_602, H⟩ := bind_some H
                obtain ⟨b_603, o_604, c_605, cs_606, hv_607, hr_608, hc_609, h_6020, h_6021⟩ := h0_0.ix h_602
                subst hr_608
                refine sp (k := 5) rfl hK (by decide) rfl rfl (fun w hS => r_indexAddr_R Try.underlying34 Try.sizeOf48 hv_607 h_6020 h_6021 hK rfl rfl) fun a hK => ?_
                refine sp (k := 6) rfl hK (by decide) rfl rfl (fun w hS => r_fieldAddr Try.underlying48 rfl Try.sizeOf3 hK rfl) fun a hK => ?_
                refine sp (k := 7) rfl hK (by decide) rfl rfl (fun w hS => r_load Try.isAgg3 hK rfl ((hS.ra hRA nil_not).cell (hc_609 1 _ rfl))) fun a hK => ?_
                refine thenL_nil ?_
                refine sl hK (by decide) rfl rfl (r_ibin hK rfl rfl rfl) fun a hK => ?_
                refine sl hK (by decide) rfl rfl (r_move hK rfl) fun a hK => ?_
                rcases or_b (y_553.Kind != y_601.Kind) with hb_610 | hb_610
                · rw [ifb_t hb_610] at H
                  refine sl_skip hK (by decide) (wft hb_610) rfl fun a hK => ?_
                  refine sl_skip hK (by decide) (wft hb_610) rfl fun a hK => ?_
                  refine sl_skip hK (by decide) (wft hb_610) rfl fun a hK => ?_
                  refine sl hK (by decide) rfl rfl (r_pick_t hb_610 hK rfl rfl) fun a hK => ?_
                  refine wpList_nil (NoP_nil ?_)
                  have hS := hS.pk1
                  exact ⟨true, H, hK.sub (all_cons rfl (all_cons rfl (all_cons rfl (all_cons rfl (all_cons rfl (all_cons rfl (all_cons rfl (all_cons rfl (all_nil))))))))), hS.trunc 1⟩
                · rw [ifb_f hb_610] at H
                  refine sl hK (by decide) (wff hb_610) rfl (r_loadA (cs := [.int .i64 y_553.Kind, .int .i64 y_553.N, .string y_553.S, .int .i64 y_553.H.a0, .int .i64 y_553.H.a1, .int .i64 y_553.H.a2, .int .i64 y_553.H.a3, .int .i64 y_553.H.a4, .int .i64 y_553.H.a5, .int .i64 y_553.H.a6, .int .i64 y_553.H.a7]) Try.isAgg25 Try.sizeOf25 rfl hK rfl (hS.cells_of (m := 11) (.head _) rfl)) fun a hK => ?_
                  obtain ⟨y_611, h_612, H⟩ := bind_some H
                  refine sl_callV Try.call22 hS hK (by decide) (wff hb_610) rfl rfl (value_Valid.calls y_553 h_612 _) fun a w hS hK => ?_
                  refine sl hK (by decide) (wff hb_610) rfl (r_un hK rfl (u_not _)) fun a hK => ?_
                  refine sl hK (by decide) rfl rfl (r_pick_f hb_610 hK rfl rfl) fun a hK => ?_
                  refine wpList_nil (NoP_nil ?_)
                  have hS := hS.pk1
                  exact ⟨(!y_611), H, hK.sub (all_cons rfl (all_cons rfl (all_cons rfl (all_cons rfl (all_cons rfl (all_cons rfl (all_cons rfl (all_cons rfl (all_nil))))))))), hS.trunc 1⟩
              · rintro a w ⟨x_587, H, hK, hS⟩
                unfold table_Check.j2 at H
                refine wp_cond_split (hK.ev rfl) (fun (hb_613 : x_587 = true) => ?_) (fun (hb_613 : x_587 = false) => ?_)
                · rw [ifb_t hb_613] at H
                  refine wp_seq ?_
                  refine wp_region_lit ?_
                  refine sl hK (by decide) rfl rfl (r_assign hK rfl) fun a hK => ?_
                  refine wpList_nil ?_
                  obtain rfl := Option.some.inj H
                  refine wp_ret ?_
                  repeat (first | refine ret_then ?_ | refine ret_block ?_ | refine ret_scope ?_)
                  exact ret_1 Try.results30 hK (rv_tmp hK rfl) ⟨rfl, hS.bel⟩
                · rw [ifb_f hb_613] at H
                  refine wp_skip ?_
                  refine wp_region_lit ?_
                  refine sl hK (by decide) rfl rfl (r_ibin hK rfl rfl rfl) fun a hK => ?_
                  refine sl hK (by decide) rfl rfl (r_move hK rfl) fun a hK => ?_
                  refine wpList_nil ?_
                  exact ⟨_, Nat.lt_succ_self _, (IntKind.i64.wrap (x_488 + 1)), H, hK.sub (all_cons rfl (all_cons rfl (all_cons rfl (all_cons rfl (all_cons rfl (all_cons rfl (all_cons rfl (all_nil)))))))), hS⟩
            · rw [ifb_f hb_552] at H
              refine wp_exit ?_
              refine wp_region_lit ?_
              refine sl hK (by decide) rfl rfl (r_ibin hK rfl rfl rfl) fun a hK => ?_
              refine sl hK (by decide) rfl rfl (r_move hK rfl) fun a hK => ?_
              refine wpList_nil ?_
              exact ⟨_, Nat.lt_succ_self _, (IntKind.i64.wrap (x_208 + 1)), H, hK.sub (all_cons rfl (all_cons rfl (all_cons rfl (all_cons rfl (all_nil))))), hS⟩
      · rw [ifb_f hb_412] at H
        refine wp_exit ?_
        refine wp_seq ?_
        refine wp_region_lit ?_
        refine sl hK (by decide) rfl rfl (r_assign hK rfl) fun a hK => ?_
        refine wpList_nil ?_
        obtain rfl := Option.some.inj H
        refine wp_ret ?_
        repeat (first | refine ret_then ?_ | refine ret_block ?_ | refine ret_scope ?_)
        exact ret_1 Try.results30 hK (rv_tmp hK rfl) ⟨rfl, hS.bel⟩

/-! ### catchment/crc.turned: function 51 -/
set_option maxHeartbeats 4000000 in
set_option maxRecDepth 100000 in
theorem crc_turned.calls (a0 : Int) {r : Int} (H : crc_turned a0 = some r) (w0 : World) : CallsV Try.prog 51 #[.int .u32 a0] w0 (.int .u32 r) := by
  unfold crc_turned at H
  refine enter (args := [.int .u32 a0]) Try.func51 rfl Try.ntmps51 rfl fun a hK => ?_
  have hS := St.init (R := fun _ => none) (w := w0) (fun _ _ h => by cases h)
  have hRL := RLe.refl (M := []) w0 (fun _ => none)
  refine wp_seq ?_
  refine wp_region_lit ?_
  refine sl hK (by decide) rfl rfl (r_assign hK rfl) fun a hK => ?_
  refine wpList_nil ?_
  refine wp_seq ?_
  refine wp_seq ?_
  refine wp_region_lit ?_
  refine sl hK (by decide) rfl rfl (r_move hK rfl) fun a hK => ?_
  refine wpList_nil ?_
  refine wp_block ?_
  refine wp_loop_k (fun k_l0 a w => ∃ (x_2 : Int) (x_3 : Int), crc_turned.l0 k_l0 x_2 x_3 = some r ∧ Kn 14 a [(0, .int .u32 x_2), (3, .int .i64 x_3)] ∧ St [] w0 w (fun _ => none) []) (((8 : Int) - 0).toNat + 1) ?_ ?_
  · exact ⟨a0, 0, H, hK.sub (all_cons rfl (all_cons rfl (all_nil))), hS⟩
  · rintro k_l0 a w ⟨x_2, x_3, H, hK, hS⟩
    cases k_l0 with
    | zero => cases H
    | succ k_l0 =>
    rw [crc_turned.l0.eq_2] at H
    refine wp_seq ?_
    refine wp_region_lit ?_
    refine sl hK (by decide) rfl rfl (r_ibin hK rfl rfl rfl) fun a hK => ?_
    refine wpList_nil ?_
    refine wp_seq ?_
    refine wp_cond_split (hK.ev rfl) (fun (hb_6 : (decide (x_3 < 8)) = true) => ?_) (fun (hb_6 : (decide (x_3 < 8)) = false) => ?_)
    · rw [ifb_t hb_6] at H
      refine wp_skip ?_
      refine wp_seq ?_
      refine wp_block ?_
      refine wp_region_lit ?_
      refine sl hK (by decide) rfl rfl (r_move hK rfl) fun a hK => ?_
      refine sl hK (by decide) rfl rfl (r_shr hK rfl rfl (by decide)) fun a hK => ?_
      refine sl hK (by decide) rfl rfl (r_move hK rfl) fun a hK => ?_
      refine sl hK (by decide) rfl rfl (r_ibin hK rfl rfl rfl) fun a hK => ?_
      refine sl hK (by decide) rfl rfl (r_un hK rfl (u_neg _ _)) fun a hK => ?_
      refine sl hK (by decide) rfl rfl (r_ibin hK rfl rfl rfl) fun a hK => ?_
      refine sl hK (by decide) rfl rfl (r_ibin hK rfl rfl rfl) fun a hK => ?_
      refine sl hK (by decide) rfl rfl (r_assign hK rfl) fun a hK => ?_
      refine wpList_nil ?_
      refine wp_region_lit ?_
      refine sl hK (by decide) rfl rfl (r_ibin hK rfl rfl rfl) fun a hK => ?_
      refine sl hK (by decide) rfl rfl (r_move hK rfl) fun a hK => ?_
      refine wpList_nil ?_
      exact ⟨_, Nat.lt_succ_self _, (IntKind.u32.wrap (BitVec.ofInt 32 (x_2.fdiv (2 ^ (min (1 : Int).toNat 32))) ^^^ BitVec.ofInt 32 (IntKind.u32.wrap (BitVec.ofInt 32 2197175160 &&& BitVec.ofInt 32 (IntKind.u32.wrap (0 - (IntKind.u32.wrap (BitVec.ofInt 32 x_2 &&& BitVec.ofInt 32 1).toNat)))).toNat)).toNat), (IntKind.i64.wrap (x_3 + 1)), H, hK.sub (all_cons rfl (all_cons rfl (all_nil))), hS⟩
    · rw [ifb_f hb_6] at H
      refine wp_exit ?_
      refine wp_seq ?_
      refine wp_region_lit ?_
      refine sl hK (by decide) rfl rfl (r_move hK rfl) fun a hK => ?_
      refine sl hK (by decide) rfl rfl (r_assign hK rfl) fun a hK => ?_
      refine wpList_nil ?_
      obtain rfl := Option.some.inj H
      refine wp_ret ?_
      repeat (first | refine ret_then ?_ | refine ret_block ?_ | refine ret_scope ?_)
      exact ret_1 Try.results51 hK (rv_tmp hK rfl) ⟨rfl, hS.bel⟩

/-! ### catchment/crc.More: function 44 -/
set_option maxHeartbeats 4000000 in
set_option maxRecDepth 100000 in
theorem crc_More.calls (a0 : Int) (a1 : List Int) {w0 : World} {RA : Hp} {v1_0 : Value} (hRA : RA.sub w0) (h1_0 : SlR (tyInt .u8) RA v1_0 a1) {r : Int} (H : crc_More a0 a1 = some r) : CallsV Try.prog 44 #[.int .u32 a0, v1_0] w0 (.int .u32 r) := by
  unfold crc_More at H
  refine enter (args := [.int .u32 a0, v1_0]) Try.func44 rfl Try.ntmps44 rfl fun a hK => ?_
  have hS := St.init (R := fun _ => none) (w := w0) (fun _ _ h => by cases h)
  have hRL := RLe.refl (M := []) w0 (fun _ => none)
  refine wp_seq ?_
  refine wp_region_lit ?_
  refine sl hK (by decide) rfl rfl (r_assign hK rfl) fun a hK => ?_
  refine wpList_nil ?_
  refine wp_seq ?_
  refine wp_region_lit ?_
  refine sl hK (by decide) rfl rfl (r_move hK rfl) fun a hK => ?_
  refine sl hK (by decide) rfl rfl (r_un hK rfl (u_xor _)) fun a hK => ?_
  refine sl hK (by decide) rfl rfl (r_assign hK rfl) fun a hK => ?_
  refine wpList_nil ?_
  refine wp_seq ?_
  refine wp_seq ?_
  refine wp_region_lit ?_
  refine sl hK (by decide) rfl rfl (r_move hK rfl) fun a hK => ?_
  refine sl hK (by decide) rfl rfl (r_len_R Try.underlying22 h1_0 hK rfl) fun a hK => ?_
  refine sl hK (by decide) rfl rfl (r_move hK rfl) fun a hK => ?_
  refine wpList_nil ?_
  refine wp_block ?_
  refine wp_loop_k (fun k_l0 a w => ∃ (x_14 : Int) (x_15 : Int), crc_More.l0 a1 k_l0 x_14 x_15 = some r ∧ Kn 24 a [(5, .int .u32 x_14), (10, v1_0), (11, .int .i64 (a1.length : Int)), (12, .int .i64 x_15)] ∧ St [] w0 w (fun _ => none) []) (((a1.length : Int) - 0).toNat + 1) ?_ ?_
  · exact ⟨(IntKind.u32.wrap (BitVec.ofInt 32 4294967295 ^^^ BitVec.ofInt 32 a0).toNat), 0, H, hK.sub (all_cons rfl (all_cons rfl (all_cons rfl (all_cons rfl (all_nil))))), hS⟩
  · rintro k_l0 a w ⟨x_14, x_15, H, hK, hS⟩
    cases k_l0 with
    | zero => cases H
    | succ k_l0 =>
    rw [crc_More.l0.eq_2] at H
    refine wp_seq ?_
    refine wp_region_lit ?_
    refine sl hK (by decide) rfl rfl (r_ibin hK rfl rfl rfl) fun a hK => ?_
    refine wpList_nil ?_
    refine wp_seq ?_
    refine wp_cond_split (hK.ev rfl) (fun (hb_29 : (decide (x_15 < (a1.length : Int))) = true) => ?_) (fun (hb_29 : (decide (x_15 < (a1.length : Int))) = false) => ?_)
    · rw [ifb_t hb_29] at H
      refine wp_skip ?_
      refine wp_seq ?_
      refine wp_block ?_
      refine wp_seq ?_
      refine wp_region_lit ?_
      obtain ⟨y_30, h_31, H⟩ := bind_some H
      obtain ⟨b_32, o_33, c_34, cs_35, hv_36, hr_37, hc_38, h_310, h_311⟩ := h1_0.ix h_31
      subst hr_37
      refine sl hK (by decide) rfl rfl (r_indexAddr_R Try.underlying22 Try.sizeOf5 hv_36 h_310 h_311 hK rfl rfl) fun a hK => ?_
      refine sl hK (by decide) rfl rfl (r_load Try.isAgg5 hK rfl ((hS.ra hRA nil_not).cell (hc_38 0 _ rfl))) fun a hK => ?_
      refine sl hK (by decide) rfl rfl (r_assign hK rfl) fun a hK => ?_
      refine wpList_nil ?_
      refine wp_region_lit ?_
      refine sl hK (by decide) rfl rfl (r_move hK rfl) fun a hK => ?_
      refine sl hK (by decide) rfl rfl (r_move hK rfl) fun a hK => ?_
      refine sl hK (by decide) rfl rfl (r_conv Try.underlying5 Try.underlying62 hK rfl) fun a hK => ?_
      refine sl hK (by decide) rfl rfl (r_ibin hK rfl rfl rfl) fun a hK => ?_
      obtain ⟨y_39, h_40, H⟩ := bind_some H
      refine sl_callV Try.call51 hS hK (by decide) rfl rfl rfl (crc_turned.calls (IntKind.u32.wrap (BitVec.ofInt 32 x_14 ^^^ BitVec.ofInt 32 (IntKind.u32.wrap y_30)).toNat) h_40 _) fun a w hS hK => ?_
      refine sl hK (by decide) rfl rfl (r_assign hK rfl) fun a hK => ?_
      refine wpList_nil ?_
      refine wp_region_lit ?_
      refine sl hK (by decide) rfl rfl (r_ibin hK rfl rfl rfl) fun a hK => ?_
      refine sl hK (by decide) rfl rfl (r_move hK rfl) fun a hK => ?_
      refine wpList_nil ?_
      exact ⟨_, Nat.lt_succ_self _, y_39, (IntKind.i64.wrap (x_15 + 1)), H, hK.sub (all_cons rfl (all_cons rfl (all_cons rfl (all_cons rfl (all_nil))))), hS⟩
    · rw [ifb_f hb_29] at H
      refine wp_exit ?_
      refine wp_seq ?_
      refine wp_region_lit ?_
      refine sl hK (by decide) rfl rfl (r_move hK rfl) fun a hK => ?_
      refine sl hK (by decide) rfl rfl (r_un hK rfl (u_xor _)) fun a hK => ?_
      refine sl hK (by decide) rfl rfl (r_assign hK rfl) fun a hK => ?_
      refine wpList_nil ?_
      obtain rfl := Option.some.inj H
      refine wp_ret ?_
      repeat (first | refine ret_then ?_ | refine ret_block ?_ | refine ret_scope ?_)
      exact ret_1 Try.results44 hK (rv_tmp hK rfl) ⟨rfl, hS.bel⟩

/-! ### catchment/crc.Sum: function 32 -/
set_option maxHeartbeats 4000000 in
set_option maxRecDepth 100000 in
theorem crc_Sum.calls (a0 : List Int) {w0 : World} {RA : Hp} {v0_0 : Value} (hRA : RA.sub w0) (h0_0 : SlR (tyInt .u8) RA v0_0 a0) {r : Int} (H : crc_Sum a0 = some r) : CallsV Try.prog 32 #[v0_0] w0 (.int .u32 r) := by
  unfold crc_Sum at H
  refine enter (args := [v0_0]) Try.func32 rfl Try.ntmps32 rfl fun a hK => ?_
  have hS := St.init (R := fun _ => none) (w := w0) (fun _ _ h => by cases h)
  have hRL := RLe.refl (M := []) w0 (fun _ => none)
  refine wp_seq ?_
  refine wp_region_lit ?_
  refine sl hK (by decide) rfl rfl (r_assign hK rfl) fun a hK => ?_
  refine wpList_nil ?_
  refine wp_seq ?_
  refine wp_region_lit ?_
  refine sl hK (by decide) rfl rfl (r_move hK rfl) fun a hK => ?_
  obtain ⟨y_1, h_2, H⟩ := bind_some H
  refine sl_callV Try.call44 hS hK (by decide) rfl rfl rfl (crc_More.calls 0 a0 (lentOf_sub [] _) (h0_0.mono (hS.raLe0 hRA nil_not)) h_2) fun a w hS hK => ?_
  refine sl hK (by decide) rfl rfl (r_assign hK rfl) fun a hK => ?_
  refine wpList_nil ?_
  obtain rfl := Option.some.inj H
  refine wp_ret ?_
  repeat (first | refine ret_then ?_ | refine ret_block ?_ | refine ret_scope ?_)
  exact ret_1 Try.results32 hK (rv_tmp hK rfl) ⟨rfl, hS.bel⟩

/-! ### catchment/wire.Encode: function 17 -/
set_option maxHeartbeats 4000000 in
set_option maxRecDepth 100000 in
theorem wire_Encode.calls (a0 : api_Table) {w0 : World} {R : Hp} {RA : Hp} {v0_0 : Value} {v0_1 : Value} (hRA : RA.sub w0) (hR : R.sub w0) (h0_0 : SlR ty_api_Col RA v0_0 a0.Cols) (h0_1 : SlR (tySl ty_api_Value) RA v0_1 a0.Rows) {r : (List Int) × Int} (H : wire_Encode a0 = some r) : Calls Try.prog 17 #[.agg #[v0_0, v0_1]] w0 (Rets fun v w' => ∃ (R' : Hp) (u0 : Value) (cu0 : List Value), v = .tuple #[u0, .int .i64 r.2] ∧ St [] w0 w' R' [.row 5 1 u0 r.1.length cu0] ∧ RLe [] w0 R R' ∧ Reps (tyInt .u8) R' cu0 r.1) := by
  unfold wire_Encode at H
  refine enter (args := [.agg #[v0_0, v0_1]]) Try.func17 rfl Try.ntmps17 rfl fun a hK => ?_
  have hS := St.init hR
  have hRL := RLe.refl (M := []) w0 R
  refine wp_seq ?_
  refine wp_region_lit ?_
  refine sl_box hS hK (by decide) rfl rfl (c := [v0_0, v0_1]) rfl fun a w b_1 hS hK => ?_
  refine sl hK (by decide) rfl rfl (r_assign hK rfl) fun a hK => ?_
  refine sl hK (by decide) rfl rfl (r_assign hK rfl) fun a hK => ?_
  refine wpList_nil ?_
  refine wp_seq ?_
  refine wp_seq ?_
  refine wp_region_lit ?_
  refine sl hK (by decide) rfl rfl (r_loadA (cs := [v0_0, v0_1]) Try.isAgg37 Try.sizeOf37 rfl hK rfl (hS.cells_of (m := 2) (.head _) rfl)) fun a hK => ?_
  obtain ⟨y_2, h_3, H⟩ := bind_some H
  refine sl_callV Try.call30 hS hK (by decide) rfl rfl rfl (table_Check.calls a0 (lentOf_sub [] _) (h0_0.mono (hS.raLe0 hRA nil_not)) (h0_1.mono (hS.raLe0 hRA nil_not)) h_3) fun a w hS hK => ?_
  refine sl hK (by decide) rfl rfl (r_assign hK rfl) fun a hK => ?_
  refine wpList_nil ?_
  refine wp_seq ?_
  refine wp_region_lit ?_
  refine sl hK (by decide) rfl rfl (r_move hK rfl) fun a hK => ?_
  refine sl hK (by decide) rfl rfl (r_ibin hK rfl rfl rfl) fun a hK => ?_
  refine wpList_nil ?_
  refine wp_cond_split (hK.ev rfl) (fun (hb_4 : (y_2 != 0) = true) => ?_) (fun (hb_4 : (y_2 != 0) = false) => ?_)
  · rw [ifb_t hb_4] at H
    refine wp_seq ?_
    refine wp_region_lit ?_
    refine sl hK (by decide) rfl rfl (r_move hK rfl) fun a hK => ?_
    refine sl hK (by decide) rfl rfl (r_assign hK rfl) fun a hK => ?_
    refine sl hK (by decide) rfl rfl (r_assign hK rfl) fun a hK => ?_
    refine wpList_nil ?_
    have hS := hS.row_nil 5 1
    have hq_6 : Reps (tyInt .u8) R [] ([] : List Int) := Reps.nil _ _
    obtain rfl := Option.some.inj H
    refine wp_ret ?_
    repeat (first | refine ret_then ?_ | refine ret_block ?_ | refine ret_scope ?_)
    exact ret_2 Try.results17 hK (rv_tmp hK rfl) (rv_tmp hK rfl) ⟨_, rfl, _, _, _, rfl, (hS.trunc 1), hRL, hq_6⟩
  · rw [ifb_f hb_4] at H
    refine wp_skip ?_
    refine wp_seq ?_
    refine wp_seq ?_
    refine wp_region_lit ?_
    refine sl hK (by decide) rfl rfl (r_fieldAddr Try.underlying37 rfl Try.sizeOf35 hK rfl) fun a hK => ?_
    refine sl hK (by decide) rfl rfl (r_load Try.isAgg35 hK rfl (hS.cell (.head _) rfl)) fun a hK => ?_
    refine sl hK (by decide) rfl rfl (r_len_R Try.underlying35 h0_1 hK rfl) fun a hK => ?_
    refine sl hK (by decide) rfl rfl (r_ibin hK rfl rfl rfl) fun a hK => ?_
    refine wpList_nil ?_
    refine wp_cond_split (hK.ev rfl) (fun (hb_7 : (decide ((a0.Rows.length : Int) > 4096)) = true) => ?_) (fun (hb_7 : (decide ((a0.Rows.length : Int) > 4096)) = false) => ?_)
    · rw [ifb_t hb_7] at H
      refine wp_seq ?_
      refine wp_region_lit ?_
      refine sl hK (by decide) rfl rfl (r_assign hK rfl) fun a hK => ?_
      refine sl hK (by decide) rfl rfl (r_assign hK rfl) fun a hK => ?_
      refine wpList_nil ?_
      have hS := hS.row_nil 5 1
      have hq_9 : Reps (tyInt .u8) R [] ([] : List Int) := Reps.nil _ _
      obtain rfl := Option.some.inj H
      refine wp_ret ?_
      repeat (first | refine ret_then ?_ | refine ret_block ?_ | refine ret_scope ?_)
      exact ret_2 Try.results17 hK (rv_tmp hK rfl) (rv_tmp hK rfl) ⟨_, rfl, _, _, _, rfl, (hS.trunc 1), hRL, hq_9⟩
    · rw [ifb_f hb_7] at H
      refine wp_skip ?_
      refine wp_seq ?_
      refine wp_region_lit ?_
      refine sl hK (by decide) rfl rfl (r_fieldAddr Try.underlying37 rfl Try.sizeOf34 hK rfl) fun a hK => ?_
      refine sl hK (by decide) rfl rfl (r_load Try.isAgg34 hK rfl (hS.cell (.head _) rfl)) fun a hK => ?_
      refine sl hK (by decide) rfl rfl (r_len_R Try.underlying34 h0_0 hK rfl) fun a hK => ?_
      refine sl hK (by decide) rfl rfl (r_conv Try.underlying3 Try.underlying5 hK rfl) fun a hK => ?_
      refine sl_buildSliceF (zc := [.int .u8 0]) (ps := [(0, .int .u8 (IntKind.u8.wrap (a0.Cols.length : Int)))]) (c := [.int .u8 (IntKind.u8.wrap (a0.Cols.length : Int))]) [[.int .u8 (IntKind.u8.wrap (a0.Cols.length : Int))]] Try.underlying22 Try.sizeOf5 Try.zeroValue5 rfl (pc_cons rfl pc_nil) rfl rfl (Nat.le_of_ble_eq_true rfl) rfl (all_cons rfl (all_nil)) rfl hS hK (by decide) rfl fun a w b_10 hS hK => ?_
      refine sl hK (by decide) rfl rfl (r_assign hK rfl) fun a hK => ?_
      refine wpList_nil ?_
      refine wp_seq ?_
      refine wp_seq ?_
      refine wp_region_lit ?_
      refine sl hK (by decide) rfl rfl (r_fieldAddr Try.underlying37 rfl Try.sizeOf34 hK rfl) fun a hK => ?_
      refine sl hK (by decide) rfl rfl (r_load Try.isAgg34 hK rfl (hS.cell (.tail _ (.head _)) rfl)) fun a hK => ?_
      refine sl hK (by decide) rfl rfl (r_len_R Try.underlying34 h0_0 hK rfl) fun a hK => ?_
      refine sl hK (by decide) rfl rfl (r_move hK rfl) fun a hK => ?_
      refine wpList_nil ?_
      refine wp_block ?_
      refine wp_loop_k (fun k_l0 a w => ∃ (x_62 : List Int) (x_66 : Int) (v_63 : Value) (cs_64 : List Value), wire_Encode.l0 a0 k_l0 x_62 x_66 = some r ∧ Reps (tyInt .u8) R cs_64 x_62 ∧ Kn 84 a [(1, .pointer (some ⟨b_1, 0, none⟩)), (5, v_63), (28, v0_0), (29, .int .i64 (a0.Cols.length : Int)), (30, .int .i64 x_66)] ∧ St [] w0 w R [.cells b_1 [v0_0, v0_1] 37, .row 5 1 v_63 x_62.length cs_64]) (((a0.Cols.length : Int) - 0).toNat + 1) ?_ ?_
      · have hS := hS.row_lit (size := 1) (m := 1) rfl (by decide)
        have hq_113 : Reps (tyInt .u8) R [.int .u8 (IntKind.u8.wrap (a0.Cols.length : Int))] [IntKind.u8.wrap (a0.Cols.length : Int)] := (Reps.cons (show Ty.rep (tyInt .u8) _ [.int .u8 (IntKind.u8.wrap (a0.Cols.length : Int))] (IntKind.u8.wrap (a0.Cols.length : Int)) from rfl) (Reps.nil _ _))
        have hS := hS.pk1
        exact ⟨[IntKind.u8.wrap (a0.Cols.length : Int)], 0, _, _, H, hq_113, hK.sub (all_cons rfl (all_cons rfl (all_cons rfl (all_cons rfl (all_cons rfl (all_nil)))))), hS⟩
      · rintro k_l0 a w ⟨x_62, x_66, v_63, cs_64, H, hq_65, hK, hS⟩
        cases k_l0 with
        | zero => cases H
        | succ k_l0 =>
        rw [wire_Encode.l0.eq_2] at H
        refine wp_seq ?_
        refine wp_region_lit ?_
        refine sl hK (by decide) rfl rfl (r_ibin hK rfl rfl rfl) fun a hK => ?_
        refine wpList_nil ?_
        refine wp_seq ?_
        refine wp_cond_split (hK.ev rfl) (fun (hb_114 : (decide (x_66 < (a0.Cols.length : Int))) = true) => ?_) (fun (hb_114 : (decide (x_66 < (a0.Cols.length : Int))) = false) => ?_)
        · rw [ifb_t hb_114] at H
          refine wp_skip ?_
          refine wp_seq ?_
          refine wp_block ?_
          refine wp_seq ?_
          refine wp_region_lit ?_
          obtain ⟨y_115, h_116, H⟩ := bind_some H
          obtain ⟨b_117, o_118, c_119, cs_120, hv_121, hr_122, hc_123, h_1160, h_1161⟩ := h0_0.ix h_116
          subst hr_122
          refine sl hK (by decide) rfl rfl (r_indexAddr_R Try.underlying34 Try.sizeOf48 hv_121 h_1160 h_1161 hK rfl rfl) fun a hK => ?_
          refine sl hK (by decide) rfl rfl (r_loadA (cs := [.string y_115.Name, .int .i64 y_115.Kind]) Try.isAgg48 Try.sizeOf48 rfl hK rfl (fun j v hv => (hS.ra hRA nil_not).cell (hc_123 j v hv))) fun a hK => ?_
          refine sl_alloc Try.zeroValue48 hS hK (by decide) rfl rfl fun a w b_124 hS hK => ?_
          refine sl_storeA (vs := [.string y_115.Name, .int .i64 y_115.Kind]) (c' := [.string y_115.Name, .int .i64 y_115.Kind]) Try.sizeOf48 hS hK rfl rfl rfl rfl (all_cons rfl (all_cons rfl (all_nil))) (Nat.le_of_ble_eq_true rfl) rfl fun a w hS hK => ?_
          refine wpList_nil ?_
          refine wp_seq ?_
          refine parT_region (C := fun w => St [] w0 w R [.cells b_124 [.string y_115.Name, .int .i64 y_115.Kind] 48, .cells b_1 [v0_0, v0_1] 37]) 9 [(0, true), (1, true), (2, true), (3, true), (4, true), (7, true), (8, true), (5, false), (6, false)] mixed (by kernel_rfl) hS (fun w hS => (hS.trunc 2)) fun w hS => ?_
          refine sp (k := 0) rfl hK (by decide) rfl rfl (fun w hS => r_move hK rfl) fun a hK => ?_
          refine sp (k := 1) rfl hK (by decide) rfl rfl (fun w hS => r_fieldAddr Try.underlying48 rfl Try.sizeOf9 hK rfl) fun a hK => ?_
          refine sp (k := 2) rfl hK (by decide) rfl rfl (fun w hS => r_load Try.isAgg9 hK rfl (hS.cell (.head _) rfl)) fun a hK => ?_
          refine sp (k := 3) rfl hK (by decide) rfl rfl (fun w hS => r_len_str Try.underlying9 hK rfl) fun a hK => ?_
          refine sp (k := 4) rfl hK (by decide) rfl rfl (fun w hS => r_conv Try.underlying3 Try.underlying5 hK rfl) fun a hK => ?_
          refine sp (k := 7) rfl hK (by decide) rfl rfl (fun w hS => r_fieldAddr Try.underlying48 rfl Try.sizeOf9 hK rfl) fun a hK => ?_
          refine sp (k := 8) rfl hK (by decide) rfl rfl (fun w hS => r_load Try.isAgg9 hK rfl (hS.cell (.head _) rfl)) fun a hK => ?_
          refine spw (k := 5) rfl rfl (hS.trunc 2) ?_
          refine sl_buildSliceF (zc := [.int .u8 0]) (ps := [(0, .int .u8 (IntKind.u8.wrap (y_115.Name.size : Int)))]) (c := [.int .u8 (IntKind.u8.wrap (y_115.Name.size : Int))]) [[.int .u8 (IntKind.u8.wrap (y_115.Name.size : Int))]] Try.underlying22 Try.sizeOf5 Try.zeroValue5 rfl (pc_cons rfl pc_nil) rfl rfl (Nat.le_of_ble_eq_true rfl) rfl (all_cons rfl (all_nil)) rfl hS hK (by decide) rfl fun a w b_138 hS hK => ?_
          refine parK_nil (hS.pk2.pk2.trunc 2) ?_
          refine spw (k := 6) rfl rfl (hS.pk2.pk2.trunc 2) ?_
          obtain ⟨y_139, h_140, H⟩ := bind_some H
          have hS := hS.pk3
          refine sl_append_L (ty := (tyInt .u8)) (ys := [IntKind.u8.wrap (y_115.Name.size : Int)]) elT22 (by decide) rfl hq_65 rfl (Reps.cons (show Ty.rep (tyInt .u8) _ [.int .u8 (IntKind.u8.wrap (y_115.Name.size : Int))] (IntKind.u8.wrap (y_115.Name.size : Int)) from rfl) (Reps.nil _ _)) rfl h_140 hS hK (by decide) rfl rfl rfl fun a w v_141 cs_142 hq_143 hS hK => ?_
          refine parK_nil (hS.pk2.pk2.trunc 2) ?_
          refine thenL_nil ?_
          obtain ⟨y_145, h_146, H⟩ := bind_some H
          refine sl_append_S elT22 Try.underlying9 Try.zeroValue5 hq_143 rfl h_146 hS hK (by decide) rfl rfl rfl fun a w v_147 cs_148 hq_149 hS hK => ?_
          refine sl hK (by decide) rfl rfl (r_assign hK rfl) fun a hK => ?_
          refine wpList_nil (NoP_nil ?_)
          refine wp_region_lit ?_
          refine sl hK (by decide) rfl rfl (r_move hK rfl) fun a hK => ?_
          refine sl hK (by decide) rfl rfl (r_fieldAddr Try.underlying48 rfl Try.sizeOf3 hK rfl) fun a hK => ?_
          refine sl hK (by decide) rfl rfl (r_load Try.isAgg3 hK rfl (hS.cell (.tail _ (.head _)) rfl)) fun a hK => ?_
          refine sl hK (by decide) rfl rfl (r_conv Try.underlying3 Try.underlying5 hK rfl) fun a hK => ?_
          refine sl_buildSliceF (zc := [.int .u8 0]) (ps := [(0, .int .u8 (IntKind.u8.wrap y_115.Kind))]) (c := [.int .u8 (IntKind.u8.wrap y_115.Kind)]) [[.int .u8 (IntKind.u8.wrap y_115.Kind)]] Try.underlying22 Try.sizeOf5 Try.zeroValue5 rfl (pc_cons rfl pc_nil) rfl rfl (Nat.le_of_ble_eq_true rfl) rfl (all_cons rfl (all_nil)) rfl hS hK (by decide) rfl fun a w b_151 hS hK => ?_
          obtain ⟨y_152, h_153, H⟩ := bind_some H
          have hS := hS.pk1
          refine sl_append_L (ty := (tyInt .u8)) (ys := [IntKind.u8.wrap y_115.Kind]) elT22 (by decide) rfl hq_149 rfl (Reps.cons (show Ty.rep (tyInt .u8) _ [.int .u8 (IntKind.u8.wrap y_115.Kind)] (IntKind.u8.wrap y_115.Kind) from rfl) (Reps.nil _ _)) rfl h_153 hS hK (by decide) rfl rfl rfl fun a w v_154 cs_155 hq_156 hS hK => ?_
          refine sl hK (by decide) rfl rfl (r_assign hK rfl) fun a hK => ?_
          refine wpList_nil ?_
          refine wp_region_lit ?_
          refine sl hK (by decide) rfl rfl (r_ibin hK rfl rfl rfl) fun a hK => ?_
          refine sl hK (by decide) rfl rfl (r_move hK rfl) fun a hK => ?_
          refine wpList_nil ?_
          have hS := hS.pk2
          exact ⟨_, Nat.lt_succ_self _, y_152, (IntKind.i64.wrap (x_66 + 1)), _, _, H, hq_156, hK.sub (all_cons rfl (all_cons rfl (all_cons rfl (all_cons rfl (all_cons rfl (all_nil)))))), hS.trunc 2⟩
        · rw [ifb_f hb_114] at H
          refine wp_exit ?_
          refine wp_seq ?_
          refine wp_region_lit ?_
          refine sl hK (by decide) rfl rfl (r_move hK rfl) fun a hK => ?_
          refine sl hK (by decide) rfl rfl (r_fieldAddr Try.underlying37 rfl Try.sizeOf35 hK rfl) fun a hK => ?_
          refine sl hK (by decide) rfl rfl (r_load Try.isAgg35 hK rfl (hS.cell (.head _) rfl)) fun a hK => ?_
          refine sl hK (by decide) rfl rfl (r_len_R Try.underlying35 h0_1 hK rfl) fun a hK => ?_
          obtain ⟨y_158, h_159, H⟩ := bind_some H
          have hS := hS.pk1
          have hS1 := hS.sp1
          refine sl_call Try.call31 hK (by decide) rfl rfl rfl (wire_big.calls x_62 (a0.Rows.length : Int) 2 hS1.lend hq_65 h_159) fun a v_ w hv_ hK => ?_
          obtain ⟨R_160, v_163, cs_164, hv_, hr_, hl_161, hq_165⟩ := hv_
          have hv_ := hv_.symm
          subst hv_
          obtain ⟨hS, hl_161⟩ := hS1.back hr_ hl_161
          have hS := hS.un1
          have hRL := hRL.trans hl_161
          refine sl hK (by decide) rfl rfl (r_assign hK rfl) fun a hK => ?_
          refine wpList_nil ?_
          refine wp_seq ?_
          refine wp_seq ?_
          refine wp_region_lit ?_
          refine sl hK (by decide) rfl rfl (r_fieldAddr Try.underlying37 rfl Try.sizeOf35 hK rfl) fun a hK => ?_
          refine sl hK (by decide) rfl rfl (r_load Try.isAgg35 hK rfl (hS.cell (.tail _ (.head _)) rfl)) fun a hK => ?_
          refine sl hK (by decide) rfl rfl (r_len_R Try.underlying35 h0_1 hK rfl) fun a hK => ?_
          refine sl hK (by decide) rfl rfl (r_move hK rfl) fun a hK => ?_
          refine wpList_nil ?_
          refine wp_block ?_
          refine wp_loop_k (fun k_l1 a w => ∃ (x_246 : List Int) (x_250 : Int) (R_251 : Hp) (v_247 : Value) (cs_248 : List Value), wire_Encode.l1 a0 k_l1 x_246 x_250 = some r ∧ RLe [] w0 R_160 R_251 ∧ Reps (tyInt .u8) R_251 cs_248 x_246 ∧ Kn 84 a [(5, v_247), (57, v0_1), (58, .int .i64 (a0.Rows.length : Int)), (59, .int .i64 x_250)] ∧ St [] w0 w R_251 [.row 5 1 v_247 x_246.length cs_248]) (((a0.Rows.length : Int) - 0).toNat + 1) ?_ ?_
          · exact ⟨y_158, 0, _, _, _, H, (RLe.refl _ _), hq_165, hK.sub (all_cons rfl (all_cons rfl (all_cons rfl (all_cons rfl (all_nil))))), hS.trunc 1⟩
          · rintro k_l1 a w ⟨x_246, x_250, R_251, v_247, cs_248, H, hl_252, hq_249, hK, hS⟩
            cases k_l1 with
            | zero => cases H
            | succ k_l1 =>
            rw [wire_Encode.l1.eq_2] at H
            have hRL := hRL.trans hl_252
            refine wp_seq ?_
            refine wp_region_lit ?_
            refine sl hK (by decide) rfl rfl (r_ibin hK rfl rfl rfl) fun a hK => ?_
            refine wpList_nil ?_
            refine wp_seq ?_
            refine wp_cond_split (hK.ev rfl) (fun (hb_331 : (decide (x_250 < (a0.Rows.length : Int))) = true) => ?_) (fun (hb_331 : (decide (x_250 < (a0.Rows.length : Int))) = false) => ?_)
            · rw [ifb_t hb_331] at H
              refine wp_skip ?_
              refine wp_seq ?_
              refine wp_block ?_
              refine wp_seq ?_
              refine wp_region_lit ?_
              obtain ⟨y_332, h_333, H⟩ := bind_some H
              obtain ⟨b_334, o_335, c_336, cs_337, hv_338, hr_339, hc_340, h_3330, h_3331⟩ := h0_1.ix h_333
              obtain ⟨v_341, rfl, hs_342⟩ := hr_339
              refine sl hK (by decide) rfl rfl (r_indexAddr_R Try.underlying35 Try.sizeOf49 hv_338 h_3330 h_3331 hK rfl rfl) fun a hK => ?_
              refine sl hK (by decide) rfl rfl (r_load Try.isAgg49 hK rfl ((hS.ra hRA nil_not).cell (hc_340 0 _ rfl))) fun a hK => ?_
              refine sl hK (by decide) rfl rfl (r_assign hK rfl) fun a hK => ?_
              refine wpList_nil ?_
              refine wp_seq ?_
              refine wp_region_lit ?_
              refine sl hK (by decide) rfl rfl (r_move hK rfl) fun a hK => ?_
              refine sl hK (by decide) rfl rfl (r_len_R Try.underlying49 hs_342 hK rfl) fun a hK => ?_
              refine sl hK (by decide) rfl rfl (r_move hK rfl) fun a hK => ?_
              refine wpList_nil ?_
              refine wp_block ?_
              refine wp_loop_k (fun k_l2 a w => ∃ (x_364 : List Int) (x_368 : Int) (R_369 : Hp) (v_365 : Value) (cs_366 : List Value), wire_Encode.l2 (wire_Encode.l1 a0 k_l1) a0 x_250 y_332 k_l2 x_364 x_368 = some r ∧ RLe [] w0 R_251 R_369 ∧ Reps (tyInt .u8) R_369 cs_366 x_364 ∧ Kn 84 a [(5, v_365), (57, v0_1), (58, .int .i64 (a0.Rows.length : Int)), (59, .int .i64 x_250), (63, v_341), (64, .int .i64 (y_332.length : Int)), (65, .int .i64 x_368)] ∧ St [] w0 w R_369 [.row 5 1 v_365 x_364.length cs_366]) (((y_332.length : Int) - 0).toNat + 1) ?_ ?_
              · exact ⟨x_246, 0, _, _, _, H, (RLe.refl _ _), hq_249, hK.sub (all_cons rfl (all_cons rfl (all_cons rfl (all_cons rfl (all_cons rfl (all_cons rfl (all_cons rfl (all_nil)))))))), hS⟩
              · rintro k_l2 a w ⟨x_364, x_368, R_369, v_365, cs_366, H, hl_370, hq_367, hK, hS⟩
                cases k_l2 with
                | zero => cases H
                | succ k_l2 =>
                rw [wire_Encode.l2.eq_2] at H
                have hRL := hRL.trans hl_370
                refine wp_seq ?_
                refine wp_region_lit ?_
                refine sl hK (by decide) rfl rfl (r_ibin hK rfl rfl rfl) fun a hK => ?_
                refine wpList_nil ?_
                refine wp_seq ?_
                refine wp_cond_split (hK.ev rfl) (fun (hb_390 : (decide (x_368 < (y_332.length : Int))) = true) => ?_) (fun (hb_390 : (decide (x_368 < (y_332.length : Int))) = false) => ?_)
                · rw [ifb_t hb_390] at H
                  refine wp_skip ?_
                  refine wp_seq ?_
                  refine wp_block ?_
                  refine wp_seq ?_
                  refine wp_region_lit ?_
                  obtain ⟨y_391, h_392, H⟩ := bind_some H
                  obtain ⟨b_393, o_394, c_395, cs_396, hv_397, hr_398, hc_399, h_3920, h_3921⟩ := hs_342.ix h_392
                  subst hr_398
                  refine sl hK (by decide) rfl rfl (r_indexAddr_R Try.underlying49 Try.sizeOf25 hv_397 h_3920 h_3921 hK rfl rfl) fun a hK => ?_
                  refine sl hK (by decide) rfl rfl (r_loadA (cs := [.int .i64 y_391.Kind, .int .i64 y_391.N, .string y_391.S, .int .i64 y_391.H.a0, .int .i64 y_391.H.a1, .int .i64 y_391.H.a2, .int .i64 y_391.H.a3, .int .i64 y_391.H.a4, .int .i64 y_391.H.a5, .int .i64 y_391.H.a6, .int .i64 y_391.H.a7]) Try.isAgg25 Try.sizeOf25 rfl hK rfl (fun j v hv => (hS.ra hRA nil_not).cell (hc_399 j v hv))) fun a hK => ?_
                  refine sl_alloc Try.zeroValue25 hS hK (by decide) rfl rfl fun a w b_400 hS hK => ?_
                  refine sl_storeA (vs := [.int .i64 y_391.Kind, .int .i64 y_391.N, .string y_391.S, .int .i64 y_391.H.a0, .int .i64 y_391.H.a1, .int .i64 y_391.H.a2, .int .i64 y_391.H.a3, .int .i64 y_391.H.a4, .int .i64 y_391.H.a5, .int .i64 y_391.H.a6, .int .i64 y_391.H.a7]) (c' := [.int .i64 y_391.Kind, .int .i64 y_391.N, .string y_391.S, .int .i64 y_391.H.a0, .int .i64 y_391.H.a1, .int .i64 y_391.H.a2, .int .i64 y_391.H.a3, .int .i64 y_391.H.a4, .int .i64 y_391.H.a5, .int .i64 y_391.H.a6, .int .i64 y_391.H.a7]) Try.sizeOf25 hS hK rfl rfl rfl rfl (all_cons rfl (all_cons rfl (all_cons rfl (all_cons rfl (all_cons rfl (all_cons rfl (all_cons rfl (all_cons rfl (all_cons rfl (all_cons rfl (all_cons rfl (all_nil)))))))))))) (Nat.le_of_ble_eq_true rfl) rfl fun a w hS hK => ?_
                  refine wpList_nil ?_
                  refine wp_region_lit ?_
                  refine sl hK (by decide) rfl rfl (r_move hK rfl) fun a hK => ?_
                  refine sl hK (by decide) rfl rfl (r_loadA (cs := [.int .i64 y_391.Kind, .int .i64 y_391.N, .string y_391.S, .int .i64 y_391.H.a0, .int .i64 y_391.H.a1, .int .i64 y_391.H.a2, .int .i64 y_391.H.a3, .int .i64 y_391.H.a4, .int .i64 y_391.H.a5, .int .i64 y_391.H.a6, .int .i64 y_391.H.a7]) Try.isAgg25 Try.sizeOf25 rfl hK rfl (hS.cells_of (m := 11) (.head _) rfl)) fun a hK => ?_
                  obtain ⟨y_401, h_402, H⟩ := bind_some H
                  have hS := hS.pk1
                  have hS1 := hS.sp1
                  refine sl_call Try.call23 hK (by decide) rfl rfl rfl (wire_put.calls x_364 y_391 hS1.lend hq_367 h_402) fun a v_ w hv_ hK => ?_
                  obtain ⟨R_403, v_406, cs_407, hv_, hr_, hl_404, hq_408⟩ := hv_
                  have hv_ := hv_.symm
                  subst hv_
                  obtain ⟨hS, hl_404⟩ := hS1.back hr_ hl_404
                  have hS := hS.un1
                  have hRL := hRL.trans hl_404
                  refine sl hK (by decide) rfl rfl (r_assign hK rfl) fun a hK => ?_
                  refine wpList_nil ?_
                  refine wp_region_lit ?_
                  refine sl hK (by decide) rfl rfl (r_ibin hK rfl rfl rfl) fun a hK => ?_
                  refine sl hK (by decide) rfl rfl (r_move hK rfl) fun a hK => ?_
                  refine wpList_nil ?_
                  exact ⟨_, Nat.lt_succ_self _, y_401, (IntKind.i64.wrap (x_368 + 1)), _, _, _, H, (hl_370.trans hl_404), hq_408, hK.sub (all_cons rfl (all_cons rfl (all_cons rfl (all_cons rfl (all_cons rfl (all_cons rfl (all_cons rfl (all_nil)))))))), hS.trunc 1⟩
                · rw [ifb_f hb_390] at H
                  refine wp_exit ?_
                  refine wp_region_lit ?_
                  refine sl hK (by decide) rfl rfl (r_ibin hK rfl rfl rfl) fun a hK => ?_
                  refine sl hK (by decide) rfl rfl (r_move hK rfl) fun a hK => ?_
                  refine wpList_nil ?_
                  exact ⟨_, Nat.lt_succ_self _, x_364, (IntKind.i64.wrap (x_250 + 1)), _, _, _, H, (hl_252.trans hl_370), hq_367, hK.sub (all_cons rfl (all_cons rfl (all_cons rfl (all_cons rfl (all_nil))))), hS⟩
            · rw [ifb_f hb_331] at H
              refine wp_exit ?_
              refine wp_seq ?_
              refine wp_region_lit ?_
              refine sl hK (by decide) rfl rfl (r_move hK rfl) fun a hK => ?_
              refine sl hK (by decide) rfl rfl (r_len_O Try.underlying22 hS (.head _) hK rfl) fun a hK => ?_
              have hS := hS.row_nil 5 1
              have hq_410 : Reps (tyInt .u8) R_251 [] ([] : List Int) := Reps.nil _ _
              obtain ⟨y_411, h_412, H⟩ := bind_some H
              have hS1 := hS.sp1
              refine sl_call Try.call31 hK (by decide) rfl rfl rfl (wire_big.calls ([] : List Int) (x_246.length : Int) 4 hS1.lend hq_410 h_412) fun a v_ w hv_ hK => ?_
              obtain ⟨R_413, v_416, cs_417, hv_, hr_, hl_414, hq_418⟩ := hv_
              have hv_ := hv_.symm
              subst hv_
              obtain ⟨hS, hl_414⟩ := hS1.back hr_ hl_414
              have hS := hS.un1
              have hRL := hRL.trans hl_414
              refine sl hK (by decide) rfl rfl (r_move hK rfl) fun a hK => ?_
              have hS := hS.pk1
              obtain ⟨R_419, hS, hl_421, hs_420⟩ := hS.fz_row (hq_249.mono hl_414.le) rfl rfl
              have hRL := hRL.trans hl_421
              obtain ⟨y_422, h_423, H⟩ := bind_some H
              refine sl_append_R elT22 (by decide) rfl (hq_418.mono hl_421.le) rfl hs_420 h_423 hS hK (by decide) rfl rfl rfl fun a w v_424 cs_425 hq_426 hS hK => ?_
              refine sl hK (by decide) rfl rfl (r_assign hK rfl) fun a hK => ?_
              refine wpList_nil ?_
              refine wp_seq ?_
              refine wp_region_lit ?_
              refine sl hK (by decide) rfl rfl (r_move hK rfl) fun a hK => ?_
              refine sl hK (by decide) rfl rfl (r_move hK rfl) fun a hK => ?_
              obtain ⟨y_428, h_429, H⟩ := bind_some H
              refine sl_callV Try.call32 hS hK (by decide) rfl rfl rfl (crc_Sum.calls x_246 (lentOf_sub [] _) (hs_420.mono hS.rLe0) h_429) fun a w hS hK => ?_
              refine sl hK (by decide) rfl rfl (r_conv Try.underlying62 Try.underlying3 hK rfl) fun a hK => ?_
              obtain ⟨y_430, h_431, H⟩ := bind_some H
              have hS1 := hS.sp1
              refine sl_call Try.call31 hK (by decide) rfl rfl rfl (wire_big.calls y_422 (IntKind.i64.wrap y_428) 4 hS1.lend hq_426 h_431) fun a v_ w hv_ hK => ?_
              obtain ⟨R_432, v_435, cs_436, hv_, hr_, hl_433, hq_437⟩ := hv_
              have hv_ := hv_.symm
              subst hv_
              obtain ⟨hS, hl_433⟩ := hS1.back hr_ hl_433
              have hS := hS.un1
              have hRL := hRL.trans hl_433
              refine sl hK (by decide) rfl rfl (r_assign hK rfl) fun a hK => ?_
              refine sl hK (by decide) rfl rfl (r_assign hK rfl) fun a hK => ?_
              refine wpList_nil ?_
              obtain rfl := Option.some.inj H
              refine wp_ret ?_
              repeat (first | refine ret_then ?_ | refine ret_block ?_ | refine ret_scope ?_)
              exact ret_2 Try.results17 hK (rv_tmp hK rfl) (rv_tmp hK rfl) ⟨_, rfl, _, _, _, rfl, hS, hRL, hq_437⟩

/-! ### catchment/wire.Decode$1: function 36 -/
set_option maxHeartbeats 4000000 in
set_option maxRecDepth 100000 in
section
variable {fn : Func} {tmps : Array Value} {RR : Ending → World → Prop} {ds : List Deferred} {w0 w : World} {M : List Own} {R : Hp} {O : List Own} {be bt : Nat} {c : List Value} {u0 : Value} {u1 : Value}
theorem clo36_zero {x : Int} (hx : (x != 0) = true) (hS : St M w0 w R (.cells be [.int .i64 x] 27 :: .cells bt [u0, u1] 37 :: O)) (h : ∀ w', St M w0 w' R (.cells bt [.slice none 0 0, .slice none 0 0] 37 :: .cells be [.int .i64 x] 27 :: O) → Leaves Try.prog fn tmps RR ds .returning w') :
    Leaves Try.prog fn tmps RR (⟨.fn (.func 36) #[.pointer (some ⟨be, 0, none⟩), .pointer (some ⟨bt, 0, none⟩)], #[]⟩ :: ds) .returning w := by
  refine leave_call (f := 36) (cap := [.pointer (some ⟨be, 0, none⟩), .pointer (some ⟨bt, 0, none⟩)]) (dargs := []) (Φ := fun _ w' => St M w0 w' R (.cells bt [.slice none 0 0, .slice none 0 0] 37 :: .cells be [.int .i64 x] 27 :: O)) Try.call36 ?_ (fun _ w' hS => h w' hS)
  refine enterC (args := [.pointer (some ⟨be, 0, none⟩), .pointer (some ⟨bt, 0, none⟩)]) Try.func36 rfl Try.ntmps36 rfl fun a hK => ?_
  refine wp_seq ?_
  refine wp_region_lit ?_
  refine sl hK (by decide) rfl rfl (r_load Try.isAgg27 hK rfl (hS.cell (.head _) rfl)) fun a hK => ?_
  refine sl hK (by decide) rfl rfl (r_ibin hK rfl rfl rfl) fun a hK => ?_
  refine wpList_nil ?_
  refine wp_cond_true ((hK.ev rfl).trans (congrArg Value.bool hx)) ?_
  refine wp_region_lit ?_
  refine sl hK (by decide) rfl rfl (r_buildC (ps := []) (c := [.slice none 0 0, .slice none 0 0]) Try.underlying37 Try.zeroValue37 places37 hK rfl pc_nil rfl rfl) fun a hK => ?_
  have hS := hS.pk1
  refine sl_storeA (vs := [.slice none 0 0, .slice none 0 0]) (c' := [.slice none 0 0, .slice none 0 0]) Try.sizeOf37 hS hK rfl rfl rfl rfl (all_cons rfl (all_cons rfl (all_nil))) (Nat.le_of_ble_eq_true rfl) rfl fun a w hS hK => ?_
  refine wpList_nil ?_
  exact ⟨hK.dfs, .tuple #[], by simp [results, Try.results36], _, rfl, hS⟩
theorem clo36_stay (hS : St M w0 w R (.cells be [.int .i64 0] 27 :: .cells bt c 37 :: O)) (h : ∀ w', St M w0 w' R (.cells bt c 37 :: .cells be [.int .i64 0] 27 :: O) → Leaves Try.prog fn tmps RR ds .returning w') :
    Leaves Try.prog fn tmps RR (⟨.fn (.func 36) #[.pointer (some ⟨be, 0, none⟩), .pointer (some ⟨bt, 0, none⟩)], #[]⟩ :: ds) .returning w := by
  refine leave_call (f := 36) (cap := [.pointer (some ⟨be, 0, none⟩), .pointer (some ⟨bt, 0, none⟩)]) (dargs := []) (Φ := fun _ w' => St M w0 w' R (.cells bt c 37 :: .cells be [.int .i64 0] 27 :: O)) Try.call36 ?_ (fun _ w' hS => h w' hS)
  refine enterC (args := [.pointer (some ⟨be, 0, none⟩), .pointer (some ⟨bt, 0, none⟩)]) Try.func36 rfl Try.ntmps36 rfl fun a hK => ?_
  refine wp_seq ?_
  refine wp_region_lit ?_
  refine sl hK (by decide) rfl rfl (r_load Try.isAgg27 hK rfl (hS.cell (.head _) rfl)) fun a hK => ?_
  refine sl hK (by decide) rfl rfl (r_ibin hK rfl rfl rfl) fun a hK => ?_
  refine wpList_nil ?_
  refine wp_cond_false (hK.ev rfl) ?_
  refine wp_skip ?_
  have hS := hS.pk1
  exact ⟨hK.dfs, .tuple #[], by simp [results, Try.results36], _, rfl, hS⟩
end


/-! ### catchment/wire.Decode: function 19 -/
set_option maxHeartbeats 4000000 in
set_option maxRecDepth 100000 in
theorem wire_Decode.calls (a0 : List Int) {w0 : World} {R : Hp} {v0_0 : Value} (hR : R.sub w0) (h0_0 : SlR (tyInt .u8) R v0_0 a0) {r : api_Table × Int} (H : wire_Decode a0 = some r) : Calls Try.prog 19 #[v0_0] w0 (Rets fun v w' => ∃ (R' : Hp) (u0 : Value) (cu0 : List Value) (u1 : Value) (cu1 : List Value), v = .tuple #[.agg #[u0, u1], .int .i64 r.2] ∧ St [] w0 w' R' [.row 48 2 u0 r.1.Cols.length cu0, .row 49 1 u1 r.1.Rows.length cu1] ∧ RLe [] w0 R R' ∧ Reps ty_api_Col R' cu0 r.1.Cols ∧ Reps (tySl ty_api_Value) R' cu1 r.1.Rows) := by
  unfold wire_Decode at H
  refine enterD (args := [v0_0]) Try.func19 rfl Try.ntmps19 rfl fun a hK => ?_
  have hS := St.init hR
  have hRL := RLe.refl (M := []) w0 R
  refine wp_seq ?_
  refine wp_region_lit ?_
  refine sl_alloc Try.zeroValue37 hS hK (Nat.le_of_ble_eq_true rfl) rfl rfl fun a w b_1 hS hK => ?_
  refine sl_alloc Try.zeroValue27 hS hK (Nat.le_of_ble_eq_true rfl) rfl rfl fun a w b_2 hS hK => ?_
  refine wpList_nil ?_
  refine wp_seq ?_
  refine wp_region_lit ?_
  refine sl hK (Nat.le_of_ble_eq_true rfl) rfl rfl (r_func (us := []) (vs := [.pointer (some ⟨b_2, 0, none⟩), .pointer (some ⟨b_1, 0, none⟩)]) rfl (hK.evs rfl)) fun a hK => ?_
  refine sl_defer hK rfl rfl (r_defer (cap := [.pointer (some ⟨b_2, 0, none⟩), .pointer (some ⟨b_1, 0, none⟩)]) (vs := []) hK rfl rfl) fun a hK => ?_
  refine wpList_nil ?_
  refine wp_seq ?_
  refine wp_region_lit ?_
  refine sl_defer hK rfl rfl (r_defer (cap := []) (vs := [.pointer (some ⟨b_2, 0, none⟩)]) hK rfl rfl) fun a hK => ?_
  refine wpList_nil ?_
  refine wp_seq ?_
  refine wp_region_lit ?_
  refine sl hK (Nat.le_of_ble_eq_true rfl) rfl rfl (r_move hK rfl) fun a hK => ?_
  refine sl hK (Nat.le_of_ble_eq_true rfl) rfl rfl (r_buildC (ps := [(0, v0_0)]) (c := [v0_0]) Try.underlying58 Try.zeroValue58 places58 hK rfl (pc_cons (cells1 h0_0.one) pc_nil) rfl rfl) fun a hK => ?_
  refine sl_box hS hK (Nat.le_of_ble_eq_true rfl) rfl rfl (c := [v0_0]) rfl fun a w b_3 hS hK => ?_
  refine sl hK (Nat.le_of_ble_eq_true rfl) rfl rfl (r_assign hK rfl) fun a hK => ?_
  refine wpList_nil ?_
  refine wp_seq ?_
  refine wp_region_lit ?_
  refine sl hK (Nat.le_of_ble_eq_true rfl) rfl rfl (r_move hK rfl) fun a hK => ?_
  refine sl hK (Nat.le_of_ble_eq_true rfl) rfl rfl (r_move hK rfl) fun a hK => ?_
  refine sl hK (Nat.le_of_ble_eq_true rfl) rfl rfl (r_move hK rfl) fun a hK => ?_
  rcases tc_some H with ⟨h_5, H⟩ | ⟨y_4, h_6, H⟩
  · have hS1 := hS.sp1
    refine sl_callP Try.call38 hK rfl rfl rfl (retsO_bad (wire_reader_number.calls (⟨a0⟩ : wire_reader) 4 hS1.lend h0_0 h_5)) fun c_ w hp_ => ?_
    obtain ⟨hc_, R_7, hr_, hl_8⟩ := hp_
    subst hc_
    obtain ⟨hS, hl_8⟩ := hS1.back hr_ hl_8
    have hS := hS.un0
    repeat (first | refine pan_then ?_ | refine pan_block ?_ | refine pan_scope ?_ | refine pan_parK ?_ | refine pan_parKK ?_ | refine pan_thenT ?_ | refine pan_thenL ?_)
    have hRL := hRL.trans hl_8
    refine throwD (throwA_of (KS := [(2, .pointer (some ⟨b_1, 0, none⟩)), (3, .pointer (some ⟨b_2, 0, none⟩))]) (D := [⟨.fn (.func 27) #[], #[.pointer (some ⟨b_2, 0, none⟩)]⟩, ⟨.fn (.func 36) #[.pointer (some ⟨b_2, 0, none⟩), .pointer (some ⟨b_1, 0, none⟩)], #[]⟩]) hK rfl (all_cons rfl (all_cons rfl (all_nil))) fun tm_ ht_ => ?_)
    refine caught_pan hS fun w hS => ?_
    have hS := hS.pk1
    have hS := hS.pk1
    refine clo36_zero rfl hS fun w hS => ?_
    have hS := hS.row_nil 48 2
    have hq_10 : Reps ty_api_Col R_7 [] ([] : List api_Col) := Reps.nil _ _
    have hS := hS.row_nil 49 1
    have hq_12 : Reps (tySl ty_api_Value) R_7 [] ([] : List (List api_Value)) := Reps.nil _ _
    obtain rfl := Option.some.inj H
    exact leaves_2 Try.results19 (rt_cell (c := [(.slice none 0 0), (.slice none 0 0)]) (ht_ _ (.head _)) Try.isAgg37 Try.sizeOf37 hS (.tail _ (.tail _ (.head _))) rfl) (rt_cell1 (ht_ _ (.tail _ (.head _))) Try.isAgg27 hS (.tail _ (.tail _ (.tail _ (.head _))))) ⟨_, rfl, _, _, _, _, _, rfl, (hS.pk1.trunc 2), hRL, hq_10, hq_12⟩
  · have hS1 := hS.sp1
    refine sl_call Try.call38 hK (Nat.le_of_ble_eq_true rfl) rfl rfl rfl (retsO_ok (wire_reader_number.calls (⟨a0⟩ : wire_reader) 4 hS1.lend h0_0 h_6)) fun a v_ w hv_ hK => ?_
    obtain ⟨R_13, v_15, hv_, hr_, hl_14, hs_16⟩ := hv_
    have hv_ := hv_.symm
    subst hv_
    obtain ⟨hS, hl_14⟩ := hS1.back hr_ hl_14
    have hS := hS.un1
    have hRL := hRL.trans hl_14
    refine sl hK (Nat.le_of_ble_eq_true rfl) rfl rfl (r_ibin hK rfl rfl rfl) fun a hK => ?_
    rcases tc_some H with ⟨h_18, H⟩ | ⟨y_17, h_19, H⟩
    · have hS1 := hS.sp1
      refine sl_callP Try.call37 hK rfl rfl rfl (retsO_bad (wire_reader_take.calls y_4.2 (IntKind.i64.wrap (y_4.1 + 4)) hS1.lend hs_16 h_18)) fun c_ w hp_ => ?_
      obtain ⟨hc_, R_20, hr_, hl_21⟩ := hp_
      subst hc_
      obtain ⟨hS, hl_21⟩ := hS1.back hr_ hl_21
      have hS := hS.un0
      repeat (first | refine pan_then ?_ | refine pan_block ?_ | refine pan_scope ?_ | refine pan_parK ?_ | refine pan_parKK ?_ | refine pan_thenT ?_ | refine pan_thenL ?_)
      have hRL := hRL.trans hl_21
      refine throwD (throwA_of (KS := [(2, .pointer (some ⟨b_1, 0, none⟩)), (3, .pointer (some ⟨b_2, 0, none⟩))]) (D := [⟨.fn (.func 27) #[], #[.pointer (some ⟨b_2, 0, none⟩)]⟩, ⟨.fn (.func 36) #[.pointer (some ⟨b_2, 0, none⟩), .pointer (some ⟨b_1, 0, none⟩)], #[]⟩]) hK rfl (all_cons rfl (all_cons rfl (all_nil))) fun tm_ ht_ => ?_)
      refine caught_pan hS fun w hS => ?_
      have hS := hS.pk1
      have hS := hS.pk1
      refine clo36_zero rfl hS fun w hS => ?_
      have hS := hS.row_nil 48 2
      have hq_23 : Reps ty_api_Col R_20 [] ([] : List api_Col) := Reps.nil _ _
      have hS := hS.row_nil 49 1
      have hq_25 : Reps (tySl ty_api_Value) R_20 [] ([] : List (List api_Value)) := Reps.nil _ _
      obtain rfl := Option.some.inj H
      exact leaves_2 Try.results19 (rt_cell (c := [(.slice none 0 0), (.slice none 0 0)]) (ht_ _ (.head _)) Try.isAgg37 Try.sizeOf37 hS (.tail _ (.tail _ (.head _))) rfl) (rt_cell1 (ht_ _ (.tail _ (.head _))) Try.isAgg27 hS (.tail _ (.tail _ (.tail _ (.head _))))) ⟨_, rfl, _, _, _, _, _, rfl, (hS.pk1.trunc 2), hRL, hq_23, hq_25⟩
    · have hS1 := hS.sp1
      refine sl_call Try.call37 hK (Nat.le_of_ble_eq_true rfl) rfl rfl rfl (retsO_ok (wire_reader_take.calls y_4.2 (IntKind.i64.wrap (y_4.1 + 4)) hS1.lend hs_16 h_19)) fun a v_ w hv_ hK => ?_
      obtain ⟨R_26, v_28, v_30, hv_, hr_, hl_27, hs_29, hs_31⟩ := hv_
      have hv_ := hv_.symm
      subst hv_
      obtain ⟨hS, hl_27⟩ := hS1.back hr_ hl_27
      have hS := hS.un1
      have hRL := hRL.trans hl_27
      refine sl hK (Nat.le_of_ble_eq_true rfl) rfl rfl (r_nilCheck hK rfl) fun a hK => ?_
      refine sl hK (Nat.le_of_ble_eq_true rfl) rfl rfl (r_fieldAddr Try.underlying58 rfl Try.sizeOf22 hK rfl) fun a hK => ?_
      refine sl_store1 (c' := [v_28]) Try.sizeOf22 hS hK rfl rfl rfl hs_29.one (Nat.le_of_ble_eq_true rfl) rfl fun a w hS hK => ?_
      refine wpList_nil ?_
      refine wp_seq ?_
      refine wp_seq ?_
      refine wp_region_lit ?_
      refine sl hK (Nat.le_of_ble_eq_true rfl) rfl rfl (r_move hK rfl) fun a hK => ?_
      refine sl hK (Nat.le_of_ble_eq_true rfl) rfl rfl (r_nilCheck hK rfl) fun a hK => ?_
      refine sl hK (Nat.le_of_ble_eq_true rfl) rfl rfl (r_fieldAddr Try.underlying58 rfl Try.sizeOf22 hK rfl) fun a hK => ?_
      refine sl hK (Nat.le_of_ble_eq_true rfl) rfl rfl (r_load Try.isAgg22 hK rfl (hS.cell (.head _) rfl)) fun a hK => ?_
      refine sl hK (Nat.le_of_ble_eq_true rfl) rfl rfl (r_len_R Try.underlying22 hs_29 hK rfl) fun a hK => ?_
      refine sl hK (Nat.le_of_ble_eq_true rfl) rfl rfl (r_ibin hK rfl rfl rfl) fun a hK => ?_
      refine sl hK (Nat.le_of_ble_eq_true rfl) rfl rfl (r_move hK rfl) fun a hK => ?_
      refine sl hK (Nat.le_of_ble_eq_true rfl) rfl rfl (r_len_R Try.underlying22 h0_0 hK rfl) fun a hK => ?_
      refine sl hK (Nat.le_of_ble_eq_true rfl) rfl rfl (r_ibin hK rfl rfl rfl) fun a hK => ?_
      refine wpList_nil ?_
      refine wp_cond_split (hK.ev rfl) (fun (hb_32 : ((IntKind.i64.wrap ((y_17.1.length : Int) + 4)) != (a0.length : Int)) = true) => ?_) (fun (hb_32 : ((IntKind.i64.wrap ((y_17.1.length : Int) + 4)) != (a0.length : Int)) = false) => ?_)
      · rw [ifb_t hb_32] at H
        refine wp_seq ?_
        refine wp_region_lit ?_
        refine sl hK (Nat.le_of_ble_eq_true rfl) rfl rfl (r_loadA (cs := [.slice none 0 0, .slice none 0 0]) Try.isAgg37 Try.sizeOf37 rfl hK rfl (hS.cells_of (m := 2) (.tail _ (.tail _ (.head _))) rfl)) fun a hK => ?_
        have hS := hS.pk2
        refine sl_storeA (vs := [.slice none 0 0, .slice none 0 0]) (c' := [.slice none 0 0, .slice none 0 0]) Try.sizeOf37 hS hK rfl rfl rfl rfl (all_cons rfl (all_cons rfl (all_nil))) (Nat.le_of_ble_eq_true rfl) rfl fun a w hS hK => ?_
        have hS := hS.pk2
        refine sl_store1 (c' := [.int .i64 40]) Try.sizeOf27 hS hK rfl rfl rfl rfl (Nat.le_of_ble_eq_true rfl) rfl fun a w hS hK => ?_
        refine wpList_nil ?_
        refine wp_ret ?_
        repeat (first | refine ret_then ?_ | refine ret_block ?_ | refine ret_scope ?_)
        refine retD' (KS := [(2, .pointer (some ⟨b_1, 0, none⟩)), (3, .pointer (some ⟨b_2, 0, none⟩))]) (D := [⟨.fn (.func 27) #[], #[.pointer (some ⟨b_2, 0, none⟩)]⟩, ⟨.fn (.func 36) #[.pointer (some ⟨b_2, 0, none⟩), .pointer (some ⟨b_1, 0, none⟩)], #[]⟩]) hK rfl (all_cons rfl (all_cons rfl (all_nil))) fun tm_ ht_ => ?_
        refine caught_ret hS fun w hS => ?_
        have hS := hS.pk1
        have hS := hS.pk1
        refine clo36_zero rfl hS fun w hS => ?_
        have hS := hS.row_nil 48 2
        have hq_34 : Reps ty_api_Col R_26 [] ([] : List api_Col) := Reps.nil _ _
        have hS := hS.row_nil 49 1
        have hq_36 : Reps (tySl ty_api_Value) R_26 [] ([] : List (List api_Value)) := Reps.nil _ _
        obtain rfl := Option.some.inj H
        exact leaves_2 Try.results19 (rt_cell (c := [(.slice none 0 0), (.slice none 0 0)]) (ht_ _ (.head _)) Try.isAgg37 Try.sizeOf37 hS (.tail _ (.tail _ (.head _))) rfl) (rt_cell1 (ht_ _ (.tail _ (.head _))) Try.isAgg27 hS (.tail _ (.tail _ (.tail _ (.head _))))) ⟨_, rfl, _, _, _, _, _, rfl, (hS.pk1.trunc 2), hRL, hq_34, hq_36⟩
      · rw [ifb_f hb_32] at H
        refine wp_skip ?_
        refine wp_seq ?_
        refine parT_region (C := fun w => St [] w0 w R_26 [.cells b_3 [v_28] 58, .cells b_2 [.int .i64 0] 27, .cells b_1 [.slice none 0 0, .slice none 0 0] 37]) 10 [(0, true), (1, true), (2, true), (3, true), (4, true), (5, true), (6, true), (7, true), (8, true), (9, true)] mixed (by kernel_rfl) hS (fun w hS => hS) fun w hS => ?_
        refine sp (k := 0) rfl hK (Nat.le_of_ble_eq_true rfl) rfl rfl (fun w hS => r_move hK rfl) fun a hK => ?_
        refine sp (k := 1) rfl hK (Nat.le_of_ble_eq_true rfl) rfl rfl (fun w hS => r_nilCheck hK rfl) fun a hK => ?_
        refine sp (k := 2) rfl hK (Nat.le_of_ble_eq_true rfl) rfl rfl (fun w hS => r_fieldAddr Try.underlying58 rfl Try.sizeOf22 hK rfl) fun a hK => ?_
        refine sp (k := 3) rfl hK (Nat.le_of_ble_eq_true rfl) rfl rfl (fun w hS => r_load Try.isAgg22 hK rfl (hS.cell (.head _) rfl)) fun a hK => ?_
        refine sp (k := 4) rfl hK (Nat.le_of_ble_eq_true rfl) rfl rfl (fun w hS => r_move hK rfl) fun a hK => ?_
        refine sp (k := 5) rfl hK (Nat.le_of_ble_eq_true rfl) rfl rfl (fun w hS => r_nilCheck hK rfl) fun a hK => ?_
        refine sp (k := 6) rfl hK (Nat.le_of_ble_eq_true rfl) rfl rfl (fun w hS => r_fieldAddr Try.underlying58 rfl Try.sizeOf22 hK rfl) fun a hK => ?_
        refine sp (k := 7) rfl hK (Nat.le_of_ble_eq_true rfl) rfl rfl (fun w hS => r_load Try.isAgg22 hK rfl (hS.cell (.head _) rfl)) fun a hK => ?_
        refine sp (k := 8) rfl hK (Nat.le_of_ble_eq_true rfl) rfl rfl (fun w hS => r_len_R Try.underlying22 hs_29 hK rfl) fun a hK => ?_
        refine sp (k := 9) rfl hK (Nat.le_of_ble_eq_true rfl) rfl rfl (fun w hS => r_ibin hK rfl rfl rfl) fun a hK => ?_
        refine thenL_nil ?_
        obtain ⟨y_44, h_45, H⟩ := bind_some H
        obtain ⟨v_46, hs_47, hr_48⟩ := r_slice_R (x := .tmp 35) (lo := some (.tmp 41)) (hi := none) Try.underlying22 Try.sizeOf5 hs_29 h_45 hK rfl ⟨_, rfl⟩ rfl
        refine sl hK (Nat.le_of_ble_eq_true rfl) rfl rfl (hr_48 _ _ _ _ _ _ _ hK) fun a hK => ?_
        obtain ⟨y_49, h_50, H⟩ := bind_some H
        refine sl_callV Try.call39 hS hK (Nat.le_of_ble_eq_true rfl) rfl rfl rfl (wire_small.calls y_44 (lentOf_sub [] _) (hs_47.mono hS.rLe0) h_50) fun a w hS hK => ?_
        refine sl hK (Nat.le_of_ble_eq_true rfl) rfl rfl (r_assign hK rfl) fun a hK => ?_
        refine wpList_nil (NoP_nil ?_)
        refine wp_seq ?_
        refine parT_region (C := fun w => St [] w0 w R_26 [.cells b_3 [v_28] 58, .cells b_2 [.int .i64 0] 27, .cells b_1 [.slice none 0 0, .slice none 0 0] 37]) 12 [(0, true), (1, true), (2, true), (3, true), (4, true), (5, true), (6, true), (7, true), (8, true), (9, true), (10, true), (11, true)] mixed (by kernel_rfl) hS (fun w hS => hS) fun w hS => ?_
        refine sp (k := 0) rfl hK (Nat.le_of_ble_eq_true rfl) rfl rfl (fun w hS => r_move hK rfl) fun a hK => ?_
        refine sp (k := 1) rfl hK (Nat.le_of_ble_eq_true rfl) rfl rfl (fun w hS => r_move hK rfl) fun a hK => ?_
        refine sp (k := 2) rfl hK (Nat.le_of_ble_eq_true rfl) rfl rfl (fun w hS => r_nilCheck hK rfl) fun a hK => ?_
        refine sp (k := 3) rfl hK (Nat.le_of_ble_eq_true rfl) rfl rfl (fun w hS => r_fieldAddr Try.underlying58 rfl Try.sizeOf22 hK rfl) fun a hK => ?_
        refine sp (k := 4) rfl hK (Nat.le_of_ble_eq_true rfl) rfl rfl (fun w hS => r_load Try.isAgg22 hK rfl (hS.cell (.head _) rfl)) fun a hK => ?_
        refine sp (k := 5) rfl hK (Nat.le_of_ble_eq_true rfl) rfl rfl (fun w hS => r_move hK rfl) fun a hK => ?_
        refine sp (k := 6) rfl hK (Nat.le_of_ble_eq_true rfl) rfl rfl (fun w hS => r_nilCheck hK rfl) fun a hK => ?_
        refine sp (k := 7) rfl hK (Nat.le_of_ble_eq_true rfl) rfl rfl (fun w hS => r_fieldAddr Try.underlying58 rfl Try.sizeOf22 hK rfl) fun a hK => ?_
        refine sp (k := 8) rfl hK (Nat.le_of_ble_eq_true rfl) rfl rfl (fun w hS => r_load Try.isAgg22 hK rfl (hS.cell (.head _) rfl)) fun a hK => ?_
        refine sp (k := 9) rfl hK (Nat.le_of_ble_eq_true rfl) rfl rfl (fun w hS => r_len_R Try.underlying22 hs_29 hK rfl) fun a hK => ?_
        refine sp (k := 10) rfl hK (Nat.le_of_ble_eq_true rfl) rfl rfl (fun w hS => r_ibin hK rfl rfl rfl) fun a hK => ?_
        obtain ⟨y_56, h_57, H⟩ := bind_some H
        obtain ⟨v_58, hs_59, hr_60⟩ := r_slice_R (x := .tmp 48) (lo := none) (hi := some (.tmp 54)) Try.underlying22 Try.sizeOf5 hs_29 h_57 hK rfl rfl ⟨_, rfl⟩
        refine sp (k := 11) rfl hK (Nat.le_of_ble_eq_true rfl) rfl rfl (fun w hS => hr_60 _ _ _ _ _ _ _ hK) fun a hK => ?_
        refine thenL_nil ?_
        refine sl hK (Nat.le_of_ble_eq_true rfl) rfl rfl (r_nilCheck hK rfl) fun a hK => ?_
        refine sl hK (Nat.le_of_ble_eq_true rfl) rfl rfl (r_fieldAddr Try.underlying58 rfl Try.sizeOf22 hK rfl) fun a hK => ?_
        refine sl_store1 (c' := [v_58]) Try.sizeOf22 hS hK rfl rfl rfl hs_59.one (Nat.le_of_ble_eq_true rfl) rfl fun a w hS hK => ?_
        refine wpList_nil (NoP_nil ?_)
        refine wp_seq ?_
        refine wp_seq ?_
        refine wp_region_lit ?_
        refine sl hK (Nat.le_of_ble_eq_true rfl) rfl rfl (r_move hK rfl) fun a hK => ?_
        refine sl hK (Nat.le_of_ble_eq_true rfl) rfl rfl (r_move hK rfl) fun a hK => ?_
        refine sl hK (Nat.le_of_ble_eq_true rfl) rfl rfl (r_nilCheck hK rfl) fun a hK => ?_
        refine sl hK (Nat.le_of_ble_eq_true rfl) rfl rfl (r_fieldAddr Try.underlying58 rfl Try.sizeOf22 hK rfl) fun a hK => ?_
        refine sl hK (Nat.le_of_ble_eq_true rfl) rfl rfl (r_load Try.isAgg22 hK rfl (hS.cell (.head _) rfl)) fun a hK => ?_
        obtain ⟨y_61, h_62, H⟩ := bind_some H
        refine sl_callV Try.call32 hS hK (Nat.le_of_ble_eq_true rfl) rfl rfl rfl (crc_Sum.calls y_56 (lentOf_sub [] _) (hs_59.mono hS.rLe0) h_62) fun a w hS hK => ?_
        refine sl hK (Nat.le_of_ble_eq_true rfl) rfl rfl (r_conv Try.underlying62 Try.underlying3 hK rfl) fun a hK => ?_
        refine sl hK (Nat.le_of_ble_eq_true rfl) rfl rfl (r_ibin hK rfl rfl rfl) fun a hK => ?_
        refine wpList_nil ?_
        refine wp_cond_split (hK.ev rfl) (fun (hb_63 : (y_49 != (IntKind.i64.wrap y_61)) = true) => ?_) (fun (hb_63 : (y_49 != (IntKind.i64.wrap y_61)) = false) => ?_)
        · rw [ifb_t hb_63] at H
          refine wp_seq ?_
          refine wp_region_lit ?_
          refine sl hK (Nat.le_of_ble_eq_true rfl) rfl rfl (r_loadA (cs := [.slice none 0 0, .slice none 0 0]) Try.isAgg37 Try.sizeOf37 rfl hK rfl (hS.cells_of (m := 2) (.tail _ (.tail _ (.head _))) rfl)) fun a hK => ?_
          have hS := hS.pk2
          refine sl_storeA (vs := [.slice none 0 0, .slice none 0 0]) (c' := [.slice none 0 0, .slice none 0 0]) Try.sizeOf37 hS hK rfl rfl rfl rfl (all_cons rfl (all_cons rfl (all_nil))) (Nat.le_of_ble_eq_true rfl) rfl fun a w hS hK => ?_
          have hS := hS.pk2
          refine sl_store1 (c' := [.int .i64 40]) Try.sizeOf27 hS hK rfl rfl rfl rfl (Nat.le_of_ble_eq_true rfl) rfl fun a w hS hK => ?_
          refine wpList_nil ?_
          refine wp_ret ?_
          repeat (first | refine ret_then ?_ | refine ret_block ?_ | refine ret_scope ?_)
          refine retD' (KS := [(2, .pointer (some ⟨b_1, 0, none⟩)), (3, .pointer (some ⟨b_2, 0, none⟩))]) (D := [⟨.fn (.func 27) #[], #[.pointer (some ⟨b_2, 0, none⟩)]⟩, ⟨.fn (.func 36) #[.pointer (some ⟨b_2, 0, none⟩), .pointer (some ⟨b_1, 0, none⟩)], #[]⟩]) hK rfl (all_cons rfl (all_cons rfl (all_nil))) fun tm_ ht_ => ?_
          refine caught_ret hS fun w hS => ?_
          have hS := hS.pk1
          have hS := hS.pk1
          refine clo36_zero rfl hS fun w hS => ?_
          have hS := hS.row_nil 48 2
          have hq_65 : Reps ty_api_Col R_26 [] ([] : List api_Col) := Reps.nil _ _
          have hS := hS.row_nil 49 1
          have hq_67 : Reps (tySl ty_api_Value) R_26 [] ([] : List (List api_Value)) := Reps.nil _ _
          obtain rfl := Option.some.inj H
          exact leaves_2 Try.results19 (rt_cell (c := [(.slice none 0 0), (.slice none 0 0)]) (ht_ _ (.head _)) Try.isAgg37 Try.sizeOf37 hS (.tail _ (.tail _ (.head _))) rfl) (rt_cell1 (ht_ _ (.tail _ (.head _))) Try.isAgg27 hS (.tail _ (.tail _ (.tail _ (.head _))))) ⟨_, rfl, _, _, _, _, _, rfl, (hS.pk1.trunc 2), hRL, hq_65, hq_67⟩
        · rw [ifb_f hb_63] at H
          refine wp_skip ?_
          refine wp_seq ?_
          refine wp_seq ?_
          refine wp_region_lit ?_
          refine sl hK (Nat.le_of_ble_eq_true rfl) rfl rfl (r_move hK rfl) fun a hK => ?_
          rcases tc_some H with ⟨h_69, H⟩ | ⟨y_68, h_70, H⟩
          · have hS1 := hS.sp1
            refine sl_callP Try.call38 hK rfl rfl rfl (retsO_bad (wire_reader_number.calls (⟨y_56⟩ : wire_reader) 1 hS1.lend hs_59 h_69)) fun c_ w hp_ => ?_
            obtain ⟨hc_, R_71, hr_, hl_72⟩ := hp_
            subst hc_
            obtain ⟨hS, hl_72⟩ := hS1.back hr_ hl_72
            have hS := hS.un0
            repeat (first | refine pan_then ?_ | refine pan_block ?_ | refine pan_scope ?_ | refine pan_parK ?_ | refine pan_parKK ?_ | refine pan_thenT ?_ | refine pan_thenL ?_)
            have hRL := hRL.trans hl_72
            refine throwD (throwA_of (KS := [(2, .pointer (some ⟨b_1, 0, none⟩)), (3, .pointer (some ⟨b_2, 0, none⟩))]) (D := [⟨.fn (.func 27) #[], #[.pointer (some ⟨b_2, 0, none⟩)]⟩, ⟨.fn (.func 36) #[.pointer (some ⟨b_2, 0, none⟩), .pointer (some ⟨b_1, 0, none⟩)], #[]⟩]) hK rfl (all_cons rfl (all_cons rfl (all_nil))) fun tm_ ht_ => ?_)
            refine caught_pan hS fun w hS => ?_
            have hS := hS.pk1
            have hS := hS.pk1
            refine clo36_zero rfl hS fun w hS => ?_
            have hS := hS.row_nil 48 2
            have hq_74 : Reps ty_api_Col R_71 [] ([] : List api_Col) := Reps.nil _ _
            have hS := hS.row_nil 49 1
            have hq_76 : Reps (tySl ty_api_Value) R_71 [] ([] : List (List api_Value)) := Reps.nil _ _
            obtain rfl := Option.some.inj H
            exact leaves_2 Try.results19 (rt_cell (c := [(.slice none 0 0), (.slice none 0 0)]) (ht_ _ (.head _)) Try.isAgg37 Try.sizeOf37 hS (.tail _ (.tail _ (.head _))) rfl) (rt_cell1 (ht_ _ (.tail _ (.head _))) Try.isAgg27 hS (.tail _ (.tail _ (.tail _ (.head _))))) ⟨_, rfl, _, _, _, _, _, rfl, (hS.pk1.trunc 2), hRL, hq_74, hq_76⟩
          · have hS1 := hS.sp1
            refine sl_call Try.call38 hK (Nat.le_of_ble_eq_true rfl) rfl rfl rfl (retsO_ok (wire_reader_number.calls (⟨y_56⟩ : wire_reader) 1 hS1.lend hs_59 h_70)) fun a v_ w hv_ hK => ?_
            obtain ⟨R_77, v_79, hv_, hr_, hl_78, hs_80⟩ := hv_
            have hv_ := hv_.symm
            subst hv_
            obtain ⟨hS, hl_78⟩ := hS1.back hr_ hl_78
            have hS := hS.un1
            have hRL := hRL.trans hl_78
            refine sl hK (Nat.le_of_ble_eq_true rfl) rfl rfl (r_move hK rfl) fun a hK => ?_
            refine wpList_nil ?_
            refine wp_block ?_
            refine wp_loop_k (fun k_l0 a w => ∃ (x_156 : List api_Col) (x_162 : List Int) (x_163 : Int) (R_164 : Hp) (v_160 : Value) (v_157 : Value) (cs_158 : List Value), wire_Decode.l0 y_68 k_l0 x_156 x_162 x_163 = some r ∧ RLe [] w0 R_77 R_164 ∧ SlR (tyInt .u8) R_164 v_160 x_162 ∧ Reps ty_api_Col R_164 cs_158 x_156 ∧ Kn ⟨130, [⟨.fn (.func 27) #[], #[.pointer (some ⟨b_2, 0, none⟩)]⟩, ⟨.fn (.func 36) #[.pointer (some ⟨b_2, 0, none⟩), .pointer (some ⟨b_1, 0, none⟩)], #[]⟩]⟩ a [(2, .pointer (some ⟨b_1, 0, none⟩)), (3, .pointer (some ⟨b_2, 0, none⟩)), (4, .pointer (some ⟨b_3, 0, none⟩)), (68, .int .i64 y_68.1), (69, .int .i64 x_163)] ∧ St [] w0 w R_164 [.row 48 2 v_157 x_156.length cs_158, .cells b_1 [v_157, .slice none 0 0] 37, .cells b_2 [.int .i64 0] 27, .cells b_3 [v_160] 58]) ((y_68.1 - 0).toNat + 1) ?_ ?_
            · have hS := hS.row_nil 48 2
              have hq_236 : Reps ty_api_Col R_77 [] ([] : List api_Col) := Reps.nil _ _
              have hS := hS.pk1
              have hS := hS.pk2
              have hS := hS.pk3
              have hS := hS.pk3
              exact ⟨[], y_68.2.b, 0, _, v_79, _, _, H, (RLe.refl _ _), hs_80, hq_236, hK.sub (all_cons rfl (all_cons rfl (all_cons rfl (all_cons rfl (all_cons rfl (all_nil)))))), hS⟩
            · rintro k_l0 a w ⟨x_156, x_162, x_163, R_164, v_160, v_157, cs_158, H, hl_165, hs_161, hq_159, hK, hS⟩
              cases k_l0 with
              | zero => cases H
              | succ k_l0 =>
              rw [wire_Decode.l0.eq_2] at H
              have hRL := hRL.trans hl_165
              refine wp_seq ?_
              refine wp_region_lit ?_
              refine sl hK (Nat.le_of_ble_eq_true rfl) rfl rfl (r_ibin hK rfl rfl rfl) fun a hK => ?_
              refine wpList_nil ?_
              refine wp_seq ?_
              refine wp_cond_split (hK.ev rfl) (fun (hb_237 : (decide (x_163 < y_68.1)) = true) => ?_) (fun (hb_237 : (decide (x_163 < y_68.1)) = false) => ?_)
              · rw [ifb_t hb_237] at H
                refine wp_skip ?_
                refine wp_seq ?_
                refine wp_block ?_
                refine wp_seq ?_
                refine wp_region_lit ?_
                refine sl hK (Nat.le_of_ble_eq_true rfl) rfl rfl (r_move hK rfl) fun a hK => ?_
                refine sl hK (Nat.le_of_ble_eq_true rfl) rfl rfl (r_move hK rfl) fun a hK => ?_
                rcases tc_some H with ⟨h_239, H⟩ | ⟨y_238, h_240, H⟩
                · have hS := hS.pk3
                  have hS1 := hS.sp1
                  refine sl_callP Try.call38 hK rfl rfl rfl (retsO_bad (wire_reader_number.calls (⟨x_162⟩ : wire_reader) 1 hS1.lend hs_161 h_239)) fun c_ w hp_ => ?_
                  obtain ⟨hc_, R_241, hr_, hl_242⟩ := hp_
                  subst hc_
                  obtain ⟨hS, hl_242⟩ := hS1.back hr_ hl_242
                  have hS := hS.un0
                  repeat (first | refine pan_then ?_ | refine pan_block ?_ | refine pan_scope ?_ | refine pan_parK ?_ | refine pan_parKK ?_ | refine pan_thenT ?_ | refine pan_thenL ?_)
                  have hRL := hRL.trans hl_242
                  refine throwD (throwA_of (KS := [(2, .pointer (some ⟨b_1, 0, none⟩)), (3, .pointer (some ⟨b_2, 0, none⟩))]) (D := [⟨.fn (.func 27) #[], #[.pointer (some ⟨b_2, 0, none⟩)]⟩, ⟨.fn (.func 36) #[.pointer (some ⟨b_2, 0, none⟩), .pointer (some ⟨b_1, 0, none⟩)], #[]⟩]) hK rfl (all_cons rfl (all_cons rfl (all_nil))) fun tm_ ht_ => ?_)
                  have hS := hS.pk2
                  refine caught_pan hS fun w hS => ?_
                  have hS := hS.pk2
                  have hS := hS.pk1
                  refine clo36_zero rfl hS fun w hS => ?_
                  have hS := hS.row_nil 48 2
                  have hq_244 : Reps ty_api_Col R_241 [] ([] : List api_Col) := Reps.nil _ _
                  have hS := hS.row_nil 49 1
                  have hq_246 : Reps (tySl ty_api_Value) R_241 [] ([] : List (List api_Value)) := Reps.nil _ _
                  obtain rfl := Option.some.inj H
                  exact leaves_2 Try.results19 (rt_cell (c := [(.slice none 0 0), (.slice none 0 0)]) (ht_ _ (.head _)) Try.isAgg37 Try.sizeOf37 hS (.tail _ (.tail _ (.head _))) rfl) (rt_cell1 (ht_ _ (.tail _ (.head _))) Try.isAgg27 hS (.tail _ (.tail _ (.tail _ (.head _))))) ⟨_, rfl, _, _, _, _, _, rfl, (hS.pk1.trunc 2), hRL, hq_244, hq_246⟩
                · have hS := hS.pk3
                  have hS1 := hS.sp1
                  refine sl_call Try.call38 hK (Nat.le_of_ble_eq_true rfl) rfl rfl rfl (retsO_ok (wire_reader_number.calls (⟨x_162⟩ : wire_reader) 1 hS1.lend hs_161 h_240)) fun a v_ w hv_ hK => ?_
                  obtain ⟨R_247, v_249, hv_, hr_, hl_248, hs_250⟩ := hv_
                  have hv_ := hv_.symm
                  subst hv_
                  obtain ⟨hS, hl_248⟩ := hS1.back hr_ hl_248
                  have hS := hS.un1
                  have hRL := hRL.trans hl_248
                  rcases tc_some H with ⟨h_252, H⟩ | ⟨y_251, h_253, H⟩
                  · have hS1 := hS.sp1
                    refine sl_callP Try.call37 hK rfl rfl rfl (retsO_bad (wire_reader_take.calls y_238.2 y_238.1 hS1.lend hs_250 h_252)) fun c_ w hp_ => ?_
                    obtain ⟨hc_, R_254, hr_, hl_255⟩ := hp_
                    subst hc_
                    obtain ⟨hS, hl_255⟩ := hS1.back hr_ hl_255
                    have hS := hS.un0
                    repeat (first | refine pan_then ?_ | refine pan_block ?_ | refine pan_scope ?_ | refine pan_parK ?_ | refine pan_parKK ?_ | refine pan_thenT ?_ | refine pan_thenL ?_)
                    have hRL := hRL.trans hl_255
                    refine throwD (throwA_of (KS := [(2, .pointer (some ⟨b_1, 0, none⟩)), (3, .pointer (some ⟨b_2, 0, none⟩))]) (D := [⟨.fn (.func 27) #[], #[.pointer (some ⟨b_2, 0, none⟩)]⟩, ⟨.fn (.func 36) #[.pointer (some ⟨b_2, 0, none⟩), .pointer (some ⟨b_1, 0, none⟩)], #[]⟩]) hK rfl (all_cons rfl (all_cons rfl (all_nil))) fun tm_ ht_ => ?_)
                    have hS := hS.pk2
                    refine caught_pan hS fun w hS => ?_
                    have hS := hS.pk2
                    have hS := hS.pk1
                    refine clo36_zero rfl hS fun w hS => ?_
                    have hS := hS.row_nil 48 2
                    have hq_257 : Reps ty_api_Col R_254 [] ([] : List api_Col) := Reps.nil _ _
                    have hS := hS.row_nil 49 1
                    have hq_259 : Reps (tySl ty_api_Value) R_254 [] ([] : List (List api_Value)) := Reps.nil _ _
                    obtain rfl := Option.some.inj H
                    exact leaves_2 Try.results19 (rt_cell (c := [(.slice none 0 0), (.slice none 0 0)]) (ht_ _ (.head _)) Try.isAgg37 Try.sizeOf37 hS (.tail _ (.tail _ (.head _))) rfl) (rt_cell1 (ht_ _ (.tail _ (.head _))) Try.isAgg27 hS (.tail _ (.tail _ (.tail _ (.head _))))) ⟨_, rfl, _, _, _, _, _, rfl, (hS.pk1.trunc 2), hRL, hq_257, hq_259⟩
                  · have hS1 := hS.sp1
                    refine sl_call Try.call37 hK (Nat.le_of_ble_eq_true rfl) rfl rfl rfl (retsO_ok (wire_reader_take.calls y_238.2 y_238.1 hS1.lend hs_250 h_253)) fun a v_ w hv_ hK => ?_
                    obtain ⟨R_260, v_262, v_264, hv_, hr_, hl_261, hs_263, hs_265⟩ := hv_
                    have hv_ := hv_.symm
                    subst hv_
                    obtain ⟨hS, hl_261⟩ := hS1.back hr_ hl_261
                    have hS := hS.un1
                    have hRL := hRL.trans hl_261
                    refine sl hK (Nat.le_of_ble_eq_true rfl) rfl rfl (r_conv_bs Try.underlying22 Try.underlying9 Try.underlying5 hs_263 hK rfl hS.sub) fun a hK => ?_
                    refine sl hK (Nat.le_of_ble_eq_true rfl) rfl rfl (r_assign hK rfl) fun a hK => ?_
                    refine wpList_nil ?_
                    refine parT_regionP (C := fun w => St [] w0 w R_260 [.row 48 2 v_157 x_156.length cs_158, .cells b_1 [v_157, .slice none 0 0] 37, .cells b_2 [.int .i64 0] 27]) (KS := [(2, .pointer (some ⟨b_1, 0, none⟩)), (3, .pointer (some ⟨b_2, 0, none⟩))]) (D := [⟨.fn (.func 27) #[], #[.pointer (some ⟨b_2, 0, none⟩)]⟩, ⟨.fn (.func 36) #[.pointer (some ⟨b_2, 0, none⟩), .pointer (some ⟨b_1, 0, none⟩)], #[]⟩]) (Ψ := Away Try.prog Try.f19 (Rets fun v w' => ∃ (R' : Hp) (u0 : Value) (cu0 : List Value) (u1 : Value) (cu1 : List Value), v = .tuple #[.agg #[u0, u1], .int .i64 r.2] ∧ St [] w0 w' R' [.row 48 2 u0 r.1.Cols.length cu0, .row 49 1 u1 r.1.Rows.length cu1] ∧ RLe [] w0 R R' ∧ Reps ty_api_Col R' cu0 r.1.Cols ∧ Reps (tySl ty_api_Value) R' cu1 r.1.Rows) [(2, .pointer (some ⟨b_1, 0, none⟩)), (3, .pointer (some ⟨b_2, 0, none⟩))] [⟨.fn (.func 27) #[], #[.pointer (some ⟨b_2, 0, none⟩)]⟩, ⟨.fn (.func 36) #[.pointer (some ⟨b_2, 0, none⟩), .pointer (some ⟨b_1, 0, none⟩)], #[]⟩] .panicking) 7 [(0, true), (1, true), (2, true), (3, true), (4, false), (5, true), (6, false)] (fun c a w h => by repeat (first | refine pan_then ?_ | refine pan_block ?_ | refine pan_scope ?_ | refine pan_parK ?_ | refine pan_parKK ?_ | refine pan_thenT ?_ | refine pan_thenL ?_); exact throwD h) (by kernel_rfl) mixed (by kernel_rfl) hS (fun w hS => (hS.pk3.pk3.pk3.trunc 3)) fun w hS => ?_
                    refine sp (k := 0) rfl hK (Nat.le_of_ble_eq_true rfl) rfl rfl (fun w hS => r_fieldAddr Try.underlying37 rfl Try.sizeOf34 hK rfl) fun a hK => ?_
                    refine sp (k := 1) rfl hK (Nat.le_of_ble_eq_true rfl) rfl rfl (fun w hS => r_load Try.isAgg34 hK rfl (hS.cell (.tail _ (.head _)) rfl)) fun a hK => ?_
                    refine sp (k := 2) rfl hK (Nat.le_of_ble_eq_true rfl) rfl rfl (fun w hS => r_move hK rfl) fun a hK => ?_
                    refine sp (k := 3) rfl hK (Nat.le_of_ble_eq_true rfl) rfl rfl (fun w hS => r_move hK rfl) fun a hK => ?_
                    refine spw (k := 4) rfl rfl (hS.pk3.pk3.pk3.trunc 3) ?_
                    rcases tc_some H with ⟨h_287, H⟩ | ⟨y_286, h_288, H⟩
                    · have hS1 := hS.sp1
                      refine sl_callP Try.call38 hK rfl rfl rfl (retsO_bad (wire_reader_number.calls y_251.2 1 hS1.lend hs_265 h_287)) fun c_ w hp_ => ?_
                      obtain ⟨hc_, R_289, hr_, hl_290⟩ := hp_
                      subst hc_
                      obtain ⟨hS, hl_290⟩ := hS1.back hr_ hl_290
                      have hS := hS.un0
                      repeat (first | refine pan_then ?_ | refine pan_block ?_ | refine pan_scope ?_ | refine pan_parK ?_ | refine pan_parKK ?_ | refine pan_thenT ?_ | refine pan_thenL ?_)
                      have hRL := hRL.trans hl_290
                      refine pan_PaP (throwA_of (KS := [(2, .pointer (some ⟨b_1, 0, none⟩)), (3, .pointer (some ⟨b_2, 0, none⟩))]) (D := [⟨.fn (.func 27) #[], #[.pointer (some ⟨b_2, 0, none⟩)]⟩, ⟨.fn (.func 36) #[.pointer (some ⟨b_2, 0, none⟩), .pointer (some ⟨b_1, 0, none⟩)], #[]⟩]) hK rfl (all_cons rfl (all_cons rfl (all_nil))) fun tm_ ht_ => ?_)
                      have hS := hS.pk2
                      refine caught_pan hS fun w hS => ?_
                      have hS := hS.pk2
                      have hS := hS.pk1
                      refine clo36_zero rfl hS fun w hS => ?_
                      have hS := hS.row_nil 48 2
                      have hq_292 : Reps ty_api_Col R_289 [] ([] : List api_Col) := Reps.nil _ _
                      have hS := hS.row_nil 49 1
                      have hq_294 : Reps (tySl ty_api_Value) R_289 [] ([] : List (List api_Value)) := Reps.nil _ _
                      obtain rfl := Option.some.inj H
                      exact leaves_2 Try.results19 (rt_cell (c := [(.slice none 0 0), (.slice none 0 0)]) (ht_ _ (.head _)) Try.isAgg37 Try.sizeOf37 hS (.tail _ (.tail _ (.head _))) rfl) (rt_cell1 (ht_ _ (.tail _ (.head _))) Try.isAgg27 hS (.tail _ (.tail _ (.tail _ (.head _))))) ⟨_, rfl, _, _, _, _, _, rfl, (hS.pk1.trunc 2), hRL, hq_292, hq_294⟩
                    · have hS1 := hS.sp1
                      refine sl_call Try.call38 hK (Nat.le_of_ble_eq_true rfl) rfl rfl rfl (retsO_ok (wire_reader_number.calls y_251.2 1 hS1.lend hs_265 h_288)) fun a v_ w hv_ hK => ?_
                      obtain ⟨R_295, v_297, hv_, hr_, hl_296, hs_298⟩ := hv_
                      have hv_ := hv_.symm
                      subst hv_
                      obtain ⟨hS, hl_296⟩ := hS1.back hr_ hl_296
                      have hS := hS.un1
                      have hRL := hRL.trans hl_296
                      refine parK_nil ((hS.pk3.pk3.pk3.trunc 3).lower hl_296.le) ?_
                      refine sp (k := 5) rfl hK (Nat.le_of_ble_eq_true rfl) rfl rfl (fun w hS => r_buildC (ps := [(0, .string (bstr y_251.1)), (1, .int .i64 y_286.1)]) (c := [.string (bstr y_251.1), .int .i64 y_286.1]) Try.underlying48 Try.zeroValue48 places48 hK rfl (pc_cons rfl (pc_cons rfl pc_nil)) rfl rfl) fun a hK => ?_
                      refine spw (k := 6) rfl rfl ((hS.pk3.pk3.pk3.trunc 3).lower hl_296.le) ?_
                      refine sl_buildSliceF (zc := [.string (⟨#[]⟩ : ByteArray), .int .i64 0]) (ps := [(0, .agg #[.string (bstr y_251.1), .int .i64 y_286.1])]) (c := [.string (bstr y_251.1), .int .i64 y_286.1]) [[.string (bstr y_251.1), .int .i64 y_286.1]] Try.underlying34 Try.sizeOf48 Try.zeroValue48 rfl (pc_cons rfl pc_nil) rfl rfl (Nat.le_of_ble_eq_true rfl) rfl (all_cons rfl (all_nil)) rfl hS hK (Nat.le_of_ble_eq_true rfl) rfl fun a w b_299 hS hK => ?_
                      refine parK_nil ((hS.pk4.pk4.pk4.trunc 3).lower hl_296.le) ?_
                      refine thenL_nil ?_
                      obtain ⟨y_300, h_301, H⟩ := bind_some H
                      have hS := hS.pk2
                      refine sl_append_L (ty := ty_api_Col) (ys := [(⟨bstr y_251.1, y_286.1⟩ : api_Col)]) elT34 (by decide) rfl (hq_159.mono (hl_248.le.trans (hl_261.le.trans hl_296.le))) rfl (Reps.cons (show Ty.rep ty_api_Col _ [.string (bstr y_251.1), .int .i64 y_286.1] (⟨bstr y_251.1, y_286.1⟩ : api_Col) from rfl) (Reps.nil _ _)) rfl h_301 hS hK (Nat.le_of_ble_eq_true rfl) rfl rfl rfl fun a w v_302 cs_303 hq_304 hS hK => ?_
                      refine sl hK (Nat.le_of_ble_eq_true rfl) rfl rfl (r_fieldAddr Try.underlying37 rfl Try.sizeOf34 hK rfl) fun a hK => ?_
                      have hS := hS.pk2
                      refine sl_store1 (c' := [v_302, .slice none 0 0]) Try.sizeOf34 hS hK rfl rfl rfl (hS.row_one (.tail _ (.head _))) (Nat.le_of_ble_eq_true rfl) rfl fun a w hS hK => ?_
                      refine wpList_nil (PaP_nil ?_)
                      refine wp_region_lit ?_
                      refine sl hK (Nat.le_of_ble_eq_true rfl) rfl rfl (r_ibin hK rfl rfl rfl) fun a hK => ?_
                      refine sl hK (Nat.le_of_ble_eq_true rfl) rfl rfl (r_move hK rfl) fun a hK => ?_
                      refine wpList_nil ?_
                      have hS := hS.pk2
                      have hS := hS.pk3
                      have hS := hS.pk2
                      have hS := hS.pk3
                      exact ⟨_, Nat.lt_succ_self _, y_300, y_286.2.b, (IntKind.i64.wrap (x_163 + 1)), _, v_297, _, _, H, (hl_165.trans (hl_248.trans (hl_261.trans hl_296))), hs_298, hq_304, hK.sub (all_cons rfl (all_cons rfl (all_cons rfl (all_cons rfl (all_cons rfl (all_nil)))))), hS⟩
              · rw [ifb_f hb_237] at H
                refine wp_exit ?_
                refine wp_seq ?_
                refine wp_seq ?_
                refine wp_region_lit ?_
                refine sl hK (Nat.le_of_ble_eq_true rfl) rfl rfl (r_loadA (cs := [v_157, .slice none 0 0]) Try.isAgg37 Try.sizeOf37 rfl hK rfl (hS.cells_of (m := 2) (.tail _ (.head _)) rfl)) fun a hK => ?_
                obtain ⟨y_306, h_307, H⟩ := bind_some H
                refine sl_callV Try.call30 hS hK (Nat.le_of_ble_eq_true rfl) rfl rfl rfl (table_Check.calls (⟨x_156, []⟩ : api_Table) (lentOf_sub [] _) (hS.lend_row0 (.head _) hq_159 rfl rfl) (SlR.nil (tySl ty_api_Value) _) h_307) fun a w hS hK => ?_
                refine sl hK (Nat.le_of_ble_eq_true rfl) rfl rfl (r_ibin hK rfl rfl rfl) fun a hK => ?_
                refine wpList_nil ?_
                refine wp_cond_split (hK.ev rfl) (fun (hb_308 : (y_306 != 0) = true) => ?_) (fun (hb_308 : (y_306 != 0) = false) => ?_)
                · rw [ifb_t hb_308] at H
                  refine wp_seq ?_
                  refine wp_region_lit ?_
                  refine sl hK (Nat.le_of_ble_eq_true rfl) rfl rfl (r_loadA (cs := [v_157, .slice none 0 0]) Try.isAgg37 Try.sizeOf37 rfl hK rfl (hS.cells_of (m := 2) (.tail _ (.head _)) rfl)) fun a hK => ?_
                  have hS := hS.pk1
                  refine sl_storeA (vs := [v_157, .slice none 0 0]) (c' := [v_157, .slice none 0 0]) Try.sizeOf37 hS hK rfl rfl rfl rfl (all_cons (hS.row_one (.tail _ (.head _))) (all_cons rfl (all_nil))) (Nat.le_of_ble_eq_true rfl) rfl fun a w hS hK => ?_
                  have hS := hS.pk2
                  refine sl_store1 (c' := [.int .i64 40]) Try.sizeOf27 hS hK rfl rfl rfl rfl (Nat.le_of_ble_eq_true rfl) rfl fun a w hS hK => ?_
                  refine wpList_nil ?_
                  refine wp_ret ?_
                  repeat (first | refine ret_then ?_ | refine ret_block ?_ | refine ret_scope ?_)
                  refine retD' (KS := [(2, .pointer (some ⟨b_1, 0, none⟩)), (3, .pointer (some ⟨b_2, 0, none⟩))]) (D := [⟨.fn (.func 27) #[], #[.pointer (some ⟨b_2, 0, none⟩)]⟩, ⟨.fn (.func 36) #[.pointer (some ⟨b_2, 0, none⟩), .pointer (some ⟨b_1, 0, none⟩)], #[]⟩]) hK rfl (all_cons rfl (all_cons rfl (all_nil))) fun tm_ ht_ => ?_
                  refine caught_ret hS fun w hS => ?_
                  have hS := hS.pk1
                  have hS := hS.pk1
                  refine clo36_zero rfl hS fun w hS => ?_
                  have hS := hS.row_nil 48 2
                  have hq_310 : Reps ty_api_Col R_164 [] ([] : List api_Col) := Reps.nil _ _
                  have hS := hS.row_nil 49 1
                  have hq_312 : Reps (tySl ty_api_Value) R_164 [] ([] : List (List api_Value)) := Reps.nil _ _
                  obtain rfl := Option.some.inj H
                  exact leaves_2 Try.results19 (rt_cell (c := [(.slice none 0 0), (.slice none 0 0)]) (ht_ _ (.head _)) Try.isAgg37 Try.sizeOf37 hS (.tail _ (.tail _ (.head _))) rfl) (rt_cell1 (ht_ _ (.tail _ (.head _))) Try.isAgg27 hS (.tail _ (.tail _ (.tail _ (.head _))))) ⟨_, rfl, _, _, _, _, _, rfl, (hS.pk1.trunc 2), hRL, hq_310, hq_312⟩
                · rw [ifb_f hb_308] at H
                  refine wp_skip ?_
                  refine wp_seq ?_
                  refine wp_seq ?_
                  refine wp_region_lit ?_
                  refine sl hK (Nat.le_of_ble_eq_true rfl) rfl rfl (r_move hK rfl) fun a hK => ?_
                  rcases tc_some H with ⟨h_314, H⟩ | ⟨y_313, h_315, H⟩
                  · have hS := hS.pk3
                    have hS1 := hS.sp1
                    refine sl_callP Try.call38 hK rfl rfl rfl (retsO_bad (wire_reader_number.calls (⟨x_162⟩ : wire_reader) 2 hS1.lend hs_161 h_314)) fun c_ w hp_ => ?_
                    obtain ⟨hc_, R_316, hr_, hl_317⟩ := hp_
                    subst hc_
                    obtain ⟨hS, hl_317⟩ := hS1.back hr_ hl_317
                    have hS := hS.un0
                    repeat (first | refine pan_then ?_ | refine pan_block ?_ | refine pan_scope ?_ | refine pan_parK ?_ | refine pan_parKK ?_ | refine pan_thenT ?_ | refine pan_thenL ?_)
                    have hRL := hRL.trans hl_317
                    refine throwD (throwA_of (KS := [(2, .pointer (some ⟨b_1, 0, none⟩)), (3, .pointer (some ⟨b_2, 0, none⟩))]) (D := [⟨.fn (.func 27) #[], #[.pointer (some ⟨b_2, 0, none⟩)]⟩, ⟨.fn (.func 36) #[.pointer (some ⟨b_2, 0, none⟩), .pointer (some ⟨b_1, 0, none⟩)], #[]⟩]) hK rfl (all_cons rfl (all_cons rfl (all_nil))) fun tm_ ht_ => ?_)
                    have hS := hS.pk2
                    refine caught_pan hS fun w hS => ?_
                    have hS := hS.pk2
                    have hS := hS.pk1
                    refine clo36_zero rfl hS fun w hS => ?_
                    have hS := hS.row_nil 48 2
                    have hq_319 : Reps ty_api_Col R_316 [] ([] : List api_Col) := Reps.nil _ _
                    have hS := hS.row_nil 49 1
                    have hq_321 : Reps (tySl ty_api_Value) R_316 [] ([] : List (List api_Value)) := Reps.nil _ _
                    obtain rfl := Option.some.inj H
                    exact leaves_2 Try.results19 (rt_cell (c := [(.slice none 0 0), (.slice none 0 0)]) (ht_ _ (.head _)) Try.isAgg37 Try.sizeOf37 hS (.tail _ (.tail _ (.head _))) rfl) (rt_cell1 (ht_ _ (.tail _ (.head _))) Try.isAgg27 hS (.tail _ (.tail _ (.tail _ (.head _))))) ⟨_, rfl, _, _, _, _, _, rfl, (hS.pk1.trunc 2), hRL, hq_319, hq_321⟩
                  · have hS := hS.pk3
                    have hS1 := hS.sp1
                    refine sl_call Try.call38 hK (Nat.le_of_ble_eq_true rfl) rfl rfl rfl (retsO_ok (wire_reader_number.calls (⟨x_162⟩ : wire_reader) 2 hS1.lend hs_161 h_315)) fun a v_ w hv_ hK => ?_
                    obtain ⟨R_322, v_324, hv_, hr_, hl_323, hs_325⟩ := hv_
                    have hv_ := hv_.symm
                    subst hv_
                    obtain ⟨hS, hl_323⟩ := hS1.back hr_ hl_323
                    have hS := hS.un1
                    have hRL := hRL.trans hl_323
                    refine sl hK (Nat.le_of_ble_eq_true rfl) rfl rfl (r_move hK rfl) fun a hK => ?_
                    refine wpList_nil ?_
                    refine wp_block ?_
                    refine wp_loop_k (fun k_l1 a w => ∃ (x_450 : List (List api_Value)) (x_456 : List Int) (x_457 : Int) (R_458 : Hp) (v_454 : Value) (v_451 : Value) (cs_452 : List Value), wire_Decode.l1 x_156 y_313 k_l1 x_450 x_456 x_457 = some r ∧ RLe [] w0 R_322 R_458 ∧ SlR (tyInt .u8) R_458 v_454 x_456 ∧ Reps (tySl ty_api_Value) R_458 cs_452 x_450 ∧ Kn ⟨130, [⟨.fn (.func 27) #[], #[.pointer (some ⟨b_2, 0, none⟩)]⟩, ⟨.fn (.func 36) #[.pointer (some ⟨b_2, 0, none⟩), .pointer (some ⟨b_1, 0, none⟩)], #[]⟩]⟩ a [(2, .pointer (some ⟨b_1, 0, none⟩)), (3, .pointer (some ⟨b_2, 0, none⟩)), (4, .pointer (some ⟨b_3, 0, none⟩)), (91, .int .i64 y_313.1), (92, .int .i64 x_457)] ∧ St [] w0 w R_458 [.row 48 2 v_157 x_156.length cs_158, .row 49 1 v_451 x_450.length cs_452, .cells b_1 [v_157, v_451] 37, .cells b_2 [.int .i64 0] 27, .cells b_3 [v_454] 58]) ((y_313.1 - 0).toNat + 1) ?_ ?_
                    · have hS := hS.row_nil 49 1
                      have hq_579 : Reps (tySl ty_api_Value) R_322 [] ([] : List (List api_Value)) := Reps.nil _ _
                      have hS := hS.pk1
                      have hS := hS.pk4
                      have hS := hS.pk4
                      have hS := hS.pk3
                      have hS := hS.pk4
                      exact ⟨[], y_313.2.b, 0, _, v_324, _, _, H, (RLe.refl _ _), hs_325, hq_579, hK.sub (all_cons rfl (all_cons rfl (all_cons rfl (all_cons rfl (all_cons rfl (all_nil)))))), hS⟩
                    · rintro k_l1 a w ⟨x_450, x_456, x_457, R_458, v_454, v_451, cs_452, H, hl_459, hs_455, hq_453, hK, hS⟩
                      cases k_l1 with
                      | zero => cases H
                      | succ k_l1 =>
                      rw [wire_Decode.l1.eq_2] at H
                      have hRL := hRL.trans hl_459
                      refine wp_seq ?_
                      refine wp_region_lit ?_
                      refine sl hK (Nat.le_of_ble_eq_true rfl) rfl rfl (r_ibin hK rfl rfl rfl) fun a hK => ?_
                      refine wpList_nil ?_
                      refine wp_seq ?_
                      refine wp_cond_split (hK.ev rfl) (fun (hb_580 : (decide (x_457 < y_313.1)) = true) => ?_) (fun (hb_580 : (decide (x_457 < y_313.1)) = false) => ?_)
                      · rw [ifb_t hb_580] at H
                        refine wp_skip ?_
                        refine wp_seq ?_
                        refine wp_block ?_
                        refine wp_seq ?_
                        refine wp_region_lit ?_
                        refine sl hK (Nat.le_of_ble_eq_true rfl) rfl rfl (r_assign hK rfl) fun a hK => ?_
                        refine wpList_nil ?_
                        refine wp_seq ?_
                        refine wp_seq ?_
                        refine wp_region_lit ?_
                        refine sl hK (Nat.le_of_ble_eq_true rfl) rfl rfl (r_fieldAddr Try.underlying37 rfl Try.sizeOf34 hK rfl) fun a hK => ?_
                        refine sl hK (Nat.le_of_ble_eq_true rfl) rfl rfl (r_load Try.isAgg34 hK rfl (hS.cell (.tail _ (.tail _ (.head _))) rfl)) fun a hK => ?_
                        refine sl hK (Nat.le_of_ble_eq_true rfl) rfl rfl (r_len_O Try.underlying34 hS (.head _) hK rfl) fun a hK => ?_
                        refine sl hK (Nat.le_of_ble_eq_true rfl) rfl rfl (r_move hK rfl) fun a hK => ?_
                        refine wpList_nil ?_
                        refine wp_block ?_
                        refine wp_loop_k (fun k_l2 a w => ∃ (x_616 : List Int) (x_618 : List api_Value) (x_622 : Int) (R_623 : Hp) (v_614 : Value) (v_619 : Value) (cs_620 : List Value), wire_Decode.l2 (wire_Decode.l1 x_156 y_313 k_l1) x_156 y_313 x_450 x_457 k_l2 x_616 x_618 x_622 = some r ∧ RLe [] w0 R_458 R_623 ∧ SlR (tyInt .u8) R_623 v_614 x_616 ∧ Reps ty_api_Value R_623 cs_620 x_618 ∧ Kn ⟨130, [⟨.fn (.func 27) #[], #[.pointer (some ⟨b_2, 0, none⟩)]⟩, ⟨.fn (.func 36) #[.pointer (some ⟨b_2, 0, none⟩), .pointer (some ⟨b_1, 0, none⟩)], #[]⟩]⟩ a [(2, .pointer (some ⟨b_1, 0, none⟩)), (3, .pointer (some ⟨b_2, 0, none⟩)), (4, .pointer (some ⟨b_3, 0, none⟩)), (7, v_619), (91, .int .i64 y_313.1), (92, .int .i64 x_457), (95, v_157), (96, .int .i64 (x_156.length : Int)), (97, .int .i64 x_622)] ∧ St [] w0 w R_623 [.row 48 2 v_157 x_156.length cs_158, .row 49 1 v_451 x_450.length cs_452, .cells b_1 [v_157, v_451] 37, .cells b_2 [.int .i64 0] 27, .cells b_3 [v_614] 58, .row 25 11 v_619 x_618.length cs_620]) (((x_156.length : Int) - 0).toNat + 1) ?_ ?_
                        · have hS := hS.row_nil 25 11
                          have hq_656 : Reps ty_api_Value R_458 [] ([] : List api_Value) := Reps.nil _ _
                          have hS := hS.pk5
                          have hS := hS.pk5
                          have hS := hS.pk5
                          have hS := hS.pk5
                          have hS := hS.pk5
                          exact ⟨x_456, [], 0, _, v_454, _, _, H, (RLe.refl _ _), hs_455, hq_656, hK.sub (all_cons rfl (all_cons rfl (all_cons rfl (all_cons rfl (all_cons rfl (all_cons rfl (all_cons rfl (all_cons rfl (all_cons rfl (all_nil)))))))))), hS⟩
                        · rintro k_l2 a w ⟨x_616, x_618, x_622, R_623, v_614, v_619, cs_620, H, hl_624, hs_615, hq_621, hK, hS⟩
                          cases k_l2 with
                          | zero => cases H
                          | succ k_l2 =>
                          rw [wire_Decode.l2.eq_2] at H
                          have hRL := hRL.trans hl_624
                          refine wp_seq ?_
                          refine wp_region_lit ?_
                          refine sl hK (Nat.le_of_ble_eq_true rfl) rfl rfl (r_ibin hK rfl rfl rfl) fun a hK => ?_
                          refine wpList_nil ?_
                          refine wp_seq ?_
                          refine wp_cond_split (hK.ev rfl) (fun (hb_657 : (decide (x_622 < (x_156.length : Int))) = true) => ?_) (fun (hb_657 : (decide (x_622 < (x_156.length : Int))) = false) => ?_)
                          · rw [ifb_t hb_657] at H
                            refine wp_skip ?_
                            refine wp_seq ?_
                            refine wp_block ?_
                            refine wp_seq ?_
                            refine wp_region_lit ?_
                            obtain ⟨y_658, h_659, H⟩ := bind_some H
                            obtain ⟨b_661, c_662, cs_663, hv_660, hr_664, hc_665, h_6590, h_6591⟩ := hS.row_ix (.head _) (hq_159.mono (hl_323.le.trans (hl_459.le.trans hl_624.le))) rfl rfl h_659
                            subst hr_664
                            refine sl hK (Nat.le_of_ble_eq_true rfl) rfl rfl (r_indexAddr_R Try.underlying34 Try.sizeOf48 hv_660 h_6590 h_6591 hK rfl rfl) fun a hK => ?_
                            refine sl hK (Nat.le_of_ble_eq_true rfl) rfl rfl (r_loadA (cs := [.string y_658.Name, .int .i64 y_658.Kind]) Try.isAgg48 Try.sizeOf48 rfl hK rfl (fun j v hv => by have := hS.row_cell (.head _) hv_660 (hc_665 j v hv); simpa [Nat.add_assoc] using this)) fun a hK => ?_
                            refine sl_alloc Try.zeroValue48 hS hK (Nat.le_of_ble_eq_true rfl) rfl rfl fun a w b_666 hS hK => ?_
                            refine sl_storeA (vs := [.string y_658.Name, .int .i64 y_658.Kind]) (c' := [.string y_658.Name, .int .i64 y_658.Kind]) Try.sizeOf48 hS hK rfl rfl rfl rfl (all_cons rfl (all_cons rfl (all_nil))) (Nat.le_of_ble_eq_true rfl) rfl fun a w hS hK => ?_
                            refine wpList_nil ?_
                            refine wp_region_lit ?_
                            refine sl hK (Nat.le_of_ble_eq_true rfl) rfl rfl (r_move hK rfl) fun a hK => ?_
                            refine sl hK (Nat.le_of_ble_eq_true rfl) rfl rfl (r_move hK rfl) fun a hK => ?_
                            refine sl hK (Nat.le_of_ble_eq_true rfl) rfl rfl (r_fieldAddr Try.underlying48 rfl Try.sizeOf3 hK rfl) fun a hK => ?_
                            refine sl hK (Nat.le_of_ble_eq_true rfl) rfl rfl (r_load Try.isAgg3 hK rfl (hS.cell (.head _) rfl)) fun a hK => ?_
                            rcases tc_some H with ⟨h_668, H⟩ | ⟨y_667, h_669, H⟩
                            · have hS := hS.pk5
                              have hS1 := hS.sp1
                              refine sl_callP Try.call28 hK rfl rfl rfl (retsO_bad (wire_reader_value.calls (⟨x_616⟩ : wire_reader) y_658.Kind hS1.lend hs_615 h_668)) fun c_ w hp_ => ?_
                              obtain ⟨hc_, R_670, hr_, hl_671⟩ := hp_
                              subst hc_
                              obtain ⟨hS, hl_671⟩ := hS1.back hr_ hl_671
                              have hS := hS.un0
                              repeat (first | refine pan_then ?_ | refine pan_block ?_ | refine pan_scope ?_ | refine pan_parK ?_ | refine pan_parKK ?_ | refine pan_thenT ?_ | refine pan_thenL ?_)
                              have hRL := hRL.trans hl_671
                              refine throwD (throwA_of (KS := [(2, .pointer (some ⟨b_1, 0, none⟩)), (3, .pointer (some ⟨b_2, 0, none⟩))]) (D := [⟨.fn (.func 27) #[], #[.pointer (some ⟨b_2, 0, none⟩)]⟩, ⟨.fn (.func 36) #[.pointer (some ⟨b_2, 0, none⟩), .pointer (some ⟨b_1, 0, none⟩)], #[]⟩]) hK rfl (all_cons rfl (all_cons rfl (all_nil))) fun tm_ ht_ => ?_)
                              have hS := hS.pk4
                              refine caught_pan hS fun w hS => ?_
                              have hS := hS.pk4
                              have hS := hS.pk1
                              refine clo36_zero rfl hS fun w hS => ?_
                              have hS := hS.row_nil 48 2
                              have hq_673 : Reps ty_api_Col R_670 [] ([] : List api_Col) := Reps.nil _ _
                              have hS := hS.row_nil 49 1
                              have hq_675 : Reps (tySl ty_api_Value) R_670 [] ([] : List (List api_Value)) := Reps.nil _ _
                              obtain rfl := Option.some.inj H
                              exact leaves_2 Try.results19 (rt_cell (c := [(.slice none 0 0), (.slice none 0 0)]) (ht_ _ (.head _)) Try.isAgg37 Try.sizeOf37 hS (.tail _ (.tail _ (.head _))) rfl) (rt_cell1 (ht_ _ (.tail _ (.head _))) Try.isAgg27 hS (.tail _ (.tail _ (.tail _ (.head _))))) ⟨_, rfl, _, _, _, _, _, rfl, (hS.pk1.trunc 2), hRL, hq_673, hq_675⟩
                            · have hS := hS.pk5
                              have hS1 := hS.sp1
                              refine sl_call Try.call28 hK (Nat.le_of_ble_eq_true rfl) rfl rfl rfl (retsO_ok (wire_reader_value.calls (⟨x_616⟩ : wire_reader) y_658.Kind hS1.lend hs_615 h_669)) fun a v_ w hv_ hK => ?_
                              obtain ⟨R_676, v_678, hv_, hr_, hl_677, hs_679⟩ := hv_
                              have hv_ := hv_.symm
                              subst hv_
                              obtain ⟨hS, hl_677⟩ := hS1.back hr_ hl_677
                              have hS := hS.un1
                              have hRL := hRL.trans hl_677
                              refine sl_buildSliceF (zc := [.int .i64 0, .int .i64 0, .string (⟨#[]⟩ : ByteArray), .int .i64 0, .int .i64 0, .int .i64 0, .int .i64 0, .int .i64 0, .int .i64 0, .int .i64 0, .int .i64 0]) (ps := [(0, .agg #[.int .i64 y_667.1.Kind, .int .i64 y_667.1.N, .string y_667.1.S, .int .i64 y_667.1.H.a0, .int .i64 y_667.1.H.a1, .int .i64 y_667.1.H.a2, .int .i64 y_667.1.H.a3, .int .i64 y_667.1.H.a4, .int .i64 y_667.1.H.a5, .int .i64 y_667.1.H.a6, .int .i64 y_667.1.H.a7])]) (c := [.int .i64 y_667.1.Kind, .int .i64 y_667.1.N, .string y_667.1.S, .int .i64 y_667.1.H.a0, .int .i64 y_667.1.H.a1, .int .i64 y_667.1.H.a2, .int .i64 y_667.1.H.a3, .int .i64 y_667.1.H.a4, .int .i64 y_667.1.H.a5, .int .i64 y_667.1.H.a6, .int .i64 y_667.1.H.a7]) [[.int .i64 y_667.1.Kind, .int .i64 y_667.1.N, .string y_667.1.S, .int .i64 y_667.1.H.a0, .int .i64 y_667.1.H.a1, .int .i64 y_667.1.H.a2, .int .i64 y_667.1.H.a3, .int .i64 y_667.1.H.a4, .int .i64 y_667.1.H.a5, .int .i64 y_667.1.H.a6, .int .i64 y_667.1.H.a7]] Try.underlying49 Try.sizeOf25 Try.zeroValue25 rfl (pc_cons rfl pc_nil) rfl rfl (Nat.le_of_ble_eq_true rfl) rfl (all_cons rfl (all_nil)) rfl hS hK (Nat.le_of_ble_eq_true rfl) rfl fun a w b_680 hS hK => ?_
                              obtain ⟨y_681, h_682, H⟩ := bind_some H
                              have hS := hS.pk7
                              refine sl_append_L (ty := ty_api_Value) (ys := [y_667.1]) elT49 (by decide) rfl (hq_621.mono hl_677.le) rfl (Reps.cons (show Ty.rep ty_api_Value _ [.int .i64 y_667.1.Kind, .int .i64 y_667.1.N, .string y_667.1.S, .int .i64 y_667.1.H.a0, .int .i64 y_667.1.H.a1, .int .i64 y_667.1.H.a2, .int .i64 y_667.1.H.a3, .int .i64 y_667.1.H.a4, .int .i64 y_667.1.H.a5, .int .i64 y_667.1.H.a6, .int .i64 y_667.1.H.a7] y_667.1 from rfl) (Reps.nil _ _)) rfl h_682 hS hK (Nat.le_of_ble_eq_true rfl) rfl rfl rfl fun a w v_683 cs_684 hq_685 hS hK => ?_
                              refine sl hK (Nat.le_of_ble_eq_true rfl) rfl rfl (r_assign hK rfl) fun a hK => ?_
                              refine wpList_nil ?_
                              refine wp_region_lit ?_
                              refine sl hK (Nat.le_of_ble_eq_true rfl) rfl rfl (r_ibin hK rfl rfl rfl) fun a hK => ?_
                              refine sl hK (Nat.le_of_ble_eq_true rfl) rfl rfl (r_move hK rfl) fun a hK => ?_
                              refine wpList_nil ?_
                              have hS := hS.pk1
                              have hS := hS.pk6
                              have hS := hS.pk6
                              have hS := hS.pk6
                              have hS := hS.pk6
                              exact ⟨_, Nat.lt_succ_self _, y_667.2.b, y_681, (IntKind.i64.wrap (x_622 + 1)), _, v_678, _, _, H, (hl_624.trans hl_677), hs_679, hq_685, hK.sub (all_cons rfl (all_cons rfl (all_cons rfl (all_cons rfl (all_cons rfl (all_cons rfl (all_cons rfl (all_cons rfl (all_cons rfl (all_nil)))))))))), hS.trunc 6⟩
                          · rw [ifb_f hb_657] at H
                            refine wp_exit ?_
                            refine wp_region_lit ?_
                            refine sl hK (Nat.le_of_ble_eq_true rfl) rfl rfl (r_fieldAddr Try.underlying37 rfl Try.sizeOf35 hK rfl) fun a hK => ?_
                            refine sl hK (Nat.le_of_ble_eq_true rfl) rfl rfl (r_load Try.isAgg35 hK rfl (hS.cell (.tail _ (.tail _ (.head _))) rfl)) fun a hK => ?_
                            refine sl hK (Nat.le_of_ble_eq_true rfl) rfl rfl (r_move hK rfl) fun a hK => ?_
                            have ho_687 := hS.row_one (.tail _ (.tail _ (.tail _ (.tail _ (.tail _ (.head _))))))
                            refine sl_buildSliceF (zc := [.slice none 0 0]) (ps := [(0, v_619)]) (c := [v_619]) [[v_619]] Try.underlying35 Try.sizeOf49 Try.zeroValue49 rfl (pc_cons (cells1 ho_687) pc_nil) rfl rfl (Nat.le_of_ble_eq_true rfl) rfl (all_cons rfl (all_nil)) rfl hS hK (Nat.le_of_ble_eq_true rfl) rfl fun a w b_688 hS hK => ?_
                            have hS := hS.pk2
                            have hS := hS.pk6
                            obtain ⟨R_689, hS, hl_691, hs_690⟩ := hS.fz_row hq_621 rfl rfl
                            have hRL := hRL.trans hl_691
                            obtain ⟨y_692, h_693, H⟩ := bind_some H
                            refine sl_append_L (ty := (tySl ty_api_Value)) (ys := [x_618]) elT35 (by decide) rfl (hq_453.mono (hl_624.le.trans hl_691.le)) rfl (Reps.cons (show Ty.rep (tySl ty_api_Value) _ [v_619] x_618 from ⟨_, rfl, hs_690⟩) (Reps.nil _ _)) rfl h_693 hS hK (Nat.le_of_ble_eq_true rfl) rfl rfl rfl fun a w v_694 cs_695 hq_696 hS hK => ?_
                            refine sl hK (Nat.le_of_ble_eq_true rfl) rfl rfl (r_fieldAddr Try.underlying37 rfl Try.sizeOf35 hK rfl) fun a hK => ?_
                            have hS := hS.pk2
                            refine sl_store1 (c' := [v_157, v_694]) Try.sizeOf35 hS hK rfl rfl rfl (hS.row_one (.tail _ (.head _))) (Nat.le_of_ble_eq_true rfl) rfl fun a w hS hK => ?_
                            refine wpList_nil ?_
                            refine wp_region_lit ?_
                            refine sl hK (Nat.le_of_ble_eq_true rfl) rfl rfl (r_ibin hK rfl rfl rfl) fun a hK => ?_
                            refine sl hK (Nat.le_of_ble_eq_true rfl) rfl rfl (r_move hK rfl) fun a hK => ?_
                            refine wpList_nil ?_
                            have hS := hS.pk4
                            have hS := hS.pk4
                            have hS := hS.pk2
                            have hS := hS.pk3
                            have hS := hS.pk4
                            exact ⟨_, Nat.lt_succ_self _, y_692, x_616, (IntKind.i64.wrap (x_457 + 1)), _, v_614, _, _, H, (hl_459.trans (hl_624.trans hl_691)), (hs_615.mono hl_691.le), hq_696, hK.sub (all_cons rfl (all_cons rfl (all_cons rfl (all_cons rfl (all_cons rfl (all_nil)))))), hS⟩
                      · rw [ifb_f hb_580] at H
                        refine wp_exit ?_
                        refine wp_seq ?_
                        refine wp_seq ?_
                        refine wp_mid (fun a w => ∃ (x_699 : Bool), wire_Decode.j3 x_156 x_450 x_699 = some r ∧ Kn ⟨130, [⟨.fn (.func 27) #[], #[.pointer (some ⟨b_2, 0, none⟩)]⟩, ⟨.fn (.func 36) #[.pointer (some ⟨b_2, 0, none⟩), .pointer (some ⟨b_1, 0, none⟩)], #[]⟩]⟩ a [(2, .pointer (some ⟨b_1, 0, none⟩)), (3, .pointer (some ⟨b_2, 0, none⟩)), (127, .bool x_699)] ∧ St [] w0 w R_458 [.row 48 2 v_157 x_156.length cs_158, .row 49 1 v_451 x_450.length cs_452, .cells b_1 [v_157, v_451] 37, .cells b_2 [.int .i64 0] 27]) ?_ ?_
                        · refine wp_region_lit ?_
                          refine sl hK (Nat.le_of_ble_eq_true rfl) rfl rfl (r_move hK rfl) fun a hK => ?_
                          refine sl hK (Nat.le_of_ble_eq_true rfl) rfl rfl (r_nilCheck hK rfl) fun a hK => ?_
                          refine sl hK (Nat.le_of_ble_eq_true rfl) rfl rfl (r_fieldAddr Try.underlying58 rfl Try.sizeOf22 hK rfl) fun a hK => ?_
                          refine sl hK (Nat.le_of_ble_eq_true rfl) rfl rfl (r_load Try.isAgg22 hK rfl (hS.cell (.tail _ (.tail _ (.tail _ (.tail _ (.head _))))) rfl)) fun a hK => ?_
                          refine sl hK (Nat.le_of_ble_eq_true rfl) rfl rfl (r_len_R Try.underlying22 hs_455 hK rfl) fun a hK => ?_
                          refine sl hK (Nat.le_of_ble_eq_true rfl) rfl rfl (r_ibin hK rfl rfl rfl) fun a hK => ?_
                          refine sl hK (Nat.le_of_ble_eq_true rfl) rfl rfl (r_move hK rfl) fun a hK => ?_
                          rcases or_b (decide ((x_456.length : Int) > 0)) with hb_701 | hb_701
                          · rw [ifb_t hb_701] at H
                            refine sl_skip hK (Nat.le_of_ble_eq_true rfl) (wft hb_701) rfl fun a hK => ?_
                            refine sl_skip hK (Nat.le_of_ble_eq_true rfl) (wft hb_701) rfl fun a hK => ?_
                            refine sl_skip hK (Nat.le_of_ble_eq_true rfl) (wft hb_701) rfl fun a hK => ?_
                            refine sl_skip hK (Nat.le_of_ble_eq_true rfl) (wft hb_701) rfl fun a hK => ?_
                            refine sl hK (Nat.le_of_ble_eq_true rfl) rfl rfl (r_pick_t hb_701 hK rfl rfl) fun a hK => ?_
                            refine wpList_nil ?_
                            have hS := hS.pk3
                            have hS := hS.pk3
                            have hS := hS.pk3
                            have hS := hS.pk3
                            exact ⟨true, H, hK.sub (all_cons rfl (all_cons rfl (all_cons rfl (all_nil)))), hS.trunc 4⟩
                          · rw [ifb_f hb_701] at H
                            refine sl hK (Nat.le_of_ble_eq_true rfl) (wff hb_701) rfl (r_fieldAddr Try.underlying37 rfl Try.sizeOf35 hK rfl) fun a hK => ?_
                            refine sl hK (Nat.le_of_ble_eq_true rfl) (wff hb_701) rfl (r_load Try.isAgg35 hK rfl (hS.cell (.tail _ (.tail _ (.head _))) rfl)) fun a hK => ?_
                            refine sl hK (Nat.le_of_ble_eq_true rfl) (wff hb_701) rfl (r_len_O Try.underlying35 hS (.tail _ (.head _)) hK rfl) fun a hK => ?_
                            refine sl hK (Nat.le_of_ble_eq_true rfl) (wff hb_701) rfl (r_ibin hK rfl rfl rfl) fun a hK => ?_
                            refine sl hK (Nat.le_of_ble_eq_true rfl) rfl rfl (r_pick_f hb_701 hK rfl rfl) fun a hK => ?_
                            refine wpList_nil ?_
                            have hS := hS.pk3
                            have hS := hS.pk3
                            have hS := hS.pk3
                            have hS := hS.pk3
                            exact ⟨(decide ((x_450.length : Int) > 4096)), H, hK.sub (all_cons rfl (all_cons rfl (all_cons rfl (all_nil)))), hS.trunc 4⟩
                        · rintro a w ⟨x_699, H, hK, hS⟩
                          unfold wire_Decode.j3 at H
                          refine wp_cond_split (hK.ev rfl) (fun (hb_702 : x_699 = true) => ?_) (fun (hb_702 : x_699 = false) => ?_)
                          · rw [ifb_t hb_702] at H
                            refine wp_seq ?_
                            refine wp_region_lit ?_
                            refine sl hK (Nat.le_of_ble_eq_true rfl) rfl rfl (r_loadA (cs := [v_157, v_451]) Try.isAgg37 Try.sizeOf37 rfl hK rfl (hS.cells_of (m := 2) (.tail _ (.tail _ (.head _))) rfl)) fun a hK => ?_
                            have hS := hS.pk2
                            refine sl_storeA (vs := [v_157, v_451]) (c' := [v_157, v_451]) Try.sizeOf37 hS hK rfl rfl rfl rfl (all_cons (hS.row_one (.tail _ (.head _))) (all_cons (hS.row_one (.tail _ (.tail _ (.head _)))) (all_nil))) (Nat.le_of_ble_eq_true rfl) rfl fun a w hS hK => ?_
                            have hS := hS.pk3
                            refine sl_store1 (c' := [.int .i64 40]) Try.sizeOf27 hS hK rfl rfl rfl rfl (Nat.le_of_ble_eq_true rfl) rfl fun a w hS hK => ?_
                            refine wpList_nil ?_
                            refine wp_ret ?_
                            repeat (first | refine ret_then ?_ | refine ret_block ?_ | refine ret_scope ?_)
                            refine retD' (KS := [(2, .pointer (some ⟨b_1, 0, none⟩)), (3, .pointer (some ⟨b_2, 0, none⟩))]) (D := [⟨.fn (.func 27) #[], #[.pointer (some ⟨b_2, 0, none⟩)]⟩, ⟨.fn (.func 36) #[.pointer (some ⟨b_2, 0, none⟩), .pointer (some ⟨b_1, 0, none⟩)], #[]⟩]) hK rfl (all_cons rfl (all_cons rfl (all_nil))) fun tm_ ht_ => ?_
                            refine caught_ret hS fun w hS => ?_
                            have hS := hS.pk1
                            have hS := hS.pk1
                            refine clo36_zero rfl hS fun w hS => ?_
                            have hS := hS.row_nil 48 2
                            have hq_704 : Reps ty_api_Col R_458 [] ([] : List api_Col) := Reps.nil _ _
                            have hS := hS.row_nil 49 1
                            have hq_706 : Reps (tySl ty_api_Value) R_458 [] ([] : List (List api_Value)) := Reps.nil _ _
                            obtain rfl := Option.some.inj H
                            exact leaves_2 Try.results19 (rt_cell (c := [(.slice none 0 0), (.slice none 0 0)]) (ht_ _ (.head _)) Try.isAgg37 Try.sizeOf37 hS (.tail _ (.tail _ (.head _))) rfl) (rt_cell1 (ht_ _ (.tail _ (.head _))) Try.isAgg27 hS (.tail _ (.tail _ (.tail _ (.head _))))) ⟨_, rfl, _, _, _, _, _, rfl, (hS.pk1.trunc 2), hRL, hq_704, hq_706⟩
                          · rw [ifb_f hb_702] at H
                            refine wp_skip ?_
                            refine wp_seq ?_
                            refine wp_region_lit ?_
                            refine sl hK (Nat.le_of_ble_eq_true rfl) rfl rfl (r_loadA (cs := [v_157, v_451]) Try.isAgg37 Try.sizeOf37 rfl hK rfl (hS.cells_of (m := 2) (.tail _ (.tail _ (.head _))) rfl)) fun a hK => ?_
                            have hS := hS.pk2
                            refine sl_storeA (vs := [v_157, v_451]) (c' := [v_157, v_451]) Try.sizeOf37 hS hK rfl rfl rfl rfl (all_cons (hS.row_one (.tail _ (.head _))) (all_cons (hS.row_one (.tail _ (.tail _ (.head _)))) (all_nil))) (Nat.le_of_ble_eq_true rfl) rfl fun a w hS hK => ?_
                            have hS := hS.pk3
                            refine sl_store1 (c' := [.int .i64 0]) Try.sizeOf27 hS hK rfl rfl rfl rfl (Nat.le_of_ble_eq_true rfl) rfl fun a w hS hK => ?_
                            refine wpList_nil ?_
                            refine wp_ret ?_
                            repeat (first | refine ret_then ?_ | refine ret_block ?_ | refine ret_scope ?_)
                            refine retD' (KS := [(2, .pointer (some ⟨b_1, 0, none⟩)), (3, .pointer (some ⟨b_2, 0, none⟩))]) (D := [⟨.fn (.func 27) #[], #[.pointer (some ⟨b_2, 0, none⟩)]⟩, ⟨.fn (.func 36) #[.pointer (some ⟨b_2, 0, none⟩), .pointer (some ⟨b_1, 0, none⟩)], #[]⟩]) hK rfl (all_cons rfl (all_cons rfl (all_nil))) fun tm_ ht_ => ?_
                            refine caught_ret hS fun w hS => ?_
                            have hS := hS.pk1
                            have hS := hS.pk1
                            refine clo36_stay hS fun w hS => ?_
                            obtain rfl := Option.some.inj H
                            exact leaves_2 Try.results19 (rt_cell (c := [v_157, v_451]) (ht_ _ (.head _)) Try.isAgg37 Try.sizeOf37 hS (.head _) rfl) (rt_cell1 (ht_ _ (.tail _ (.head _))) Try.isAgg27 hS (.tail _ (.head _))) ⟨_, rfl, _, _, _, _, _, rfl, (hS.pk3.pk3.trunc 2), hRL, (hq_159.mono (hl_323.le.trans hl_459.le)), hq_453⟩

end Go.Proofs.Ytifijboegibchaa.M
