/- Each Go function of the laws answers as its plain Lean function tells, wherever that tells something. Printed by wip/eng/gen.py. -/
import Derived.Test.YtiegghohcghmkaaWalk2
namespace Go.Proofs.Ytiegghohcghmkaa.M
open Go Go.Eng Go.Proofs Go.RowKit
set_option linter.unusedVariables false
set_option linter.unusedSimpArgs false

/-! ### catchment/catchmentref05.Cols: function 14 -/
set_option maxHeartbeats 4000000 in
set_option maxRecDepth 100000 in
theorem ref05_Cols.calls (a0 : api_Schema) {w0 : World} {R : Hp} {RA : Hp} {v0_0 : Value} {v0_1 : Value} (hRA : RA.sub w0) (hR : R.sub w0) (h0_0 : SlR ty_api_Col RA v0_0 a0.Keys) (h0_1 : SlR ty_api_Col RA v0_1 a0.Vals) {r : List api_Col} (H : ref05_Cols a0 = some r) : Calls Try.prog 14 #[.agg #[.string a0.Name, v0_0, v0_1]] w0 (Rets fun v w' => ∃ (R' : Hp) (u0 : Value) (cu0 : List Value), v = u0 ∧ St [] w0 w' R' [.row 52 2 u0 r.length cu0] ∧ RLe [] w0 R R' ∧ Reps ty_api_Col R' cu0 r) := by
  unfold ref05_Cols at H
  refine enter (args := [.agg #[.string a0.Name, v0_0, v0_1]]) Try.func14 rfl Try.ntmps14 rfl fun a hK => ?_
  have hS := St.init hR
  have hRL := RLe.refl (M := []) w0 R
  refine wp_seq ?_
  refine wp_region_lit ?_
  refine sl_box hS hK (by decide) rfl rfl (c := [.string a0.Name, v0_0, v0_1]) rfl fun a w b_1 hS hK => ?_
  refine sl hK (by decide) rfl rfl (r_assign hK rfl) fun a hK => ?_
  refine wpList_nil ?_
  refine wp_seq ?_
  refine wp_region_lit ?_
  refine sl hK (by decide) rfl rfl (r_buildC (ps := [(0, .string (⟨#[116, 105, 109, 101]⟩ : ByteArray)), (1, .int .i64 1)]) (c := [.string (⟨#[116, 105, 109, 101]⟩ : ByteArray), .int .i64 1]) Try.underlying52 Try.zeroValue52 places52 hK rfl (pc_cons rfl (pc_cons rfl pc_nil)) rfl rfl) fun a hK => ?_
  refine sl_buildSliceF (zc := [.string (⟨#[]⟩ : ByteArray), .int .i64 0]) (ps := [(0, .agg #[.string (⟨#[116, 105, 109, 101]⟩ : ByteArray), .int .i64 1])]) (c := [.string (⟨#[116, 105, 109, 101]⟩ : ByteArray), .int .i64 1]) [[.string (⟨#[116, 105, 109, 101]⟩ : ByteArray), .int .i64 1]] Try.underlying24 Try.sizeOf52 Try.zeroValue52 rfl (pc_cons rfl pc_nil) rfl rfl (Nat.le_of_ble_eq_true rfl) rfl (all_cons rfl (all_nil)) rfl hS hK (by decide) rfl fun a w b_2 hS hK => ?_
  refine sl hK (by decide) rfl rfl (r_assign hK rfl) fun a hK => ?_
  refine wpList_nil ?_
  refine wp_seq ?_
  refine parT_region (C := fun w => St [] w0 w R [.cells b_1 [.string a0.Name, v0_0, v0_1] 26]) 6 [(0, true), (1, true), (2, true), (4, true), (5, true), (3, false)] mixed (by kernel_rfl) hS (fun w hS => (hS.pk1.trunc 1)) fun w hS => ?_
  refine sp (k := 0) rfl hK (by decide) rfl rfl (fun w hS => r_move hK rfl) fun a hK => ?_
  refine sp (k := 1) rfl hK (by decide) rfl rfl (fun w hS => r_fieldAddr Try.underlying26 rfl Try.sizeOf24 hK rfl) fun a hK => ?_
  refine sp (k := 2) rfl hK (by decide) rfl rfl (fun w hS => r_load Try.isAgg24 hK rfl (hS.cell (.head _) rfl)) fun a hK => ?_
  refine sp (k := 4) rfl hK (by decide) rfl rfl (fun w hS => r_fieldAddr Try.underlying26 rfl Try.sizeOf24 hK rfl) fun a hK => ?_
  refine sp (k := 5) rfl hK (by decide) rfl rfl (fun w hS => r_load Try.isAgg24 hK rfl (hS.cell (.head _) rfl)) fun a hK => ?_
  refine spw (k := 3) rfl rfl (hS.pk1.trunc 1) ?_
  obtain ⟨y_19, h_20, H⟩ := bind_some H
  have hS := hS.row_lit (size := 2) (m := 1) rfl (by decide)
  have hq_18 : Reps ty_api_Col R [.string (⟨#[116, 105, 109, 101]⟩ : ByteArray), .int .i64 1] [(⟨(⟨#[116, 105, 109, 101]⟩ : ByteArray), 1⟩ : api_Col)] := (Reps.cons (show Ty.rep ty_api_Col _ [.string (⟨#[116, 105, 109, 101]⟩ : ByteArray), .int .i64 1] (⟨(⟨#[116, 105, 109, 101]⟩ : ByteArray), 1⟩ : api_Col) from rfl) (Reps.nil _ _))
  refine sl_append_A elT24 (by decide) rfl (fun _ _ _ _ h => h) (hS.ra hRA nil_not) hq_18 rfl h0_0 h_20 hS hK (by decide) rfl rfl rfl fun a w v_21 cs_22 hq_23 hS hK => ?_
  refine parK_nil (hS.pk1.trunc 1) ?_
  refine thenL_nil ?_
  obtain ⟨y_25, h_26, H⟩ := bind_some H
  refine sl_append_A elT24 (by decide) rfl (fun _ _ _ _ h => h) (hS.ra hRA nil_not) hq_23 rfl h0_1 h_26 hS hK (by decide) rfl rfl rfl fun a w v_27 cs_28 hq_29 hS hK => ?_
  refine sl hK (by decide) rfl rfl (r_assign hK rfl) fun a hK => ?_
  refine wpList_nil (NoP_nil ?_)
  obtain rfl := Option.some.inj H
  refine wp_ret ?_
  repeat (first | refine ret_then ?_ | refine ret_block ?_ | refine ret_scope ?_)
  exact ret_1 Try.results14 hK (rv_tmp hK rfl) ⟨_, rfl, _, _, _, rfl, (hS.trunc 1), hRL, hq_29⟩

/-! ### catchment/catchmentref05.Word: function 16 -/
set_option maxHeartbeats 4000000 in
set_option maxRecDepth 100000 in
theorem ref05_Word.calls (a0 : ByteArray) {r : Bool} (H : ref05_Word a0 = some r) (w0 : World) : CallsV Try.prog 16 #[.string a0] w0 (.bool r) := by
  unfold ref05_Word at H
  refine enter (args := [.string a0]) Try.func16 rfl Try.ntmps16 rfl fun a hK => ?_
  have hS := St.init (R := fun _ => none) (w := w0) (fun _ _ h => by cases h)
  have hRL := RLe.refl (M := []) w0 (fun _ => none)
  refine wp_seq ?_
  refine wp_region_lit ?_
  refine sl hK (by decide) rfl rfl (r_assign hK rfl) fun a hK => ?_
  refine wpList_nil ?_
  refine wp_seq ?_
  refine wp_region_lit ?_
  refine sl_buildSliceF (zc := [.string (⟨#[]⟩ : ByteArray)]) (ps := [(0, .string (⟨#[102, 101, 116, 99, 104]⟩ : ByteArray)), (1, .string (⟨#[102, 114, 111, 109]⟩ : ByteArray)), (2, .string (⟨#[116, 111]⟩ : ByteArray)), (3, .string (⟨#[119, 104, 101, 114, 101]⟩ : ByteArray)), (4, .string (⟨#[107, 101, 101, 112]⟩ : ByteArray)), (5, .string (⟨#[97, 108, 105, 103, 110]⟩ : ByteArray)), (6, .string (⟨#[103, 114, 111, 117, 112]⟩ : ByteArray)), (7, .string (⟨#[116, 111, 112]⟩ : ByteArray)), (8, .string (⟨#[98, 121]⟩ : ByteArray)), (9, .string (⟨#[106, 111, 105, 110]⟩ : ByteArray)), (10, .string (⟨#[117, 110, 105, 111, 110]⟩ : ByteArray)), (11, .string (⟨#[97, 110, 100]⟩ : ByteArray)), (12, .string (⟨#[111, 114]⟩ : ByteArray)), (13, .string (⟨#[110, 111, 116]⟩ : ByteArray)), (14, .string (⟨#[104, 97, 115]⟩ : ByteArray)), (15, .string (⟨#[116, 114, 117, 101]⟩ : ByteArray)), (16, .string (⟨#[102, 97, 108, 115, 101]⟩ : ByteArray)), (17, .string (⟨#[99, 111, 117, 110, 116]⟩ : ByteArray)), (18, .string (⟨#[115, 117, 109]⟩ : ByteArray)), (19, .string (⟨#[109, 105, 110]⟩ : ByteArray)), (20, .string (⟨#[109, 97, 120]⟩ : ByteArray)), (21, .string (⟨#[109, 101, 97, 110]⟩ : ByteArray)), (22, .string (⟨#[109, 101, 114, 103, 101]⟩ : ByteArray)), (23, .string (⟨#[116, 105, 109, 101]⟩ : ByteArray))]) (c := [.string (⟨#[102, 101, 116, 99, 104]⟩ : ByteArray), .string (⟨#[102, 114, 111, 109]⟩ : ByteArray), .string (⟨#[116, 111]⟩ : ByteArray), .string (⟨#[119, 104, 101, 114, 101]⟩ : ByteArray), .string (⟨#[107, 101, 101, 112]⟩ : ByteArray), .string (⟨#[97, 108, 105, 103, 110]⟩ : ByteArray), .string (⟨#[103, 114, 111, 117, 112]⟩ : ByteArray), .string (⟨#[116, 111, 112]⟩ : ByteArray), .string (⟨#[98, 121]⟩ : ByteArray), .string (⟨#[106, 111, 105, 110]⟩ : ByteArray), .string (⟨#[117, 110, 105, 111, 110]⟩ : ByteArray), .string (⟨#[97, 110, 100]⟩ : ByteArray), .string (⟨#[111, 114]⟩ : ByteArray), .string (⟨#[110, 111, 116]⟩ : ByteArray), .string (⟨#[104, 97, 115]⟩ : ByteArray), .string (⟨#[116, 114, 117, 101]⟩ : ByteArray), .string (⟨#[102, 97, 108, 115, 101]⟩ : ByteArray), .string (⟨#[99, 111, 117, 110, 116]⟩ : ByteArray), .string (⟨#[115, 117, 109]⟩ : ByteArray), .string (⟨#[109, 105, 110]⟩ : ByteArray), .string (⟨#[109, 97, 120]⟩ : ByteArray), .string (⟨#[109, 101, 97, 110]⟩ : ByteArray), .string (⟨#[109, 101, 114, 103, 101]⟩ : ByteArray), .string (⟨#[116, 105, 109, 101]⟩ : ByteArray)]) [[.string (⟨#[102, 101, 116, 99, 104]⟩ : ByteArray)], [.string (⟨#[102, 114, 111, 109]⟩ : ByteArray)], [.string (⟨#[116, 111]⟩ : ByteArray)], [.string (⟨#[119, 104, 101, 114, 101]⟩ : ByteArray)], [.string (⟨#[107, 101, 101, 112]⟩ : ByteArray)], [.string (⟨#[97, 108, 105, 103, 110]⟩ : ByteArray)], [.string (⟨#[103, 114, 111, 117, 112]⟩ : ByteArray)], [.string (⟨#[116, 111, 112]⟩ : ByteArray)], [.string (⟨#[98, 121]⟩ : ByteArray)], [.string (⟨#[106, 111, 105, 110]⟩ : ByteArray)], [.string (⟨#[117, 110, 105, 111, 110]⟩ : ByteArray)], [.string (⟨#[97, 110, 100]⟩ : ByteArray)], [.string (⟨#[111, 114]⟩ : ByteArray)], [.string (⟨#[110, 111, 116]⟩ : ByteArray)], [.string (⟨#[104, 97, 115]⟩ : ByteArray)], [.string (⟨#[116, 114, 117, 101]⟩ : ByteArray)], [.string (⟨#[102, 97, 108, 115, 101]⟩ : ByteArray)], [.string (⟨#[99, 111, 117, 110, 116]⟩ : ByteArray)], [.string (⟨#[115, 117, 109]⟩ : ByteArray)], [.string (⟨#[109, 105, 110]⟩ : ByteArray)], [.string (⟨#[109, 97, 120]⟩ : ByteArray)], [.string (⟨#[109, 101, 97, 110]⟩ : ByteArray)], [.string (⟨#[109, 101, 114, 103, 101]⟩ : ByteArray)], [.string (⟨#[116, 105, 109, 101]⟩ : ByteArray)]] Try.underlying55 Try.sizeOf9 Try.zeroValue9 rfl (pc_cons rfl (pc_cons rfl (pc_cons rfl (pc_cons rfl (pc_cons rfl (pc_cons rfl (pc_cons rfl (pc_cons rfl (pc_cons rfl (pc_cons rfl (pc_cons rfl (pc_cons rfl (pc_cons rfl (pc_cons rfl (pc_cons rfl (pc_cons rfl (pc_cons rfl (pc_cons rfl (pc_cons rfl (pc_cons rfl (pc_cons rfl (pc_cons rfl (pc_cons rfl (pc_cons rfl pc_nil)))))))))))))))))))))))) rfl rfl (Nat.le_of_ble_eq_true rfl) rfl (all_cons rfl (all_cons rfl (all_cons rfl (all_cons rfl (all_cons rfl (all_cons rfl (all_cons rfl (all_cons rfl (all_cons rfl (all_cons rfl (all_cons rfl (all_cons rfl (all_cons rfl (all_cons rfl (all_cons rfl (all_cons rfl (all_cons rfl (all_cons rfl (all_cons rfl (all_cons rfl (all_cons rfl (all_cons rfl (all_cons rfl (all_cons rfl (all_nil))))))))))))))))))))))))) rfl hS hK (by decide) rfl fun a w b_1 hS hK => ?_
  refine sl hK (by decide) rfl rfl (r_assign hK rfl) fun a hK => ?_
  refine wpList_nil ?_
  refine wp_seq ?_
  refine wp_seq ?_
  refine wp_region_lit ?_
  refine sl hK (by decide) rfl rfl (r_assign hK rfl) fun a hK => ?_
  refine wpList_nil ?_
  refine wp_block ?_
  refine wp_loop_k (fun k_l0 a w => ∃ (x_19 : List ByteArray) (x_23 : Int) (v_20 : Value) (cs_21 : List Value), ref05_Word.l0 a0 k_l0 x_19 x_23 = some r ∧ Reps tyStr (fun _ => none) cs_21 x_19 ∧ Kn 31 a [(0, .string a0), (3, v_20), (4, .int .i64 x_23)] ∧ St [] w0 w (fun _ => none) [.row 9 1 v_20 x_19.length cs_21]) (((24 : Int) - 0).toNat + 1) ?_ ?_
  · have hS := hS.row_lit (size := 1) (m := 24) rfl (by decide)
    have hq_36 : Reps tyStr (fun _ => none) [.string (⟨#[102, 101, 116, 99, 104]⟩ : ByteArray), .string (⟨#[102, 114, 111, 109]⟩ : ByteArray), .string (⟨#[116, 111]⟩ : ByteArray), .string (⟨#[119, 104, 101, 114, 101]⟩ : ByteArray), .string (⟨#[107, 101, 101, 112]⟩ : ByteArray), .string (⟨#[97, 108, 105, 103, 110]⟩ : ByteArray), .string (⟨#[103, 114, 111, 117, 112]⟩ : ByteArray), .string (⟨#[116, 111, 112]⟩ : ByteArray), .string (⟨#[98, 121]⟩ : ByteArray), .string (⟨#[106, 111, 105, 110]⟩ : ByteArray), .string (⟨#[117, 110, 105, 111, 110]⟩ : ByteArray), .string (⟨#[97, 110, 100]⟩ : ByteArray), .string (⟨#[111, 114]⟩ : ByteArray), .string (⟨#[110, 111, 116]⟩ : ByteArray), .string (⟨#[104, 97, 115]⟩ : ByteArray), .string (⟨#[116, 114, 117, 101]⟩ : ByteArray), .string (⟨#[102, 97, 108, 115, 101]⟩ : ByteArray), .string (⟨#[99, 111, 117, 110, 116]⟩ : ByteArray), .string (⟨#[115, 117, 109]⟩ : ByteArray), .string (⟨#[109, 105, 110]⟩ : ByteArray), .string (⟨#[109, 97, 120]⟩ : ByteArray), .string (⟨#[109, 101, 97, 110]⟩ : ByteArray), .string (⟨#[109, 101, 114, 103, 101]⟩ : ByteArray), .string (⟨#[116, 105, 109, 101]⟩ : ByteArray)] [(⟨#[102, 101, 116, 99, 104]⟩ : ByteArray), (⟨#[102, 114, 111, 109]⟩ : ByteArray), (⟨#[116, 111]⟩ : ByteArray), (⟨#[119, 104, 101, 114, 101]⟩ : ByteArray), (⟨#[107, 101, 101, 112]⟩ : ByteArray), (⟨#[97, 108, 105, 103, 110]⟩ : ByteArray), (⟨#[103, 114, 111, 117, 112]⟩ : ByteArray), (⟨#[116, 111, 112]⟩ : ByteArray), (⟨#[98, 121]⟩ : ByteArray), (⟨#[106, 111, 105, 110]⟩ : ByteArray), (⟨#[117, 110, 105, 111, 110]⟩ : ByteArray), (⟨#[97, 110, 100]⟩ : ByteArray), (⟨#[111, 114]⟩ : ByteArray), (⟨#[110, 111, 116]⟩ : ByteArray), (⟨#[104, 97, 115]⟩ : ByteArray), (⟨#[116, 114, 117, 101]⟩ : ByteArray), (⟨#[102, 97, 108, 115, 101]⟩ : ByteArray), (⟨#[99, 111, 117, 110, 116]⟩ : ByteArray), (⟨#[115, 117, 109]⟩ : ByteArray), (⟨#[109, 105, 110]⟩ : ByteArray), (⟨#[109, 97, 120]⟩ : ByteArray), (⟨#[109, 101, 97, 110]⟩ : ByteArray), (⟨#[109, 101, 114, 103, 101]⟩ : ByteArray), (⟨#[116, 105, 109, 101]⟩ : ByteArray)] := (Reps.cons (show Ty.rep tyStr _ [.string (⟨#[102, 101, 116, 99, 104]⟩ : ByteArray)] (⟨#[102, 101, 116, 99, 104]⟩ : ByteArray) from rfl) (Reps.cons (show Ty.rep tyStr _ [.string (⟨#[102, 114, 111, 109]⟩ : ByteArray)] (⟨#[102, 114, 111, 109]⟩ : ByteArray) from rfl) (Reps.cons (show Ty.rep tyStr _ [.string (⟨#[116, 111]⟩ : ByteArray)] (⟨#[116, 111]⟩ : ByteArray) from rfl) (Reps.cons (show Ty.rep tyStr _ [.string (⟨#[119, 104, 101, 114, 101]⟩ : ByteArray)] (⟨#[119, 104, 101, 114, 101]⟩ : ByteArray) from rfl) (Reps.cons (show Ty.rep tyStr _ [.string (⟨#[107, 101, 101, 112]⟩ : ByteArray)] (⟨#[107, 101, 101, 112]⟩ : ByteArray) from rfl) (Reps.cons (show Ty.rep tyStr _ [.string (⟨#[97, 108, 105, 103, 110]⟩ : ByteArray)] (⟨#[97, 108, 105, 103, 110]⟩ : ByteArray) from rfl) (Reps.cons (show Ty.rep tyStr _ [.string (⟨#[103, 114, 111, 117, 112]⟩ : ByteArray)] (⟨#[103, 114, 111, 117, 112]⟩ : ByteArray) from rfl) (Reps.cons (show Ty.rep tyStr _ [.string (⟨#[116, 111, 112]⟩ : ByteArray)] (⟨#[116, 111, 112]⟩ : ByteArray) from rfl) (Reps.cons (show Ty.rep tyStr _ [.string (⟨#[98, 121]⟩ : ByteArray)] (⟨#[98, 121]⟩ : ByteArray) from rfl) (Reps.cons (show Ty.rep tyStr _ [.string (⟨#[106, 111, 105, 110]⟩ : ByteArray)] (⟨#[106, 111, 105, 110]⟩ : ByteArray) from rfl) (Reps.cons (show Ty.rep tyStr _ [.string (⟨#[117, 110, 105, 111, 110]⟩ : ByteArray)] (⟨#[117, 110, 105, 111, 110]⟩ : ByteArray) from rfl) (Reps.cons (show Ty.rep tyStr _ [.string (⟨#[97, 110, 100]⟩ : ByteArray)] (⟨#[97, 110, 100]⟩ : ByteArray) from rfl) (Reps.cons (show Ty.rep tyStr _ [.string (⟨#[111, 114]⟩ : ByteArray)] (⟨#[111, 114]⟩ : ByteArray) from rfl) (Reps.cons (show Ty.rep tyStr _ [.string (⟨#[110, 111, 116]⟩ : ByteArray)] (⟨#[110, 111, 116]⟩ : ByteArray) from rfl) (Reps.cons (show Ty.rep tyStr _ [.string (⟨#[104, 97, 115]⟩ : ByteArray)] (⟨#[104, 97, 115]⟩ : ByteArray) from rfl) (Reps.cons (show Ty.rep tyStr _ [.string (⟨#[116, 114, 117, 101]⟩ : ByteArray)] (⟨#[116, 114, 117, 101]⟩ : ByteArray) from rfl) (Reps.cons (show Ty.rep tyStr _ [.string (⟨#[102, 97, 108, 115, 101]⟩ : ByteArray)] (⟨#[102, 97, 108, 115, 101]⟩ : ByteArray) from rfl) (Reps.cons (show Ty.rep tyStr _ [.string (⟨#[99, 111, 117, 110, 116]⟩ : ByteArray)] (⟨#[99, 111, 117, 110, 116]⟩ : ByteArray) from rfl) (Reps.cons (show Ty.rep tyStr _ [.string (⟨#[115, 117, 109]⟩ : ByteArray)] (⟨#[115, 117, 109]⟩ : ByteArray) from rfl) (Reps.cons (show Ty.rep tyStr _ [.string (⟨#[109, 105, 110]⟩ : ByteArray)] (⟨#[109, 105, 110]⟩ : ByteArray) from rfl) (Reps.cons (show Ty.rep tyStr _ [.string (⟨#[109, 97, 120]⟩ : ByteArray)] (⟨#[109, 97, 120]⟩ : ByteArray) from rfl) (Reps.cons (show Ty.rep tyStr _ [.string (⟨#[109, 101, 97, 110]⟩ : ByteArray)] (⟨#[109, 101, 97, 110]⟩ : ByteArray) from rfl) (Reps.cons (show Ty.rep tyStr _ [.string (⟨#[109, 101, 114, 103, 101]⟩ : ByteArray)] (⟨#[109, 101, 114, 103, 101]⟩ : ByteArray) from rfl) (Reps.cons (show Ty.rep tyStr _ [.string (⟨#[116, 105, 109, 101]⟩ : ByteArray)] (⟨#[116, 105, 109, 101]⟩ : ByteArray) from rfl) (Reps.nil _ _)))))))))))))))))))))))))
    exact ⟨[(⟨#[102, 101, 116, 99, 104]⟩ : ByteArray), (⟨#[102, 114, 111, 109]⟩ : ByteArray), (⟨#[116, 111]⟩ : ByteArray), (⟨#[119, 104, 101, 114, 101]⟩ : ByteArray), (⟨#[107, 101, 101, 112]⟩ : ByteArray), (⟨#[97, 108, 105, 103, 110]⟩ : ByteArray), (⟨#[103, 114, 111, 117, 112]⟩ : ByteArray), (⟨#[116, 111, 112]⟩ : ByteArray), (⟨#[98, 121]⟩ : ByteArray), (⟨#[106, 111, 105, 110]⟩ : ByteArray), (⟨#[117, 110, 105, 111, 110]⟩ : ByteArray), (⟨#[97, 110, 100]⟩ : ByteArray), (⟨#[111, 114]⟩ : ByteArray), (⟨#[110, 111, 116]⟩ : ByteArray), (⟨#[104, 97, 115]⟩ : ByteArray), (⟨#[116, 114, 117, 101]⟩ : ByteArray), (⟨#[102, 97, 108, 115, 101]⟩ : ByteArray), (⟨#[99, 111, 117, 110, 116]⟩ : ByteArray), (⟨#[115, 117, 109]⟩ : ByteArray), (⟨#[109, 105, 110]⟩ : ByteArray), (⟨#[109, 97, 120]⟩ : ByteArray), (⟨#[109, 101, 97, 110]⟩ : ByteArray), (⟨#[109, 101, 114, 103, 101]⟩ : ByteArray), (⟨#[116, 105, 109, 101]⟩ : ByteArray)], 0, _, _, H, hq_36, hK.sub (all_cons rfl (all_cons rfl (all_cons rfl (all_nil)))), hS⟩
  · rintro k_l0 a w ⟨x_19, x_23, v_20, cs_21, H, hq_22, hK, hS⟩
    cases k_l0 with
    | zero => cases H
    | succ k_l0 =>
    rw [ref05_Word.l0.eq_2] at H
    refine wp_seq ?_
    refine wp_seq ?_
    refine wp_region_lit ?_
    refine sl hK (by decide) rfl rfl (r_move hK rfl) fun a hK => ?_
    refine sl hK (by decide) rfl rfl (r_move hK rfl) fun a hK => ?_
    refine sl hK (by decide) rfl rfl (r_len_O Try.underlying55 hS (.head _) hK rfl) fun a hK => ?_
    refine sl hK (by decide) rfl rfl (r_ibin hK rfl rfl rfl) fun a hK => ?_
    refine wpList_nil ?_
    refine wp_cond_split (hK.ev rfl) (fun (hb_37 : (decide (x_23 < (x_19.length : Int))) = true) => ?_) (fun (hb_37 : (decide (x_23 < (x_19.length : Int))) = false) => ?_)
    · rw [ifb_t hb_37] at H
      refine wp_skip ?_
      refine wp_seq ?_
      refine wp_block ?_
      refine wp_seq ?_
      refine wp_region_lit ?_
      refine sl hK (by decide) rfl rfl (r_move hK rfl) fun a hK => ?_
      refine sl hK (by decide) rfl rfl (r_move hK rfl) fun a hK => ?_
      refine sl hK (by decide) rfl rfl (r_move hK rfl) fun a hK => ?_
      obtain ⟨y_38, h_39, H⟩ := bind_some H
      obtain ⟨b_41, c_42, cs_43, hv_40, hr_44, hc_45, h_390, h_391⟩ := hS.row_ix (.head _) hq_22 rfl rfl h_39
      subst hr_44
      refine sl hK (by decide) rfl rfl (r_indexAddr_R Try.underlying55 Try.sizeOf9 hv_40 h_390 h_391 hK rfl rfl) fun a hK => ?_
      refine sl hK (by decide) rfl rfl (r_load Try.isAgg9 hK rfl (hS.row_cell (.head _) hv_40 (hc_45 0 _ rfl))) fun a hK => ?_
      refine sl hK (by decide) rfl rfl (r_sbin hK rfl rfl rfl) fun a hK => ?_
      refine wpList_nil ?_
      refine wp_cond_split (hK.ev rfl) (fun (hb_46 : (a0.toList == y_38.toList) = true) => ?_) (fun (hb_46 : (a0.toList == y_38.toList) = false) => ?_)
      · rw [ifb_t hb_46] at H
        refine wp_seq ?_
        refine wp_region_lit ?_
        refine sl hK (by decide) rfl rfl (r_assign hK rfl) fun a hK => ?_
        refine wpList_nil ?_
        obtain rfl := Option.some.inj H
        refine wp_ret ?_
        repeat (first | refine ret_then ?_ | refine ret_block ?_ | refine ret_scope ?_)
        exact ret_1 Try.results16 hK (rv_tmp hK rfl) ⟨rfl, hS.bel⟩
      · rw [ifb_f hb_46] at H
        refine wp_skip ?_
        refine wp_region_lit ?_
        refine sl hK (by decide) rfl rfl (r_move hK rfl) fun a hK => ?_
        refine sl hK (by decide) rfl rfl (r_ibin hK rfl rfl rfl) fun a hK => ?_
        refine sl hK (by decide) rfl rfl (r_assign hK rfl) fun a hK => ?_
        refine wpList_nil ?_
        exact ⟨_, Nat.lt_succ_self _, x_19, (IntKind.i64.wrap (x_23 + 1)), _, _, H, hq_22, hK.sub (all_cons rfl (all_cons rfl (all_cons rfl (all_nil)))), hS⟩
    · rw [ifb_f hb_37] at H
      refine wp_exit ?_
      refine wp_seq ?_
      refine wp_seq ?_
      refine wp_region_lit ?_
      refine sl hK (by decide) rfl rfl (r_assign hK rfl) fun a hK => ?_
      refine wpList_nil ?_
      refine wp_block ?_
      refine wp_loop_k (fun k_l1 a w => ∃ (x_52 : Int), ref05_Word.l1 a0 k_l1 x_52 = some r ∧ Kn 31 a [(0, .string a0), (5, .int .i64 x_52)] ∧ St [] w0 w (fun _ => none) []) (((a0.size : Int) - 0).toNat + 1) ?_ ?_
      · exact ⟨0, H, hK.sub (all_cons rfl (all_cons rfl (all_nil))), hS.trunc 0⟩
      · rintro k_l1 a w ⟨x_52, H, hK, hS⟩
        cases k_l1 with
        | zero => cases H
        | succ k_l1 =>
        rw [ref05_Word.l1.eq_2] at H
        refine wp_seq ?_
        refine wp_seq ?_
        refine wp_region_lit ?_
        refine sl hK (by decide) rfl rfl (r_move hK rfl) fun a hK => ?_
        refine sl hK (by decide) rfl rfl (r_move hK rfl) fun a hK => ?_
        refine sl hK (by decide) rfl rfl (r_len_str Try.underlying9 hK rfl) fun a hK => ?_
        refine sl hK (by decide) rfl rfl (r_ibin hK rfl rfl rfl) fun a hK => ?_
        refine wpList_nil ?_
        refine wp_cond_split (hK.ev rfl) (fun (hb_58 : (decide (x_52 < (a0.size : Int))) = true) => ?_) (fun (hb_58 : (decide (x_52 < (a0.size : Int))) = false) => ?_)
        · rw [ifb_t hb_58] at H
          refine wp_skip ?_
          refine wp_seq ?_
          refine wp_block ?_
          refine wp_seq ?_
          refine wp_region_lit ?_
          refine sl hK (by decide) rfl rfl (r_move hK rfl) fun a hK => ?_
          refine sl hK (by decide) rfl rfl (r_move hK rfl) fun a hK => ?_
          obtain ⟨y_59, h_60, H⟩ := bind_some H
          refine sl hK (by decide) rfl rfl (r_index_str' Try.underlying9 h_60 hK rfl rfl) fun a hK => ?_
          refine sl hK (by decide) rfl rfl (r_ibin hK rfl rfl rfl) fun a hK => ?_
          refine wpList_nil ?_
          refine wp_cond_split (hK.ev rfl) (fun (hb_61 : (y_59 == 35) = true) => ?_) (fun (hb_61 : (y_59 == 35) = false) => ?_)
          · rw [ifb_t hb_61] at H
            refine wp_seq ?_
            refine wp_region_lit ?_
            refine sl hK (by decide) rfl rfl (r_assign hK rfl) fun a hK => ?_
            refine wpList_nil ?_
            obtain rfl := Option.some.inj H
            refine wp_ret ?_
            repeat (first | refine ret_then ?_ | refine ret_block ?_ | refine ret_scope ?_)
            exact ret_1 Try.results16 hK (rv_tmp hK rfl) ⟨rfl, hS.bel⟩
          · rw [ifb_f hb_61] at H
            refine wp_skip ?_
            refine wp_region_lit ?_
            refine sl hK (by decide) rfl rfl (r_move hK rfl) fun a hK => ?_
            refine sl hK (by decide) rfl rfl (r_ibin hK rfl rfl rfl) fun a hK => ?_
            refine sl hK (by decide) rfl rfl (r_assign hK rfl) fun a hK => ?_
            refine wpList_nil ?_
            exact ⟨_, Nat.lt_succ_self _, (IntKind.i64.wrap (x_52 + 1)), H, hK.sub (all_cons rfl (all_cons rfl (all_nil))), hS⟩
        · rw [ifb_f hb_58] at H
          refine wp_exit ?_
          refine wp_seq ?_
          refine wp_region_lit ?_
          refine sl hK (by decide) rfl rfl (r_move hK rfl) fun a hK => ?_
          obtain ⟨y_62, h_63, H⟩ := bind_some H
          refine sl_callV Try.call27 hS hK (by decide) rfl rfl rfl (ref02_Name.calls a0 h_63 _) fun a w hS hK => ?_
          refine sl hK (by decide) rfl rfl (r_assign hK rfl) fun a hK => ?_
          refine wpList_nil ?_
          obtain rfl := Option.some.inj H
          refine wp_ret ?_
          repeat (first | refine ret_then ?_ | refine ret_block ?_ | refine ret_scope ?_)
          exact ret_1 Try.results16 hK (rv_tmp hK rfl) ⟨rfl, hS.bel⟩

/-! ### catchment/catchmentref05.One: function 31 -/
set_option maxHeartbeats 4000000 in
set_option maxRecDepth 100000 in
theorem ref05_One.calls (a0 : api_Schema) {w0 : World} {RA : Hp} {v0_0 : Value} {v0_1 : Value} (hRA : RA.sub w0) (h0_0 : SlR ty_api_Col RA v0_0 a0.Keys) (h0_1 : SlR ty_api_Col RA v0_1 a0.Vals) {r : Bool} (H : ref05_One a0 = some r) : CallsV Try.prog 31 #[.agg #[.string a0.Name, v0_0, v0_1]] w0 (.bool r) := by
  unfold ref05_One at H
  refine enter (args := [.agg #[.string a0.Name, v0_0, v0_1]]) Try.func31 rfl Try.ntmps31 rfl fun a hK => ?_
  have hS := St.init (R := fun _ => none) (w := w0) (fun _ _ h => by cases h)
  have hRL := RLe.refl (M := []) w0 (fun _ => none)
  refine wp_seq ?_
  refine wp_region_lit ?_
  refine sl_box hS hK (by decide) rfl rfl (c := [.string a0.Name, v0_0, v0_1]) rfl fun a w b_1 hS hK => ?_
  refine sl hK (by decide) rfl rfl (r_assign hK rfl) fun a hK => ?_
  refine wpList_nil ?_
  refine wp_seq ?_
  refine wp_seq ?_
  refine wp_mid (fun a w => ∃ (x_8 : Bool), ref05_One.j0 a0 x_8 = some r ∧ Kn 70 a [(1, .pointer (some ⟨b_1, 0, none⟩)), (32, .bool x_8)] ∧ St [] w0 w (fun _ => none) [.cells b_1 [.string a0.Name, v0_0, v0_1] 26]) ?_ ?_
  · refine wp_region_lit ?_
    refine sl hK (by decide) rfl rfl (r_fieldAddr Try.underlying26 rfl Try.sizeOf9 hK rfl) fun a hK => ?_
    refine sl hK (by decide) rfl rfl (r_load Try.isAgg9 hK rfl (hS.cell (.head _) rfl)) fun a hK => ?_
    obtain ⟨y_10, h_11, H⟩ := bind_some H
    refine sl_callV Try.call16 hS hK (by decide) rfl rfl rfl (ref05_Word.calls a0.Name h_11 _) fun a w hS hK => ?_
    refine sl hK (by decide) rfl rfl (r_un hK rfl (u_not _)) fun a hK => ?_
    refine sl hK (by decide) rfl rfl (r_move hK rfl) fun a hK => ?_
    rcases or_b (!y_10) with hb_12 | hb_12
    · rw [ifb_t hb_12] at H
      refine sl_skip hK (by decide) (wft hb_12) rfl fun a hK => ?_
      refine sl_skip hK (by decide) (wft hb_12) rfl fun a hK => ?_
      refine sl_skip hK (by decide) (wft hb_12) rfl fun a hK => ?_
      refine sl_skip hK (by decide) (wft hb_12) rfl fun a hK => ?_
      refine sl hK (by decide) rfl rfl (r_pick_t hb_12 hK rfl rfl) fun a hK => ?_
      refine sl hK (by decide) rfl rfl (r_move hK rfl) fun a hK => ?_
      refine sl_skip hK (by decide) rfl rfl fun a hK => ?_
      refine sl_skip hK (by decide) rfl rfl fun a hK => ?_
      refine sl_skip hK (by decide) rfl rfl fun a hK => ?_
      refine sl_skip hK (by decide) rfl rfl fun a hK => ?_
      refine sl hK (by decide) rfl rfl (r_pick hK rfl rfl rfl) fun a hK => ?_
      refine sl hK (by decide) rfl rfl (r_move hK rfl) fun a hK => ?_
      refine sl_skip hK (by decide) rfl rfl fun a hK => ?_
      refine sl_skip hK (by decide) rfl rfl fun a hK => ?_
      refine sl_skip hK (by decide) rfl rfl fun a hK => ?_
      refine sl_skip hK (by decide) rfl rfl fun a hK => ?_
      refine sl hK (by decide) rfl rfl (r_pick hK rfl rfl rfl) fun a hK => ?_
      refine sl hK (by decide) rfl rfl (r_move hK rfl) fun a hK => ?_
      refine sl_skip hK (by decide) rfl rfl fun a hK => ?_
      refine sl_skip hK (by decide) rfl rfl fun a hK => ?_
      refine sl_skip hK (by decide) rfl rfl fun a hK => ?_
      refine sl_skip hK (by decide) rfl rfl fun a hK => ?_
      refine sl hK (by decide) rfl rfl (r_pick hK rfl rfl rfl) fun a hK => ?_
      refine wpList_nil ?_
      exact ⟨true, H, hK.sub (all_cons rfl (all_cons rfl (all_nil))), hS⟩
    · rw [ifb_f hb_12] at H
      refine sl hK (by decide) (wff hb_12) rfl (r_fieldAddr Try.underlying26 rfl Try.sizeOf24 hK rfl) fun a hK => ?_
      refine sl hK (by decide) (wff hb_12) rfl (r_load Try.isAgg24 hK rfl (hS.cell (.head _) rfl)) fun a hK => ?_
      refine sl hK (by decide) (wff hb_12) rfl (r_len_R Try.underlying24 h0_0 hK rfl) fun a hK => ?_
      refine sl hK (by decide) (wff hb_12) rfl (r_ibin hK rfl rfl rfl) fun a hK => ?_
      refine sl hK (by decide) rfl rfl (r_pick_f hb_12 hK rfl rfl) fun a hK => ?_
      refine sl hK (by decide) rfl rfl (r_move hK rfl) fun a hK => ?_
      rcases or_b (decide ((a0.Keys.length : Int) < 1)) with hb_13 | hb_13
      · rw [ifb_t hb_13] at H
        refine sl_skip hK (by decide) (wft hb_13) rfl fun a hK => ?_
        refine sl_skip hK (by decide) (wft hb_13) rfl fun a hK => ?_
        refine sl_skip hK (by decide) (wft hb_13) rfl fun a hK => ?_
        refine sl_skip hK (by decide) (wft hb_13) rfl fun a hK => ?_
        refine sl hK (by decide) rfl rfl (r_pick_t hb_13 hK rfl rfl) fun a hK => ?_
        refine sl hK (by decide) rfl rfl (r_move hK rfl) fun a hK => ?_
        refine sl_skip hK (by decide) rfl rfl fun a hK => ?_
        refine sl_skip hK (by decide) rfl rfl fun a hK => ?_
        refine sl_skip hK (by decide) rfl rfl fun a hK => ?_
        refine sl_skip hK (by decide) rfl rfl fun a hK => ?_
        refine sl hK (by decide) rfl rfl (r_pick hK rfl rfl rfl) fun a hK => ?_
        refine sl hK (by decide) rfl rfl (r_move hK rfl) fun a hK => ?_
        refine sl_skip hK (by decide) rfl rfl fun a hK => ?_
        refine sl_skip hK (by decide) rfl rfl fun a hK => ?_
        refine sl_skip hK (by decide) rfl rfl fun a hK => ?_
        refine sl_skip hK (by decide) rfl rfl fun a hK => ?_
        refine sl hK (by decide) rfl rfl (r_pick hK rfl rfl rfl) fun a hK => ?_
        refine wpList_nil ?_
        exact ⟨true, H, hK.sub (all_cons rfl (all_cons rfl (all_nil))), hS⟩
      · rw [ifb_f hb_13] at H
        refine sl hK (by decide) (wff hb_13) rfl (r_fieldAddr Try.underlying26 rfl Try.sizeOf24 hK rfl) fun a hK => ?_
        refine sl hK (by decide) (wff hb_13) rfl (r_load Try.isAgg24 hK rfl (hS.cell (.head _) rfl)) fun a hK => ?_
        refine sl hK (by decide) (wff hb_13) rfl (r_len_R Try.underlying24 h0_0 hK rfl) fun a hK => ?_
        refine sl hK (by decide) (wff hb_13) rfl (r_ibin hK rfl rfl rfl) fun a hK => ?_
        refine sl hK (by decide) rfl rfl (r_pick_f hb_13 hK rfl rfl) fun a hK => ?_
        refine sl hK (by decide) rfl rfl (r_move hK rfl) fun a hK => ?_
        rcases or_b (decide ((a0.Keys.length : Int) > 4)) with hb_14 | hb_14
        · rw [ifb_t hb_14] at H
          refine sl_skip hK (by decide) (wft hb_14) rfl fun a hK => ?_
          refine sl_skip hK (by decide) (wft hb_14) rfl fun a hK => ?_
          refine sl_skip hK (by decide) (wft hb_14) rfl fun a hK => ?_
          refine sl_skip hK (by decide) (wft hb_14) rfl fun a hK => ?_
          refine sl hK (by decide) rfl rfl (r_pick_t hb_14 hK rfl rfl) fun a hK => ?_
          refine sl hK (by decide) rfl rfl (r_move hK rfl) fun a hK => ?_
          refine sl_skip hK (by decide) rfl rfl fun a hK => ?_
          refine sl_skip hK (by decide) rfl rfl fun a hK => ?_
          refine sl_skip hK (by decide) rfl rfl fun a hK => ?_
          refine sl_skip hK (by decide) rfl rfl fun a hK => ?_
          refine sl hK (by decide) rfl rfl (r_pick hK rfl rfl rfl) fun a hK => ?_
          refine wpList_nil ?_
          exact ⟨true, H, hK.sub (all_cons rfl (all_cons rfl (all_nil))), hS⟩
        · rw [ifb_f hb_14] at H
          refine sl hK (by decide) (wff hb_14) rfl (r_fieldAddr Try.underlying26 rfl Try.sizeOf24 hK rfl) fun a hK => ?_
          refine sl hK (by decide) (wff hb_14) rfl (r_load Try.isAgg24 hK rfl (hS.cell (.head _) rfl)) fun a hK => ?_
          refine sl hK (by decide) (wff hb_14) rfl (r_len_R Try.underlying24 h0_1 hK rfl) fun a hK => ?_
          refine sl hK (by decide) (wff hb_14) rfl (r_ibin hK rfl rfl rfl) fun a hK => ?_
          refine sl hK (by decide) rfl rfl (r_pick_f hb_14 hK rfl rfl) fun a hK => ?_
          refine sl hK (by decide) rfl rfl (r_move hK rfl) fun a hK => ?_
          rcases or_b (decide ((a0.Vals.length : Int) < 1)) with hb_15 | hb_15
          · rw [ifb_t hb_15] at H
            refine sl_skip hK (by decide) (wft hb_15) rfl fun a hK => ?_
            refine sl_skip hK (by decide) (wft hb_15) rfl fun a hK => ?_
            refine sl_skip hK (by decide) (wft hb_15) rfl fun a hK => ?_
            refine sl_skip hK (by decide) (wft hb_15) rfl fun a hK => ?_
            refine sl hK (by decide) rfl rfl (r_pick_t hb_15 hK rfl rfl) fun a hK => ?_
            refine wpList_nil ?_
            exact ⟨true, H, hK.sub (all_cons rfl (all_cons rfl (all_nil))), hS⟩
          · rw [ifb_f hb_15] at H
            refine sl hK (by decide) (wff hb_15) rfl (r_fieldAddr Try.underlying26 rfl Try.sizeOf24 hK rfl) fun a hK => ?_
            refine sl hK (by decide) (wff hb_15) rfl (r_load Try.isAgg24 hK rfl (hS.cell (.head _) rfl)) fun a hK => ?_
            refine sl hK (by decide) (wff hb_15) rfl (r_len_R Try.underlying24 h0_1 hK rfl) fun a hK => ?_
            refine sl hK (by decide) (wff hb_15) rfl (r_ibin hK rfl rfl rfl) fun a hK => ?_
            refine sl hK (by decide) rfl rfl (r_pick_f hb_15 hK rfl rfl) fun a hK => ?_
            refine wpList_nil ?_
            exact ⟨(decide ((a0.Vals.length : Int) > 4)), H, hK.sub (all_cons rfl (all_cons rfl (all_nil))), hS⟩
  · rintro a w ⟨x_8, H, hK, hS⟩
    unfold ref05_One.j0 at H
    refine wp_cond_split (hK.ev rfl) (fun (hb_16 : x_8 = true) => ?_) (fun (hb_16 : x_8 = false) => ?_)
    · rw [ifb_t hb_16] at H
      refine wp_seq ?_
      refine wp_region_lit ?_
      refine sl hK (by decide) rfl rfl (r_assign hK rfl) fun a hK => ?_
      refine wpList_nil ?_
      obtain rfl := Option.some.inj H
      refine wp_ret ?_
      repeat (first | refine ret_then ?_ | refine ret_block ?_ | refine ret_scope ?_)
      exact ret_1 Try.results31 hK (rv_tmp hK rfl) ⟨rfl, hS.bel⟩
    · rw [ifb_f hb_16] at H
      refine wp_skip ?_
      refine wp_seq ?_
      refine parT_region (C := fun w => St [] w0 w (fun _ => none) [.cells b_1 [.string a0.Name, v0_0, v0_1] 26]) 6 [(1, true), (2, true), (4, true), (5, true), (0, false), (3, false)] mixed (by kernel_rfl) hS (fun w hS => hS) fun w hS => ?_
      refine sp (k := 1) rfl hK (by decide) rfl rfl (fun w hS => r_fieldAddr Try.underlying26 rfl Try.sizeOf24 hK rfl) fun a hK => ?_
      refine sp (k := 2) rfl hK (by decide) rfl rfl (fun w hS => r_load Try.isAgg24 hK rfl (hS.cell (.head _) rfl)) fun a hK => ?_
      refine sp (k := 4) rfl hK (by decide) rfl rfl (fun w hS => r_fieldAddr Try.underlying26 rfl Try.sizeOf24 hK rfl) fun a hK => ?_
      refine sp (k := 5) rfl hK (by decide) rfl rfl (fun w hS => r_load Try.isAgg24 hK rfl (hS.cell (.head _) rfl)) fun a hK => ?_
      refine spw (k := 0) rfl rfl hS ?_
      refine sl_buildSliceC (zc := [.string (⟨#[]⟩ : ByteArray), .int .i64 0]) (zs := []) (ps := []) (c := []) Try.underlying24 Try.sizeOf52 Try.zeroValue52 rfl pc_nil rfl rfl (by decide) (by kernel_rfl) rfl hS hK (by decide) rfl fun a w b_32 hS hK => ?_
      refine parK_nil (hS.pk1.trunc 1) ?_
      refine spw (k := 3) rfl rfl (hS.pk1.trunc 1) ?_
      obtain ⟨y_35, h_36, H⟩ := bind_some H
      have hS := hS.row_lit (size := 2) (m := 0) rfl (by decide)
      have hq_34 : Reps ty_api_Col (fun _ => none) [] ([] : List api_Col) := (Reps.nil _ _)
      refine sl_append_A elT24 (by decide) rfl (fun _ _ _ _ h => h) (hS.ra hRA nil_not) hq_34 rfl h0_0 h_36 hS hK (by decide) rfl rfl rfl fun a w v_37 cs_38 hq_39 hS hK => ?_
      refine parK_nil (hS.pk1.trunc 1) ?_
      refine thenL_nil ?_
      obtain ⟨y_41, h_42, H⟩ := bind_some H
      refine sl_append_A elT24 (by decide) rfl (fun _ _ _ _ h => h) (hS.ra hRA nil_not) hq_39 rfl h0_1 h_42 hS hK (by decide) rfl rfl rfl fun a w v_43 cs_44 hq_45 hS hK => ?_
      refine sl hK (by decide) rfl rfl (r_assign hK rfl) fun a hK => ?_
      refine wpList_nil (NoP_nil ?_)
      refine wp_seq ?_
      refine wp_seq ?_
      refine wp_region_lit ?_
      refine sl hK (by decide) rfl rfl (r_assign hK rfl) fun a hK => ?_
      refine wpList_nil ?_
      refine wp_block ?_
      refine wp_loop_k (fun k_l1 a w => ∃ (x_92 : Int), ref05_One.l1 a0 y_41 k_l1 x_92 = some r ∧ Kn 70 a [(1, .pointer (some ⟨b_1, 0, none⟩)), (3, v_43), (4, .int .i64 x_92)] ∧ St [] w0 w (fun _ => none) [.cells b_1 [.string a0.Name, v0_0, v0_1] 26, .row 52 2 v_43 y_41.length cs_44]) (((y_41.length : Int) - 0).toNat + 1) ?_ ?_
      · have hS := hS.pk1
        exact ⟨0, H, hK.sub (all_cons rfl (all_cons rfl (all_cons rfl (all_nil)))), hS⟩
      · rintro k_l1 a w ⟨x_92, H, hK, hS⟩
        cases k_l1 with
        | zero => cases H
        | succ k_l1 =>
        rw [ref05_One.l1.eq_2] at H
        refine wp_seq ?_
        refine wp_seq ?_
        refine wp_region_lit ?_
        refine sl hK (by decide) rfl rfl (r_move hK rfl) fun a hK => ?_
        refine sl hK (by decide) rfl rfl (r_move hK rfl) fun a hK => ?_
        refine sl hK (by decide) rfl rfl (r_len_O Try.underlying24 hS (.tail _ (.head _)) hK rfl) fun a hK => ?_
        refine sl hK (by decide) rfl rfl (r_ibin hK rfl rfl rfl) fun a hK => ?_
        refine wpList_nil ?_
        refine wp_cond_split (hK.ev rfl) (fun (hb_138 : (decide (x_92 < (y_41.length : Int))) = true) => ?_) (fun (hb_138 : (decide (x_92 < (y_41.length : Int))) = false) => ?_)
        · rw [ifb_t hb_138] at H
          refine wp_skip ?_
          refine wp_seq ?_
          refine wp_block ?_
          refine wp_seq ?_
          refine wp_mid (fun a w => ∃ (x_159 : Bool), ref05_One.j2 (ref05_One.l1 a0 y_41 k_l1) y_41 x_92 x_159 = some r ∧ Kn 70 a [(1, .pointer (some ⟨b_1, 0, none⟩)), (3, v_43), (4, .int .i64 x_92), (67, .bool x_159)] ∧ St [] w0 w (fun _ => none) [.cells b_1 [.string a0.Name, v0_0, v0_1] 26, .row 52 2 v_43 y_41.length cs_44]) ?_ ?_
          · refine wp_region_lit ?_
            refine sl hK (by decide) rfl rfl (r_move hK rfl) fun a hK => ?_
            refine sl hK (by decide) rfl rfl (r_move hK rfl) fun a hK => ?_
            obtain ⟨y_161, h_162, H⟩ := bind_some H
            obtain ⟨b_164, c_165, cs_166, hv_163, hr_167, hc_168, h_1620, h_1621⟩ := hS.row_ix (.tail _ (.head _)) hq_45 rfl rfl h_162
            subst hr_167
            refine sl hK (by decide) rfl rfl (r_indexAddr_R Try.underlying24 Try.sizeOf52 hv_163 h_1620 h_1621 hK rfl rfl) fun a hK => ?_
            refine sl hK (by decide) rfl rfl (r_fieldAddr Try.underlying52 rfl Try.sizeOf9 hK rfl) fun a hK => ?_
            refine sl hK (by decide) rfl rfl (r_load Try.isAgg9 hK rfl (by have h_ := hS.row_cell (.tail _ (.head _)) hv_163 (hc_168 0 _ rfl); simpa [Nat.add_assoc] using h_)) fun a hK => ?_
            obtain ⟨y_169, h_170, H⟩ := bind_some H
            refine sl_callV Try.call16 hS hK (by decide) rfl rfl rfl (ref05_Word.calls y_161.Name h_170 _) fun a w hS hK => ?_
            refine sl hK (by decide) rfl rfl (r_un hK rfl (u_not _)) fun a hK => ?_
            refine sl hK (by decide) rfl rfl (r_move hK rfl) fun a hK => ?_
            rcases or_b (!y_169) with hb_171 | hb_171
            · rw [ifb_t hb_171] at H
              refine sl_skip hK (by decide) (wft hb_171) rfl fun a hK => ?_
              refine sl_skip hK (by decide) (wft hb_171) rfl fun a hK => ?_
              refine sl_skip hK (by decide) (wft hb_171) rfl fun a hK => ?_
              refine sl_skip hK (by decide) (wft hb_171) rfl fun a hK => ?_
              refine sl_skip hK (by decide) (wft hb_171) rfl fun a hK => ?_
              refine sl_skip hK (by decide) (wft hb_171) rfl fun a hK => ?_
              refine sl_skip hK (by decide) rfl rfl fun a hK => ?_
              refine sl_skip hK (by decide) rfl rfl fun a hK => ?_
              refine sl_skip hK (by decide) rfl rfl fun a hK => ?_
              refine sl_skip hK (by decide) rfl rfl fun a hK => ?_
              refine sl_skip hK (by decide) rfl rfl fun a hK => ?_
              refine sl_skip hK (by decide) rfl rfl fun a hK => ?_
              refine sl_skip hK (by decide) (wft hb_171) rfl fun a hK => ?_
              refine sl hK (by decide) rfl rfl (r_pick_t hb_171 hK rfl rfl) fun a hK => ?_
              refine wpList_nil ?_
              have hS := hS.pk1
              have hS := hS.pk1
              exact ⟨true, H, hK.sub (all_cons rfl (all_cons rfl (all_cons rfl (all_cons rfl (all_nil))))), hS⟩
            · rw [ifb_f hb_171] at H
              refine sl hK (by decide) (wff hb_171) rfl (r_move hK rfl) fun a hK => ?_
              refine sl hK (by decide) (wff hb_171) rfl (r_fieldAddr Try.underlying26 rfl Try.sizeOf24 hK rfl) fun a hK => ?_
              refine sl hK (by decide) (wff hb_171) rfl (r_load Try.isAgg24 hK rfl (hS.cell (.head _) rfl)) fun a hK => ?_
              refine sl hK (by decide) (wff hb_171) rfl (r_len_R Try.underlying24 h0_0 hK rfl) fun a hK => ?_
              refine sl hK (by decide) (wff hb_171) rfl (r_ibin hK rfl rfl rfl) fun a hK => ?_
              refine sl hK (by decide) (wff hb_171) rfl (r_move hK rfl) fun a hK => ?_
              rcases or_b (decide (x_92 < (a0.Keys.length : Int))) with hb_172 | hb_172
              · rw [ifb_t hb_172] at H
                refine sl hK (by decide) (wtt hb_172) rfl (r_move hK rfl) fun a hK => ?_
                refine sl hK (by decide) (wtt hb_172) rfl (r_move hK rfl) fun a hK => ?_
                obtain ⟨y_173, h_174, H⟩ := bind_some H
                obtain ⟨b_176, c_177, cs_178, hv_175, hr_179, hc_180, h_1740, h_1741⟩ := hS.row_ix (.tail _ (.head _)) hq_45 rfl rfl h_174
                subst hr_179
                refine sl hK (by decide) (wtt hb_172) rfl (r_indexAddr_R Try.underlying24 Try.sizeOf52 hv_175 h_1740 h_1741 hK rfl rfl) fun a hK => ?_
                refine sl hK (by decide) (wtt hb_172) rfl (r_fieldAddr Try.underlying52 rfl Try.sizeOf3 hK rfl) fun a hK => ?_
                refine sl hK (by decide) (wtt hb_172) rfl (r_load Try.isAgg3 hK rfl (by have h_ := hS.row_cell (.tail _ (.head _)) hv_175 (hc_180 1 _ rfl); simpa [Nat.add_assoc] using h_)) fun a hK => ?_
                refine sl hK (by decide) (wtt hb_172) rfl (r_ibin hK rfl rfl rfl) fun a hK => ?_
                refine sl hK (by decide) (wff hb_171) rfl (r_pick_t hb_172 hK rfl rfl) fun a hK => ?_
                refine sl hK (by decide) rfl rfl (r_pick_f hb_171 hK rfl rfl) fun a hK => ?_
                refine wpList_nil ?_
                have hS := hS.pk1
                have hS := hS.pk1
                exact ⟨(y_173.Kind == 4), H, hK.sub (all_cons rfl (all_cons rfl (all_cons rfl (all_cons rfl (all_nil))))), hS⟩
              · rw [ifb_f hb_172] at H
                refine sl_skip hK (by decide) (wtf hb_172) rfl fun a hK => ?_
                refine sl_skip hK (by decide) (wtf hb_172) rfl fun a hK => ?_
                refine sl_skip hK (by decide) (wtf hb_172) rfl fun a hK => ?_
                refine sl_skip hK (by decide) (wtf hb_172) rfl fun a hK => ?_
                refine sl_skip hK (by decide) (wtf hb_172) rfl fun a hK => ?_
                refine sl_skip hK (by decide) (wtf hb_172) rfl fun a hK => ?_
                refine sl hK (by decide) (wff hb_171) rfl (r_pick_f hb_172 hK rfl rfl) fun a hK => ?_
                refine sl hK (by decide) rfl rfl (r_pick_f hb_171 hK rfl rfl) fun a hK => ?_
                refine wpList_nil ?_
                have hS := hS.pk1
                have hS := hS.pk1
                exact ⟨false, H, hK.sub (all_cons rfl (all_cons rfl (all_cons rfl (all_cons rfl (all_nil))))), hS⟩
          · rintro a w ⟨x_159, H, hK, hS⟩
            unfold ref05_One.j2 at H
            refine wp_cond_split (hK.ev rfl) (fun (hb_181 : x_159 = true) => ?_) (fun (hb_181 : x_159 = false) => ?_)
            · rw [ifb_t hb_181] at H
              refine wp_seq ?_
              refine wp_region_lit ?_
              refine sl hK (by decide) rfl rfl (r_assign hK rfl) fun a hK => ?_
              refine wpList_nil ?_
              obtain rfl := Option.some.inj H
              refine wp_ret ?_
              repeat (first | refine ret_then ?_ | refine ret_block ?_ | refine ret_scope ?_)
              exact ret_1 Try.results31 hK (rv_tmp hK rfl) ⟨rfl, hS.bel⟩
            · rw [ifb_f hb_181] at H
              refine wp_skip ?_
              refine wp_region_lit ?_
              refine sl hK (by decide) rfl rfl (r_move hK rfl) fun a hK => ?_
              refine sl hK (by decide) rfl rfl (r_ibin hK rfl rfl rfl) fun a hK => ?_
              refine sl hK (by decide) rfl rfl (r_assign hK rfl) fun a hK => ?_
              refine wpList_nil ?_
              have hS := hS.pk1
              have hS := hS.pk1
              exact ⟨_, Nat.lt_succ_self _, (IntKind.i64.wrap (x_92 + 1)), H, hK.sub (all_cons rfl (all_cons rfl (all_cons rfl (all_nil)))), hS⟩
        · rw [ifb_f hb_138] at H
          refine wp_exit ?_
          refine wp_seq ?_
          refine wp_region_lit ?_
          refine sl hK (by decide) rfl rfl (r_move hK rfl) fun a hK => ?_
          obtain ⟨y_182, h_183, H⟩ := bind_some H
          refine sl_callV Try.call34 hS hK (by decide) rfl rfl rfl (ref02_Cols.calls y_41 (lentOf_sub [] _) (hS.lend_row0 (.tail _ (.head _)) hq_45 rfl rfl) h_183) fun a w hS hK => ?_
          refine sl hK (by decide) rfl rfl (r_assign hK rfl) fun a hK => ?_
          refine wpList_nil ?_
          obtain rfl := Option.some.inj H
          refine wp_ret ?_
          repeat (first | refine ret_then ?_ | refine ret_block ?_ | refine ret_scope ?_)
          exact ret_1 Try.results31 hK (rv_tmp hK rfl) ⟨rfl, hS.bel⟩

/-! ### catchment/catchmentref05.Check: function 18 -/
set_option maxHeartbeats 4000000 in
set_option maxRecDepth 100000 in
theorem ref05_Check.calls (a0 : List api_Schema) {w0 : World} {RA : Hp} {v0_0 : Value} (hRA : RA.sub w0) (h0_0 : SlR ty_api_Schema RA v0_0 a0) {r : Int} (H : ref05_Check a0 = some r) : CallsV Try.prog 18 #[v0_0] w0 (.int .i64 r) := by
  unfold ref05_Check at H
  refine enter (args := [v0_0]) Try.func18 rfl Try.ntmps18 rfl fun a hK => ?_
  have hS := St.init (R := fun _ => none) (w := w0) (fun _ _ h => by cases h)
  have hRL := RLe.refl (M := []) w0 (fun _ => none)
  refine wp_seq ?_
  refine wp_region_lit ?_
  refine sl hK (by decide) rfl rfl (r_assign hK rfl) fun a hK => ?_
  refine wpList_nil ?_
  refine wp_seq ?_
  refine wp_seq ?_
  refine wp_mid (fun a w => ∃ (x_2 : Bool), ref05_Check.j0 a0 x_2 = some r ∧ Kn 41 a [(0, v0_0), (12, .bool x_2)] ∧ St [] w0 w (fun _ => none) []) ?_ ?_
  · refine wp_region_lit ?_
    refine sl hK (by decide) rfl rfl (r_move hK rfl) fun a hK => ?_
    refine sl hK (by decide) rfl rfl (r_len_R Try.underlying22 h0_0 hK rfl) fun a hK => ?_
    refine sl hK (by decide) rfl rfl (r_ibin hK rfl rfl rfl) fun a hK => ?_
    refine sl hK (by decide) rfl rfl (r_move hK rfl) fun a hK => ?_
    rcases or_b (decide ((a0.length : Int) < 1)) with hb_4 | hb_4
    · rw [ifb_t hb_4] at H
      refine sl_skip hK (by decide) (wft hb_4) rfl fun a hK => ?_
      refine sl_skip hK (by decide) (wft hb_4) rfl fun a hK => ?_
      refine sl_skip hK (by decide) (wft hb_4) rfl fun a hK => ?_
      refine sl hK (by decide) rfl rfl (r_pick_t hb_4 hK rfl rfl) fun a hK => ?_
      refine wpList_nil ?_
      exact ⟨true, H, hK.sub (all_cons rfl (all_cons rfl (all_nil))), hS⟩
    · rw [ifb_f hb_4] at H
      refine sl hK (by decide) (wff hb_4) rfl (r_move hK rfl) fun a hK => ?_
      refine sl hK (by decide) (wff hb_4) rfl (r_len_R Try.underlying22 h0_0 hK rfl) fun a hK => ?_
      refine sl hK (by decide) (wff hb_4) rfl (r_ibin hK rfl rfl rfl) fun a hK => ?_
      refine sl hK (by decide) rfl rfl (r_pick_f hb_4 hK rfl rfl) fun a hK => ?_
      refine wpList_nil ?_
      exact ⟨(decide ((a0.length : Int) > 8)), H, hK.sub (all_cons rfl (all_cons rfl (all_nil))), hS⟩
  · rintro a w ⟨x_2, H, hK, hS⟩
    unfold ref05_Check.j0 at H
    refine wp_cond_split (hK.ev rfl) (fun (hb_5 : x_2 = true) => ?_) (fun (hb_5 : x_2 = false) => ?_)
    · rw [ifb_t hb_5] at H
      refine wp_seq ?_
      refine wp_region_lit ?_
      refine sl hK (by decide) rfl rfl (r_assign hK rfl) fun a hK => ?_
      refine wpList_nil ?_
      obtain rfl := Option.some.inj H
      refine wp_ret ?_
      repeat (first | refine ret_then ?_ | refine ret_block ?_ | refine ret_scope ?_)
      exact ret_1 Try.results18 hK (rv_tmp hK rfl) ⟨rfl, hS.bel⟩
    · rw [ifb_f hb_5] at H
      refine wp_skip ?_
      refine wp_seq ?_
      refine wp_seq ?_
      refine wp_region_lit ?_
      refine sl hK (by decide) rfl rfl (r_assign hK rfl) fun a hK => ?_
      refine wpList_nil ?_
      refine wp_block ?_
      refine wp_loop_k (fun k_l1 a w => ∃ (x_25 : Int), ref05_Check.l1 a0 k_l1 x_25 = some r ∧ Kn 41 a [(0, v0_0), (3, .int .i64 x_25)] ∧ St [] w0 w (fun _ => none) []) (((a0.length : Int) - 0).toNat + 1) ?_ ?_
      · exact ⟨0, H, hK.sub (all_cons rfl (all_cons rfl (all_nil))), hS⟩
      · rintro k_l1 a w ⟨x_25, H, hK, hS⟩
        cases k_l1 with
        | zero => cases H
        | succ k_l1 =>
        rw [ref05_Check.l1.eq_2] at H
        refine wp_seq ?_
        refine wp_seq ?_
        refine wp_region_lit ?_
        refine sl hK (by decide) rfl rfl (r_move hK rfl) fun a hK => ?_
        refine sl hK (by decide) rfl rfl (r_move hK rfl) fun a hK => ?_
        refine sl hK (by decide) rfl rfl (r_len_R Try.underlying22 h0_0 hK rfl) fun a hK => ?_
        refine sl hK (by decide) rfl rfl (r_ibin hK rfl rfl rfl) fun a hK => ?_
        refine wpList_nil ?_
        refine wp_cond_split (hK.ev rfl) (fun (hb_209 : (decide (x_25 < (a0.length : Int))) = true) => ?_) (fun (hb_209 : (decide (x_25 < (a0.length : Int))) = false) => ?_)
        · rw [ifb_t hb_209] at H
          refine wp_skip ?_
          refine wp_seq ?_
          refine wp_block ?_
          refine wp_seq ?_
          refine wp_seq ?_
          refine wp_region_lit ?_
          refine sl hK (by decide) rfl rfl (r_move hK rfl) fun a hK => ?_
          refine sl hK (by decide) rfl rfl (r_move hK rfl) fun a hK => ?_
          obtain ⟨y_210, h_211, H⟩ := bind_some H
          obtain ⟨b_212, o_213, c_214, cs_215, hv_216, hr_217, hc_218, h_2110, h_2111⟩ := h0_0.ix h_211
          obtain ⟨v_219, v_221, rfl, hs_220, hs_222⟩ := hr_217
          refine sl hK (by decide) rfl rfl (r_indexAddr_R Try.underlying22 Try.sizeOf26 hv_216 h_2110 h_2111 hK rfl rfl) fun a hK => ?_
          refine sl hK (by decide) rfl rfl (r_loadA (cs := [.string y_210.Name, v_219, v_221]) Try.isAgg26 Try.sizeOf26 rfl hK rfl (fun j v hv => (hS.ra hRA nil_not).cell (hc_218 j v hv))) fun a hK => ?_
          obtain ⟨y_223, h_224, H⟩ := bind_some H
          refine sl_callV Try.call31 hS hK (by decide) rfl rfl rfl (ref05_One.calls y_210 (lentOf_sub [] _) (hs_220.mono (hS.raLe0 hRA nil_not)) (hs_222.mono (hS.raLe0 hRA nil_not)) h_224) fun a w hS hK => ?_
          refine sl hK (by decide) rfl rfl (r_un hK rfl (u_not _)) fun a hK => ?_
          refine wpList_nil ?_
          refine wp_cond_split (hK.ev rfl) (fun (hb_225 : (!y_223) = true) => ?_) (fun (hb_225 : (!y_223) = false) => ?_)
          · rw [ifb_t hb_225] at H
            refine wp_seq ?_
            refine wp_region_lit ?_
            refine sl hK (by decide) rfl rfl (r_assign hK rfl) fun a hK => ?_
            refine wpList_nil ?_
            obtain rfl := Option.some.inj H
            refine wp_ret ?_
            repeat (first | refine ret_then ?_ | refine ret_block ?_ | refine ret_scope ?_)
            exact ret_1 Try.results18 hK (rv_tmp hK rfl) ⟨rfl, hS.bel⟩
          · rw [ifb_f hb_225] at H
            refine wp_skip ?_
            refine wp_seq ?_
            refine wp_region_lit ?_
            refine sl hK (by decide) rfl rfl (r_assign hK rfl) fun a hK => ?_
            refine wpList_nil ?_
            refine wp_block ?_
            refine wp_loop_k (fun k_l2 a w => ∃ (x_281 : Int), ref05_Check.l2 (ref05_Check.l1 a0 k_l1) a0 x_25 k_l2 x_281 = some r ∧ Kn 41 a [(0, v0_0), (3, .int .i64 x_25), (4, .int .i64 x_281)] ∧ St [] w0 w (fun _ => none) []) ((x_25 - 0).toNat + 1) ?_ ?_
            · exact ⟨0, H, hK.sub (all_cons rfl (all_cons rfl (all_cons rfl (all_nil)))), hS⟩
            · rintro k_l2 a w ⟨x_281, H, hK, hS⟩
              cases k_l2 with
              | zero => cases H
              | succ k_l2 =>
              rw [ref05_Check.l2.eq_2] at H
              refine wp_seq ?_
              refine wp_seq ?_
              refine wp_region_lit ?_
              refine sl hK (by decide) rfl rfl (r_move hK rfl) fun a hK => ?_
              refine sl hK (by decide) rfl rfl (r_move hK rfl) fun a hK => ?_
              refine sl hK (by decide) rfl rfl (r_ibin hK rfl rfl rfl) fun a hK => ?_
              refine wpList_nil ?_
              refine wp_cond_split (hK.ev rfl) (fun (hb_337 : (decide (x_281 < x_25)) = true) => ?_) (fun (hb_337 : (decide (x_281 < x_25)) = false) => ?_)
              · rw [ifb_t hb_337] at H
                refine wp_skip ?_
                refine wp_seq ?_
                refine wp_block ?_
                refine wp_seq ?_
                refine par_region (C := fun w => St [] w0 w (fun _ => none) []) [(0, true), (1, true), (2, true), (3, true), (4, true), (5, true), (6, true), (7, true), (8, true), (9, true), (10, true)] mixed (by kernel_rfl) hS (fun w hS => hS) fun w hS => ?_
                refine sp (k := 0) rfl hK (by decide) rfl rfl (fun w hS => r_move hK rfl) fun a hK => ?_
                refine sp (k := 1) rfl hK (by decide) rfl rfl (fun w hS => r_move hK rfl) fun a hK => ?_
                obtain ⟨y_364, h_365, H⟩ := bind_some H
                obtain ⟨b_366, o_367, c_368, cs_369, hv_370, hr_371, hc_372, h_3650, h_3651⟩ := h0_0.ix h_365
                obtain ⟨v_373, v_375, rfl, hs_374, hs_376⟩ := hr_371
                refine sp (k := 2) rfl hK (by decide) rfl rfl (fun w hS => r_indexAddr_R Try.underlying22 Try.sizeOf26 hv_370 h_3650 h_3651 hK rfl rfl) fun a hK => ?_
                refine sp (k := 3) rfl hK (by decide) rfl rfl (fun w hS => r_fieldAddr Try.underlying26 rfl Try.sizeOf9 hK rfl) fun a hK => ?_
                refine sp (k := 4) rfl hK (by decide) rfl rfl (fun w hS => r_load Try.isAgg9 hK rfl ((hS.ra hRA nil_not).cell (hc_372 0 _ rfl))) fun a hK => ?_
                refine sp (k := 5) rfl hK (by decide) rfl rfl (fun w hS => r_move hK rfl) fun a hK => ?_
                refine sp (k := 6) rfl hK (by decide) rfl rfl (fun w hS => r_move hK rfl) fun a hK => ?_
                obtain ⟨y_377, h_378, H⟩ := bind_some H
                obtain ⟨b_379, o_380, c_381, cs_382, hv_383, hr_384, hc_385, h_3780, h_3781⟩ := h0_0.ix h_378
                obtain ⟨v_386, v_388, rfl, hs_387, hs_389⟩ := hr_384
                refine sp (k := 7) rfl hK (by decide) rfl rfl (fun w hS => r_indexAddr_R Try.underlying22 Try.sizeOf26 hv_383 h_3780 h_3781 hK rfl rfl) fun a hK => ?_
                refine sp (k := 8) rfl hK (by decide) rfl rfl (fun w hS => r_fieldAddr Try.underlying26 rfl Try.sizeOf9 hK rfl) fun a hK => ?_
                refine sp (k := 9) rfl hK (by decide) rfl rfl (fun w hS => r_load Try.isAgg9 hK rfl ((hS.ra hRA nil_not).cell (hc_385 0 _ rfl))) fun a hK => ?_
                refine sp (k := 10) rfl hK (by decide) rfl rfl (fun w hS => r_sbin hK rfl rfl rfl) fun a hK => ?_
                refine wpPar_nil (NoP_nil ?_)
                refine wp_cond_split (hK.ev rfl) (fun (hb_390 : (y_364.Name.toList == y_377.Name.toList) = true) => ?_) (fun (hb_390 : (y_364.Name.toList == y_377.Name.toList) = false) => ?_)
                · rw [ifb_t hb_390] at H
                  refine wp_seq ?_
                  refine wp_region_lit ?_
                  refine sl hK (by decide) rfl rfl (r_assign hK rfl) fun a hK => ?_
                  refine wpList_nil ?_
                  obtain rfl := Option.some.inj H
                  refine wp_ret ?_
                  repeat (first | refine ret_then ?_ | refine ret_block ?_ | refine ret_scope ?_)
                  exact ret_1 Try.results18 hK (rv_tmp hK rfl) ⟨rfl, hS.bel⟩
                · rw [ifb_f hb_390] at H
                  refine wp_skip ?_
                  refine wp_region_lit ?_
                  refine sl hK (by decide) rfl rfl (r_move hK rfl) fun a hK => ?_
                  refine sl hK (by decide) rfl rfl (r_ibin hK rfl rfl rfl) fun a hK => ?_
                  refine sl hK (by decide) rfl rfl (r_assign hK rfl) fun a hK => ?_
                  refine wpList_nil ?_
                  exact ⟨_, Nat.lt_succ_self _, (IntKind.i64.wrap (x_281 + 1)), H, hK.sub (all_cons rfl (all_cons rfl (all_cons rfl (all_nil)))), hS⟩
              · rw [ifb_f hb_337] at H
                refine wp_exit ?_
                refine wp_region_lit ?_
                refine sl hK (by decide) rfl rfl (r_move hK rfl) fun a hK => ?_
                refine sl hK (by decide) rfl rfl (r_ibin hK rfl rfl rfl) fun a hK => ?_
                refine sl hK (by decide) rfl rfl (r_assign hK rfl) fun a hK => ?_
                refine wpList_nil ?_
                exact ⟨_, Nat.lt_succ_self _, (IntKind.i64.wrap (x_25 + 1)), H, hK.sub (all_cons rfl (all_cons rfl (all_nil))), hS⟩
        · rw [ifb_f hb_209] at H
          refine wp_exit ?_
          refine wp_seq ?_
          refine wp_region_lit ?_
          refine sl hK (by decide) rfl rfl (r_assign hK rfl) fun a hK => ?_
          refine wpList_nil ?_
          obtain rfl := Option.some.inj H
          refine wp_ret ?_
          repeat (first | refine ret_then ?_ | refine ret_block ?_ | refine ret_scope ?_)
          exact ret_1 Try.results18 hK (rv_tmp hK rfl) ⟨rfl, hS.bel⟩

/-! ### catchment/catchmentlaw05.SchemaChecks: function 3 -/
set_option maxHeartbeats 4000000 in
set_option maxRecDepth 100000 in
theorem law05_SchemaChecks.calls (a0 : List api_Schema) (a1 : ByteArray) {w0 : World} {R : Hp} {RA : Hp} {v0_0 : Value} (hRA : RA.sub w0) (hR : R.sub w0) (h0_0 : SlR ty_api_Schema R v0_0 a0) (hG : GF RA) (H : law05_SchemaChecks a0 a1 = some true) : CallsV Try.prog 3 #[v0_0, .string a1] w0 (.bool true) := by
  unfold law05_SchemaChecks at H
  refine enter (args := [v0_0, .string a1]) Try.func3 rfl Try.ntmps3 rfl fun a hK => ?_
  have hS := St.init hR
  have hRL := RLe.refl (M := []) w0 R
  refine wp_seq ?_
  refine wp_region_lit ?_
  refine sl hK (by decide) rfl rfl (r_assign hK rfl) fun a hK => ?_
  refine wpList_nil ?_
  refine wp_seq ?_
  refine wp_region_lit ?_
  obtain ⟨y_1, h_2, H⟩ := bind_some H
  refine sl_callV Try.call8 hS hK (by decide) rfl rfl rfl (law05_shown.calls (lentOf_sub [] _) (GF.mono (hS.raLe0 hRA nil_not) hG) h_2) fun a w hS hK => ?_
  refine sl hK (by decide) rfl rfl (r_assign hK rfl) fun a hK => ?_
  refine wpList_nil ?_
  refine wp_seq ?_
  refine wp_seq ?_
  refine wp_region_lit ?_
  refine sl hK (by decide) rfl rfl (r_move hK rfl) fun a hK => ?_
  refine sl hK (by decide) rfl rfl (r_len_R Try.underlying22 h0_0 hK rfl) fun a hK => ?_
  refine sl hK (by decide) rfl rfl (r_ibin hK rfl rfl rfl) fun a hK => ?_
  refine wpList_nil ?_
  refine wp_mid (fun a w => ∃ (x_11 : List api_Schema) (v_9 : Value), law05_SchemaChecks.j0 a1 y_1 x_11 = some true ∧ SlR ty_api_Schema R v_9 x_11 ∧ Kn 64 a [(0, v_9), (1, .string a1), (5, .bool y_1)] ∧ St [] w0 w R []) ?_ ?_
  · refine wp_cond_split (hK.ev rfl) (fun (hb_13 : (decide ((a0.length : Int) > 20)) = true) => ?_) (fun (hb_13 : (decide ((a0.length : Int) > 20)) = false) => ?_)
    · rw [ifb_t hb_13] at H
      refine wp_region_lit ?_
      refine sl hK (by decide) rfl rfl (r_move hK rfl) fun a hK => ?_
      obtain ⟨y_14, h_15, H⟩ := bind_some H
      obtain ⟨v_16, hs_17, hr_18⟩ := r_slice_R (x := .tmp 16) (lo := none) (hi := some (.const (.int .i64 20))) Try.underlying22 Try.sizeOf26 h0_0 h_15 hK rfl rfl ⟨_, rfl⟩
      refine sl hK (by decide) rfl rfl (hr_18 _ _ _ _ _ _ _ hK) fun a hK => ?_
      refine sl hK (by decide) rfl rfl (r_assign hK rfl) fun a hK => ?_
      refine wpList_nil ?_
      exact ⟨y_14, v_16, H, hs_17, hK.sub (all_cons rfl (all_cons rfl (all_cons rfl (all_nil)))), hS⟩
    · rw [ifb_f hb_13] at H
      refine wp_skip ?_
      exact ⟨a0, v0_0, H, h0_0, hK.sub (all_cons rfl (all_cons rfl (all_cons rfl (all_nil)))), hS⟩
  · rintro a w ⟨x_11, v_9, H, hs_10, hK, hS⟩
    unfold law05_SchemaChecks.j0 at H
    refine wp_seq ?_
    refine wp_region_lit ?_
    refine sl hK (by decide) rfl rfl (r_move hK rfl) fun a hK => ?_
    refine sl hK (by decide) rfl rfl (r_move hK rfl) fun a hK => ?_
    obtain ⟨y_19, h_20, H⟩ := bind_some H
    refine sl_call Try.call9 hK (by decide) rfl rfl rfl (schema_Find.calls x_11 a1 hS.sub hs_10 h_20) fun a v_ w hv_ hK => ?_
    obtain ⟨R_21, v_23, v_25, hv_, hr_, hl_22, hs_24, hs_26⟩ := hv_
    have hv_ := hv_.symm
    subst hv_
    obtain ⟨hS, hl_22⟩ := hS.sp0.back hr_ hl_22
    have hS := hS.un0
    have hRL := hRL.trans hl_22
    refine sl hK (by decide) rfl rfl (r_move hK rfl) fun a hK => ?_
    refine sl hK (by decide) rfl rfl (r_extract hK rfl rfl) fun a hK => ?_
    refine sl hK (by decide) rfl rfl (r_extract hK rfl rfl) fun a hK => ?_
    refine sl_alloc Try.zeroValue26 hS hK (by decide) rfl rfl fun a w b_27 hS hK => ?_
    refine sl_storeA (vs := [.string y_19.1.Name, v_23, v_25]) (c' := [.string y_19.1.Name, v_23, v_25]) Try.sizeOf26 hS hK rfl rfl rfl rfl (all_cons rfl (all_cons hs_24.one (all_cons hs_26.one (all_nil)))) (Nat.le_of_ble_eq_true rfl) rfl fun a w hS hK => ?_
    refine sl hK (by decide) rfl rfl (r_assign hK rfl) fun a hK => ?_
    refine wpList_nil ?_
    refine wp_seq ?_
    refine wp_region_lit ?_
    refine sl hK (by decide) rfl rfl (r_move hK rfl) fun a hK => ?_
    refine sl hK (by decide) rfl rfl (r_move hK rfl) fun a hK => ?_
    obtain ⟨y_28, h_29, H⟩ := bind_some H
    refine sl_call Try.call10 hK (by decide) rfl rfl rfl (ref05_Find.calls x_11 a1 hS.sub (hs_10.mono hl_22.le) h_29) fun a v_ w hv_ hK => ?_
    obtain ⟨R_30, v_32, v_34, hv_, hr_, hl_31, hs_33, hs_35⟩ := hv_
    have hv_ := hv_.symm
    subst hv_
    obtain ⟨hS, hl_31⟩ := hS.sp0.back hr_ hl_31
    have hS := hS.un0
    have hRL := hRL.trans hl_31
    refine sl hK (by decide) rfl rfl (r_move hK rfl) fun a hK => ?_
    refine sl hK (by decide) rfl rfl (r_extract hK rfl rfl) fun a hK => ?_
    refine sl hK (by decide) rfl rfl (r_extract hK rfl rfl) fun a hK => ?_
    refine sl_alloc Try.zeroValue26 hS hK (by decide) rfl rfl fun a w b_36 hS hK => ?_
    refine sl_storeA (vs := [.string y_28.1.Name, v_32, v_34]) (c' := [.string y_28.1.Name, v_32, v_34]) Try.sizeOf26 hS hK rfl rfl rfl rfl (all_cons rfl (all_cons hs_33.one (all_cons hs_35.one (all_nil)))) (Nat.le_of_ble_eq_true rfl) rfl fun a w hS hK => ?_
    refine sl hK (by decide) rfl rfl (r_assign hK rfl) fun a hK => ?_
    refine wpList_nil ?_
    refine wp_seq ?_
    refine wp_region_lit ?_
    refine sl hK (by decide) rfl rfl (r_loadA (cs := [.string y_19.1.Name, v_23, v_25]) Try.isAgg26 Try.sizeOf26 rfl hK rfl (hS.cells_of (m := 3) (.tail _ (.head _)) rfl)) fun a hK => ?_
    refine sl hK (by decide) rfl rfl (r_loadA (cs := [.string y_28.1.Name, v_32, v_34]) Try.isAgg26 Try.sizeOf26 rfl hK rfl (hS.cells_of (m := 3) (.head _) rfl)) fun a hK => ?_
    obtain ⟨y_37, h_38, H⟩ := bind_some H
    refine sl_callV Try.call11 hS hK (by decide) rfl rfl rfl (law05_same.calls y_19.1 y_28.1 (lentOf_sub [] _) (hs_24.mono (hl_31.le.trans hS.rLe0)) (hs_26.mono (hl_31.le.trans hS.rLe0)) (hs_33.mono hS.rLe0) (hs_35.mono hS.rLe0) h_38) fun a w hS hK => ?_
    refine sl hK (by decide) rfl rfl (r_assign hK rfl) fun a hK => ?_
    refine wpList_nil ?_
    refine wp_seq ?_
    refine parT_region (C := fun w => St [] w0 w R_30 [.cells b_36 [.string y_28.1.Name, v_32, v_34] 26, .cells b_27 [.string y_19.1.Name, v_23, v_25] 26]) 3 [(0, true), (2, true), (1, false)] mixed (by kernel_rfl) hS (fun w hS => hS) fun w hS => ?_
    refine sp (k := 0) rfl hK (by decide) rfl rfl (fun w hS => r_loadA (cs := [.string y_19.1.Name, v_23, v_25]) Try.isAgg26 Try.sizeOf26 rfl hK rfl (hS.cells_of (m := 3) (.tail _ (.head _)) rfl)) fun a hK => ?_
    refine sp (k := 2) rfl hK (by decide) rfl rfl (fun w hS => r_loadA (cs := [.string y_28.1.Name, v_32, v_34]) Try.isAgg26 Try.sizeOf26 rfl hK rfl (hS.cells_of (m := 3) (.head _) rfl)) fun a hK => ?_
    refine spw (k := 1) rfl rfl hS ?_
    obtain ⟨y_57, h_58, H⟩ := bind_some H
    refine sl_call Try.call13 hK (by decide) rfl rfl rfl (schema_Cols.calls y_19.1 hS.sub (hs_24.mono hl_31.le) (hs_26.mono hl_31.le) h_58) fun a v_ w hv_ hK => ?_
    obtain ⟨R_59, v_62, cs_63, hv_, hr_, hl_60, hq_64⟩ := hv_
    have hv_ := hv_.symm
    subst hv_
    obtain ⟨hS, hl_60⟩ := hS.sp0.back hr_ hl_60
    have hS := hS.un1
    have hRL := hRL.trans hl_60
    refine parK_nil ((hS.pk2.pk2.trunc 2).lower hl_60.le) ?_
    refine thenL_nil ?_
    obtain ⟨y_65, h_66, H⟩ := bind_some H
    refine sl_call Try.call14 hK (by decide) rfl rfl rfl (ref05_Cols.calls y_28.1 (lentOf_sub [] _) hS.sub (hs_33.mono (hl_60.le.trans hS.rLe0)) (hs_35.mono (hl_60.le.trans hS.rLe0)) h_66) fun a v_ w hv_ hK => ?_
    obtain ⟨R_67, v_70, cs_71, hv_, hr_, hl_68, hq_72⟩ := hv_
    have hv_ := hv_.symm
    subst hv_
    obtain ⟨hS, hl_68⟩ := hS.sp0.back hr_ hl_68
    have hS := hS.un1
    have hRL := hRL.trans hl_68
    obtain ⟨y_73, h_74, H⟩ := bind_some H
    refine sl_callV Try.call12 hS hK (by decide) rfl rfl rfl (ref02_SameCols.calls y_57 y_65 (lentOf_sub [] _) (hS.lend_row0 (.tail _ (.head _)) (hq_64.mono hl_68.le) rfl rfl) (hS.lend_row0 (.head _) hq_72 rfl rfl) h_74) fun a w hS hK => ?_
    refine sl hK (by decide) rfl rfl (r_assign hK rfl) fun a hK => ?_
    refine wpList_nil (NoP_nil ?_)
    refine wp_seq ?_
    refine wp_region_lit ?_
    refine sl hK (by decide) rfl rfl (r_move hK rfl) fun a hK => ?_
    refine sl hK (by decide) rfl rfl (r_move hK rfl) fun a hK => ?_
    rcases or_b y_1 with hb_75 | hb_75
    · rw [ifb_t hb_75] at H
      refine sl hK (by decide) (wtt hb_75) rfl (r_move hK rfl) fun a hK => ?_
      obtain ⟨y_76, h_77, H⟩ := bind_some H
      refine sl_callV Try.call15 hS hK (by decide) (wtt hb_75) rfl rfl (schema_Word.calls a1 (lentOf_sub [] _) (GF.mono (hS.raLe0 hRA nil_not) hG) h_77) fun a w hS hK => ?_
      refine sl hK (by decide) (wtt hb_75) rfl (r_move hK rfl) fun a hK => ?_
      obtain ⟨y_78, h_79, H⟩ := bind_some H
      refine sl_callV Try.call16 hS hK (by decide) (wtt hb_75) rfl rfl (ref05_Word.calls a1 h_79 _) fun a w hS hK => ?_
      refine sl hK (by decide) (wtt hb_75) rfl (r_beq Try.underlying4 hK rfl rfl) fun a hK => ?_
      refine sl hK (by decide) rfl rfl (r_pick_t hb_75 hK rfl rfl) fun a hK => ?_
      refine sl hK (by decide) rfl rfl (r_move hK rfl) fun a hK => ?_
      rcases or_b (y_76 == y_78) with hb_80 | hb_80
      · rw [ifb_t hb_80] at H
        refine sl hK (by decide) (wtt hb_80) rfl (r_move hK rfl) fun a hK => ?_
        obtain ⟨y_81, h_82, H⟩ := bind_some H
        refine sl_callV Try.call17 hS hK (by decide) (wtt hb_80) rfl rfl (schema_Check.calls x_11 (lentOf_sub [] _) hS.sub (hs_10.mono (hl_22.le.trans (hl_31.le.trans (hl_60.le.trans hl_68.le)))) (GF.mono (hS.raLe0 hRA nil_not) hG) h_82) fun a w hS hK => ?_
        refine sl hK (by decide) (wtt hb_80) rfl (r_move hK rfl) fun a hK => ?_
        obtain ⟨y_83, h_84, H⟩ := bind_some H
        refine sl_callV Try.call18 hS hK (by decide) (wtt hb_80) rfl rfl (ref05_Check.calls x_11 (lentOf_sub [] _) (hs_10.mono ((hl_22.le.trans (hl_31.le.trans (hl_60.le.trans hl_68.le))).trans hS.rLe0)) h_84) fun a w hS hK => ?_
        refine sl hK (by decide) (wtt hb_80) rfl (r_ibin hK rfl rfl rfl) fun a hK => ?_
        refine sl hK (by decide) rfl rfl (r_pick_t hb_80 hK rfl rfl) fun a hK => ?_
        refine sl hK (by decide) rfl rfl (r_move hK rfl) fun a hK => ?_
        rcases or_b (y_81 == y_83) with hb_85 | hb_85
        · rw [ifb_t hb_85] at H
          refine sl hK (by decide) (wtt hb_85) rfl (r_move hK rfl) fun a hK => ?_
          refine sl hK (by decide) rfl rfl (r_pick_t hb_85 hK rfl rfl) fun a hK => ?_
          refine sl hK (by decide) rfl rfl (r_move hK rfl) fun a hK => ?_
          rcases or_b y_37 with hb_86 | hb_86
          · rw [ifb_t hb_86] at H
            refine sl hK (by decide) (wtt hb_86) rfl (r_move hK rfl) fun a hK => ?_
            refine sl hK (by decide) (wtt hb_86) rfl (r_move hK rfl) fun a hK => ?_
            refine sl hK (by decide) (wtt hb_86) rfl (r_beq Try.underlying4 hK rfl rfl) fun a hK => ?_
            refine sl hK (by decide) rfl rfl (r_pick_t hb_86 hK rfl rfl) fun a hK => ?_
            refine sl hK (by decide) rfl rfl (r_move hK rfl) fun a hK => ?_
            rcases or_b (y_19.2 == y_28.2) with hb_87 | hb_87
            · rw [ifb_t hb_87] at H
              refine sl hK (by decide) (wtt hb_87) rfl (r_move hK rfl) fun a hK => ?_
              refine sl hK (by decide) rfl rfl (r_pick_t hb_87 hK rfl rfl) fun a hK => ?_
              refine sl hK (by decide) rfl rfl (r_assign hK rfl) fun a hK => ?_
              refine wpList_nil ?_
              have hr_ := Option.some.inj H
              refine wp_ret ?_
              repeat (first | refine ret_then ?_ | refine ret_block ?_ | refine ret_scope ?_)
              exact ret_1 Try.results3 hK (rv_tmp hK rfl) ⟨congrArg (fun b => Ending.returned (Value.bool b)) hr_, hS.bel⟩
            · rw [ifb_f hb_87] at H
              refine sl_skip hK (by decide) (wtf hb_87) rfl fun a hK => ?_
              refine sl hK (by decide) rfl rfl (r_pick_f hb_87 hK rfl rfl) fun a hK => ?_
              refine sl hK (by decide) rfl rfl (r_assign hK rfl) fun a hK => ?_
              refine wpList_nil ?_
              exact absurd (Option.some.inj H) (by decide)
          · rw [ifb_f hb_86] at H
            refine sl_skip hK (by decide) (wtf hb_86) rfl fun a hK => ?_
            refine sl_skip hK (by decide) (wtf hb_86) rfl fun a hK => ?_
            refine sl_skip hK (by decide) (wtf hb_86) rfl fun a hK => ?_
            refine sl hK (by decide) rfl rfl (r_pick_f hb_86 hK rfl rfl) fun a hK => ?_
            refine sl hK (by decide) rfl rfl (r_move hK rfl) fun a hK => ?_
            refine sl_skip hK (by decide) rfl rfl fun a hK => ?_
            refine sl hK (by decide) rfl rfl (r_pick hK rfl rfl rfl) fun a hK => ?_
            refine sl hK (by decide) rfl rfl (r_assign hK rfl) fun a hK => ?_
            refine wpList_nil ?_
            exact absurd (Option.some.inj H) (by decide)
        · rw [ifb_f hb_85] at H
          refine sl_skip hK (by decide) (wtf hb_85) rfl fun a hK => ?_
          refine sl hK (by decide) rfl rfl (r_pick_f hb_85 hK rfl rfl) fun a hK => ?_
          refine sl hK (by decide) rfl rfl (r_move hK rfl) fun a hK => ?_
          refine sl_skip hK (by decide) rfl rfl fun a hK => ?_
          refine sl_skip hK (by decide) rfl rfl fun a hK => ?_
          refine sl_skip hK (by decide) rfl rfl fun a hK => ?_
          refine sl hK (by decide) rfl rfl (r_pick hK rfl rfl rfl) fun a hK => ?_
          refine sl hK (by decide) rfl rfl (r_move hK rfl) fun a hK => ?_
          refine sl_skip hK (by decide) rfl rfl fun a hK => ?_
          refine sl hK (by decide) rfl rfl (r_pick hK rfl rfl rfl) fun a hK => ?_
          refine sl hK (by decide) rfl rfl (r_assign hK rfl) fun a hK => ?_
          refine wpList_nil ?_
          exact absurd (Option.some.inj H) (by decide)
      · rw [ifb_f hb_80] at H
        refine sl_skip hK (by decide) (wtf hb_80) rfl fun a hK => ?_
        refine sl_skip hK (by decide) (wtf hb_80) rfl fun a hK => ?_
        refine sl_skip hK (by decide) (wtf hb_80) rfl fun a hK => ?_
        refine sl_skip hK (by decide) (wtf hb_80) rfl fun a hK => ?_
        refine sl_skip hK (by decide) (wtf hb_80) rfl fun a hK => ?_
        refine sl hK (by decide) rfl rfl (r_pick_f hb_80 hK rfl rfl) fun a hK => ?_
        refine sl hK (by decide) rfl rfl (r_move hK rfl) fun a hK => ?_
        refine sl_skip hK (by decide) rfl rfl fun a hK => ?_
        refine sl hK (by decide) rfl rfl (r_pick hK rfl rfl rfl) fun a hK => ?_
        refine sl hK (by decide) rfl rfl (r_move hK rfl) fun a hK => ?_
        refine sl_skip hK (by decide) rfl rfl fun a hK => ?_
        refine sl_skip hK (by decide) rfl rfl fun a hK => ?_
        refine sl_skip hK (by decide) rfl rfl fun a hK => ?_
        refine sl hK (by decide) rfl rfl (r_pick hK rfl rfl rfl) fun a hK => ?_
        refine sl hK (by decide) rfl rfl (r_move hK rfl) fun a hK => ?_
        refine sl_skip hK (by decide) rfl rfl fun a hK => ?_
        refine sl hK (by decide) rfl rfl (r_pick hK rfl rfl rfl) fun a hK => ?_
        refine sl hK (by decide) rfl rfl (r_assign hK rfl) fun a hK => ?_
        refine wpList_nil ?_
        exact absurd (Option.some.inj H) (by decide)
    · rw [ifb_f hb_75] at H
      refine sl_skip hK (by decide) (wtf hb_75) rfl fun a hK => ?_
      refine sl_skip hK (by decide) (wtf hb_75) rfl fun a hK => ?_
      refine sl_skip hK (by decide) (wtf hb_75) rfl fun a hK => ?_
      refine sl_skip hK (by decide) (wtf hb_75) rfl fun a hK => ?_
      refine sl_skip hK (by decide) (wtf hb_75) rfl fun a hK => ?_
      refine sl hK (by decide) rfl rfl (r_pick_f hb_75 hK rfl rfl) fun a hK => ?_
      refine sl hK (by decide) rfl rfl (r_move hK rfl) fun a hK => ?_
      refine sl_skip hK (by decide) rfl rfl fun a hK => ?_
      refine sl_skip hK (by decide) rfl rfl fun a hK => ?_
      refine sl_skip hK (by decide) rfl rfl fun a hK => ?_
      refine sl_skip hK (by decide) rfl rfl fun a hK => ?_
      refine sl_skip hK (by decide) rfl rfl fun a hK => ?_
      refine sl hK (by decide) rfl rfl (r_pick hK rfl rfl rfl) fun a hK => ?_
      refine sl hK (by decide) rfl rfl (r_move hK rfl) fun a hK => ?_
      refine sl_skip hK (by decide) rfl rfl fun a hK => ?_
      refine sl hK (by decide) rfl rfl (r_pick hK rfl rfl rfl) fun a hK => ?_
      refine sl hK (by decide) rfl rfl (r_move hK rfl) fun a hK => ?_
      refine sl_skip hK (by decide) rfl rfl fun a hK => ?_
      refine sl_skip hK (by decide) rfl rfl fun a hK => ?_
      refine sl_skip hK (by decide) rfl rfl fun a hK => ?_
      refine sl hK (by decide) rfl rfl (r_pick hK rfl rfl rfl) fun a hK => ?_
      refine sl hK (by decide) rfl rfl (r_move hK rfl) fun a hK => ?_
      refine sl_skip hK (by decide) rfl rfl fun a hK => ?_
      refine sl hK (by decide) rfl rfl (r_pick hK rfl rfl rfl) fun a hK => ?_
      refine sl hK (by decide) rfl rfl (r_assign hK rfl) fun a hK => ?_
      refine wpList_nil ?_
      exact absurd (Option.some.inj H) (by decide)

end Go.Proofs.Ytiegghohcghmkaa.M
