/- Each Go function of the laws answers as its plain Lean function tells, wherever that tells something. Printed by wip/eng/gen.py. -/
import Derived.Test.YtojfckndloelpaaPure
import Derived.Test.YtojfckndloelpaaProg
namespace Go.Proofs.Ytojfckndloelpaa.M
open Go Go.Eng Go.Proofs Go.RowKit
set_option linter.unusedVariables false
set_option linter.unusedSimpArgs false

theorem mixed : Try.prog.follows .mixedOrders = true := by kernel_rfl
theorem elT23 : ElT Try.prog 23 35 1 24 := ⟨Try.underlying23, ⟨Try.t35, _, Try.type35, rfl, rfl, rfl, rfl⟩, by decide⟩
theorem elT22 : ElT Try.prog 22 43 2 24 := ⟨Try.underlying22, ⟨Try.t43, _, Try.type43, rfl, rfl, rfl, rfl⟩, by decide⟩
theorem elT35 : ElT Try.prog 35 50 11 96 := ⟨Try.underlying35, ⟨Try.t50, _, Try.type50, rfl, rfl, rfl, rfl⟩, by decide⟩
theorem elT45 : ElT Try.prog 45 3 1 8 := ⟨Try.underlying45, ⟨Try.t3, _, Try.type3, rfl, rfl, rfl, rfl⟩, by decide⟩
theorem elT39 : ElT Try.prog 39 9 1 16 := ⟨Try.underlying39, ⟨Try.t9, _, Try.type9, rfl, rfl, rfl, rfl⟩, by decide⟩
theorem ext77 (a b : ByteArray) (w : World) : (callFunc 77 #[.string a, .string b]).run Try.prog w = .ok (.value (.int .i64 (Lib.compareBytes a.data.toList b.data.toList))) w := by
  rw [run_callFunc_extern Try.func77 (by kernel_rfl) (by kernel_rfl) (by kernel_rfl) (e := Extern.BytealgCompare.compare) (by kernel_rfl), Lib.run_compareString]
  rfl
theorem places43 (w : World) : (placesOf Try.prog 43).run Try.prog w = .ok #[(0, 1), (1, 1)] w := by
  unfold placesOf
  rw [Try.underlying43]
  simp [Try.sizeOf3, Try.sizeOf9]
theorem places25 (w : World) : (placesOf Try.prog 25).run Try.prog w = .ok #[(0, 1), (1, 1)] w := by
  unfold placesOf
  rw [Try.underlying25]
  simp [Try.sizeOf22, Try.sizeOf23]
theorem places50 (w : World) : (placesOf Try.prog 50).run Try.prog w = .ok #[(0, 1), (1, 1), (2, 1), (3, 8)] w := by
  unfold placesOf
  rw [Try.underlying50]
  simp [Try.sizeOf3, Try.sizeOf48, Try.sizeOf9]
def sortL37_ren : Go.Shelf.Ren := ⟨fun | 6 => 37 | 15 => 48 | 14 => 47 | 28 => 62 | 29 => 63 | 20 => 54 | 21 => 55 | 22 => 56 | 23 => 57 | 24 => 58 | 25 => 59 | 26 => 60 | 27 => 61 | 46 => 69 | 47 => 70 | 48 => 71 | 49 => 72 | 50 => 73 | 57 => 76 | n => n, fun | 22 => 23 | 24 => 35 | 25 => 58 | 3 => 3 | 39 => 68 | 0 => 0 | 53 => 83 | 55 => 85 | 4 => 4 | 46 => 76 | 45 => 75 | 50 => 80 | 5 => 5 | 9 => 9 | 66 => 90 | 70 => 94 | 76 => 97 | 77 => 98 | n => n, fun | n => n⟩
theorem sortL37 : Go.Proofs.SlLaysF.n6 Try.prog sortL37_ren := {
  mixed := by kernel_rfl
  f6 := ⟨Try.f37.name, by decide, Try.func37.trans (congrArg some (by kernel_rfl))⟩
  f14 := ⟨Try.f47.name, by decide, Try.func47.trans (congrArg some (by kernel_rfl))⟩
  f15 := Try.func48.trans (congrArg some (by kernel_rfl))
  f20 := ⟨Try.f54.name, by decide, Try.func54.trans (congrArg some (by kernel_rfl))⟩
  f21 := ⟨Try.f55.name, by decide, Try.func55.trans (congrArg some (by kernel_rfl))⟩
  f22 := ⟨Try.f56.name, by decide, Try.func56.trans (congrArg some (by kernel_rfl))⟩
  f23 := ⟨Try.f57.name, by decide, Try.func57.trans (congrArg some (by kernel_rfl))⟩
  f24 := ⟨Try.f58.name, by decide, Try.func58.trans (congrArg some (by kernel_rfl))⟩
  f25 := ⟨Try.f59.name, by decide, Try.func59.trans (congrArg some (by kernel_rfl))⟩
  f26 := ⟨Try.f60.name, by decide, Try.func60.trans (congrArg some (by kernel_rfl))⟩
  f27 := ⟨Try.f61.name, by decide, Try.func61.trans (congrArg some (by kernel_rfl))⟩
  f28 := Try.func62.trans (congrArg some (by kernel_rfl))
  f29 := Try.func63.trans (congrArg some (by kernel_rfl))
  f46 := ⟨Try.f69.name, by decide, Try.func69.trans (congrArg some (by kernel_rfl))⟩
  f47 := Try.func70.trans (congrArg some (by kernel_rfl))
  f48 := Try.func71.trans (congrArg some (by kernel_rfl))
  f49 := ⟨Try.f72.name, by decide, Try.func72.trans (congrArg some (by kernel_rfl))⟩
  f50 := ⟨Try.f73.name, by decide, Try.func73.trans (congrArg some (by kernel_rfl))⟩
  f57 := ⟨Try.f76.name, by decide, Try.func76.trans (congrArg some (by kernel_rfl))⟩
  t0 := Try.underlying0
  a0 := Try.isAgg0
  z0 := Try.sizeOf0
  v0 := Try.zeroValue0
  t3 := Try.underlying3
  a3 := Try.isAgg3
  z3 := Try.sizeOf3
  v3 := Try.zeroValue3
  t4 := Try.underlying4
  a4 := Try.isAgg4
  z4 := Try.sizeOf4
  v4 := Try.zeroValue4
  t5 := Try.underlying5
  a5 := Try.isAgg5
  z5 := Try.sizeOf5
  v5 := Try.zeroValue5
  t9 := Try.underlying9
  a9 := Try.isAgg9
  z9 := Try.sizeOf9
  v9 := Try.zeroValue9
  t22 := Try.underlying23
  a22 := Try.isAgg23
  z22 := Try.sizeOf23
  v22 := Try.zeroValue23
  a24 := Try.isAgg35
  z24 := Try.sizeOf35
  t25 := Try.underlying58
  a25 := Try.isAgg58
  z25 := Try.sizeOf58
  v25 := Try.zeroValue58
  t39 := Try.underlying68
  a39 := Try.isAgg68
  z39 := Try.sizeOf68
  v39 := Try.zeroValue68
  t45 := Try.underlying75
  a45 := Try.isAgg75
  z45 := Try.sizeOf75
  v45 := Try.zeroValue75
  t46 := Try.underlying76
  a46 := Try.isAgg76
  z46 := Try.sizeOf76
  v46 := Try.zeroValue76
  t50 := Try.underlying80
  a50 := Try.isAgg80
  z50 := Try.sizeOf80
  v50 := Try.zeroValue80
  t53 := Try.underlying83
  a53 := Try.isAgg83
  z53 := Try.sizeOf83
  v53 := Try.zeroValue83
  t55 := Try.underlying85
  a55 := Try.isAgg85
  z55 := Try.sizeOf85
  v55 := Try.zeroValue85
  t66 := Try.underlying90
  a66 := Try.isAgg90
  z66 := Try.sizeOf90
  v66 := Try.zeroValue90
  t70 := Try.underlying94
  a70 := Try.isAgg94
  z70 := Try.sizeOf94
  v70 := Try.zeroValue94
  t76 := Try.underlying97
  a76 := Try.isAgg97
  z76 := Try.sizeOf97
  v76 := Try.zeroValue97
  t77 := Try.underlying98
  a77 := Try.isAgg98
  z77 := Try.sizeOf98
  v77 := Try.zeroValue98 }
theorem eqs50 (x y : api_Value) : EqS Try.prog 50 #[.int .i64 x.Kind, .int .i64 x.N, .string x.S, .int .i64 x.H.a0, .int .i64 x.H.a1, .int .i64 x.H.a2, .int .i64 x.H.a3, .int .i64 x.H.a4, .int .i64 x.H.a5, .int .i64 x.H.a6, .int .i64 x.H.a7] #[.int .i64 y.Kind, .int .i64 y.N, .string y.S, .int .i64 y.H.a0, .int .i64 y.H.a1, .int .i64 y.H.a2, .int .i64 y.H.a3, .int .i64 y.H.a4, .int .i64 y.H.a5, .int .i64 y.H.a6, .int .i64 y.H.a7] (decide (x = y)) := by
  refine eqS_of (by kernel_rfl) (by kernel_rfl) (fun w => by
    simp only [Program.fieldsOf, Try.underlying50]
    exact eqF_cons (by decide) (run_part1 Try.isAgg3 rfl) (run_part1 Try.isAgg3 rfl) (run_equalIn_int w _ _ _ _ _ _ Try.underlying3) (eqF_cons (by decide) (run_part1 Try.isAgg3 rfl) (run_part1 Try.isAgg3 rfl) (run_equalIn_int w _ _ _ _ _ _ Try.underlying3) (eqF_cons (by decide) (run_part1 Try.isAgg9 rfl) (run_part1 Try.isAgg9 rfl) (run_equalIn_string w _ _ _ _ Try.underlying9) (eqF_cons (by decide) (run_partA (ys := (x.H.list.map (Value.int .i64)).toArray) Try.isAgg48 Try.sizeOf48 rfl) (run_partA (ys := (y.H.list.map (Value.int .i64)).toArray) Try.isAgg48 Try.sizeOf48 rfl) (eq_arr' (q := 9998) Try.underlying48 (fun a b w => run_equalIn_int w 9997 _ _ _ a b Try.underlying3) Try.isAgg3 Try.sizeOf3 x.H.list y.H.list rfl rfl w) (eqF_nil))))) ?_
  simp only [beq_bytes, Arr8.list_inj, Arr2.list_inj, Bool.and_true]
  cases x; cases y; simp <;> rfl
theorem eqs43 (x y : api_Col) : EqS Try.prog 43 #[.string x.Name, .int .i64 x.Kind] #[.string y.Name, .int .i64 y.Kind] (decide (x = y)) := by
  refine eqS_of (by kernel_rfl) (by kernel_rfl) (fun w => by
    simp only [Program.fieldsOf, Try.underlying43]
    exact eqF_cons (by decide) (run_part1 Try.isAgg9 rfl) (run_part1 Try.isAgg9 rfl) (run_equalIn_string w _ _ _ _ Try.underlying9) (eqF_cons (by decide) (run_part1 Try.isAgg3 rfl) (run_part1 Try.isAgg3 rfl) (run_equalIn_int w _ _ _ _ _ _ Try.underlying3) (eqF_nil))) ?_
  simp only [beq_bytes, Arr8.list_inj, Arr2.list_inj, Bool.and_true]
  cases x; cases y; simp <;> rfl
theorem eqs48 (x y : Arr8) : EqS Try.prog 48 (x.list.map (Value.int .i64)).toArray (y.list.map (Value.int .i64)).toArray (decide (x = y)) := eqA_of Try.underlying48 Try.underlying3 Try.isAgg3 Try.sizeOf3 rfl rfl rfl rfl Arr8.list_inj

/-! ### catchment/catchmentlaw02.small: function 28 -/
set_option maxHeartbeats 4000000 in
set_option maxRecDepth 100000 in
theorem law02_small.calls (a0 : ByteArray) (a1 : List Int) {w0 : World} {R : Hp} {RA : Hp} {v1_0 : Value} (hRA : RA.sub w0) (hR : R.sub w0) (h1_0 : SlR (tyInt .i64) RA v1_0 a1) {r : api_Table} (H : law02_small a0 a1 = some r) : Calls Try.prog 28 #[.string a0, v1_0] w0 (Rets fun v w' => ∃ (R' : Hp) (u0 : Value) (cu0 : List Value) (u1 : Value) (cu1 : List Value), v = .agg #[u0, u1] ∧ St [] w0 w' R' [.row 43 2 u0 r.Cols.length cu0, .row 35 1 u1 r.Rows.length cu1] ∧ RLe [] w0 R R' ∧ Reps ty_api_Col R' cu0 r.Cols ∧ Reps (tySl ty_api_Value) R' cu1 r.Rows) := by
  unfold law02_small at H
  refine enter (args := [.string a0, v1_0]) Try.func28 rfl Try.ntmps28 rfl fun a hK => ?_
  have hS := St.init hR
  have hRL := RLe.refl (M := []) w0 R
  refine wp_seq ?_
  refine wp_region_lit ?_
  refine sl_alloc Try.zeroValue25 hS hK (by decide) rfl rfl fun a w b_1 hS hK => ?_
  refine wpList_nil ?_
  refine wp_seq ?_
  refine wp_region_lit ?_
  refine sl hK (by decide) rfl rfl (r_buildC (ps := [(0, .string (⟨#[107]⟩ : ByteArray)), (1, .int .i64 2)]) (c := [.string (⟨#[107]⟩ : ByteArray), .int .i64 2]) Try.underlying43 Try.zeroValue43 places43 hK rfl (pc_cons rfl (pc_cons rfl pc_nil)) rfl rfl) fun a hK => ?_
  refine sl hK (by decide) rfl rfl (r_buildC (ps := [(0, .string (⟨#[110]⟩ : ByteArray)), (1, .int .i64 1)]) (c := [.string (⟨#[110]⟩ : ByteArray), .int .i64 1]) Try.underlying43 Try.zeroValue43 places43 hK rfl (pc_cons rfl (pc_cons rfl pc_nil)) rfl rfl) fun a hK => ?_
  refine sl_buildSliceF (zc := [.string (⟨#[]⟩ : ByteArray), .int .i64 0]) (ps := [(0, .agg #[.string (⟨#[107]⟩ : ByteArray), .int .i64 2]), (1, .agg #[.string (⟨#[110]⟩ : ByteArray), .int .i64 1])]) (c := [.string (⟨#[107]⟩ : ByteArray), .int .i64 2, .string (⟨#[110]⟩ : ByteArray), .int .i64 1]) [[.string (⟨#[107]⟩ : ByteArray), .int .i64 2], [.string (⟨#[110]⟩ : ByteArray), .int .i64 1]] Try.underlying22 Try.sizeOf43 Try.zeroValue43 rfl (pc_cons rfl (pc_cons rfl pc_nil)) rfl rfl (Nat.le_of_ble_eq_true rfl) rfl (all_cons rfl (all_cons rfl (all_nil))) rfl hS hK (by decide) rfl fun a w b_2 hS hK => ?_
  refine sl hK (by decide) rfl rfl (r_buildC (ps := [(0, .slice (some ⟨b_2, 0, none⟩) 2 2)]) (c := [.slice (some ⟨b_2, 0, none⟩) 2 2, .slice none 0 0]) Try.underlying25 Try.zeroValue25 places25 hK rfl (pc_cons rfl pc_nil) rfl rfl) fun a hK => ?_
  refine sl_alloc Try.zeroValue25 hS hK (by decide) rfl rfl fun a w b_3 hS hK => ?_
  refine sl_storeA (vs := [.slice (some ⟨b_2, 0, none⟩) 2 2, .slice none 0 0]) (c' := [.slice (some ⟨b_2, 0, none⟩) 2 2, .slice none 0 0]) Try.sizeOf25 hS hK rfl rfl rfl rfl (all_cons rfl (all_cons rfl (all_nil))) (Nat.le_of_ble_eq_true rfl) rfl fun a w hS hK => ?_
  refine wpList_nil ?_
  refine wp_seq ?_
  refine wp_seq ?_
  refine wp_region_lit ?_
  refine sl hK (by decide) rfl rfl (r_assign hK rfl) fun a hK => ?_
  refine wpList_nil ?_
  refine wp_block ?_
  refine wp_loop_k (fun k_l0 a w => ∃ (x_64 : List api_Col) (x_69 : List (List api_Value)) (x_73 : Int) (R_74 : Hp) (v_65 : Value) (cs_66 : List Value) (v_70 : Value) (cs_71 : List Value), law02_small.l0 a0 a1 k_l0 x_64 x_69 x_73 = some r ∧ RLe [] w0 R R_74 ∧ Reps ty_api_Col R_74 cs_66 x_64 ∧ Reps (tySl ty_api_Value) R_74 cs_71 x_69 ∧ Kn 35 a [(0, .string a0), (1, v1_0), (4, .pointer (some ⟨b_1, 0, none⟩)), (5, .pointer (some ⟨b_3, 0, none⟩)), (6, .int .i64 x_73)] ∧ St [] w0 w R_74 [.cells b_1 [.slice none 0 0, .slice none 0 0] 25, .row 43 2 v_65 x_64.length cs_66, .row 35 1 v_70 x_69.length cs_71, .cells b_3 [v_65, v_70] 25]) (((a0.size : Int) - 0).toNat + 1) ?_ ?_
  · have hS := hS.pk1
    have hS := hS.row_lit (size := 2) (m := 2) rfl (by decide)
    have hq_122 : Reps ty_api_Col R [.string (⟨#[107]⟩ : ByteArray), .int .i64 2, .string (⟨#[110]⟩ : ByteArray), .int .i64 1] [(⟨(⟨#[107]⟩ : ByteArray), 2⟩ : api_Col), (⟨(⟨#[110]⟩ : ByteArray), 1⟩ : api_Col)] := (Reps.cons (show Ty.rep ty_api_Col _ [.string (⟨#[107]⟩ : ByteArray), .int .i64 2] (⟨(⟨#[107]⟩ : ByteArray), 2⟩ : api_Col) from rfl) (Reps.cons (show Ty.rep ty_api_Col _ [.string (⟨#[110]⟩ : ByteArray), .int .i64 1] (⟨(⟨#[110]⟩ : ByteArray), 1⟩ : api_Col) from rfl) (Reps.nil _ _)))
    have hS := hS.row_nil 35 1
    have hq_124 : Reps (tySl ty_api_Value) R [] ([] : List (List api_Value)) := Reps.nil _ _
    have hS := hS.pk2
    have hS := hS.pk1
    have hS := hS.pk2
    have hS := hS.pk3
    exact ⟨[(⟨(⟨#[107]⟩ : ByteArray), 2⟩ : api_Col), (⟨(⟨#[110]⟩ : ByteArray), 1⟩ : api_Col)], [], 0, _, _, _, _, _, H, (RLe.refl _ _), hq_122, hq_124, hK.sub (all_cons rfl (all_cons rfl (all_cons rfl (all_cons rfl (all_cons rfl (all_nil)))))), hS⟩
  · rintro k_l0 a w ⟨x_64, x_69, x_73, R_74, v_65, cs_66, v_70, cs_71, H, hl_75, hq_67, hq_72, hK, hS⟩
    cases k_l0 with
    | zero => cases H
    | succ k_l0 =>
    rw [law02_small.l0.eq_2] at H
    have hRL := hRL.trans hl_75
    refine wp_seq ?_
    refine wp_seq ?_
    refine wp_region_lit ?_
    refine sl hK (by decide) rfl rfl (r_move hK rfl) fun a hK => ?_
    refine sl hK (by decide) rfl rfl (r_move hK rfl) fun a hK => ?_
    refine sl hK (by decide) rfl rfl (r_len_str Try.underlying9 hK rfl) fun a hK => ?_
    refine sl hK (by decide) rfl rfl (r_ibin hK rfl rfl rfl) fun a hK => ?_
    refine wpList_nil ?_
    refine wp_cond_split (hK.ev rfl) (fun (hb_125 : (decide (x_73 < (a0.size : Int))) = true) => ?_) (fun (hb_125 : (decide (x_73 < (a0.size : Int))) = false) => ?_)
    · rw [ifb_t hb_125] at H
      refine wp_skip ?_
      refine wp_seq ?_
      refine wp_block ?_
      refine parT_region (C := fun w => St [] w0 w R_74 [.cells b_1 [.slice none 0 0, .slice none 0 0] 25, .row 43 2 v_65 x_64.length cs_66, .row 35 1 v_70 x_69.length cs_71, .cells b_3 [v_65, v_70] 25]) 15 [(0, true), (1, true), (2, true), (3, true), (4, true), (5, true), (6, true), (7, true), (8, true), (9, true), (10, true), (11, true), (12, true), (13, false), (14, false)] mixed (by kernel_rfl) hS (fun w hS => hS) fun w hS => ?_
      refine sp (k := 0) rfl hK (by decide) rfl rfl (fun w hS => r_fieldAddr Try.underlying25 rfl Try.sizeOf23 hK rfl) fun a hK => ?_
      refine sp (k := 1) rfl hK (by decide) rfl rfl (fun w hS => r_load Try.isAgg23 hK rfl (hS.cell (.tail _ (.tail _ (.tail _ (.head _)))) rfl)) fun a hK => ?_
      refine sp (k := 2) rfl hK (by decide) rfl rfl (fun w hS => r_move hK rfl) fun a hK => ?_
      refine sp (k := 3) rfl hK (by decide) rfl rfl (fun w hS => r_move hK rfl) fun a hK => ?_
      refine sp (k := 4) rfl hK (by decide) rfl rfl (fun w hS => r_move hK rfl) fun a hK => ?_
      refine sp (k := 5) rfl hK (by decide) rfl rfl (fun w hS => r_ibin hK rfl rfl rfl) fun a hK => ?_
      obtain ⟨y_148, h_149, H⟩ := bind_some H
      refine sp (k := 6) rfl hK (by decide) rfl rfl (fun w hS => r_slice_s (lo := some (.tmp 20)) (hi := some (.tmp 22)) Try.underlying9 h_149 hK rfl ⟨_, rfl⟩ ⟨_, rfl⟩) fun a hK => ?_
      refine sp (k := 7) rfl hK (by decide) rfl rfl (fun w hS => r_buildC (ps := [(0, .int .i64 2), (2, .string y_148)]) (c := [.int .i64 2, .int .i64 0, .string y_148, .int .i64 0, .int .i64 0, .int .i64 0, .int .i64 0, .int .i64 0, .int .i64 0, .int .i64 0, .int .i64 0]) Try.underlying50 Try.zeroValue50 places50 hK rfl (pc_cons rfl (pc_cons rfl pc_nil)) rfl rfl) fun a hK => ?_
      refine sp (k := 8) rfl hK (by decide) rfl rfl (fun w hS => r_move hK rfl) fun a hK => ?_
      refine sp (k := 9) rfl hK (by decide) rfl rfl (fun w hS => r_move hK rfl) fun a hK => ?_
      obtain ⟨y_150, h_151, H⟩ := bind_some H
      obtain ⟨b_152, o_153, c_154, cs_155, hv_156, hr_157, hc_158, h_1510, h_1511⟩ := h1_0.ix h_151
      subst hr_157
      refine sp (k := 10) rfl hK (by decide) rfl rfl (fun w hS => r_indexAddr_R Try.underlying45 Try.sizeOf3 hv_156 h_1510 h_1511 hK rfl rfl) fun a hK => ?_
      refine sp (k := 11) rfl hK (by decide) rfl rfl (fun w hS => r_load Try.isAgg3 hK rfl ((hS.ra hRA nil_not).cell (hc_158 0 _ rfl))) fun a hK => ?_
      refine sp (k := 12) rfl hK (by decide) rfl rfl (fun w hS => r_buildC (ps := [(0, .int .i64 1), (1, .int .i64 y_150)]) (c := [.int .i64 1, .int .i64 y_150, .string (⟨#[]⟩ : ByteArray), .int .i64 0, .int .i64 0, .int .i64 0, .int .i64 0, .int .i64 0, .int .i64 0, .int .i64 0, .int .i64 0]) Try.underlying50 Try.zeroValue50 places50 hK rfl (pc_cons rfl (pc_cons rfl pc_nil)) rfl rfl) fun a hK => ?_
      refine spw (k := 13) rfl rfl hS ?_
      refine sl_buildSliceF (zc := [.int .i64 0, .int .i64 0, .string (⟨#[]⟩ : ByteArray), .int .i64 0, .int .i64 0, .int .i64 0, .int .i64 0, .int .i64 0, .int .i64 0, .int .i64 0, .int .i64 0]) (ps := [(0, .agg #[.int .i64 2, .int .i64 0, .string y_148, .int .i64 0, .int .i64 0, .int .i64 0, .int .i64 0, .int .i64 0, .int .i64 0, .int .i64 0, .int .i64 0]), (1, .agg #[.int .i64 1, .int .i64 y_150, .string (⟨#[]⟩ : ByteArray), .int .i64 0, .int .i64 0, .int .i64 0, .int .i64 0, .int .i64 0, .int .i64 0, .int .i64 0, .int .i64 0])]) (c := [.int .i64 2, .int .i64 0, .string y_148, .int .i64 0, .int .i64 0, .int .i64 0, .int .i64 0, .int .i64 0, .int .i64 0, .int .i64 0, .int .i64 0, .int .i64 1, .int .i64 y_150, .string (⟨#[]⟩ : ByteArray), .int .i64 0, .int .i64 0, .int .i64 0, .int .i64 0, .int .i64 0, .int .i64 0, .int .i64 0, .int .i64 0]) [[.int .i64 2, .int .i64 0, .string y_148, .int .i64 0, .int .i64 0, .int .i64 0, .int .i64 0, .int .i64 0, .int .i64 0, .int .i64 0, .int .i64 0], [.int .i64 1, .int .i64 y_150, .string (⟨#[]⟩ : ByteArray), .int .i64 0, .int .i64 0, .int .i64 0, .int .i64 0, .int .i64 0, .int .i64 0, .int .i64 0, .int .i64 0]] Try.underlying35 Try.sizeOf50 Try.zeroValue50 rfl (pc_cons rfl (pc_cons rfl pc_nil)) rfl rfl (Nat.le_of_ble_eq_true rfl) rfl (all_cons rfl (all_cons rfl (all_nil))) rfl hS hK (by decide) rfl fun a w b_159 hS hK => ?_
      refine parK_nil (hS.pk4.pk4.pk4.pk4.trunc 4) ?_
      refine spw (k := 14) rfl rfl (hS.pk4.pk4.pk4.pk4.trunc 4) ?_
      refine sl_buildSliceF (zc := [.slice none 0 0]) (ps := [(0, .slice (some ⟨b_159, 0, none⟩) 2 2)]) (c := [.slice (some ⟨b_159, 0, none⟩) 2 2]) [[.slice (some ⟨b_159, 0, none⟩) 2 2]] Try.underlying23 Try.sizeOf35 Try.zeroValue35 rfl (pc_cons rfl pc_nil) rfl rfl (Nat.le_of_ble_eq_true rfl) rfl (all_cons rfl (all_nil)) rfl hS hK (by decide) rfl fun a w b_160 hS hK => ?_
      refine parK_nil (hS.pk5.pk5.pk5.pk5.trunc 4) ?_
      refine thenL_nil ?_
      have hS := hS.pk4
      have hS := hS.pk2
      obtain ⟨R_161, hS, hl_163, hs_162⟩ := hS.fz_lit (ty := ty_api_Value) (xs := [(⟨2, 0, y_148, (⟨0, 0, 0, 0, 0, 0, 0, 0⟩ : Arr8)⟩ : api_Value), (⟨1, y_150, (⟨#[]⟩ : ByteArray), (⟨0, 0, 0, 0, 0, 0, 0, 0⟩ : Arr8)⟩ : api_Value)]) (Reps.cons (show Ty.rep ty_api_Value _ [.int .i64 2, .int .i64 0, .string y_148, .int .i64 0, .int .i64 0, .int .i64 0, .int .i64 0, .int .i64 0, .int .i64 0, .int .i64 0, .int .i64 0] (⟨2, 0, y_148, (⟨0, 0, 0, 0, 0, 0, 0, 0⟩ : Arr8)⟩ : api_Value) from rfl) (Reps.cons (show Ty.rep ty_api_Value _ [.int .i64 1, .int .i64 y_150, .string (⟨#[]⟩ : ByteArray), .int .i64 0, .int .i64 0, .int .i64 0, .int .i64 0, .int .i64 0, .int .i64 0, .int .i64 0, .int .i64 0] (⟨1, y_150, (⟨#[]⟩ : ByteArray), (⟨0, 0, 0, 0, 0, 0, 0, 0⟩ : Arr8)⟩ : api_Value) from rfl) (Reps.nil _ _))) rfl
      have hRL := hRL.trans hl_163
      obtain ⟨y_164, h_165, H⟩ := bind_some H
      refine sl_append_L (ty := (tySl ty_api_Value)) (ys := [[(⟨2, 0, y_148, (⟨0, 0, 0, 0, 0, 0, 0, 0⟩ : Arr8)⟩ : api_Value), (⟨1, y_150, (⟨#[]⟩ : ByteArray), (⟨0, 0, 0, 0, 0, 0, 0, 0⟩ : Arr8)⟩ : api_Value)]]) elT23 (by decide) rfl (hq_72.mono hl_163.le) rfl (Reps.cons (show Ty.rep (tySl ty_api_Value) _ [(.slice (some ⟨b_159, 0, none⟩) 2 2)] [(⟨2, 0, y_148, (⟨0, 0, 0, 0, 0, 0, 0, 0⟩ : Arr8)⟩ : api_Value), (⟨1, y_150, (⟨#[]⟩ : ByteArray), (⟨0, 0, 0, 0, 0, 0, 0, 0⟩ : Arr8)⟩ : api_Value)] from ⟨_, rfl, hs_162⟩) (Reps.nil _ _)) rfl h_165 hS hK (by decide) rfl rfl rfl fun a w v_166 cs_167 hq_168 hS hK => ?_
      refine sl hK (by decide) rfl rfl (r_fieldAddr Try.underlying25 rfl Try.sizeOf23 hK rfl) fun a hK => ?_
      have hS := hS.pk3
      refine sl_store1 (c' := [v_65, v_166]) Try.sizeOf23 hS hK rfl rfl rfl (hS.row_one (.tail _ (.head _))) (Nat.le_of_ble_eq_true rfl) rfl fun a w hS hK => ?_
      refine wpList_nil (NoP_nil ?_)
      refine wp_region_lit ?_
      refine sl hK (by decide) rfl rfl (r_move hK rfl) fun a hK => ?_
      refine sl hK (by decide) rfl rfl (r_ibin hK rfl rfl rfl) fun a hK => ?_
      refine sl hK (by decide) rfl rfl (r_assign hK rfl) fun a hK => ?_
      refine wpList_nil ?_
      have hS := hS.pk1
      have hS := hS.pk3
      have hS := hS.pk3
      exact ⟨_, Nat.lt_succ_self _, x_64, y_164, (IntKind.i64.wrap (x_73 + 1)), _, _, _, _, _, H, (hl_75.trans hl_163), (hq_67.mono hl_163.le), hq_168, hK.sub (all_cons rfl (all_cons rfl (all_cons rfl (all_cons rfl (all_cons rfl (all_nil)))))), hS⟩
    · rw [ifb_f hb_125] at H
      refine wp_exit ?_
      refine wp_seq ?_
      refine wp_region_lit ?_
      refine sl hK (by decide) rfl rfl (r_loadA (cs := [v_65, v_70]) Try.isAgg25 Try.sizeOf25 rfl hK rfl (hS.cells_of (m := 2) (.tail _ (.tail _ (.tail _ (.head _)))) rfl)) fun a hK => ?_
      refine sl_storeA (vs := [v_65, v_70]) (c' := [v_65, v_70]) Try.sizeOf25 hS hK rfl rfl rfl rfl (all_cons (hS.row_one (.tail _ (.head _))) (all_cons (hS.row_one (.tail _ (.tail _ (.head _)))) (all_nil))) (Nat.le_of_ble_eq_true rfl) rfl fun a w hS hK => ?_
      refine wpList_nil ?_
      obtain rfl := Option.some.inj H
      refine wp_ret ?_
      repeat (first | refine ret_then ?_ | refine ret_block ?_ | refine ret_scope ?_)
      exact ret_1 Try.results28 hK (rv_cell (c := [v_65, v_70]) Try.isAgg25 Try.sizeOf25 hS (.head _) rfl hK rfl) ⟨_, rfl, _, _, _, _, _, rfl, (hS.pk2.pk2.trunc 2), hRL, hq_67, hq_72⟩

/-! ### slices.Clone[[]catchment/api.Col,catchment/api.Col]: function 35 -/
set_option maxHeartbeats 4000000 in
set_option maxRecDepth 100000 in
theorem slices_Clone_api_Col_api_Col.calls (a0 : List api_Col) {w0 : World} {R : Hp} {RA : Hp} {v0_0 : Value} (hRA : RA.sub w0) (hR : R.sub w0) (h0_0 : SlR ty_api_Col RA v0_0 a0) {r : List api_Col} (H : slices_Clone_api_Col_api_Col a0 = some r) : Calls Try.prog 35 #[v0_0] w0 (Rets fun v w' => ∃ (R' : Hp) (u0 : Value) (cu0 : List Value), v = u0 ∧ St [] w0 w' R' [.row 43 2 u0 r.length cu0] ∧ RLe [] w0 R R' ∧ Reps ty_api_Col R' cu0 r) := by
  unfold slices_Clone_api_Col_api_Col at H
  rcases SlR.nilcase h0_0 with ⟨hn, hx⟩ | ⟨ad_, m_, c_, hn⟩
  · subst hx
    have H : some ([] : List api_Col) = some r := by simpa [apd] using H
    refine enter (args := [v0_0]) Try.func35 rfl Try.ntmps35 rfl fun a hK => ?_
    have hS := St.init hR
    have hRL := RLe.refl (M := []) w0 R
    refine wp_seq ?_
    refine wp_region_lit ?_
    refine sl hK (by decide) rfl rfl (r_assign hK rfl) fun a hK => ?_
    refine wpList_nil ?_
    refine wp_seq ?_
    refine wp_seq ?_
    refine wp_region_lit ?_
    refine sl hK (by decide) rfl rfl (r_move hK rfl) fun a hK => ?_
    refine sl hK (by decide) rfl rfl (r_sleqN Try.underlying22 hn hK rfl rfl) fun a hK => ?_
    refine wpList_nil ?_
    refine wp_cond_true (hK.ev rfl) ?_
    refine wp_seq ?_
    refine wp_region_lit ?_
    refine sl hK (by decide) rfl rfl (r_assign hK rfl) fun a hK => ?_
    refine wpList_nil ?_
    have hS := hS.row_nil 43 2
    have hq_11 : Reps ty_api_Col R [] ([] : List api_Col) := Reps.nil _ _
    obtain rfl := Option.some.inj H
    refine wp_ret ?_
    repeat (first | refine ret_then ?_ | refine ret_block ?_ | refine ret_scope ?_)
    exact ret_1 Try.results35 hK (rv_tmp hK rfl) ⟨_, rfl, _, _, _, rfl, hS, hRL, hq_11⟩
  · refine enter (args := [v0_0]) Try.func35 rfl Try.ntmps35 rfl fun a hK => ?_
    have hS := St.init hR
    have hRL := RLe.refl (M := []) w0 R
    refine wp_seq ?_
    refine wp_region_lit ?_
    refine sl hK (by decide) rfl rfl (r_assign hK rfl) fun a hK => ?_
    refine wpList_nil ?_
    refine wp_seq ?_
    refine wp_seq ?_
    refine wp_region_lit ?_
    refine sl hK (by decide) rfl rfl (r_move hK rfl) fun a hK => ?_
    refine sl hK (by decide) rfl rfl (r_sleqS Try.underlying22 hn hK rfl rfl) fun a hK => ?_
    refine wpList_nil ?_
    refine wp_cond_false (hK.ev rfl) ?_
    refine wp_skip ?_
    refine wp_seq ?_
    refine wp_region_lit ?_
    refine sl_buildSliceC (zc := [.string (⟨#[]⟩ : ByteArray), .int .i64 0]) (zs := []) (ps := []) (c := []) Try.underlying22 Try.sizeOf43 Try.zeroValue43 rfl pc_nil rfl rfl (by decide) (by kernel_rfl) rfl hS hK (by decide) rfl fun a w b_1 hS hK => ?_
    refine sl hK (by decide) rfl rfl (r_move hK rfl) fun a hK => ?_
    obtain ⟨y_4, h_5, H⟩ := bind_some H
    have hS := hS.row_lit (size := 2) (m := 0) rfl (by decide)
    have hq_3 : Reps ty_api_Col R [] ([] : List api_Col) := (Reps.nil _ _)
    refine sl_append_A elT22 (by decide) rfl (fun _ _ _ _ h => h) (hS.ra hRA nil_not) hq_3 rfl h0_0 h_5 hS hK (by decide) rfl rfl rfl fun a w v_6 cs_7 hq_8 hS hK => ?_
    refine sl hK (by decide) rfl rfl (r_assign hK rfl) fun a hK => ?_
    refine wpList_nil ?_
    obtain rfl := Option.some.inj H
    refine wp_ret ?_
    repeat (first | refine ret_then ?_ | refine ret_block ?_ | refine ret_scope ?_)
    exact ret_1 Try.results35 hK (rv_tmp hK rfl) ⟨_, rfl, _, _, _, rfl, hS, hRL, hq_8⟩

/-! ### slices.Clone[[]catchment/api.Value,catchment/api.Value]: function 36 -/
set_option maxHeartbeats 4000000 in
set_option maxRecDepth 100000 in
theorem slices_Clone_api_Value_api_Value.calls (a0 : List api_Value) {w0 : World} {R : Hp} {RA : Hp} {v0_0 : Value} (hRA : RA.sub w0) (hR : R.sub w0) (h0_0 : SlR ty_api_Value RA v0_0 a0) {r : List api_Value} (H : slices_Clone_api_Value_api_Value a0 = some r) : Calls Try.prog 36 #[v0_0] w0 (Rets fun v w' => ∃ (R' : Hp) (u0 : Value) (cu0 : List Value), v = u0 ∧ St [] w0 w' R' [.row 50 11 u0 r.length cu0] ∧ RLe [] w0 R R' ∧ Reps ty_api_Value R' cu0 r) := by
  unfold slices_Clone_api_Value_api_Value at H
  rcases SlR.nilcase h0_0 with ⟨hn, hx⟩ | ⟨ad_, m_, c_, hn⟩
  · subst hx
    have H : some ([] : List api_Value) = some r := by simpa [apd] using H
    refine enter (args := [v0_0]) Try.func36 rfl Try.ntmps36 rfl fun a hK => ?_
    have hS := St.init hR
    have hRL := RLe.refl (M := []) w0 R
    refine wp_seq ?_
    refine wp_region_lit ?_
    refine sl hK (by decide) rfl rfl (r_assign hK rfl) fun a hK => ?_
    refine wpList_nil ?_
    refine wp_seq ?_
    refine wp_seq ?_
    refine wp_region_lit ?_
    refine sl hK (by decide) rfl rfl (r_move hK rfl) fun a hK => ?_
    refine sl hK (by decide) rfl rfl (r_sleqN Try.underlying35 hn hK rfl rfl) fun a hK => ?_
    refine wpList_nil ?_
    refine wp_cond_true (hK.ev rfl) ?_
    refine wp_seq ?_
    refine wp_region_lit ?_
    refine sl hK (by decide) rfl rfl (r_assign hK rfl) fun a hK => ?_
    refine wpList_nil ?_
    have hS := hS.row_nil 50 11
    have hq_11 : Reps ty_api_Value R [] ([] : List api_Value) := Reps.nil _ _
    obtain rfl := Option.some.inj H
    refine wp_ret ?_
    repeat (first | refine ret_then ?_ | refine ret_block ?_ | refine ret_scope ?_)
    exact ret_1 Try.results36 hK (rv_tmp hK rfl) ⟨_, rfl, _, _, _, rfl, hS, hRL, hq_11⟩
  · refine enter (args := [v0_0]) Try.func36 rfl Try.ntmps36 rfl fun a hK => ?_
    have hS := St.init hR
    have hRL := RLe.refl (M := []) w0 R
    refine wp_seq ?_
    refine wp_region_lit ?_
    refine sl hK (by decide) rfl rfl (r_assign hK rfl) fun a hK => ?_
    refine wpList_nil ?_
    refine wp_seq ?_
    refine wp_seq ?_
    refine wp_region_lit ?_
    refine sl hK (by decide) rfl rfl (r_move hK rfl) fun a hK => ?_
    refine sl hK (by decide) rfl rfl (r_sleqS Try.underlying35 hn hK rfl rfl) fun a hK => ?_
    refine wpList_nil ?_
    refine wp_cond_false (hK.ev rfl) ?_
    refine wp_skip ?_
    refine wp_seq ?_
    refine wp_region_lit ?_
    refine sl_buildSliceC (zc := [.int .i64 0, .int .i64 0, .string (⟨#[]⟩ : ByteArray), .int .i64 0, .int .i64 0, .int .i64 0, .int .i64 0, .int .i64 0, .int .i64 0, .int .i64 0, .int .i64 0]) (zs := []) (ps := []) (c := []) Try.underlying35 Try.sizeOf50 Try.zeroValue50 rfl pc_nil rfl rfl (by decide) (by kernel_rfl) rfl hS hK (by decide) rfl fun a w b_1 hS hK => ?_
    refine sl hK (by decide) rfl rfl (r_move hK rfl) fun a hK => ?_
    obtain ⟨y_4, h_5, H⟩ := bind_some H
    have hS := hS.row_lit (size := 11) (m := 0) rfl (by decide)
    have hq_3 : Reps ty_api_Value R [] ([] : List api_Value) := (Reps.nil _ _)
    refine sl_append_A elT35 (by decide) rfl (fun _ _ _ _ h => h) (hS.ra hRA nil_not) hq_3 rfl h0_0 h_5 hS hK (by decide) rfl rfl rfl fun a w v_6 cs_7 hq_8 hS hK => ?_
    refine sl hK (by decide) rfl rfl (r_assign hK rfl) fun a hK => ?_
    refine wpList_nil ?_
    obtain rfl := Option.some.inj H
    refine wp_ret ?_
    repeat (first | refine ret_then ?_ | refine ret_block ?_ | refine ret_scope ?_)
    exact ret_1 Try.results36 hK (rv_tmp hK rfl) ⟨_, rfl, _, _, _, rfl, hS, hRL, hq_8⟩

/-! ### cmp.isNaN[int]: function 74 -/
set_option maxHeartbeats 4000000 in
set_option maxRecDepth 100000 in
theorem cmp_isNaN_int.calls (a0 : Int) {r : Bool} (H : cmp_isNaN_int a0 = some r) (w0 : World) : CallsV Try.prog 74 #[.int .i64 a0] w0 (.bool r) := by
  unfold cmp_isNaN_int at H
  refine enter (args := [.int .i64 a0]) Try.func74 rfl Try.ntmps74 rfl fun a hK => ?_
  have hS := St.init (R := fun _ => none) (w := w0) (fun _ _ h => by cases h)
  have hRL := RLe.refl (M := []) w0 (fun _ => none)
  refine wp_seq ?_
  refine wp_region_lit ?_
  refine sl hK (by decide) rfl rfl (r_assign hK rfl) fun a hK => ?_
  refine wpList_nil ?_
  refine wp_seq ?_
  refine wp_region_lit ?_
  refine sl hK (by decide) rfl rfl (r_move hK rfl) fun a hK => ?_
  refine sl hK (by decide) rfl rfl (r_move hK rfl) fun a hK => ?_
  refine sl hK (by decide) rfl rfl (r_ibin hK rfl rfl rfl) fun a hK => ?_
  refine sl hK (by decide) rfl rfl (r_assign hK rfl) fun a hK => ?_
  refine wpList_nil ?_
  obtain rfl := Option.some.inj H
  refine wp_ret ?_
  repeat (first | refine ret_then ?_ | refine ret_block ?_ | refine ret_scope ?_)
  exact ret_1 Try.results74 hK (rv_tmp hK rfl) ⟨rfl, hS.bel⟩

/-! ### cmp.Compare[int]: function 65 -/
set_option maxHeartbeats 4000000 in
set_option maxRecDepth 100000 in
theorem cmp_Compare_int.calls (a0 : Int) (a1 : Int) {r : Int} (H : cmp_Compare_int a0 a1 = some r) (w0 : World) : CallsV Try.prog 65 #[.int .i64 a0, .int .i64 a1] w0 (.int .i64 r) := by
  unfold cmp_Compare_int at H
  refine enter (args := [.int .i64 a0, .int .i64 a1]) Try.func65 rfl Try.ntmps65 rfl fun a hK => ?_
  have hS := St.init (R := fun _ => none) (w := w0) (fun _ _ h => by cases h)
  have hRL := RLe.refl (M := []) w0 (fun _ => none)
  refine wp_seq ?_
  refine wp_region_lit ?_
  refine sl hK (by decide) rfl rfl (r_assign hK rfl) fun a hK => ?_
  refine wpList_nil ?_
  refine wp_seq ?_
  refine wp_region_lit ?_
  refine sl hK (by decide) rfl rfl (r_move hK rfl) fun a hK => ?_
  obtain ⟨y_1, h_2, H⟩ := bind_some H
  refine sl_callV Try.call74 hS hK (by decide) rfl rfl rfl (cmp_isNaN_int.calls a0 h_2 _) fun a w hS hK => ?_
  refine sl hK (by decide) rfl rfl (r_assign hK rfl) fun a hK => ?_
  refine wpList_nil ?_
  refine wp_seq ?_
  refine wp_region_lit ?_
  refine sl hK (by decide) rfl rfl (r_move hK rfl) fun a hK => ?_
  obtain ⟨y_3, h_4, H⟩ := bind_some H
  refine sl_callV Try.call74 hS hK (by decide) rfl rfl rfl (cmp_isNaN_int.calls a1 h_4 _) fun a w hS hK => ?_
  refine sl hK (by decide) rfl rfl (r_assign hK rfl) fun a hK => ?_
  refine wpList_nil ?_
  refine wp_seq ?_
  refine wp_seq ?_
  refine wp_region_lit ?_
  refine sl hK (by decide) rfl rfl (r_move hK rfl) fun a hK => ?_
  refine wpList_nil ?_
  refine wp_cond_split (hK.ev rfl) (fun (hb_5 : y_1 = true) => ?_) (fun (hb_5 : y_1 = false) => ?_)
  · rw [ifb_t hb_5] at H
    refine wp_seq ?_
    refine wp_seq ?_
    refine wp_region_lit ?_
    refine sl hK (by decide) rfl rfl (r_move hK rfl) fun a hK => ?_
    refine wpList_nil ?_
    refine wp_cond_split (hK.ev rfl) (fun (hb_6 : y_3 = true) => ?_) (fun (hb_6 : y_3 = false) => ?_)
    · rw [ifb_t hb_6] at H
      refine wp_seq ?_
      refine wp_region_lit ?_
      refine sl hK (by decide) rfl rfl (r_assign hK rfl) fun a hK => ?_
      refine wpList_nil ?_
      obtain rfl := Option.some.inj H
      refine wp_ret ?_
      repeat (first | refine ret_then ?_ | refine ret_block ?_ | refine ret_scope ?_)
      exact ret_1 Try.results65 hK (rv_tmp hK rfl) ⟨rfl, hS.bel⟩
    · rw [ifb_f hb_6] at H
      refine wp_skip ?_
      refine wp_seq ?_
      refine wp_region_lit ?_
      refine sl hK (by decide) rfl rfl (r_assign hK rfl) fun a hK => ?_
      refine wpList_nil ?_
      obtain rfl := Option.some.inj H
      refine wp_ret ?_
      repeat (first | refine ret_then ?_ | refine ret_block ?_ | refine ret_scope ?_)
      exact ret_1 Try.results65 hK (rv_tmp hK rfl) ⟨rfl, hS.bel⟩
  · rw [ifb_f hb_5] at H
    refine wp_skip ?_
    refine wp_seq ?_
    refine wp_seq ?_
    refine wp_region_lit ?_
    refine sl hK (by decide) rfl rfl (r_move hK rfl) fun a hK => ?_
    refine wpList_nil ?_
    refine wp_cond_split (hK.ev rfl) (fun (hb_7 : y_3 = true) => ?_) (fun (hb_7 : y_3 = false) => ?_)
    · rw [ifb_t hb_7] at H
      refine wp_seq ?_
      refine wp_region_lit ?_
      refine sl hK (by decide) rfl rfl (r_assign hK rfl) fun a hK => ?_
      refine wpList_nil ?_
      obtain rfl := Option.some.inj H
      refine wp_ret ?_
      repeat (first | refine ret_then ?_ | refine ret_block ?_ | refine ret_scope ?_)
      exact ret_1 Try.results65 hK (rv_tmp hK rfl) ⟨rfl, hS.bel⟩
    · rw [ifb_f hb_7] at H
      refine wp_skip ?_
      refine wp_seq ?_
      refine wp_seq ?_
      refine wp_region_lit ?_
      refine sl hK (by decide) rfl rfl (r_move hK rfl) fun a hK => ?_
      refine sl hK (by decide) rfl rfl (r_move hK rfl) fun a hK => ?_
      refine sl hK (by decide) rfl rfl (r_ibin hK rfl rfl rfl) fun a hK => ?_
      refine wpList_nil ?_
      refine wp_cond_split (hK.ev rfl) (fun (hb_8 : (decide (a0 < a1)) = true) => ?_) (fun (hb_8 : (decide (a0 < a1)) = false) => ?_)
      · rw [ifb_t hb_8] at H
        refine wp_seq ?_
        refine wp_region_lit ?_
        refine sl hK (by decide) rfl rfl (r_assign hK rfl) fun a hK => ?_
        refine wpList_nil ?_
        obtain rfl := Option.some.inj H
        refine wp_ret ?_
        repeat (first | refine ret_then ?_ | refine ret_block ?_ | refine ret_scope ?_)
        exact ret_1 Try.results65 hK (rv_tmp hK rfl) ⟨rfl, hS.bel⟩
      · rw [ifb_f hb_8] at H
        refine wp_skip ?_
        refine wp_seq ?_
        refine wp_seq ?_
        refine wp_region_lit ?_
        refine sl hK (by decide) rfl rfl (r_move hK rfl) fun a hK => ?_
        refine sl hK (by decide) rfl rfl (r_move hK rfl) fun a hK => ?_
        refine sl hK (by decide) rfl rfl (r_ibin hK rfl rfl rfl) fun a hK => ?_
        refine wpList_nil ?_
        refine wp_cond_split (hK.ev rfl) (fun (hb_9 : (decide (a0 > a1)) = true) => ?_) (fun (hb_9 : (decide (a0 > a1)) = false) => ?_)
        · rw [ifb_t hb_9] at H
          refine wp_seq ?_
          refine wp_region_lit ?_
          refine sl hK (by decide) rfl rfl (r_assign hK rfl) fun a hK => ?_
          refine wpList_nil ?_
          obtain rfl := Option.some.inj H
          refine wp_ret ?_
          repeat (first | refine ret_then ?_ | refine ret_block ?_ | refine ret_scope ?_)
          exact ret_1 Try.results65 hK (rv_tmp hK rfl) ⟨rfl, hS.bel⟩
        · rw [ifb_f hb_9] at H
          refine wp_skip ?_
          refine wp_seq ?_
          refine wp_region_lit ?_
          refine sl hK (by decide) rfl rfl (r_assign hK rfl) fun a hK => ?_
          refine wpList_nil ?_
          obtain rfl := Option.some.inj H
          refine wp_ret ?_
          repeat (first | refine ret_then ?_ | refine ret_block ?_ | refine ret_scope ?_)
          exact ret_1 Try.results65 hK (rv_tmp hK rfl) ⟨rfl, hS.bel⟩

/-! ### internal/bytealg.CompareString: function 75 -/
set_option maxHeartbeats 4000000 in
set_option maxRecDepth 100000 in
theorem internal_bytealg_CompareString.calls (a0 : ByteArray) (a1 : ByteArray) {r : Int} (H : internal_bytealg_CompareString a0 a1 = some r) (w0 : World) : CallsV Try.prog 75 #[.string a0, .string a1] w0 (.int .i64 r) := by
  unfold internal_bytealg_CompareString at H
  refine enter (args := [.string a0, .string a1]) Try.func75 rfl Try.ntmps75 rfl fun a hK => ?_
  have hS := St.init (R := fun _ => none) (w := w0) (fun _ _ h => by cases h)
  have hRL := RLe.refl (M := []) w0 (fun _ => none)
  refine wp_seq ?_
  refine wp_region_lit ?_
  refine sl hK (by decide) rfl rfl (r_assign hK rfl) fun a hK => ?_
  refine wpList_nil ?_
  refine wp_seq ?_
  refine wp_region_lit ?_
  refine sl hK (by decide) rfl rfl (r_move hK rfl) fun a hK => ?_
  refine sl hK (by decide) rfl rfl (r_move hK rfl) fun a hK => ?_
  refine sl hK (by decide) rfl rfl (r_ext (ext77 a0 a1 _) hK rfl rfl) fun a hK => ?_
  refine sl hK (by decide) rfl rfl (r_assign hK rfl) fun a hK => ?_
  refine wpList_nil ?_
  obtain rfl := Option.some.inj H
  refine wp_ret ?_
  repeat (first | refine ret_then ?_ | refine ret_block ?_ | refine ret_scope ?_)
  exact ret_1 Try.results75 hK (rv_tmp hK rfl) ⟨rfl, hS.bel⟩

/-! ### strings.Compare: function 66 -/
set_option maxHeartbeats 4000000 in
set_option maxRecDepth 100000 in
theorem strings_Compare.calls (a0 : ByteArray) (a1 : ByteArray) {r : Int} (H : strings_Compare a0 a1 = some r) (w0 : World) : CallsV Try.prog 66 #[.string a0, .string a1] w0 (.int .i64 r) := by
  unfold strings_Compare at H
  refine enter (args := [.string a0, .string a1]) Try.func66 rfl Try.ntmps66 rfl fun a hK => ?_
  have hS := St.init (R := fun _ => none) (w := w0) (fun _ _ h => by cases h)
  have hRL := RLe.refl (M := []) w0 (fun _ => none)
  refine wp_seq ?_
  refine wp_region_lit ?_
  refine sl hK (by decide) rfl rfl (r_assign hK rfl) fun a hK => ?_
  refine wpList_nil ?_
  refine wp_seq ?_
  refine wp_region_lit ?_
  refine sl hK (by decide) rfl rfl (r_move hK rfl) fun a hK => ?_
  refine sl hK (by decide) rfl rfl (r_move hK rfl) fun a hK => ?_
  obtain ⟨y_1, h_2, H⟩ := bind_some H
  refine sl_callV Try.call75 hS hK (by decide) rfl rfl rfl (internal_bytealg_CompareString.calls a0 a1 h_2 _) fun a w hS hK => ?_
  refine sl hK (by decide) rfl rfl (r_assign hK rfl) fun a hK => ?_
  refine wpList_nil ?_
  obtain rfl := Option.some.inj H
  refine wp_ret ?_
  repeat (first | refine ret_then ?_ | refine ret_block ?_ | refine ret_scope ?_)
  exact ret_1 Try.results66 hK (rv_tmp hK rfl) ⟨rfl, hS.bel⟩

/-! ### slices.Compare[[]int,int]: function 67 -/
set_option maxHeartbeats 4000000 in
set_option maxRecDepth 100000 in
theorem slices_Compare_int_int.calls (a0 : List Int) (a1 : List Int) {w0 : World} {RA : Hp} {v0_0 : Value} {v1_0 : Value} (hRA : RA.sub w0) (h0_0 : SlR (tyInt .i64) RA v0_0 a0) (h1_0 : SlR (tyInt .i64) RA v1_0 a1) {r : Int} (H : slices_Compare_int_int a0 a1 = some r) : CallsV Try.prog 67 #[v0_0, v1_0] w0 (.int .i64 r) := by
  unfold slices_Compare_int_int at H
  refine enter (args := [v0_0, v1_0]) Try.func67 rfl Try.ntmps67 rfl fun a hK => ?_
  have hS := St.init (R := fun _ => none) (w := w0) (fun _ _ h => by cases h)
  have hRL := RLe.refl (M := []) w0 (fun _ => none)
  refine wp_seq ?_
  refine wp_region_lit ?_
  refine sl hK (by decide) rfl rfl (r_assign hK rfl) fun a hK => ?_
  refine wpList_nil ?_
  refine wp_seq ?_
  refine wp_seq ?_
  refine wp_region_lit ?_
  refine sl hK (by decide) rfl rfl (r_move hK rfl) fun a hK => ?_
  refine sl hK (by decide) rfl rfl (r_len_R Try.underlying45 h0_0 hK rfl) fun a hK => ?_
  refine sl hK (by decide) rfl rfl (r_move hK rfl) fun a hK => ?_
  refine wpList_nil ?_
  refine wp_block ?_
  refine wp_loop_k (fun k_l0 a w => ∃ (x_25 : Int), slices_Compare_int_int.l0 a0 a1 k_l0 x_25 = some r ∧ Kn 36 a [(0, v0_0), (1, v1_0), (9, v0_0), (10, .int .i64 (a0.length : Int)), (11, .int .i64 x_25)] ∧ St [] w0 w (fun _ => none) []) (((a0.length : Int) - 0).toNat + 1) ?_ ?_
  · exact ⟨0, H, hK.sub (all_cons rfl (all_cons rfl (all_cons rfl (all_cons rfl (all_cons rfl (all_nil)))))), hS⟩
  · rintro k_l0 a w ⟨x_25, H, hK, hS⟩
    cases k_l0 with
    | zero => cases H
    | succ k_l0 =>
    rw [slices_Compare_int_int.l0.eq_2] at H
    refine wp_seq ?_
    refine wp_region_lit ?_
    refine sl hK (by decide) rfl rfl (r_ibin hK rfl rfl rfl) fun a hK => ?_
    refine wpList_nil ?_
    refine wp_seq ?_
    refine wp_cond_split (hK.ev rfl) (fun (hb_50 : (decide (x_25 < (a0.length : Int))) = true) => ?_) (fun (hb_50 : (decide (x_25 < (a0.length : Int))) = false) => ?_)
    · rw [ifb_t hb_50] at H
      refine wp_skip ?_
      refine wp_seq ?_
      refine wp_block ?_
      refine wp_seq ?_
      refine wp_region_lit ?_
      refine sl hK (by decide) rfl rfl (r_move hK rfl) fun a hK => ?_
      obtain ⟨y_51, h_52, H⟩ := bind_some H
      obtain ⟨b_53, o_54, c_55, cs_56, hv_57, hr_58, hc_59, h_520, h_521⟩ := h0_0.ix h_52
      subst hr_58
      refine sl hK (by decide) rfl rfl (r_indexAddr_R Try.underlying45 Try.sizeOf3 hv_57 h_520 h_521 hK rfl rfl) fun a hK => ?_
      refine sl hK (by decide) rfl rfl (r_load Try.isAgg3 hK rfl ((hS.ra hRA nil_not).cell (hc_59 0 _ rfl))) fun a hK => ?_
      refine sl hK (by decide) rfl rfl (r_assign hK rfl) fun a hK => ?_
      refine sl hK (by decide) rfl rfl (r_assign hK rfl) fun a hK => ?_
      refine wpList_nil ?_
      refine wp_seq ?_
      refine wp_seq ?_
      refine wp_region_lit ?_
      refine sl hK (by decide) rfl rfl (r_move hK rfl) fun a hK => ?_
      refine sl hK (by decide) rfl rfl (r_move hK rfl) fun a hK => ?_
      refine sl hK (by decide) rfl rfl (r_len_R Try.underlying45 h1_0 hK rfl) fun a hK => ?_
      refine sl hK (by decide) rfl rfl (r_ibin hK rfl rfl rfl) fun a hK => ?_
      refine wpList_nil ?_
      refine wp_cond_split (hK.ev rfl) (fun (hb_60 : (decide (x_25 ≥ (a1.length : Int))) = true) => ?_) (fun (hb_60 : (decide (x_25 ≥ (a1.length : Int))) = false) => ?_)
      · rw [ifb_t hb_60] at H
        refine wp_seq ?_
        refine wp_region_lit ?_
        refine sl hK (by decide) rfl rfl (r_assign hK rfl) fun a hK => ?_
        refine wpList_nil ?_
        obtain rfl := Option.some.inj H
        refine wp_ret ?_
        repeat (first | refine ret_then ?_ | refine ret_block ?_ | refine ret_scope ?_)
        exact ret_1 Try.results67 hK (rv_tmp hK rfl) ⟨rfl, hS.bel⟩
      · rw [ifb_f hb_60] at H
        refine wp_skip ?_
        refine wp_seq ?_
        refine wp_region_lit ?_
        refine sl hK (by decide) rfl rfl (r_move hK rfl) fun a hK => ?_
        refine sl hK (by decide) rfl rfl (r_move hK rfl) fun a hK => ?_
        obtain ⟨y_61, h_62, H⟩ := bind_some H
        obtain ⟨b_63, o_64, c_65, cs_66, hv_67, hr_68, hc_69, h_620, h_621⟩ := h1_0.ix h_62
        subst hr_68
        refine sl hK (by decide) rfl rfl (r_indexAddr_R Try.underlying45 Try.sizeOf3 hv_67 h_620 h_621 hK rfl rfl) fun a hK => ?_
        refine sl hK (by decide) rfl rfl (r_load Try.isAgg3 hK rfl ((hS.ra hRA nil_not).cell (hc_69 0 _ rfl))) fun a hK => ?_
        refine sl hK (by decide) rfl rfl (r_assign hK rfl) fun a hK => ?_
        refine wpList_nil ?_
        refine wp_seq ?_
        refine wp_region_lit ?_
        refine sl hK (by decide) rfl rfl (r_move hK rfl) fun a hK => ?_
        refine sl hK (by decide) rfl rfl (r_move hK rfl) fun a hK => ?_
        obtain ⟨y_70, h_71, H⟩ := bind_some H
        refine sl_callV Try.call65 hS hK (by decide) rfl rfl rfl (cmp_Compare_int.calls y_51 y_61 h_71 _) fun a w hS hK => ?_
        refine sl hK (by decide) rfl rfl (r_assign hK rfl) fun a hK => ?_
        refine wpList_nil ?_
        refine wp_seq ?_
        refine wp_region_lit ?_
        refine sl hK (by decide) rfl rfl (r_move hK rfl) fun a hK => ?_
        refine sl hK (by decide) rfl rfl (r_ibin hK rfl rfl rfl) fun a hK => ?_
        refine wpList_nil ?_
        refine wp_cond_split (hK.ev rfl) (fun (hb_72 : (y_70 != 0) = true) => ?_) (fun (hb_72 : (y_70 != 0) = false) => ?_)
        · rw [ifb_t hb_72] at H
          refine wp_seq ?_
          refine wp_region_lit ?_
          refine sl hK (by decide) rfl rfl (r_move hK rfl) fun a hK => ?_
          refine sl hK (by decide) rfl rfl (r_assign hK rfl) fun a hK => ?_
          refine wpList_nil ?_
          obtain rfl := Option.some.inj H
          refine wp_ret ?_
          repeat (first | refine ret_then ?_ | refine ret_block ?_ | refine ret_scope ?_)
          exact ret_1 Try.results67 hK (rv_tmp hK rfl) ⟨rfl, hS.bel⟩
        · rw [ifb_f hb_72] at H
          refine wp_skip ?_
          refine wp_region_lit ?_
          refine sl hK (by decide) rfl rfl (r_ibin hK rfl rfl rfl) fun a hK => ?_
          refine sl hK (by decide) rfl rfl (r_move hK rfl) fun a hK => ?_
          refine wpList_nil ?_
          exact ⟨_, Nat.lt_succ_self _, (IntKind.i64.wrap (x_25 + 1)), H, hK.sub (all_cons rfl (all_cons rfl (all_cons rfl (all_cons rfl (all_cons rfl (all_nil)))))), hS⟩
    · rw [ifb_f hb_50] at H
      refine wp_exit ?_
      refine wp_seq ?_
      refine wp_seq ?_
      refine wp_region_lit ?_
      refine sl hK (by decide) rfl rfl (r_move hK rfl) fun a hK => ?_
      refine sl hK (by decide) rfl rfl (r_len_R Try.underlying45 h0_0 hK rfl) fun a hK => ?_
      refine sl hK (by decide) rfl rfl (r_move hK rfl) fun a hK => ?_
      refine sl hK (by decide) rfl rfl (r_len_R Try.underlying45 h1_0 hK rfl) fun a hK => ?_
      refine sl hK (by decide) rfl rfl (r_ibin hK rfl rfl rfl) fun a hK => ?_
      refine wpList_nil ?_
      refine wp_cond_split (hK.ev rfl) (fun (hb_73 : (decide ((a0.length : Int) < (a1.length : Int))) = true) => ?_) (fun (hb_73 : (decide ((a0.length : Int) < (a1.length : Int))) = false) => ?_)
      · rw [ifb_t hb_73] at H
        refine wp_seq ?_
        refine wp_region_lit ?_
        refine sl hK (by decide) rfl rfl (r_assign hK rfl) fun a hK => ?_
        refine wpList_nil ?_
        obtain rfl := Option.some.inj H
        refine wp_ret ?_
        repeat (first | refine ret_then ?_ | refine ret_block ?_ | refine ret_scope ?_)
        exact ret_1 Try.results67 hK (rv_tmp hK rfl) ⟨rfl, hS.bel⟩
      · rw [ifb_f hb_73] at H
        refine wp_skip ?_
        refine wp_seq ?_
        refine wp_region_lit ?_
        refine sl hK (by decide) rfl rfl (r_assign hK rfl) fun a hK => ?_
        refine wpList_nil ?_
        obtain rfl := Option.some.inj H
        refine wp_ret ?_
        repeat (first | refine ret_then ?_ | refine ret_block ?_ | refine ret_scope ?_)
        exact ret_1 Try.results67 hK (rv_tmp hK rfl) ⟨rfl, hS.bel⟩

/-! ### cmp.Or[int]: function 64 -/
set_option maxHeartbeats 4000000 in
set_option maxRecDepth 100000 in
theorem cmp_Or_int.calls (a0 : List Int) {w0 : World} {RA : Hp} {v0_0 : Value} (hRA : RA.sub w0) (h0_0 : SlR (tyInt .i64) RA v0_0 a0) {r : Int} (H : cmp_Or_int a0 = some r) : CallsV Try.prog 64 #[v0_0] w0 (.int .i64 r) := by
  unfold cmp_Or_int at H
  refine enter (args := [v0_0]) Try.func64 rfl Try.ntmps64 rfl fun a hK => ?_
  have hS := St.init (R := fun _ => none) (w := w0) (fun _ _ h => by cases h)
  have hRL := RLe.refl (M := []) w0 (fun _ => none)
  refine wp_seq ?_
  refine wp_region_lit ?_
  refine sl hK (by decide) rfl rfl (r_assign hK rfl) fun a hK => ?_
  refine wpList_nil ?_
  refine wp_seq ?_
  refine wp_region_lit ?_
  refine sl hK (by decide) rfl rfl (r_assign hK rfl) fun a hK => ?_
  refine wpList_nil ?_
  refine wp_seq ?_
  refine wp_seq ?_
  refine wp_region_lit ?_
  refine sl hK (by decide) rfl rfl (r_move hK rfl) fun a hK => ?_
  refine sl hK (by decide) rfl rfl (r_len_R Try.underlying45 h0_0 hK rfl) fun a hK => ?_
  refine sl hK (by decide) rfl rfl (r_move hK rfl) fun a hK => ?_
  refine wpList_nil ?_
  refine wp_block ?_
  refine wp_loop_k (fun k_l0 a w => ∃ (x_13 : Int), cmp_Or_int.l0 a0 k_l0 x_13 = some r ∧ Kn 18 a [(3, .int .i64 0), (6, v0_0), (7, .int .i64 (a0.length : Int)), (8, .int .i64 x_13)] ∧ St [] w0 w (fun _ => none) []) (((a0.length : Int) - 0).toNat + 1) ?_ ?_
  · exact ⟨0, H, hK.sub (all_cons rfl (all_cons rfl (all_cons rfl (all_cons rfl (all_nil))))), hS⟩
  · rintro k_l0 a w ⟨x_13, H, hK, hS⟩
    cases k_l0 with
    | zero => cases H
    | succ k_l0 =>
    rw [cmp_Or_int.l0.eq_2] at H
    refine wp_seq ?_
    refine wp_region_lit ?_
    refine sl hK (by decide) rfl rfl (r_ibin hK rfl rfl rfl) fun a hK => ?_
    refine wpList_nil ?_
    refine wp_seq ?_
    refine wp_cond_split (hK.ev rfl) (fun (hb_26 : (decide (x_13 < (a0.length : Int))) = true) => ?_) (fun (hb_26 : (decide (x_13 < (a0.length : Int))) = false) => ?_)
    · rw [ifb_t hb_26] at H
      refine wp_skip ?_
      refine wp_seq ?_
      refine wp_block ?_
      refine wp_seq ?_
      refine wp_region_lit ?_
      obtain ⟨y_27, h_28, H⟩ := bind_some H
      obtain ⟨b_29, o_30, c_31, cs_32, hv_33, hr_34, hc_35, h_280, h_281⟩ := h0_0.ix h_28
      subst hr_34
      refine sl hK (by decide) rfl rfl (r_indexAddr_R Try.underlying45 Try.sizeOf3 hv_33 h_280 h_281 hK rfl rfl) fun a hK => ?_
      refine sl hK (by decide) rfl rfl (r_load Try.isAgg3 hK rfl ((hS.ra hRA nil_not).cell (hc_35 0 _ rfl))) fun a hK => ?_
      refine sl hK (by decide) rfl rfl (r_assign hK rfl) fun a hK => ?_
      refine wpList_nil ?_
      refine wp_seq ?_
      refine wp_region_lit ?_
      refine sl hK (by decide) rfl rfl (r_move hK rfl) fun a hK => ?_
      refine sl hK (by decide) rfl rfl (r_move hK rfl) fun a hK => ?_
      refine sl hK (by decide) rfl rfl (r_ibin hK rfl rfl rfl) fun a hK => ?_
      refine wpList_nil ?_
      refine wp_cond_split (hK.ev rfl) (fun (hb_36 : (y_27 != 0) = true) => ?_) (fun (hb_36 : (y_27 != 0) = false) => ?_)
      · rw [ifb_t hb_36] at H
        refine wp_seq ?_
        refine wp_region_lit ?_
        refine sl hK (by decide) rfl rfl (r_move hK rfl) fun a hK => ?_
        refine sl hK (by decide) rfl rfl (r_assign hK rfl) fun a hK => ?_
        refine wpList_nil ?_
        obtain rfl := Option.some.inj H
        refine wp_ret ?_
        repeat (first | refine ret_then ?_ | refine ret_block ?_ | refine ret_scope ?_)
        exact ret_1 Try.results64 hK (rv_tmp hK rfl) ⟨rfl, hS.bel⟩
      · rw [ifb_f hb_36] at H
        refine wp_skip ?_
        refine wp_region_lit ?_
        refine sl hK (by decide) rfl rfl (r_ibin hK rfl rfl rfl) fun a hK => ?_
        refine sl hK (by decide) rfl rfl (r_move hK rfl) fun a hK => ?_
        refine wpList_nil ?_
        exact ⟨_, Nat.lt_succ_self _, (IntKind.i64.wrap (x_13 + 1)), H, hK.sub (all_cons rfl (all_cons rfl (all_cons rfl (all_cons rfl (all_nil))))), hS⟩
    · rw [ifb_f hb_26] at H
      refine wp_exit ?_
      refine wp_seq ?_
      refine wp_region_lit ?_
      refine sl hK (by decide) rfl rfl (r_move hK rfl) fun a hK => ?_
      refine sl hK (by decide) rfl rfl (r_assign hK rfl) fun a hK => ?_
      refine wpList_nil ?_
      obtain rfl := Option.some.inj H
      refine wp_ret ?_
      repeat (first | refine ret_then ?_ | refine ret_block ?_ | refine ret_scope ?_)
      exact ret_1 Try.results64 hK (rv_tmp hK rfl) ⟨rfl, hS.bel⟩

/-! ### catchment/value.Compare: function 50 -/
set_option maxHeartbeats 4000000 in
set_option maxRecDepth 100000 in
theorem value_Compare.calls (a0 : api_Value) (a1 : api_Value) {r : Int} (H : value_Compare a0 a1 = some r) (w0 : World) : CallsV Try.prog 50 #[.agg #[.int .i64 a0.Kind, .int .i64 a0.N, .string a0.S, .int .i64 a0.H.a0, .int .i64 a0.H.a1, .int .i64 a0.H.a2, .int .i64 a0.H.a3, .int .i64 a0.H.a4, .int .i64 a0.H.a5, .int .i64 a0.H.a6, .int .i64 a0.H.a7], .agg #[.int .i64 a1.Kind, .int .i64 a1.N, .string a1.S, .int .i64 a1.H.a0, .int .i64 a1.H.a1, .int .i64 a1.H.a2, .int .i64 a1.H.a3, .int .i64 a1.H.a4, .int .i64 a1.H.a5, .int .i64 a1.H.a6, .int .i64 a1.H.a7]] w0 (.int .i64 r) := by
  unfold value_Compare at H
  refine enter (args := [.agg #[.int .i64 a0.Kind, .int .i64 a0.N, .string a0.S, .int .i64 a0.H.a0, .int .i64 a0.H.a1, .int .i64 a0.H.a2, .int .i64 a0.H.a3, .int .i64 a0.H.a4, .int .i64 a0.H.a5, .int .i64 a0.H.a6, .int .i64 a0.H.a7], .agg #[.int .i64 a1.Kind, .int .i64 a1.N, .string a1.S, .int .i64 a1.H.a0, .int .i64 a1.H.a1, .int .i64 a1.H.a2, .int .i64 a1.H.a3, .int .i64 a1.H.a4, .int .i64 a1.H.a5, .int .i64 a1.H.a6, .int .i64 a1.H.a7]]) Try.func50 rfl Try.ntmps50 rfl fun a hK => ?_
  have hS := St.init (R := fun _ => none) (w := w0) (fun _ _ h => by cases h)
  have hRL := RLe.refl (M := []) w0 (fun _ => none)
  refine wp_seq ?_
  refine wp_region_lit ?_
  refine sl_box hS hK (by decide) rfl rfl (c := [.int .i64 a0.Kind, .int .i64 a0.N, .string a0.S, .int .i64 a0.H.a0, .int .i64 a0.H.a1, .int .i64 a0.H.a2, .int .i64 a0.H.a3, .int .i64 a0.H.a4, .int .i64 a0.H.a5, .int .i64 a0.H.a6, .int .i64 a0.H.a7]) rfl fun a w b_1 hS hK => ?_
  refine sl_box hS hK (by decide) rfl rfl (c := [.int .i64 a1.Kind, .int .i64 a1.N, .string a1.S, .int .i64 a1.H.a0, .int .i64 a1.H.a1, .int .i64 a1.H.a2, .int .i64 a1.H.a3, .int .i64 a1.H.a4, .int .i64 a1.H.a5, .int .i64 a1.H.a6, .int .i64 a1.H.a7]) rfl fun a w b_2 hS hK => ?_
  refine sl hK (by decide) rfl rfl (r_assign hK rfl) fun a hK => ?_
  refine wpList_nil ?_
  refine wp_seq ?_
  refine parT_region (C := fun w => St [] w0 w (fun _ => none) [.cells b_2 [.int .i64 a1.Kind, .int .i64 a1.N, .string a1.S, .int .i64 a1.H.a0, .int .i64 a1.H.a1, .int .i64 a1.H.a2, .int .i64 a1.H.a3, .int .i64 a1.H.a4, .int .i64 a1.H.a5, .int .i64 a1.H.a6, .int .i64 a1.H.a7] 50, .cells b_1 [.int .i64 a0.Kind, .int .i64 a0.N, .string a0.S, .int .i64 a0.H.a0, .int .i64 a0.H.a1, .int .i64 a0.H.a2, .int .i64 a0.H.a3, .int .i64 a0.H.a4, .int .i64 a0.H.a5, .int .i64 a0.H.a6, .int .i64 a0.H.a7] 50]) 19 [(0, true), (1, true), (2, true), (3, true), (5, true), (6, true), (7, true), (8, true), (10, true), (11, true), (12, true), (13, true), (15, true), (16, true), (17, true), (18, true), (4, false), (9, false), (14, false)] mixed (by kernel_rfl) hS (fun w hS => hS) fun w hS => ?_
  refine sp (k := 0) rfl hK (by decide) rfl rfl (fun w hS => r_fieldAddr Try.underlying50 rfl Try.sizeOf3 hK rfl) fun a hK => ?_
  refine sp (k := 1) rfl hK (by decide) rfl rfl (fun w hS => r_load Try.isAgg3 hK rfl (hS.cell (.tail _ (.head _)) rfl)) fun a hK => ?_
  refine sp (k := 2) rfl hK (by decide) rfl rfl (fun w hS => r_fieldAddr Try.underlying50 rfl Try.sizeOf3 hK rfl) fun a hK => ?_
  refine sp (k := 3) rfl hK (by decide) rfl rfl (fun w hS => r_load Try.isAgg3 hK rfl (hS.cell (.head _) rfl)) fun a hK => ?_
  refine sp (k := 5) rfl hK (by decide) rfl rfl (fun w hS => r_fieldAddr Try.underlying50 rfl Try.sizeOf3 hK rfl) fun a hK => ?_
  refine sp (k := 6) rfl hK (by decide) rfl rfl (fun w hS => r_load Try.isAgg3 hK rfl (hS.cell (.tail _ (.head _)) rfl)) fun a hK => ?_
  refine sp (k := 7) rfl hK (by decide) rfl rfl (fun w hS => r_fieldAddr Try.underlying50 rfl Try.sizeOf3 hK rfl) fun a hK => ?_
  refine sp (k := 8) rfl hK (by decide) rfl rfl (fun w hS => r_load Try.isAgg3 hK rfl (hS.cell (.head _) rfl)) fun a hK => ?_
  refine sp (k := 10) rfl hK (by decide) rfl rfl (fun w hS => r_fieldAddr Try.underlying50 rfl Try.sizeOf9 hK rfl) fun a hK => ?_
  refine sp (k := 11) rfl hK (by decide) rfl rfl (fun w hS => r_load Try.isAgg9 hK rfl (hS.cell (.tail _ (.head _)) rfl)) fun a hK => ?_
  refine sp (k := 12) rfl hK (by decide) rfl rfl (fun w hS => r_fieldAddr Try.underlying50 rfl Try.sizeOf9 hK rfl) fun a hK => ?_
  refine sp (k := 13) rfl hK (by decide) rfl rfl (fun w hS => r_load Try.isAgg9 hK rfl (hS.cell (.head _) rfl)) fun a hK => ?_
  refine sp (k := 15) rfl hK (by decide) rfl rfl (fun w hS => r_fieldAddr Try.underlying50 rfl Try.sizeOf48 hK rfl) fun a hK => ?_
  refine sp (k := 16) rfl hK (by decide) rfl rfl (fun w hS => r_slice_arr0 Try.underlying48 Try.sizeOf3 hK rfl) fun a hK => ?_
  refine sp (k := 17) rfl hK (by decide) rfl rfl (fun w hS => r_fieldAddr Try.underlying50 rfl Try.sizeOf48 hK rfl) fun a hK => ?_
  refine sp (k := 18) rfl hK (by decide) rfl rfl (fun w hS => r_slice_arr0 Try.underlying48 Try.sizeOf3 hK rfl) fun a hK => ?_
  refine spw (k := 4) rfl rfl hS ?_
  obtain ⟨y_14, h_15, H⟩ := bind_some H
  refine sl_callV Try.call65 hS hK (by decide) rfl rfl rfl (cmp_Compare_int.calls a0.Kind a1.Kind h_15 _) fun a w hS hK => ?_
  refine parK_nil hS ?_
  refine spw (k := 9) rfl rfl hS ?_
  obtain ⟨y_16, h_17, H⟩ := bind_some H
  refine sl_callV Try.call65 hS hK (by decide) rfl rfl rfl (cmp_Compare_int.calls a0.N a1.N h_17 _) fun a w hS hK => ?_
  refine parK_nil hS ?_
  refine spw (k := 14) rfl rfl hS ?_
  obtain ⟨y_18, h_19, H⟩ := bind_some H
  refine sl_callV Try.call66 hS hK (by decide) rfl rfl rfl (strings_Compare.calls a0.S a1.S h_19 _) fun a w hS hK => ?_
  refine parK_nil hS ?_
  refine thenL_nil ?_
  obtain ⟨y_20, h_21, H⟩ := bind_some H
  refine sl_callV Try.call67 hS hK (by decide) rfl rfl rfl (slices_Compare_int_int.calls a0.H.list a1.H.list (lentOf_sub [] _) (hS.lend_part0 (.tail _ (.head _)) (xs := a0.H.list) rfl (Nat.le_refl _)) (hS.lend_part0 (.head _) (xs := a1.H.list) rfl (Nat.le_refl _)) h_21) fun a w hS hK => ?_
  refine sl_buildSliceF (zc := [.int .i64 0]) (ps := [(0, .int .i64 y_14), (1, .int .i64 y_16), (2, .int .i64 y_18), (3, .int .i64 y_20)]) (c := [.int .i64 y_14, .int .i64 y_16, .int .i64 y_18, .int .i64 y_20]) [[.int .i64 y_14], [.int .i64 y_16], [.int .i64 y_18], [.int .i64 y_20]] Try.underlying45 Try.sizeOf3 Try.zeroValue3 rfl (pc_cons rfl (pc_cons rfl (pc_cons rfl (pc_cons rfl pc_nil)))) rfl rfl (Nat.le_of_ble_eq_true rfl) rfl (all_cons rfl (all_cons rfl (all_cons rfl (all_cons rfl (all_nil))))) rfl hS hK (by decide) rfl fun a w b_22 hS hK => ?_
  obtain ⟨y_23, h_24, H⟩ := bind_some H
  refine sl_callV Try.call64 hS hK (by decide) rfl rfl rfl (cmp_Or_int.calls [y_14, y_16, y_18, y_20] (lentOf_sub [] _) (hS.lend_lit0 (ty := (tyInt .i64)) (xs := [y_14, y_16, y_18, y_20]) (.head _) (Reps.cons (show Ty.rep (tyInt .i64) _ [.int .i64 y_14] y_14 from rfl) (Reps.cons (show Ty.rep (tyInt .i64) _ [.int .i64 y_16] y_16 from rfl) (Reps.cons (show Ty.rep (tyInt .i64) _ [.int .i64 y_18] y_18 from rfl) (Reps.cons (show Ty.rep (tyInt .i64) _ [.int .i64 y_20] y_20 from rfl) (Reps.nil _ _))))) rfl) h_24) fun a w hS hK => ?_
  refine sl hK (by decide) rfl rfl (r_assign hK rfl) fun a hK => ?_
  refine wpList_nil (NoP_nil ?_)
  obtain rfl := Option.some.inj H
  refine wp_ret ?_
  repeat (first | refine ret_then ?_ | refine ret_block ?_ | refine ret_scope ?_)
  exact ret_1 Try.results50 hK (rv_tmp hK rfl) ⟨rfl, hS.bel⟩

/-! ### slices.CompareFunc[[]catchment/api.Value,[]catchment/api.Value,catchment/api.Value,catchment/api.Value]: function 49 -/
set_option maxHeartbeats 4000000 in
set_option maxRecDepth 100000 in
theorem slices_CompareFunc_api_Value_api_Value_api_Value_api_Value_f_value_Compare.calls (a0 : List api_Value) (a1 : List api_Value) {w0 : World} {RA : Hp} {v0_0 : Value} {v1_0 : Value} (hRA : RA.sub w0) (h0_0 : SlR ty_api_Value RA v0_0 a0) (h1_0 : SlR ty_api_Value RA v1_0 a1) {r : Int} (H : slices_CompareFunc_api_Value_api_Value_api_Value_api_Value_f_value_Compare a0 a1 = some r) : CallsV Try.prog 49 #[v0_0, v1_0, .func (.func 50) #[] #[]] w0 (.int .i64 r) := by
  unfold slices_CompareFunc_api_Value_api_Value_api_Value_api_Value_f_value_Compare at H
  refine enter (args := [v0_0, v1_0, .func (.func 50) #[] #[]]) Try.func49 rfl Try.ntmps49 rfl fun a hK => ?_
  have hS := St.init (R := fun _ => none) (w := w0) (fun _ _ h => by cases h)
  have hRL := RLe.refl (M := []) w0 (fun _ => none)
  refine wp_seq ?_
  refine wp_region_lit ?_
  refine sl hK (by decide) rfl rfl (r_assign hK rfl) fun a hK => ?_
  refine wpList_nil ?_
  refine wp_seq ?_
  refine wp_seq ?_
  refine wp_region_lit ?_
  refine sl hK (by decide) rfl rfl (r_move hK rfl) fun a hK => ?_
  refine sl hK (by decide) rfl rfl (r_len_R Try.underlying35 h0_0 hK rfl) fun a hK => ?_
  refine sl hK (by decide) rfl rfl (r_move hK rfl) fun a hK => ?_
  refine wpList_nil ?_
  refine wp_block ?_
  refine wp_loop_k (fun k_l0 a w => ∃ (x_27 : Int), slices_CompareFunc_api_Value_api_Value_api_Value_api_Value_f_value_Compare.l0 a0 a1 k_l0 x_27 = some r ∧ Kn 39 a [(0, v0_0), (1, v1_0), (2, .func (.func 50) #[] #[]), (11, v0_0), (12, .int .i64 (a0.length : Int)), (13, .int .i64 x_27)] ∧ St [] w0 w (fun _ => none) []) (((a0.length : Int) - 0).toNat + 1) ?_ ?_
  · exact ⟨0, H, hK.sub (all_cons rfl (all_cons rfl (all_cons rfl (all_cons rfl (all_cons rfl (all_cons rfl (all_nil))))))), hS⟩
  · rintro k_l0 a w ⟨x_27, H, hK, hS⟩
    cases k_l0 with
    | zero => cases H
    | succ k_l0 =>
    rw [slices_CompareFunc_api_Value_api_Value_api_Value_api_Value_f_value_Compare.l0.eq_2] at H
    refine wp_seq ?_
    refine wp_region_lit ?_
    refine sl hK (by decide) rfl rfl (r_ibin hK rfl rfl rfl) fun a hK => ?_
    refine wpList_nil ?_
    refine wp_seq ?_
    refine wp_cond_split (hK.ev rfl) (fun (hb_54 : (decide (x_27 < (a0.length : Int))) = true) => ?_) (fun (hb_54 : (decide (x_27 < (a0.length : Int))) = false) => ?_)
    · rw [ifb_t hb_54] at H
      refine wp_skip ?_
      refine wp_seq ?_
      refine wp_block ?_
      refine wp_seq ?_
      refine wp_region_lit ?_
      refine sl hK (by decide) rfl rfl (r_move hK rfl) fun a hK => ?_
      obtain ⟨y_55, h_56, H⟩ := bind_some H
      obtain ⟨b_57, o_58, c_59, cs_60, hv_61, hr_62, hc_63, h_560, h_561⟩ := h0_0.ix h_56
      subst hr_62
      refine sl hK (by decide) rfl rfl (r_indexAddr_R Try.underlying35 Try.sizeOf50 hv_61 h_560 h_561 hK rfl rfl) fun a hK => ?_
      refine sl hK (by decide) rfl rfl (r_loadA (cs := [.int .i64 y_55.Kind, .int .i64 y_55.N, .string y_55.S, .int .i64 y_55.H.a0, .int .i64 y_55.H.a1, .int .i64 y_55.H.a2, .int .i64 y_55.H.a3, .int .i64 y_55.H.a4, .int .i64 y_55.H.a5, .int .i64 y_55.H.a6, .int .i64 y_55.H.a7]) Try.isAgg50 Try.sizeOf50 rfl hK rfl (fun j v hv => (hS.ra hRA nil_not).cell (hc_63 j v hv))) fun a hK => ?_
      refine sl_alloc Try.zeroValue50 hS hK (by decide) rfl rfl fun a w b_64 hS hK => ?_
      refine sl hK (by decide) rfl rfl (r_assign hK rfl) fun a hK => ?_
      refine sl_storeA (vs := [.int .i64 y_55.Kind, .int .i64 y_55.N, .string y_55.S, .int .i64 y_55.H.a0, .int .i64 y_55.H.a1, .int .i64 y_55.H.a2, .int .i64 y_55.H.a3, .int .i64 y_55.H.a4, .int .i64 y_55.H.a5, .int .i64 y_55.H.a6, .int .i64 y_55.H.a7]) (c' := [.int .i64 y_55.Kind, .int .i64 y_55.N, .string y_55.S, .int .i64 y_55.H.a0, .int .i64 y_55.H.a1, .int .i64 y_55.H.a2, .int .i64 y_55.H.a3, .int .i64 y_55.H.a4, .int .i64 y_55.H.a5, .int .i64 y_55.H.a6, .int .i64 y_55.H.a7]) Try.sizeOf50 hS hK rfl rfl rfl rfl (all_cons rfl (all_cons rfl (all_cons rfl (all_cons rfl (all_cons rfl (all_cons rfl (all_cons rfl (all_cons rfl (all_cons rfl (all_cons rfl (all_cons rfl (all_nil)))))))))))) (Nat.le_of_ble_eq_true rfl) rfl fun a w hS hK => ?_
      refine wpList_nil ?_
      refine wp_seq ?_
      refine wp_seq ?_
      refine wp_region_lit ?_
      refine sl hK (by decide) rfl rfl (r_move hK rfl) fun a hK => ?_
      refine sl hK (by decide) rfl rfl (r_move hK rfl) fun a hK => ?_
      refine sl hK (by decide) rfl rfl (r_len_R Try.underlying35 h1_0 hK rfl) fun a hK => ?_
      refine sl hK (by decide) rfl rfl (r_ibin hK rfl rfl rfl) fun a hK => ?_
      refine wpList_nil ?_
      refine wp_cond_split (hK.ev rfl) (fun (hb_65 : (decide (x_27 ≥ (a1.length : Int))) = true) => ?_) (fun (hb_65 : (decide (x_27 ≥ (a1.length : Int))) = false) => ?_)
      · rw [ifb_t hb_65] at H
        refine wp_seq ?_
        refine wp_region_lit ?_
        refine sl hK (by decide) rfl rfl (r_assign hK rfl) fun a hK => ?_
        refine wpList_nil ?_
        obtain rfl := Option.some.inj H
        refine wp_ret ?_
        repeat (first | refine ret_then ?_ | refine ret_block ?_ | refine ret_scope ?_)
        exact ret_1 Try.results49 hK (rv_tmp hK rfl) ⟨rfl, hS.bel⟩
      · rw [ifb_f hb_65] at H
        refine wp_skip ?_
        refine wp_seq ?_
        refine wp_region_lit ?_
        refine sl hK (by decide) rfl rfl (r_move hK rfl) fun a hK => ?_
        refine sl hK (by decide) rfl rfl (r_move hK rfl) fun a hK => ?_
        obtain ⟨y_66, h_67, H⟩ := bind_some H
        obtain ⟨b_68, o_69, c_70, cs_71, hv_72, hr_73, hc_74, h_670, h_671⟩ := h1_0.ix h_67
        subst hr_73
        refine sl hK (by decide) rfl rfl (r_indexAddr_R Try.underlying35 Try.sizeOf50 hv_72 h_670 h_671 hK rfl rfl) fun a hK => ?_
        refine sl hK (by decide) rfl rfl (r_loadA (cs := [.int .i64 y_66.Kind, .int .i64 y_66.N, .string y_66.S, .int .i64 y_66.H.a0, .int .i64 y_66.H.a1, .int .i64 y_66.H.a2, .int .i64 y_66.H.a3, .int .i64 y_66.H.a4, .int .i64 y_66.H.a5, .int .i64 y_66.H.a6, .int .i64 y_66.H.a7]) Try.isAgg50 Try.sizeOf50 rfl hK rfl (fun j v hv => (hS.ra hRA nil_not).cell (hc_74 j v hv))) fun a hK => ?_
        refine sl_alloc Try.zeroValue50 hS hK (by decide) rfl rfl fun a w b_75 hS hK => ?_
        refine sl_storeA (vs := [.int .i64 y_66.Kind, .int .i64 y_66.N, .string y_66.S, .int .i64 y_66.H.a0, .int .i64 y_66.H.a1, .int .i64 y_66.H.a2, .int .i64 y_66.H.a3, .int .i64 y_66.H.a4, .int .i64 y_66.H.a5, .int .i64 y_66.H.a6, .int .i64 y_66.H.a7]) (c' := [.int .i64 y_66.Kind, .int .i64 y_66.N, .string y_66.S, .int .i64 y_66.H.a0, .int .i64 y_66.H.a1, .int .i64 y_66.H.a2, .int .i64 y_66.H.a3, .int .i64 y_66.H.a4, .int .i64 y_66.H.a5, .int .i64 y_66.H.a6, .int .i64 y_66.H.a7]) Try.sizeOf50 hS hK rfl rfl rfl rfl (all_cons rfl (all_cons rfl (all_cons rfl (all_cons rfl (all_cons rfl (all_cons rfl (all_cons rfl (all_cons rfl (all_cons rfl (all_cons rfl (all_cons rfl (all_nil)))))))))))) (Nat.le_of_ble_eq_true rfl) rfl fun a w hS hK => ?_
        refine wpList_nil ?_
        refine wp_seq ?_
        refine wp_region_lit ?_
        refine sl hK (by decide) rfl rfl (r_move hK rfl) fun a hK => ?_
        refine sl hK (by decide) rfl rfl (r_loadA (cs := [.int .i64 y_55.Kind, .int .i64 y_55.N, .string y_55.S, .int .i64 y_55.H.a0, .int .i64 y_55.H.a1, .int .i64 y_55.H.a2, .int .i64 y_55.H.a3, .int .i64 y_55.H.a4, .int .i64 y_55.H.a5, .int .i64 y_55.H.a6, .int .i64 y_55.H.a7]) Try.isAgg50 Try.sizeOf50 rfl hK rfl (hS.cells_of (m := 11) (.tail _ (.head _)) rfl)) fun a hK => ?_
        refine sl hK (by decide) rfl rfl (r_loadA (cs := [.int .i64 y_66.Kind, .int .i64 y_66.N, .string y_66.S, .int .i64 y_66.H.a0, .int .i64 y_66.H.a1, .int .i64 y_66.H.a2, .int .i64 y_66.H.a3, .int .i64 y_66.H.a4, .int .i64 y_66.H.a5, .int .i64 y_66.H.a6, .int .i64 y_66.H.a7]) Try.isAgg50 Try.sizeOf50 rfl hK rfl (hS.cells_of (m := 11) (.head _) rfl)) fun a hK => ?_
        obtain ⟨y_76, h_77, H⟩ := bind_some H
        refine sl_callV Try.call50 hS hK (by decide) rfl rfl rfl (value_Compare.calls y_55 y_66 h_77 _) fun a w hS hK => ?_
        refine sl hK (by decide) rfl rfl (r_assign hK rfl) fun a hK => ?_
        refine wpList_nil ?_
        refine wp_seq ?_
        refine wp_region_lit ?_
        refine sl hK (by decide) rfl rfl (r_move hK rfl) fun a hK => ?_
        refine sl hK (by decide) rfl rfl (r_ibin hK rfl rfl rfl) fun a hK => ?_
        refine wpList_nil ?_
        refine wp_cond_split (hK.ev rfl) (fun (hb_78 : (y_76 != 0) = true) => ?_) (fun (hb_78 : (y_76 != 0) = false) => ?_)
        · rw [ifb_t hb_78] at H
          refine wp_seq ?_
          refine wp_region_lit ?_
          refine sl hK (by decide) rfl rfl (r_move hK rfl) fun a hK => ?_
          refine sl hK (by decide) rfl rfl (r_assign hK rfl) fun a hK => ?_
          refine wpList_nil ?_
          obtain rfl := Option.some.inj H
          refine wp_ret ?_
          repeat (first | refine ret_then ?_ | refine ret_block ?_ | refine ret_scope ?_)
          exact ret_1 Try.results49 hK (rv_tmp hK rfl) ⟨rfl, hS.bel⟩
        · rw [ifb_f hb_78] at H
          refine wp_skip ?_
          refine wp_region_lit ?_
          refine sl hK (by decide) rfl rfl (r_ibin hK rfl rfl rfl) fun a hK => ?_
          refine sl hK (by decide) rfl rfl (r_move hK rfl) fun a hK => ?_
          refine wpList_nil ?_
          exact ⟨_, Nat.lt_succ_self _, (IntKind.i64.wrap (x_27 + 1)), H, hK.sub (all_cons rfl (all_cons rfl (all_cons rfl (all_cons rfl (all_cons rfl (all_cons rfl (all_nil))))))), hS.trunc 0⟩
    · rw [ifb_f hb_54] at H
      refine wp_exit ?_
      refine wp_seq ?_
      refine wp_seq ?_
      refine wp_region_lit ?_
      refine sl hK (by decide) rfl rfl (r_move hK rfl) fun a hK => ?_
      refine sl hK (by decide) rfl rfl (r_len_R Try.underlying35 h0_0 hK rfl) fun a hK => ?_
      refine sl hK (by decide) rfl rfl (r_move hK rfl) fun a hK => ?_
      refine sl hK (by decide) rfl rfl (r_len_R Try.underlying35 h1_0 hK rfl) fun a hK => ?_
      refine sl hK (by decide) rfl rfl (r_ibin hK rfl rfl rfl) fun a hK => ?_
      refine wpList_nil ?_
      refine wp_cond_split (hK.ev rfl) (fun (hb_79 : (decide ((a0.length : Int) < (a1.length : Int))) = true) => ?_) (fun (hb_79 : (decide ((a0.length : Int) < (a1.length : Int))) = false) => ?_)
      · rw [ifb_t hb_79] at H
        refine wp_seq ?_
        refine wp_region_lit ?_
        refine sl hK (by decide) rfl rfl (r_assign hK rfl) fun a hK => ?_
        refine wpList_nil ?_
        obtain rfl := Option.some.inj H
        refine wp_ret ?_
        repeat (first | refine ret_then ?_ | refine ret_block ?_ | refine ret_scope ?_)
        exact ret_1 Try.results49 hK (rv_tmp hK rfl) ⟨rfl, hS.bel⟩
      · rw [ifb_f hb_79] at H
        refine wp_skip ?_
        refine wp_seq ?_
        refine wp_region_lit ?_
        refine sl hK (by decide) rfl rfl (r_assign hK rfl) fun a hK => ?_
        refine wpList_nil ?_
        obtain rfl := Option.some.inj H
        refine wp_ret ?_
        repeat (first | refine ret_then ?_ | refine ret_block ?_ | refine ret_scope ?_)
        exact ret_1 Try.results49 hK (rv_tmp hK rfl) ⟨rfl, hS.bel⟩

/-! ### catchment/table.order: function 38 -/
set_option maxHeartbeats 4000000 in
set_option maxRecDepth 100000 in
theorem table_order.calls (a0 : List api_Value) (a1 : List api_Value) {w0 : World} {RA : Hp} {v0_0 : Value} {v1_0 : Value} (hRA : RA.sub w0) (h0_0 : SlR ty_api_Value RA v0_0 a0) (h1_0 : SlR ty_api_Value RA v1_0 a1) {r : Int} (H : table_order a0 a1 = some r) : CallsV Try.prog 38 #[v0_0, v1_0] w0 (.int .i64 r) := by
  unfold table_order at H
  refine enter (args := [v0_0, v1_0]) Try.func38 rfl Try.ntmps38 rfl fun a hK => ?_
  have hS := St.init (R := fun _ => none) (w := w0) (fun _ _ h => by cases h)
  have hRL := RLe.refl (M := []) w0 (fun _ => none)
  refine wp_seq ?_
  refine wp_region_lit ?_
  refine sl hK (by decide) rfl rfl (r_assign hK rfl) fun a hK => ?_
  refine wpList_nil ?_
  refine wp_seq ?_
  refine wp_region_lit ?_
  refine sl hK (by decide) rfl rfl (r_move hK rfl) fun a hK => ?_
  refine sl hK (by decide) rfl rfl (r_move hK rfl) fun a hK => ?_
  obtain ⟨y_1, h_2, H⟩ := bind_some H
  refine sl_callV Try.call49 hS hK (by decide) rfl rfl rfl (slices_CompareFunc_api_Value_api_Value_api_Value_api_Value_f_value_Compare.calls a0 a1 (lentOf_sub [] _) (h0_0.mono (hS.raLe0 hRA nil_not)) (h1_0.mono (hS.raLe0 hRA nil_not)) h_2) fun a w hS hK => ?_
  refine sl hK (by decide) rfl rfl (r_assign hK rfl) fun a hK => ?_
  refine wpList_nil ?_
  obtain rfl := Option.some.inj H
  refine wp_ret ?_
  repeat (first | refine ret_then ?_ | refine ret_block ?_ | refine ret_scope ?_)
  exact ret_1 Try.results38 hK (rv_tmp hK rfl) ⟨rfl, hS.bel⟩

/-! ### slices.SortFunc[[][]catchment/api.Value,[]catchment/api.Value]: function 37 -/
set_option maxHeartbeats 4000000 in
set_option maxRecDepth 100000 in
theorem slices_SortFunc_api_Value_api_Value_f_table_order.calls (a0 : List (List api_Value)) {w0 : World} {R : Hp} {M : List Own} {v0 : Value} {cs0 : List Value} (hS0 : St M w0 w0 R [.row 35 1 v0 a0.length cs0]) (h0 : Reps (tySl ty_api_Value) R cs0 a0) {r : List (List api_Value)} (H : slices_SortFunc_api_Value_api_Value_f_table_order a0 = some r) :
    Calls Try.prog 37 #[v0, .func (.func 38) #[] #[]] w0 (Rets fun v w' => ∃ (R' : Hp) (cu0 : List Value), v = .tuple #[] ∧ St M w0 w' R' [.row 35 1 v0 r.length cu0] ∧ RLe M w0 R R' ∧ Reps (tySl ty_api_Value) R' cu0 r) := by
  unfold slices_SortFunc_api_Value_api_Value_f_table_order at H
  exact sort_calls sortL37 (ty := (tySl ty_api_Value)) rfl Try.call38 hS0 h0 (fun w hsub u1 u2 x y i hx hy hi => by
    obtain ⟨v1, e1, s1⟩ := hx
    obtain ⟨v2, e2, s2⟩ := hy
    cases e1; cases e2
    exact table_order.calls x y hsub s1 s2 hi) H

/-! ### catchment/table.Canon: function 20 -/
set_option maxHeartbeats 4000000 in
set_option maxRecDepth 100000 in
theorem table_Canon.calls (a0 : api_Table) {w0 : World} {R : Hp} {RA : Hp} {v0_0 : Value} {v0_1 : Value} (hRA : RA.sub w0) (hR : R.sub w0) (h0_0 : SlR ty_api_Col RA v0_0 a0.Cols) (h0_1 : SlR (tySl ty_api_Value) RA v0_1 a0.Rows) {r : api_Table} (H : table_Canon a0 = some r) : Calls Try.prog 20 #[.agg #[v0_0, v0_1]] w0 (Rets fun v w' => ∃ (R' : Hp) (u0 : Value) (cu0 : List Value) (u1 : Value) (cu1 : List Value), v = .agg #[u0, u1] ∧ St [] w0 w' R' [.row 43 2 u0 r.Cols.length cu0, .row 35 1 u1 r.Rows.length cu1] ∧ RLe [] w0 R R' ∧ Reps ty_api_Col R' cu0 r.Cols ∧ Reps (tySl ty_api_Value) R' cu1 r.Rows) := by
  unfold table_Canon at H
  refine enter (args := [.agg #[v0_0, v0_1]]) Try.func20 rfl Try.ntmps20 rfl fun a hK => ?_
  have hS := St.init hR
  have hRL := RLe.refl (M := []) w0 R
  refine wp_seq ?_
  refine wp_region_lit ?_
  refine sl_box hS hK (by decide) rfl rfl (c := [v0_0, v0_1]) rfl fun a w b_1 hS hK => ?_
  refine sl_alloc Try.zeroValue25 hS hK (by decide) rfl rfl fun a w b_2 hS hK => ?_
  refine wpList_nil ?_
  refine wp_seq ?_
  refine wp_region_lit ?_
  refine sl hK (by decide) rfl rfl (r_fieldAddr Try.underlying25 rfl Try.sizeOf22 hK rfl) fun a hK => ?_
  refine sl hK (by decide) rfl rfl (r_load Try.isAgg22 hK rfl (hS.cell (.tail _ (.head _)) rfl)) fun a hK => ?_
  obtain ⟨y_3, h_4, H⟩ := bind_some H
  refine sl_call Try.call35 hK (by decide) rfl rfl rfl (slices_Clone_api_Col_api_Col.calls a0.Cols (lentOf_sub [] _) hS.sub (h0_0.mono (hS.raLe0 hRA nil_not)) h_4) fun a v_ w hv_ hK => ?_
  obtain ⟨R_5, v_8, cs_9, hv_, hr_, hl_6, hq_10⟩ := hv_
  have hv_ := hv_.symm
  subst hv_
  obtain ⟨hS, hl_6⟩ := hS.sp0.back hr_ hl_6
  have hS := hS.un1
  have hRL := hRL.trans hl_6
  have ho_11 := hS.row_one (.head _)
  refine sl hK (by decide) rfl rfl (r_buildC (ps := [(0, v_8)]) (c := [v_8, .slice none 0 0]) Try.underlying25 Try.zeroValue25 places25 hK rfl (pc_cons (cells1 ho_11) pc_nil) rfl rfl) fun a hK => ?_
  refine sl_alloc Try.zeroValue25 hS hK (by decide) rfl rfl fun a w b_12 hS hK => ?_
  refine sl_storeA (vs := [v_8, .slice none 0 0]) (c' := [v_8, .slice none 0 0]) Try.sizeOf25 hS hK rfl rfl rfl rfl (all_cons (hS.row_one (.tail _ (.head _))) (all_cons rfl (all_nil))) (Nat.le_of_ble_eq_true rfl) rfl fun a w hS hK => ?_
  refine wpList_nil ?_
  refine wp_seq ?_
  refine wp_seq ?_
  refine wp_region_lit ?_
  refine sl hK (by decide) rfl rfl (r_fieldAddr Try.underlying25 rfl Try.sizeOf23 hK rfl) fun a hK => ?_
  refine sl hK (by decide) rfl rfl (r_load Try.isAgg23 hK rfl (hS.cell (.tail _ (.tail _ (.tail _ (.head _)))) rfl)) fun a hK => ?_
  refine sl hK (by decide) rfl rfl (r_len_R Try.underlying23 h0_1 hK rfl) fun a hK => ?_
  refine sl hK (by decide) rfl rfl (r_move hK rfl) fun a hK => ?_
  refine wpList_nil ?_
  refine wp_block ?_
  refine wp_loop_k (fun k_l0 a w => ∃ (x_73 : List (List api_Value)) (x_77 : Int) (R_78 : Hp) (v_74 : Value) (cs_75 : List Value), table_Canon.l0 a0 y_3 k_l0 x_73 x_77 = some r ∧ RLe [] w0 R_5 R_78 ∧ Reps (tySl ty_api_Value) R_78 cs_75 x_73 ∧ Kn 29 a [(2, .pointer (some ⟨b_2, 0, none⟩)), (3, .pointer (some ⟨b_12, 0, none⟩)), (11, v0_1), (12, .int .i64 (a0.Rows.length : Int)), (13, .int .i64 x_77)] ∧ St [] w0 w R_78 [.cells b_2 [.slice none 0 0, .slice none 0 0] 25, .row 43 2 v_8 y_3.length cs_9, .row 35 1 v_74 x_73.length cs_75, .cells b_12 [v_8, v_74] 25]) (((a0.Rows.length : Int) - 0).toNat + 1) ?_ ?_
  · have hS := hS.row_nil 35 1
    have hq_131 : Reps (tySl ty_api_Value) R_5 [] ([] : List (List api_Value)) := Reps.nil _ _
    have hS := hS.pk1
    have hS := hS.pk1
    have hS := hS.pk2
    have hS := hS.pk3
    exact ⟨[], 0, _, _, _, H, (RLe.refl _ _), hq_131, hK.sub (all_cons rfl (all_cons rfl (all_cons rfl (all_cons rfl (all_cons rfl (all_nil)))))), hS.trunc 4⟩
  · rintro k_l0 a w ⟨x_73, x_77, R_78, v_74, cs_75, H, hl_79, hq_76, hK, hS⟩
    cases k_l0 with
    | zero => cases H
    | succ k_l0 =>
    rw [table_Canon.l0.eq_2] at H
    have hRL := hRL.trans hl_79
    refine wp_seq ?_
    refine wp_region_lit ?_
    refine sl hK (by decide) rfl rfl (r_ibin hK rfl rfl rfl) fun a hK => ?_
    refine wpList_nil ?_
    refine wp_seq ?_
    refine wp_cond_split (hK.ev rfl) (fun (hb_132 : (decide (x_77 < (a0.Rows.length : Int))) = true) => ?_) (fun (hb_132 : (decide (x_77 < (a0.Rows.length : Int))) = false) => ?_)
    · rw [ifb_t hb_132] at H
      refine wp_skip ?_
      refine wp_seq ?_
      refine wp_block ?_
      refine wp_seq ?_
      refine wp_region_lit ?_
      obtain ⟨y_133, h_134, H⟩ := bind_some H
      obtain ⟨b_135, o_136, c_137, cs_138, hv_139, hr_140, hc_141, h_1340, h_1341⟩ := h0_1.ix h_134
      obtain ⟨v_142, rfl, hs_143⟩ := hr_140
      refine sl hK (by decide) rfl rfl (r_indexAddr_R Try.underlying23 Try.sizeOf35 hv_139 h_1340 h_1341 hK rfl rfl) fun a hK => ?_
      refine sl hK (by decide) rfl rfl (r_load Try.isAgg35 hK rfl ((hS.ra hRA nil_not).cell (hc_141 0 _ rfl))) fun a hK => ?_
      refine sl hK (by decide) rfl rfl (r_assign hK rfl) fun a hK => ?_
      refine wpList_nil ?_
      refine parT_region (C := fun w => St [] w0 w R_78 [.cells b_2 [.slice none 0 0, .slice none 0 0] 25, .row 43 2 v_8 y_3.length cs_9, .row 35 1 v_74 x_73.length cs_75, .cells b_12 [v_8, v_74] 25]) 5 [(0, true), (1, true), (2, true), (3, false), (4, false)] mixed (by kernel_rfl) hS (fun w hS => hS) fun w hS => ?_
      refine sp (k := 0) rfl hK (by decide) rfl rfl (fun w hS => r_fieldAddr Try.underlying25 rfl Try.sizeOf23 hK rfl) fun a hK => ?_
      refine sp (k := 1) rfl hK (by decide) rfl rfl (fun w hS => r_load Try.isAgg23 hK rfl (hS.cell (.tail _ (.tail _ (.tail _ (.head _)))) rfl)) fun a hK => ?_
      refine sp (k := 2) rfl hK (by decide) rfl rfl (fun w hS => r_move hK rfl) fun a hK => ?_
      refine spw (k := 3) rfl rfl hS ?_
      obtain ⟨y_163, h_164, H⟩ := bind_some H
      refine sl_call Try.call36 hK (by decide) rfl rfl rfl (slices_Clone_api_Value_api_Value.calls y_133 (lentOf_sub [] _) hS.sub (hs_143.mono (hS.raLe0 hRA nil_not)) h_164) fun a v_ w hv_ hK => ?_
      obtain ⟨R_165, v_168, cs_169, hv_, hr_, hl_166, hq_170⟩ := hv_
      have hv_ := hv_.symm
      subst hv_
      obtain ⟨hS, hl_166⟩ := hS.sp0.back hr_ hl_166
      have hS := hS.un1
      have hRL := hRL.trans hl_166
      refine parK_nil ((hS.pk4.pk4.pk4.pk4.trunc 4).lower hl_166.le) ?_
      refine spw (k := 4) rfl rfl ((hS.pk4.pk4.pk4.pk4.trunc 4).lower hl_166.le) ?_
      have ho_171 := hS.row_one (.head _)
      refine sl_buildSliceF (zc := [.slice none 0 0]) (ps := [(0, v_168)]) (c := [v_168]) [[v_168]] Try.underlying23 Try.sizeOf35 Try.zeroValue35 rfl (pc_cons (cells1 ho_171) pc_nil) rfl rfl (Nat.le_of_ble_eq_true rfl) rfl (all_cons rfl (all_nil)) rfl hS hK (by decide) rfl fun a w b_172 hS hK => ?_
      refine parK_nil ((hS.pk5.pk5.pk5.pk5.trunc 4).lower hl_166.le) ?_
      refine thenL_nil ?_
      have hS := hS.pk4
      have hS := hS.pk2
      obtain ⟨R_173, hS, hl_175, hs_174⟩ := hS.fz_row hq_170 rfl rfl
      have hRL := hRL.trans hl_175
      obtain ⟨y_176, h_177, H⟩ := bind_some H
      refine sl_append_L (ty := (tySl ty_api_Value)) (ys := [y_163]) elT23 (by decide) rfl (hq_76.mono (hl_166.le.trans hl_175.le)) rfl (Reps.cons (show Ty.rep (tySl ty_api_Value) _ [v_168] y_163 from ⟨_, rfl, hs_174⟩) (Reps.nil _ _)) rfl h_177 hS hK (by decide) rfl rfl rfl fun a w v_178 cs_179 hq_180 hS hK => ?_
      refine sl hK (by decide) rfl rfl (r_fieldAddr Try.underlying25 rfl Try.sizeOf23 hK rfl) fun a hK => ?_
      have hS := hS.pk3
      refine sl_store1 (c' := [v_8, v_178]) Try.sizeOf23 hS hK rfl rfl rfl (hS.row_one (.tail _ (.head _))) (Nat.le_of_ble_eq_true rfl) rfl fun a w hS hK => ?_
      refine wpList_nil (NoP_nil ?_)
      refine wp_region_lit ?_
      refine sl hK (by decide) rfl rfl (r_ibin hK rfl rfl rfl) fun a hK => ?_
      refine sl hK (by decide) rfl rfl (r_move hK rfl) fun a hK => ?_
      refine wpList_nil ?_
      have hS := hS.pk1
      have hS := hS.pk3
      have hS := hS.pk3
      exact ⟨_, Nat.lt_succ_self _, y_176, (IntKind.i64.wrap (x_77 + 1)), _, _, _, H, (hl_79.trans (hl_166.trans hl_175)), hq_180, hK.sub (all_cons rfl (all_cons rfl (all_cons rfl (all_cons rfl (all_cons rfl (all_nil)))))), hS⟩
    · rw [ifb_f hb_132] at H
      refine wp_exit ?_
      refine wp_seq ?_
      refine wp_region_lit ?_
      refine sl hK (by decide) rfl rfl (r_fieldAddr Try.underlying25 rfl Try.sizeOf23 hK rfl) fun a hK => ?_
      refine sl hK (by decide) rfl rfl (r_load Try.isAgg23 hK rfl (hS.cell (.tail _ (.tail _ (.tail _ (.head _)))) rfl)) fun a hK => ?_
      obtain ⟨y_182, h_183, H⟩ := bind_some H
      have hS := hS.pk2
      have hS1 := hS.sp1
      refine sl_call Try.call37 hK (by decide) rfl rfl rfl (slices_SortFunc_api_Value_api_Value_f_table_order.calls x_73 hS1.lend hq_76 h_183) fun a v_ w hv_ hK => ?_
      obtain ⟨R_184, cs_187, hv_, hr_, hl_185, hq_188⟩ := hv_
      have hv_ := hv_.symm
      subst hv_
      obtain ⟨hS, hl_185⟩ := hS1.back hr_ hl_185
      have hS := hS.un1
      have hRL := hRL.trans hl_185
      refine wpList_nil ?_
      refine wp_seq ?_
      refine wp_region_lit ?_
      refine sl hK (by decide) rfl rfl (r_loadA (cs := [v_8, v_74]) Try.isAgg25 Try.sizeOf25 rfl hK rfl (hS.cells_of (m := 2) (.tail _ (.tail _ (.tail _ (.head _)))) rfl)) fun a hK => ?_
      have hS := hS.pk1
      refine sl_storeA (vs := [v_8, v_74]) (c' := [v_8, v_74]) Try.sizeOf25 hS hK rfl rfl rfl rfl (all_cons (hS.row_one (.tail _ (.tail _ (.head _)))) (all_cons (hS.row_one (.tail _ (.head _))) (all_nil))) (Nat.le_of_ble_eq_true rfl) rfl fun a w hS hK => ?_
      refine wpList_nil ?_
      obtain rfl := Option.some.inj H
      refine wp_ret ?_
      repeat (first | refine ret_then ?_ | refine ret_block ?_ | refine ret_scope ?_)
      exact ret_1 Try.results20 hK (rv_cell (c := [v_8, v_74]) Try.isAgg25 Try.sizeOf25 hS (.head _) rfl hK rfl) ⟨_, rfl, _, _, _, _, _, rfl, (hS.pk1.pk2.trunc 2), hRL, (hq_10.mono (hl_79.le.trans hl_185.le)), hq_188⟩

/-! ### catchment/table.Name: function 15 -/
set_option maxHeartbeats 4000000 in
set_option maxRecDepth 100000 in
theorem table_Name.calls (a0 : ByteArray) {r : Bool} (H : table_Name a0 = some r) (w0 : World) : CallsV Try.prog 15 #[.string a0] w0 (.bool r) := by
  unfold table_Name at H
  refine enter (args := [.string a0]) Try.func15 rfl Try.ntmps15 rfl fun a hK => ?_
  have hS := St.init (R := fun _ => none) (w := w0) (fun _ _ h => by cases h)
  have hRL := RLe.refl (M := []) w0 (fun _ => none)
  refine wp_seq ?_
  refine wp_region_lit ?_
  refine sl hK (by decide) rfl rfl (r_assign hK rfl) fun a hK => ?_
  refine wpList_nil ?_
  refine wp_seq ?_
  refine wp_seq ?_
  refine wp_region_lit ?_
  refine sl hK (by decide) rfl rfl (r_move hK rfl) fun a hK => ?_
  refine sl hK (by decide) rfl rfl (r_len_str Try.underlying9 hK rfl) fun a hK => ?_
  refine sl hK (by decide) rfl rfl (r_move hK rfl) fun a hK => ?_
  refine wpList_nil ?_
  refine wp_block ?_
  refine wp_loop_k (fun k_l0 a w => ∃ (x_11 : Int), table_Name.l0 a0 k_l0 x_11 = some r ∧ Kn 48 a [(0, .string a0), (6, .int .i64 (a0.size : Int)), (7, .int .i64 x_11)] ∧ St [] w0 w (fun _ => none) []) (((a0.size : Int) - 0).toNat + 1) ?_ ?_
  · exact ⟨0, H, hK.sub (all_cons rfl (all_cons rfl (all_cons rfl (all_nil)))), hS⟩
  · rintro k_l0 a w ⟨x_11, H, hK, hS⟩
    cases k_l0 with
    | zero => cases H
    | succ k_l0 =>
    rw [table_Name.l0.eq_2] at H
    refine wp_seq ?_
    refine wp_region_lit ?_
    refine sl hK (by decide) rfl rfl (r_ibin hK rfl rfl rfl) fun a hK => ?_
    refine wpList_nil ?_
    refine wp_seq ?_
    refine wp_cond_split (hK.ev rfl) (fun (hb_49 : (decide (x_11 < (a0.size : Int))) = true) => ?_) (fun (hb_49 : (decide (x_11 < (a0.size : Int))) = false) => ?_)
    · rw [ifb_t hb_49] at H
      refine wp_skip ?_
      refine wp_seq ?_
      refine wp_block ?_
      refine wp_seq ?_
      refine wp_region_lit ?_
      refine sl hK (by decide) rfl rfl (r_move hK rfl) fun a hK => ?_
      refine sl hK (by decide) rfl rfl (r_assign hK rfl) fun a hK => ?_
      refine wpList_nil ?_
      refine wp_seq ?_
      refine wp_region_lit ?_
      refine sl hK (by decide) rfl rfl (r_move hK rfl) fun a hK => ?_
      refine sl hK (by decide) rfl rfl (r_move hK rfl) fun a hK => ?_
      obtain ⟨y_50, h_51, H⟩ := bind_some H
      refine sl hK (by decide) rfl rfl (r_index_str' Try.underlying9 h_51 hK rfl rfl) fun a hK => ?_
      refine sl hK (by decide) rfl rfl (r_assign hK rfl) fun a hK => ?_
      refine wpList_nil ?_
      refine wp_block ?_
      refine wp_seq ?_
      refine wp_mid (fun a w => ∃ (x_53 : Bool), table_Name.j1 (table_Name.l0 a0 k_l0) a0 x_11 y_50 x_53 = some r ∧ Kn 48 a [(0, .string a0), (3, .int .i64 x_11), (4, .int .u8 y_50), (6, .int .i64 (a0.size : Int)), (7, .int .i64 x_11), (13, .bool x_53)] ∧ St [] w0 w (fun _ => none) []) ?_ ?_
      · refine wp_region_lit ?_
        refine sl hK (by decide) rfl rfl (r_move hK rfl) fun a hK => ?_
        refine sl hK (by decide) rfl rfl (r_ibin hK rfl rfl rfl) fun a hK => ?_
        refine sl hK (by decide) rfl rfl (r_move hK rfl) fun a hK => ?_
        rcases or_b (decide (y_50 ≥ 97)) with hb_55 | hb_55
        · rw [ifb_t hb_55] at H
          refine sl hK (by decide) (wtt hb_55) rfl (r_move hK rfl) fun a hK => ?_
          refine sl hK (by decide) (wtt hb_55) rfl (r_ibin hK rfl rfl rfl) fun a hK => ?_
          refine sl hK (by decide) rfl rfl (r_pick_t hb_55 hK rfl rfl) fun a hK => ?_
          refine sl hK (by decide) rfl rfl (r_assign hK rfl) fun a hK => ?_
          refine wpList_nil ?_
          exact ⟨(decide (y_50 ≤ 122)), H, hK.sub (all_cons rfl (all_cons rfl (all_cons rfl (all_cons rfl (all_cons rfl (all_cons rfl (all_nil))))))), hS⟩
        · rw [ifb_f hb_55] at H
          refine sl_skip hK (by decide) (wtf hb_55) rfl fun a hK => ?_
          refine sl_skip hK (by decide) (wtf hb_55) rfl fun a hK => ?_
          refine sl hK (by decide) rfl rfl (r_pick_f hb_55 hK rfl rfl) fun a hK => ?_
          refine sl hK (by decide) rfl rfl (r_assign hK rfl) fun a hK => ?_
          refine wpList_nil ?_
          exact ⟨false, H, hK.sub (all_cons rfl (all_cons rfl (all_cons rfl (all_cons rfl (all_cons rfl (all_cons rfl (all_nil))))))), hS⟩
      · rintro a w ⟨x_53, H, hK, hS⟩
        unfold table_Name.j1 at H
        refine wp_mid (fun a w => table_Name.j2 (table_Name.l0 a0 k_l0) a0 x_11 = some r ∧ Kn 48 a [(0, .string a0), (6, .int .i64 (a0.size : Int)), (7, .int .i64 x_11)] ∧ St [] w0 w (fun _ => none) []) ?_ ?_
        · refine wp_cond_split (hK.ev rfl) (fun (hb_71 : x_53 = true) => ?_) (fun (hb_71 : x_53 = false) => ?_)
          · rw [ifb_t hb_71] at H
            refine wp_skip ?_
            exact ⟨H, hK.sub (all_cons rfl (all_cons rfl (all_cons rfl (all_nil)))), hS⟩
          · rw [ifb_f hb_71] at H
            refine wp_seq ?_
            refine wp_mid (fun a w => ∃ (x_77 : Bool), table_Name.j3 (table_Name.l0 a0 k_l0) a0 x_11 x_77 = some r ∧ Kn 48 a [(0, .string a0), (6, .int .i64 (a0.size : Int)), (7, .int .i64 x_11), (20, .bool x_77)] ∧ St [] w0 w (fun _ => none) []) ?_ ?_
            · refine wp_region_lit ?_
              refine sl hK (by decide) rfl rfl (r_move hK rfl) fun a hK => ?_
              refine sl hK (by decide) rfl rfl (r_ibin hK rfl rfl rfl) fun a hK => ?_
              refine sl hK (by decide) rfl rfl (r_move hK rfl) fun a hK => ?_
              rcases or_b (decide (x_11 > 0)) with hb_79 | hb_79
              · rw [ifb_t hb_79] at H
                refine sl hK (by decide) (wtt hb_79) rfl (r_move hK rfl) fun a hK => ?_
                refine sl hK (by decide) (wtt hb_79) rfl (r_ibin hK rfl rfl rfl) fun a hK => ?_
                refine sl hK (by decide) (wtt hb_79) rfl (r_move hK rfl) fun a hK => ?_
                rcases or_b (decide (y_50 ≥ 48)) with hb_80 | hb_80
                · rw [ifb_t hb_80] at H
                  refine sl hK (by decide) (wtt hb_80) rfl (r_move hK rfl) fun a hK => ?_
                  refine sl hK (by decide) (wtt hb_80) rfl (r_ibin hK rfl rfl rfl) fun a hK => ?_
                  refine sl hK (by decide) (wtt hb_79) rfl (r_pick_t hb_80 hK rfl rfl) fun a hK => ?_
                  refine sl hK (by decide) (wtt hb_79) rfl (r_move hK rfl) fun a hK => ?_
                  rcases or_b (decide (y_50 ≤ 57)) with hb_81 | hb_81
                  · rw [ifb_t hb_81] at H
                    refine sl_skip hK (by decide) (wft hb_81) rfl fun a hK => ?_
                    refine sl_skip hK (by decide) (wft hb_81) rfl fun a hK => ?_
                    refine sl hK (by decide) (wtt hb_79) rfl (r_pick_t hb_81 hK rfl rfl) fun a hK => ?_
                    refine sl hK (by decide) (wtt hb_79) rfl (r_move hK rfl) fun a hK => ?_
                    refine sl_skip hK (by decide) rfl rfl fun a hK => ?_
                    refine sl_skip hK (by decide) rfl rfl fun a hK => ?_
                    refine sl hK (by decide) (wtt hb_79) rfl (r_pick hK rfl rfl rfl) fun a hK => ?_
                    refine sl hK (by decide) rfl rfl (r_pick_t hb_79 hK rfl rfl) fun a hK => ?_
                    refine sl hK (by decide) rfl rfl (r_assign hK rfl) fun a hK => ?_
                    refine wpList_nil ?_
                    exact ⟨true, H, hK.sub (all_cons rfl (all_cons rfl (all_cons rfl (all_cons rfl (all_nil))))), hS⟩
                  · rw [ifb_f hb_81] at H
                    refine sl hK (by decide) (wff hb_81) rfl (r_move hK rfl) fun a hK => ?_
                    refine sl hK (by decide) (wff hb_81) rfl (r_ibin hK rfl rfl rfl) fun a hK => ?_
                    refine sl hK (by decide) (wtt hb_79) rfl (r_pick_f hb_81 hK rfl rfl) fun a hK => ?_
                    refine sl hK (by decide) (wtt hb_79) rfl (r_move hK rfl) fun a hK => ?_
                    rcases or_b (y_50 == 95) with hb_82 | hb_82
                    · rw [ifb_t hb_82] at H
                      refine sl_skip hK (by decide) (wft hb_82) rfl fun a hK => ?_
                      refine sl_skip hK (by decide) (wft hb_82) rfl fun a hK => ?_
                      refine sl hK (by decide) (wtt hb_79) rfl (r_pick_t hb_82 hK rfl rfl) fun a hK => ?_
                      refine sl hK (by decide) rfl rfl (r_pick_t hb_79 hK rfl rfl) fun a hK => ?_
                      refine sl hK (by decide) rfl rfl (r_assign hK rfl) fun a hK => ?_
                      refine wpList_nil ?_
                      exact ⟨true, H, hK.sub (all_cons rfl (all_cons rfl (all_cons rfl (all_cons rfl (all_nil))))), hS⟩
                    · rw [ifb_f hb_82] at H
                      refine sl hK (by decide) (wff hb_82) rfl (r_move hK rfl) fun a hK => ?_
                      refine sl hK (by decide) (wff hb_82) rfl (r_ibin hK rfl rfl rfl) fun a hK => ?_
                      refine sl hK (by decide) (wtt hb_79) rfl (r_pick_f hb_82 hK rfl rfl) fun a hK => ?_
                      refine sl hK (by decide) rfl rfl (r_pick_t hb_79 hK rfl rfl) fun a hK => ?_
                      refine sl hK (by decide) rfl rfl (r_assign hK rfl) fun a hK => ?_
                      refine wpList_nil ?_
                      exact ⟨(y_50 == 35), H, hK.sub (all_cons rfl (all_cons rfl (all_cons rfl (all_cons rfl (all_nil))))), hS⟩
                · rw [ifb_f hb_80] at H
                  refine sl_skip hK (by decide) (wtf hb_80) rfl fun a hK => ?_
                  refine sl_skip hK (by decide) (wtf hb_80) rfl fun a hK => ?_
                  refine sl hK (by decide) (wtt hb_79) rfl (r_pick_f hb_80 hK rfl rfl) fun a hK => ?_
                  refine sl hK (by decide) (wtt hb_79) rfl (r_move hK rfl) fun a hK => ?_
                  refine sl hK (by decide) rfl rfl (r_move hK rfl) fun a hK => ?_
                  refine sl hK (by decide) rfl rfl (r_ibin hK rfl rfl rfl) fun a hK => ?_
                  refine sl hK (by decide) (wtt hb_79) rfl (r_pick hK rfl rfl rfl) fun a hK => ?_
                  refine sl hK (by decide) (wtt hb_79) rfl (r_move hK rfl) fun a hK => ?_
                  rcases or_b (y_50 == 95) with hb_83 | hb_83
                  · rw [ifb_t hb_83] at H
                    refine sl_skip hK (by decide) (wft hb_83) rfl fun a hK => ?_
                    refine sl_skip hK (by decide) (wft hb_83) rfl fun a hK => ?_
                    refine sl hK (by decide) (wtt hb_79) rfl (r_pick_t hb_83 hK rfl rfl) fun a hK => ?_
                    refine sl hK (by decide) rfl rfl (r_pick_t hb_79 hK rfl rfl) fun a hK => ?_
                    refine sl hK (by decide) rfl rfl (r_assign hK rfl) fun a hK => ?_
                    refine wpList_nil ?_
                    exact ⟨true, H, hK.sub (all_cons rfl (all_cons rfl (all_cons rfl (all_cons rfl (all_nil))))), hS⟩
                  · rw [ifb_f hb_83] at H
                    refine sl hK (by decide) (wff hb_83) rfl (r_move hK rfl) fun a hK => ?_
                    refine sl hK (by decide) (wff hb_83) rfl (r_ibin hK rfl rfl rfl) fun a hK => ?_
                    refine sl hK (by decide) (wtt hb_79) rfl (r_pick_f hb_83 hK rfl rfl) fun a hK => ?_
                    refine sl hK (by decide) rfl rfl (r_pick_t hb_79 hK rfl rfl) fun a hK => ?_
                    refine sl hK (by decide) rfl rfl (r_assign hK rfl) fun a hK => ?_
                    refine wpList_nil ?_
                    exact ⟨(y_50 == 35), H, hK.sub (all_cons rfl (all_cons rfl (all_cons rfl (all_cons rfl (all_nil))))), hS⟩
              · rw [ifb_f hb_79] at H
                refine sl_skip hK (by decide) (wtf hb_79) rfl fun a hK => ?_
                refine sl_skip hK (by decide) (wtf hb_79) rfl fun a hK => ?_
                refine sl_skip hK (by decide) (wtf hb_79) rfl fun a hK => ?_
                refine sl_skip hK (by decide) rfl rfl fun a hK => ?_
                refine sl_skip hK (by decide) rfl rfl fun a hK => ?_
                refine sl_skip hK (by decide) (wtf hb_79) rfl fun a hK => ?_
                refine sl_skip hK (by decide) (wtf hb_79) rfl fun a hK => ?_
                refine sl_skip hK (by decide) rfl rfl fun a hK => ?_
                refine sl_skip hK (by decide) rfl rfl fun a hK => ?_
                refine sl_skip hK (by decide) (wtf hb_79) rfl fun a hK => ?_
                refine sl_skip hK (by decide) (wtf hb_79) rfl fun a hK => ?_
                refine sl_skip hK (by decide) rfl rfl fun a hK => ?_
                refine sl_skip hK (by decide) rfl rfl fun a hK => ?_
                refine sl_skip hK (by decide) (wtf hb_79) rfl fun a hK => ?_
                refine sl hK (by decide) rfl rfl (r_pick_f hb_79 hK rfl rfl) fun a hK => ?_
                refine sl hK (by decide) rfl rfl (r_assign hK rfl) fun a hK => ?_
                refine wpList_nil ?_
                exact ⟨false, H, hK.sub (all_cons rfl (all_cons rfl (all_cons rfl (all_cons rfl (all_nil))))), hS⟩
            · rintro a w ⟨x_77, H, hK, hS⟩
              unfold table_Name.j3 at H
              refine wp_cond_split (hK.ev rfl) (fun (hb_84 : x_77 = true) => ?_) (fun (hb_84 : x_77 = false) => ?_)
              · rw [ifb_t hb_84] at H
                refine wp_skip ?_
                exact ⟨H, hK.sub (all_cons rfl (all_cons rfl (all_cons rfl (all_nil)))), hS⟩
              · rw [ifb_f hb_84] at H
                refine wp_seq ?_
                refine wp_region_lit ?_
                refine sl hK (by decide) rfl rfl (r_assign hK rfl) fun a hK => ?_
                refine wpList_nil ?_
                obtain rfl := Option.some.inj H
                refine wp_ret ?_
                repeat (first | refine ret_then ?_ | refine ret_block ?_ | refine ret_scope ?_)
                exact ret_1 Try.results15 hK (rv_tmp hK rfl) ⟨rfl, hS.bel⟩
        · rintro a w ⟨H, hK, hS⟩
          unfold table_Name.j2 at H
          refine wp_region_lit ?_
          refine sl hK (by decide) rfl rfl (r_ibin hK rfl rfl rfl) fun a hK => ?_
          refine sl hK (by decide) rfl rfl (r_move hK rfl) fun a hK => ?_
          refine wpList_nil ?_
          exact ⟨_, Nat.lt_succ_self _, (IntKind.i64.wrap (x_11 + 1)), H, hK.sub (all_cons rfl (all_cons rfl (all_cons rfl (all_nil)))), hS⟩
    · rw [ifb_f hb_49] at H
      refine wp_exit ?_
      refine wp_seq ?_
      refine wp_region_lit ?_
      refine sl hK (by decide) rfl rfl (r_move hK rfl) fun a hK => ?_
      refine sl hK (by decide) rfl rfl (r_len_str Try.underlying9 hK rfl) fun a hK => ?_
      refine sl hK (by decide) rfl rfl (r_ibin hK rfl rfl rfl) fun a hK => ?_
      refine sl hK (by decide) rfl rfl (r_move hK rfl) fun a hK => ?_
      rcases or_b (decide ((a0.size : Int) ≥ 1)) with hb_85 | hb_85
      · rw [ifb_t hb_85] at H
        refine sl hK (by decide) (wtt hb_85) rfl (r_move hK rfl) fun a hK => ?_
        refine sl hK (by decide) (wtt hb_85) rfl (r_len_str Try.underlying9 hK rfl) fun a hK => ?_
        refine sl hK (by decide) (wtt hb_85) rfl (r_ibin hK rfl rfl rfl) fun a hK => ?_
        refine sl hK (by decide) rfl rfl (r_pick_t hb_85 hK rfl rfl) fun a hK => ?_
        refine sl hK (by decide) rfl rfl (r_assign hK rfl) fun a hK => ?_
        refine wpList_nil ?_
        obtain rfl := Option.some.inj H
        refine wp_ret ?_
        repeat (first | refine ret_then ?_ | refine ret_block ?_ | refine ret_scope ?_)
        exact ret_1 Try.results15 hK (rv_tmp hK rfl) ⟨rfl, hS.bel⟩
      · rw [ifb_f hb_85] at H
        refine sl_skip hK (by decide) (wtf hb_85) rfl fun a hK => ?_
        refine sl_skip hK (by decide) (wtf hb_85) rfl fun a hK => ?_
        refine sl_skip hK (by decide) (wtf hb_85) rfl fun a hK => ?_
        refine sl hK (by decide) rfl rfl (r_pick_f hb_85 hK rfl rfl) fun a hK => ?_
        refine sl hK (by decide) rfl rfl (r_assign hK rfl) fun a hK => ?_
        refine wpList_nil ?_
        obtain rfl := Option.some.inj H
        refine wp_ret ?_
        repeat (first | refine ret_then ?_ | refine ret_block ?_ | refine ret_scope ?_)
        exact ret_1 Try.results15 hK (rv_tmp hK rfl) ⟨rfl, hS.bel⟩

/-! ### catchment/table.Find$1: function 34 -/
set_option maxHeartbeats 4000000 in
set_option maxRecDepth 100000 in
theorem table_Find_1_cp.calls (a0 : api_Col) (a1 : ByteArray) {w0 : World} {RA : Hp} {b1 : Nat} {o1 : Nat} (hRA : RA.sub w0) (hc1 : ∀ j u, ([.string a1] : List Value)[j]? = some u → RA.cell b1 (o1 + j) = some u) {r : Bool} (H : table_Find_1_cp a0 a1 = some r) : CallsV Try.prog 34 #[.agg #[.string a0.Name, .int .i64 a0.Kind], .pointer (some ⟨b1, o1, none⟩)] w0 (.bool r) := by
  unfold table_Find_1_cp at H
  refine enter (args := [.agg #[.string a0.Name, .int .i64 a0.Kind], .pointer (some ⟨b1, o1, none⟩)]) Try.func34 rfl Try.ntmps34 rfl fun a hK => ?_
  have hS := St.init (R := fun _ => none) (w := w0) (fun _ _ h => by cases h)
  have hRL := RLe.refl (M := []) w0 (fun _ => none)
  refine wp_seq ?_
  refine wp_region_lit ?_
  refine sl_box hS hK (by decide) rfl rfl (c := [.string a0.Name, .int .i64 a0.Kind]) rfl fun a w b_1 hS hK => ?_
  refine sl hK (by decide) rfl rfl (r_assign hK rfl) fun a hK => ?_
  refine wpList_nil ?_
  refine wp_seq ?_
  refine wp_region_lit ?_
  refine sl hK (by decide) rfl rfl (r_fieldAddr Try.underlying43 rfl Try.sizeOf9 hK rfl) fun a hK => ?_
  refine sl hK (by decide) rfl rfl (r_load Try.isAgg9 hK rfl (hS.cell (.head _) rfl)) fun a hK => ?_
  refine sl hK (by decide) rfl rfl (r_load Try.isAgg9 hK rfl ((hS.ra hRA nil_not).cell (hc1 0 _ rfl))) fun a hK => ?_
  refine sl hK (by decide) rfl rfl (r_sbin hK rfl rfl rfl) fun a hK => ?_
  refine sl hK (by decide) rfl rfl (r_assign hK rfl) fun a hK => ?_
  refine wpList_nil ?_
  obtain rfl := Option.some.inj H
  refine wp_ret ?_
  repeat (first | refine ret_then ?_ | refine ret_block ?_ | refine ret_scope ?_)
  exact ret_1 Try.results34 hK (rv_tmp hK rfl) ⟨rfl, hS.bel⟩

/-! ### slices.IndexFunc[[]catchment/api.Col,catchment/api.Col]: function 33 -/
set_option maxHeartbeats 4000000 in
set_option maxRecDepth 100000 in
theorem slices_IndexFunc_api_Col_api_Col_f_table_Find_1p.calls (a0 : List api_Col) (a1_0 : ByteArray) {w0 : World} {RA : Hp} {v0_0 : Value} {b1q0 : Nat} {o1q0 : Nat} (hRA : RA.sub w0) (h0_0 : SlR ty_api_Col RA v0_0 a0) (hc1q0 : ∀ j u, ([.string a1_0] : List Value)[j]? = some u → RA.cell b1q0 (o1q0 + j) = some u) {r : Int} (H : slices_IndexFunc_api_Col_api_Col_f_table_Find_1p a0 a1_0 = some r) : CallsV Try.prog 33 #[v0_0, .func (.func 34) #[] #[.pointer (some ⟨b1q0, o1q0, none⟩)]] w0 (.int .i64 r) := by
  unfold slices_IndexFunc_api_Col_api_Col_f_table_Find_1p at H
  refine enter (args := [v0_0, .func (.func 34) #[] #[.pointer (some ⟨b1q0, o1q0, none⟩)]]) Try.func33 rfl Try.ntmps33 rfl fun a hK => ?_
  have hS := St.init (R := fun _ => none) (w := w0) (fun _ _ h => by cases h)
  have hRL := RLe.refl (M := []) w0 (fun _ => none)
  refine wp_seq ?_
  refine wp_region_lit ?_
  refine sl hK (by decide) rfl rfl (r_assign hK rfl) fun a hK => ?_
  refine wpList_nil ?_
  refine wp_seq ?_
  refine wp_seq ?_
  refine wp_region_lit ?_
  refine sl hK (by decide) rfl rfl (r_move hK rfl) fun a hK => ?_
  refine sl hK (by decide) rfl rfl (r_len_R Try.underlying22 h0_0 hK rfl) fun a hK => ?_
  refine sl hK (by decide) rfl rfl (r_move hK rfl) fun a hK => ?_
  refine wpList_nil ?_
  refine wp_block ?_
  refine wp_loop_k (fun k_l0 a w => ∃ (x_15 : Int), slices_IndexFunc_api_Col_api_Col_f_table_Find_1p.l0 a0 a1_0 k_l0 x_15 = some r ∧ Kn 19 a [(0, v0_0), (1, .func (.func 34) #[] #[.pointer (some ⟨b1q0, o1q0, none⟩)]), (7, .int .i64 (a0.length : Int)), (8, .int .i64 x_15)] ∧ St [] w0 w (fun _ => none) []) (((a0.length : Int) - 0).toNat + 1) ?_ ?_
  · exact ⟨0, H, hK.sub (all_cons rfl (all_cons rfl (all_cons rfl (all_cons rfl (all_nil))))), hS⟩
  · rintro k_l0 a w ⟨x_15, H, hK, hS⟩
    cases k_l0 with
    | zero => cases H
    | succ k_l0 =>
    rw [slices_IndexFunc_api_Col_api_Col_f_table_Find_1p.l0.eq_2] at H
    refine wp_seq ?_
    refine wp_region_lit ?_
    refine sl hK (by decide) rfl rfl (r_ibin hK rfl rfl rfl) fun a hK => ?_
    refine wpList_nil ?_
    refine wp_seq ?_
    refine wp_cond_split (hK.ev rfl) (fun (hb_30 : (decide (x_15 < (a0.length : Int))) = true) => ?_) (fun (hb_30 : (decide (x_15 < (a0.length : Int))) = false) => ?_)
    · rw [ifb_t hb_30] at H
      refine wp_skip ?_
      refine wp_seq ?_
      refine wp_block ?_
      refine wp_seq ?_
      refine wp_region_lit ?_
      refine sl hK (by decide) rfl rfl (r_move hK rfl) fun a hK => ?_
      refine sl hK (by decide) rfl rfl (r_assign hK rfl) fun a hK => ?_
      refine wpList_nil ?_
      refine wp_seq ?_
      refine wp_region_lit ?_
      refine sl hK (by decide) rfl rfl (r_move hK rfl) fun a hK => ?_
      refine sl hK (by decide) rfl rfl (r_move hK rfl) fun a hK => ?_
      refine sl hK (by decide) rfl rfl (r_move hK rfl) fun a hK => ?_
      obtain ⟨y_31, h_32, H⟩ := bind_some H
      obtain ⟨b_33, o_34, c_35, cs_36, hv_37, hr_38, hc_39, h_320, h_321⟩ := h0_0.ix h_32
      subst hr_38
      refine sl hK (by decide) rfl rfl (r_indexAddr_R Try.underlying22 Try.sizeOf43 hv_37 h_320 h_321 hK rfl rfl) fun a hK => ?_
      refine sl hK (by decide) rfl rfl (r_loadA (cs := [.string y_31.Name, .int .i64 y_31.Kind]) Try.isAgg43 Try.sizeOf43 rfl hK rfl (fun j v hv => (hS.ra hRA nil_not).cell (hc_39 j v hv))) fun a hK => ?_
      obtain ⟨y_40, h_41, H⟩ := bind_some H
      refine sl_callV Try.call34 hS hK (by decide) rfl rfl rfl (table_Find_1_cp.calls y_31 a1_0 (lentOf_sub [] _) (fun j u hu => Hp.cell_le (hS.raLe0 hRA nil_not) (hc1q0 j u hu)) h_41) fun a w hS hK => ?_
      refine wpList_nil ?_
      refine wp_cond_split (hK.ev rfl) (fun (hb_42 : y_40 = true) => ?_) (fun (hb_42 : y_40 = false) => ?_)
      · rw [ifb_t hb_42] at H
        refine wp_seq ?_
        refine wp_region_lit ?_
        refine sl hK (by decide) rfl rfl (r_move hK rfl) fun a hK => ?_
        refine sl hK (by decide) rfl rfl (r_assign hK rfl) fun a hK => ?_
        refine wpList_nil ?_
        obtain rfl := Option.some.inj H
        refine wp_ret ?_
        repeat (first | refine ret_then ?_ | refine ret_block ?_ | refine ret_scope ?_)
        exact ret_1 Try.results33 hK (rv_tmp hK rfl) ⟨rfl, hS.bel⟩
      · rw [ifb_f hb_42] at H
        refine wp_skip ?_
        refine wp_region_lit ?_
        refine sl hK (by decide) rfl rfl (r_ibin hK rfl rfl rfl) fun a hK => ?_
        refine sl hK (by decide) rfl rfl (r_move hK rfl) fun a hK => ?_
        refine wpList_nil ?_
        exact ⟨_, Nat.lt_succ_self _, (IntKind.i64.wrap (x_15 + 1)), H, hK.sub (all_cons rfl (all_cons rfl (all_cons rfl (all_cons rfl (all_nil))))), hS⟩
    · rw [ifb_f hb_30] at H
      refine wp_exit ?_
      refine wp_seq ?_
      refine wp_region_lit ?_
      refine sl hK (by decide) rfl rfl (r_assign hK rfl) fun a hK => ?_
      refine wpList_nil ?_
      obtain rfl := Option.some.inj H
      refine wp_ret ?_
      repeat (first | refine ret_then ?_ | refine ret_block ?_ | refine ret_scope ?_)
      exact ret_1 Try.results33 hK (rv_tmp hK rfl) ⟨rfl, hS.bel⟩

/-! ### catchment/table.Find: function 17 -/
set_option maxHeartbeats 4000000 in
set_option maxRecDepth 100000 in
theorem table_Find.calls (a0 : List api_Col) (a1 : ByteArray) {w0 : World} {RA : Hp} {v0_0 : Value} (hRA : RA.sub w0) (h0_0 : SlR ty_api_Col RA v0_0 a0) {r : Int} (H : table_Find a0 a1 = some r) : CallsV Try.prog 17 #[v0_0, .string a1] w0 (.int .i64 r) := by
  unfold table_Find at H
  refine enter (args := [v0_0, .string a1]) Try.func17 rfl Try.ntmps17 rfl fun a hK => ?_
  have hS := St.init (R := fun _ => none) (w := w0) (fun _ _ h => by cases h)
  have hRL := RLe.refl (M := []) w0 (fun _ => none)
  refine wp_seq ?_
  refine wp_region_lit ?_
  refine sl_box hS hK (by decide) rfl rfl (c := [.string a1]) rfl fun a w b_1 hS hK => ?_
  refine sl hK (by decide) rfl rfl (r_assign hK rfl) fun a hK => ?_
  refine wpList_nil ?_
  refine wp_seq ?_
  refine wp_region_lit ?_
  refine sl hK (by decide) rfl rfl (r_move hK rfl) fun a hK => ?_
  refine sl hK (by decide) rfl rfl (r_func (us := []) (vs := [.pointer (some ⟨b_1, 0, none⟩)]) rfl (hK.evs rfl)) fun a hK => ?_
  obtain ⟨y_2, h_3, H⟩ := bind_some H
  refine sl_callV Try.call33 hS hK (by decide) rfl rfl rfl (slices_IndexFunc_api_Col_api_Col_f_table_Find_1p.calls a0 a1 (lentOf_sub [] _) (h0_0.mono (hS.raLe0 hRA nil_not)) (hS.lend_box0 (.head _)) h_3) fun a w hS hK => ?_
  refine sl hK (by decide) rfl rfl (r_assign hK rfl) fun a hK => ?_
  refine wpList_nil ?_
  obtain rfl := Option.some.inj H
  refine wp_ret ?_
  repeat (first | refine ret_then ?_ | refine ret_block ?_ | refine ret_scope ?_)
  exact ret_1 Try.results17 hK (rv_tmp hK rfl) ⟨rfl, hS.bel⟩

/-! ### catchment/table.columns: function 29 -/
set_option maxHeartbeats 4000000 in
set_option maxRecDepth 100000 in
theorem table_columns.calls (a0 : List api_Col) {w0 : World} {RA : Hp} {v0_0 : Value} (hRA : RA.sub w0) (h0_0 : SlR ty_api_Col RA v0_0 a0) {r : Bool} (H : table_columns a0 = some r) : CallsV Try.prog 29 #[v0_0] w0 (.bool r) := by
  unfold table_columns at H
  refine enter (args := [v0_0]) Try.func29 rfl Try.ntmps29 rfl fun a hK => ?_
  have hS := St.init (R := fun _ => none) (w := w0) (fun _ _ h => by cases h)
  have hRL := RLe.refl (M := []) w0 (fun _ => none)
  refine wp_seq ?_
  refine wp_region_lit ?_
  refine sl hK (by decide) rfl rfl (r_assign hK rfl) fun a hK => ?_
  refine wpList_nil ?_
  refine wp_seq ?_
  refine wp_seq ?_
  refine wp_region_lit ?_
  refine sl hK (by decide) rfl rfl (r_move hK rfl) fun a hK => ?_
  refine sl hK (by decide) rfl rfl (r_len_R Try.underlying22 h0_0 hK rfl) fun a hK => ?_
  refine sl hK (by decide) rfl rfl (r_move hK rfl) fun a hK => ?_
  refine wpList_nil ?_
  refine wp_block ?_
  refine wp_loop_k (fun k_l0 a w => ∃ (x_30 : Int), table_columns.l0 a0 k_l0 x_30 = some r ∧ Kn 43 a [(0, v0_0), (5, v0_0), (6, .int .i64 (a0.length : Int)), (7, .int .i64 x_30)] ∧ St [] w0 w (fun _ => none) []) (((a0.length : Int) - 0).toNat + 1) ?_ ?_
  · exact ⟨0, H, hK.sub (all_cons rfl (all_cons rfl (all_cons rfl (all_cons rfl (all_nil))))), hS⟩
  · rintro k_l0 a w ⟨x_30, H, hK, hS⟩
    cases k_l0 with
    | zero => cases H
    | succ k_l0 =>
    rw [table_columns.l0.eq_2] at H
    refine wp_seq ?_
    refine wp_region_lit ?_
    refine sl hK (by decide) rfl rfl (r_ibin hK rfl rfl rfl) fun a hK => ?_
    refine wpList_nil ?_
    refine wp_seq ?_
    refine wp_cond_split (hK.ev rfl) (fun (hb_60 : (decide (x_30 < (a0.length : Int))) = true) => ?_) (fun (hb_60 : (decide (x_30 < (a0.length : Int))) = false) => ?_)
    · rw [ifb_t hb_60] at H
      refine wp_skip ?_
      refine wp_seq ?_
      refine wp_block ?_
      refine wp_seq ?_
      refine wp_region_lit ?_
      refine sl hK (by decide) rfl rfl (r_move hK rfl) fun a hK => ?_
      obtain ⟨y_61, h_62, H⟩ := bind_some H
      obtain ⟨b_63, o_64, c_65, cs_66, hv_67, hr_68, hc_69, h_620, h_621⟩ := h0_0.ix h_62
      subst hr_68
      refine sl hK (by decide) rfl rfl (r_indexAddr_R Try.underlying22 Try.sizeOf43 hv_67 h_620 h_621 hK rfl rfl) fun a hK => ?_
      refine sl hK (by decide) rfl rfl (r_loadA (cs := [.string y_61.Name, .int .i64 y_61.Kind]) Try.isAgg43 Try.sizeOf43 rfl hK rfl (fun j v hv => (hS.ra hRA nil_not).cell (hc_69 j v hv))) fun a hK => ?_
      refine sl_alloc Try.zeroValue43 hS hK (by decide) rfl rfl fun a w b_70 hS hK => ?_
      refine sl hK (by decide) rfl rfl (r_assign hK rfl) fun a hK => ?_
      refine sl_storeA (vs := [.string y_61.Name, .int .i64 y_61.Kind]) (c' := [.string y_61.Name, .int .i64 y_61.Kind]) Try.sizeOf43 hS hK rfl rfl rfl rfl (all_cons rfl (all_cons rfl (all_nil))) (Nat.le_of_ble_eq_true rfl) rfl fun a w hS hK => ?_
      refine wpList_nil ?_
      refine wp_seq ?_
      refine wp_mid (fun a w => ∃ (x_78 : Bool), table_columns.j1 (table_columns.l0 a0 k_l0) a0 x_30 x_78 = some r ∧ Kn 43 a [(0, v0_0), (5, v0_0), (6, .int .i64 (a0.length : Int)), (7, .int .i64 x_30), (33, .bool x_78)] ∧ St [] w0 w (fun _ => none) []) ?_ ?_
      · refine wp_region_lit ?_
        refine sl hK (by decide) rfl rfl (r_fieldAddr Try.underlying43 rfl Try.sizeOf9 hK rfl) fun a hK => ?_
        refine sl hK (by decide) rfl rfl (r_load Try.isAgg9 hK rfl (hS.cell (.head _) rfl)) fun a hK => ?_
        obtain ⟨y_80, h_81, H⟩ := bind_some H
        refine sl_callV Try.call15 hS hK (by decide) rfl rfl rfl (table_Name.calls y_61.Name h_81 _) fun a w hS hK => ?_
        refine sl hK (by decide) rfl rfl (r_un hK rfl (u_not _)) fun a hK => ?_
        refine sl hK (by decide) rfl rfl (r_move hK rfl) fun a hK => ?_
        rcases or_b (!y_80) with hb_82 | hb_82
        · rw [ifb_t hb_82] at H
          refine sl_skip hK (by decide) (wft hb_82) rfl fun a hK => ?_
          refine sl_skip hK (by decide) (wft hb_82) rfl fun a hK => ?_
          refine sl_skip hK (by decide) (wft hb_82) rfl fun a hK => ?_
          refine sl hK (by decide) rfl rfl (r_pick_t hb_82 hK rfl rfl) fun a hK => ?_
          refine sl hK (by decide) rfl rfl (r_move hK rfl) fun a hK => ?_
          refine sl_skip hK (by decide) rfl rfl fun a hK => ?_
          refine sl_skip hK (by decide) rfl rfl fun a hK => ?_
          refine sl_skip hK (by decide) rfl rfl fun a hK => ?_
          refine sl hK (by decide) rfl rfl (r_pick hK rfl rfl rfl) fun a hK => ?_
          refine sl hK (by decide) rfl rfl (r_move hK rfl) fun a hK => ?_
          refine sl_skip hK (by decide) rfl rfl fun a hK => ?_
          refine sl_skip hK (by decide) rfl rfl fun a hK => ?_
          refine sl_skip hK (by decide) rfl rfl fun a hK => ?_
          refine sl_skip hK (by decide) rfl rfl fun a hK => ?_
          refine sl_skip hK (by decide) rfl rfl fun a hK => ?_
          refine sl_skip hK (by decide) rfl rfl fun a hK => ?_
          refine sl hK (by decide) rfl rfl (r_pick hK rfl rfl rfl) fun a hK => ?_
          refine wpList_nil ?_
          exact ⟨true, H, hK.sub (all_cons rfl (all_cons rfl (all_cons rfl (all_cons rfl (all_cons rfl (all_nil)))))), hS.trunc 0⟩
        · rw [ifb_f hb_82] at H
          refine sl hK (by decide) (wff hb_82) rfl (r_fieldAddr Try.underlying43 rfl Try.sizeOf3 hK rfl) fun a hK => ?_
          refine sl hK (by decide) (wff hb_82) rfl (r_load Try.isAgg3 hK rfl (hS.cell (.head _) rfl)) fun a hK => ?_
          refine sl hK (by decide) (wff hb_82) rfl (r_ibin hK rfl rfl rfl) fun a hK => ?_
          refine sl hK (by decide) rfl rfl (r_pick_f hb_82 hK rfl rfl) fun a hK => ?_
          refine sl hK (by decide) rfl rfl (r_move hK rfl) fun a hK => ?_
          rcases or_b (decide (y_61.Kind < 1)) with hb_83 | hb_83
          · rw [ifb_t hb_83] at H
            refine sl_skip hK (by decide) (wft hb_83) rfl fun a hK => ?_
            refine sl_skip hK (by decide) (wft hb_83) rfl fun a hK => ?_
            refine sl_skip hK (by decide) (wft hb_83) rfl fun a hK => ?_
            refine sl hK (by decide) rfl rfl (r_pick_t hb_83 hK rfl rfl) fun a hK => ?_
            refine sl hK (by decide) rfl rfl (r_move hK rfl) fun a hK => ?_
            refine sl_skip hK (by decide) rfl rfl fun a hK => ?_
            refine sl_skip hK (by decide) rfl rfl fun a hK => ?_
            refine sl_skip hK (by decide) rfl rfl fun a hK => ?_
            refine sl_skip hK (by decide) rfl rfl fun a hK => ?_
            refine sl_skip hK (by decide) rfl rfl fun a hK => ?_
            refine sl_skip hK (by decide) rfl rfl fun a hK => ?_
            refine sl hK (by decide) rfl rfl (r_pick hK rfl rfl rfl) fun a hK => ?_
            refine wpList_nil ?_
            exact ⟨true, H, hK.sub (all_cons rfl (all_cons rfl (all_cons rfl (all_cons rfl (all_cons rfl (all_nil)))))), hS.trunc 0⟩
          · rw [ifb_f hb_83] at H
            refine sl hK (by decide) (wff hb_83) rfl (r_fieldAddr Try.underlying43 rfl Try.sizeOf3 hK rfl) fun a hK => ?_
            refine sl hK (by decide) (wff hb_83) rfl (r_load Try.isAgg3 hK rfl (hS.cell (.head _) rfl)) fun a hK => ?_
            refine sl hK (by decide) (wff hb_83) rfl (r_ibin hK rfl rfl rfl) fun a hK => ?_
            refine sl hK (by decide) rfl rfl (r_pick_f hb_83 hK rfl rfl) fun a hK => ?_
            refine sl hK (by decide) rfl rfl (r_move hK rfl) fun a hK => ?_
            rcases or_b (decide (y_61.Kind > 4)) with hb_84 | hb_84
            · rw [ifb_t hb_84] at H
              refine sl_skip hK (by decide) (wft hb_84) rfl fun a hK => ?_
              refine sl_skip hK (by decide) (wft hb_84) rfl fun a hK => ?_
              refine sl_skip hK (by decide) (wft hb_84) rfl fun a hK => ?_
              refine sl_skip hK (by decide) (wft hb_84) rfl fun a hK => ?_
              refine sl_skip hK (by decide) (wft hb_84) rfl fun a hK => ?_
              refine sl_skip hK (by decide) (wft hb_84) rfl fun a hK => ?_
              refine sl hK (by decide) rfl rfl (r_pick_t hb_84 hK rfl rfl) fun a hK => ?_
              refine wpList_nil ?_
              exact ⟨true, H, hK.sub (all_cons rfl (all_cons rfl (all_cons rfl (all_cons rfl (all_cons rfl (all_nil)))))), hS.trunc 0⟩
            · rw [ifb_f hb_84] at H
              refine sl hK (by decide) (wff hb_84) rfl (r_move hK rfl) fun a hK => ?_
              refine sl hK (by decide) (wff hb_84) rfl (r_fieldAddr Try.underlying43 rfl Try.sizeOf9 hK rfl) fun a hK => ?_
              refine sl hK (by decide) (wff hb_84) rfl (r_load Try.isAgg9 hK rfl (hS.cell (.head _) rfl)) fun a hK => ?_
              obtain ⟨y_85, h_86, H⟩ := bind_some H
              refine sl_callV Try.call17 hS hK (by decide) (wff hb_84) rfl rfl (table_Find.calls a0 y_61.Name (lentOf_sub [] _) (h0_0.mono (hS.raLe0 hRA nil_not)) h_86) fun a w hS hK => ?_
              refine sl hK (by decide) (wff hb_84) rfl (r_move hK rfl) fun a hK => ?_
              refine sl hK (by decide) (wff hb_84) rfl (r_ibin hK rfl rfl rfl) fun a hK => ?_
              refine sl hK (by decide) rfl rfl (r_pick_f hb_84 hK rfl rfl) fun a hK => ?_
              refine wpList_nil ?_
              exact ⟨(y_85 != x_30), H, hK.sub (all_cons rfl (all_cons rfl (all_cons rfl (all_cons rfl (all_cons rfl (all_nil)))))), hS.trunc 0⟩
      · rintro a w ⟨x_78, H, hK, hS⟩
        unfold table_columns.j1 at H
        refine wp_cond_split (hK.ev rfl) (fun (hb_87 : x_78 = true) => ?_) (fun (hb_87 : x_78 = false) => ?_)
        · rw [ifb_t hb_87] at H
          refine wp_seq ?_
          refine wp_region_lit ?_
          refine sl hK (by decide) rfl rfl (r_assign hK rfl) fun a hK => ?_
          refine wpList_nil ?_
          obtain rfl := Option.some.inj H
          refine wp_ret ?_
          repeat (first | refine ret_then ?_ | refine ret_block ?_ | refine ret_scope ?_)
          exact ret_1 Try.results29 hK (rv_tmp hK rfl) ⟨rfl, hS.bel⟩
        · rw [ifb_f hb_87] at H
          refine wp_skip ?_
          refine wp_region_lit ?_
          refine sl hK (by decide) rfl rfl (r_ibin hK rfl rfl rfl) fun a hK => ?_
          refine sl hK (by decide) rfl rfl (r_move hK rfl) fun a hK => ?_
          refine wpList_nil ?_
          exact ⟨_, Nat.lt_succ_self _, (IntKind.i64.wrap (x_30 + 1)), H, hK.sub (all_cons rfl (all_cons rfl (all_cons rfl (all_cons rfl (all_nil))))), hS⟩
    · rw [ifb_f hb_60] at H
      refine wp_exit ?_
      refine wp_seq ?_
      refine wp_region_lit ?_
      refine sl hK (by decide) rfl rfl (r_move hK rfl) fun a hK => ?_
      refine sl hK (by decide) rfl rfl (r_len_R Try.underlying22 h0_0 hK rfl) fun a hK => ?_
      refine sl hK (by decide) rfl rfl (r_ibin hK rfl rfl rfl) fun a hK => ?_
      refine sl hK (by decide) rfl rfl (r_move hK rfl) fun a hK => ?_
      rcases or_b (decide ((a0.length : Int) ≥ 1)) with hb_88 | hb_88
      · rw [ifb_t hb_88] at H
        refine sl hK (by decide) (wtt hb_88) rfl (r_move hK rfl) fun a hK => ?_
        refine sl hK (by decide) (wtt hb_88) rfl (r_len_R Try.underlying22 h0_0 hK rfl) fun a hK => ?_
        refine sl hK (by decide) (wtt hb_88) rfl (r_ibin hK rfl rfl rfl) fun a hK => ?_
        refine sl hK (by decide) rfl rfl (r_pick_t hb_88 hK rfl rfl) fun a hK => ?_
        refine sl hK (by decide) rfl rfl (r_assign hK rfl) fun a hK => ?_
        refine wpList_nil ?_
        obtain rfl := Option.some.inj H
        refine wp_ret ?_
        repeat (first | refine ret_then ?_ | refine ret_block ?_ | refine ret_scope ?_)
        exact ret_1 Try.results29 hK (rv_tmp hK rfl) ⟨rfl, hS.bel⟩
      · rw [ifb_f hb_88] at H
        refine sl_skip hK (by decide) (wtf hb_88) rfl fun a hK => ?_
        refine sl_skip hK (by decide) (wtf hb_88) rfl fun a hK => ?_
        refine sl_skip hK (by decide) (wtf hb_88) rfl fun a hK => ?_
        refine sl hK (by decide) rfl rfl (r_pick_f hb_88 hK rfl rfl) fun a hK => ?_
        refine sl hK (by decide) rfl rfl (r_assign hK rfl) fun a hK => ?_
        refine wpList_nil ?_
        obtain rfl := Option.some.inj H
        refine wp_ret ?_
        repeat (first | refine ret_then ?_ | refine ret_block ?_ | refine ret_scope ?_)
        exact ret_1 Try.results29 hK (rv_tmp hK rfl) ⟨rfl, hS.bel⟩

/-! ### catchment/value.Valid: function 30 -/
set_option maxHeartbeats 4000000 in
set_option maxRecDepth 100000 in
theorem value_Valid.calls (a0 : api_Value) {r : Bool} (H : value_Valid a0 = some r) (w0 : World) : CallsV Try.prog 30 #[.agg #[.int .i64 a0.Kind, .int .i64 a0.N, .string a0.S, .int .i64 a0.H.a0, .int .i64 a0.H.a1, .int .i64 a0.H.a2, .int .i64 a0.H.a3, .int .i64 a0.H.a4, .int .i64 a0.H.a5, .int .i64 a0.H.a6, .int .i64 a0.H.a7]] w0 (.bool r) := by
  unfold value_Valid at H
  refine enter (args := [.agg #[.int .i64 a0.Kind, .int .i64 a0.N, .string a0.S, .int .i64 a0.H.a0, .int .i64 a0.H.a1, .int .i64 a0.H.a2, .int .i64 a0.H.a3, .int .i64 a0.H.a4, .int .i64 a0.H.a5, .int .i64 a0.H.a6, .int .i64 a0.H.a7]]) Try.func30 rfl Try.ntmps30 rfl fun a hK => ?_
  have hS := St.init (R := fun _ => none) (w := w0) (fun _ _ h => by cases h)
  have hRL := RLe.refl (M := []) w0 (fun _ => none)
  refine wp_seq ?_
  refine wp_region_lit ?_
  refine sl_box hS hK (by decide) rfl rfl (c := [.int .i64 a0.Kind, .int .i64 a0.N, .string a0.S, .int .i64 a0.H.a0, .int .i64 a0.H.a1, .int .i64 a0.H.a2, .int .i64 a0.H.a3, .int .i64 a0.H.a4, .int .i64 a0.H.a5, .int .i64 a0.H.a6, .int .i64 a0.H.a7]) rfl fun a w b_1 hS hK => ?_
  refine sl hK (by decide) rfl rfl (r_assign hK rfl) fun a hK => ?_
  refine wpList_nil ?_
  refine wp_seq ?_
  refine wp_region_lit ?_
  refine sl hK (by decide) rfl rfl (r_loadA (cs := [.int .i64 a0.Kind, .int .i64 a0.N, .string a0.S, .int .i64 a0.H.a0, .int .i64 a0.H.a1, .int .i64 a0.H.a2, .int .i64 a0.H.a3, .int .i64 a0.H.a4, .int .i64 a0.H.a5, .int .i64 a0.H.a6, .int .i64 a0.H.a7]) Try.isAgg50 Try.sizeOf50 rfl hK rfl (hS.cells_of (m := 11) (.head _) rfl)) fun a hK => ?_
  refine sl_alloc Try.zeroValue50 hS hK (by decide) rfl rfl fun a w b_2 hS hK => ?_
  refine sl_storeA (vs := [.int .i64 a0.Kind, .int .i64 a0.N, .string a0.S, .int .i64 a0.H.a0, .int .i64 a0.H.a1, .int .i64 a0.H.a2, .int .i64 a0.H.a3, .int .i64 a0.H.a4, .int .i64 a0.H.a5, .int .i64 a0.H.a6, .int .i64 a0.H.a7]) (c' := [.int .i64 a0.Kind, .int .i64 a0.N, .string a0.S, .int .i64 a0.H.a0, .int .i64 a0.H.a1, .int .i64 a0.H.a2, .int .i64 a0.H.a3, .int .i64 a0.H.a4, .int .i64 a0.H.a5, .int .i64 a0.H.a6, .int .i64 a0.H.a7]) Try.sizeOf50 hS hK rfl rfl rfl rfl (all_cons rfl (all_cons rfl (all_cons rfl (all_cons rfl (all_cons rfl (all_cons rfl (all_cons rfl (all_cons rfl (all_cons rfl (all_cons rfl (all_cons rfl (all_nil)))))))))))) (Nat.le_of_ble_eq_true rfl) rfl fun a w hS hK => ?_
  refine wpList_nil ?_
  refine wp_seq ?_
  refine wp_region_lit ?_
  refine sl hK (by decide) rfl rfl (r_fieldAddr Try.underlying50 rfl Try.sizeOf3 hK rfl) fun a hK => ?_
  refine sl_store1 (c' := [.int .i64 0, .int .i64 a0.N, .string a0.S, .int .i64 a0.H.a0, .int .i64 a0.H.a1, .int .i64 a0.H.a2, .int .i64 a0.H.a3, .int .i64 a0.H.a4, .int .i64 a0.H.a5, .int .i64 a0.H.a6, .int .i64 a0.H.a7]) Try.sizeOf3 hS hK rfl rfl rfl rfl (Nat.le_of_ble_eq_true rfl) rfl fun a w hS hK => ?_
  refine wpList_nil ?_
  refine wp_seq ?_
  refine wp_region_lit ?_
  refine sl hK (by decide) rfl rfl (r_assign hK rfl) fun a hK => ?_
  refine wpList_nil ?_
  refine wp_seq ?_
  refine wp_seq ?_
  refine wp_region_lit ?_
  refine sl hK (by decide) rfl rfl (r_fieldAddr Try.underlying50 rfl Try.sizeOf3 hK rfl) fun a hK => ?_
  refine sl hK (by decide) rfl rfl (r_load Try.isAgg3 hK rfl (hS.cell (.tail _ (.head _)) rfl)) fun a hK => ?_
  refine wpList_nil ?_
  refine wp_block ?_
  refine wp_seq ?_
  refine wp_region_lit ?_
  refine sl hK (by decide) rfl rfl (r_ibin hK rfl rfl rfl) fun a hK => ?_
  refine sl hK (by decide) rfl rfl (r_assign hK rfl) fun a hK => ?_
  refine wpList_nil ?_
  refine wp_mid (fun a w => ∃ (x_59 : Int) (x_60 : ByteArray) (x_61 : Arr8) (x_62 : Bool), value_Valid.j0 x_59 x_60 x_61 x_62 = some r ∧ Kn 40 a [(3, .pointer (some ⟨b_2, 0, none⟩)), (4, .bool x_62)] ∧ St [] w0 w (fun _ => none) [.cells b_2 [.int .i64 0, .int .i64 x_59, .string x_60, .int .i64 x_61.a0, .int .i64 x_61.a1, .int .i64 x_61.a2, .int .i64 x_61.a3, .int .i64 x_61.a4, .int .i64 x_61.a5, .int .i64 x_61.a6, .int .i64 x_61.a7] 50]) ?_ ?_
  · refine wp_cond_split (hK.ev rfl) (fun (hb_64 : (a0.Kind == 1) = true) => ?_) (fun (hb_64 : (a0.Kind == 1) = false) => ?_)
    · rw [ifb_t hb_64] at H
      refine wp_region_lit ?_
      refine sl hK (by decide) rfl rfl (r_fieldAddr Try.underlying50 rfl Try.sizeOf3 hK rfl) fun a hK => ?_
      refine sl_store1 (c' := [.int .i64 0, .int .i64 0, .string a0.S, .int .i64 a0.H.a0, .int .i64 a0.H.a1, .int .i64 a0.H.a2, .int .i64 a0.H.a3, .int .i64 a0.H.a4, .int .i64 a0.H.a5, .int .i64 a0.H.a6, .int .i64 a0.H.a7]) Try.sizeOf3 hS hK rfl rfl rfl rfl (Nat.le_of_ble_eq_true rfl) rfl fun a w hS hK => ?_
      refine wpList_nil ?_
      exact ⟨0, a0.S, a0.H, true, H, hK.sub (all_cons rfl (all_cons rfl (all_nil))), hS.trunc 1⟩
    · rw [ifb_f hb_64] at H
      refine wp_seq ?_
      refine wp_region_lit ?_
      refine sl hK (by decide) rfl rfl (r_ibin hK rfl rfl rfl) fun a hK => ?_
      refine sl hK (by decide) rfl rfl (r_assign hK rfl) fun a hK => ?_
      refine wpList_nil ?_
      refine wp_mid (fun a w => ∃ (x_90 : Int) (x_91 : ByteArray) (x_92 : Arr8) (x_93 : Bool), value_Valid.j1 x_90 x_91 x_92 x_93 = some r ∧ Kn 40 a [(3, .pointer (some ⟨b_2, 0, none⟩)), (4, .bool x_93)] ∧ St [] w0 w (fun _ => none) [.cells b_2 [.int .i64 0, .int .i64 x_90, .string x_91, .int .i64 x_92.a0, .int .i64 x_92.a1, .int .i64 x_92.a2, .int .i64 x_92.a3, .int .i64 x_92.a4, .int .i64 x_92.a5, .int .i64 x_92.a6, .int .i64 x_92.a7] 50]) ?_ ?_
      · refine wp_cond_split (hK.ev rfl) (fun (hb_95 : (a0.Kind == 2) = true) => ?_) (fun (hb_95 : (a0.Kind == 2) = false) => ?_)
        · rw [ifb_t hb_95] at H
          refine wp_seq ?_
          refine wp_region_lit ?_
          refine sl hK (by decide) rfl rfl (r_fieldAddr Try.underlying50 rfl Try.sizeOf9 hK rfl) fun a hK => ?_
          refine sl_store1 (c' := [.int .i64 0, .int .i64 a0.N, .string (⟨#[]⟩ : ByteArray), .int .i64 a0.H.a0, .int .i64 a0.H.a1, .int .i64 a0.H.a2, .int .i64 a0.H.a3, .int .i64 a0.H.a4, .int .i64 a0.H.a5, .int .i64 a0.H.a6, .int .i64 a0.H.a7]) Try.sizeOf9 hS hK rfl rfl rfl rfl (Nat.le_of_ble_eq_true rfl) rfl fun a w hS hK => ?_
          refine wpList_nil ?_
          refine wp_region_lit ?_
          refine sl hK (by decide) rfl rfl (r_fieldAddr Try.underlying50 rfl Try.sizeOf9 hK rfl) fun a hK => ?_
          refine sl hK (by decide) rfl rfl (r_load Try.isAgg9 hK rfl (hS.cell (.tail _ (.head _)) rfl)) fun a hK => ?_
          refine sl hK (by decide) rfl rfl (r_len_str Try.underlying9 hK rfl) fun a hK => ?_
          refine sl hK (by decide) rfl rfl (r_ibin hK rfl rfl rfl) fun a hK => ?_
          refine sl hK (by decide) rfl rfl (r_assign hK rfl) fun a hK => ?_
          refine wpList_nil ?_
          exact ⟨a0.N, (⟨#[]⟩ : ByteArray), a0.H, (decide ((a0.S.size : Int) ≤ 64)), H, hK.sub (all_cons rfl (all_cons rfl (all_nil))), hS.trunc 1⟩
        · rw [ifb_f hb_95] at H
          refine wp_seq ?_
          refine wp_region_lit ?_
          refine sl hK (by decide) rfl rfl (r_ibin hK rfl rfl rfl) fun a hK => ?_
          refine sl hK (by decide) rfl rfl (r_assign hK rfl) fun a hK => ?_
          refine wpList_nil ?_
          refine wp_mid (fun a w => ∃ (x_106 : Int) (x_107 : Arr8) (x_108 : Bool), value_Valid.j2 a0 x_106 x_107 x_108 = some r ∧ Kn 40 a [(3, .pointer (some ⟨b_2, 0, none⟩)), (4, .bool x_108)] ∧ St [] w0 w (fun _ => none) [.cells b_2 [.int .i64 0, .int .i64 x_106, .string a0.S, .int .i64 x_107.a0, .int .i64 x_107.a1, .int .i64 x_107.a2, .int .i64 x_107.a3, .int .i64 x_107.a4, .int .i64 x_107.a5, .int .i64 x_107.a6, .int .i64 x_107.a7] 50]) ?_ ?_
          · refine wp_cond_split (hK.ev rfl) (fun (hb_110 : (a0.Kind == 3) = true) => ?_) (fun (hb_110 : (a0.Kind == 3) = false) => ?_)
            · rw [ifb_t hb_110] at H
              refine wp_seq ?_
              refine wp_region_lit ?_
              refine sl hK (by decide) rfl rfl (r_fieldAddr Try.underlying50 rfl Try.sizeOf3 hK rfl) fun a hK => ?_
              refine sl_store1 (c' := [.int .i64 0, .int .i64 0, .string a0.S, .int .i64 a0.H.a0, .int .i64 a0.H.a1, .int .i64 a0.H.a2, .int .i64 a0.H.a3, .int .i64 a0.H.a4, .int .i64 a0.H.a5, .int .i64 a0.H.a6, .int .i64 a0.H.a7]) Try.sizeOf3 hS hK rfl rfl rfl rfl (Nat.le_of_ble_eq_true rfl) rfl fun a w hS hK => ?_
              refine wpList_nil ?_
              refine wp_mid (fun a w => ∃ (x_112 : Bool), value_Valid.j3 a0 x_112 = some r ∧ Kn 40 a [(3, .pointer (some ⟨b_2, 0, none⟩)), (4, .bool x_112)] ∧ St [] w0 w (fun _ => none) [.cells b_2 [.int .i64 0, .int .i64 0, .string a0.S, .int .i64 a0.H.a0, .int .i64 a0.H.a1, .int .i64 a0.H.a2, .int .i64 a0.H.a3, .int .i64 a0.H.a4, .int .i64 a0.H.a5, .int .i64 a0.H.a6, .int .i64 a0.H.a7] 50]) ?_ ?_
              · refine wp_region_lit ?_
                refine sl hK (by decide) rfl rfl (r_fieldAddr Try.underlying50 rfl Try.sizeOf3 hK rfl) fun a hK => ?_
                refine sl hK (by decide) rfl rfl (r_load Try.isAgg3 hK rfl (hS.cell (.tail _ (.head _)) rfl)) fun a hK => ?_
                refine sl hK (by decide) rfl rfl (r_ibin hK rfl rfl rfl) fun a hK => ?_
                refine sl hK (by decide) rfl rfl (r_move hK rfl) fun a hK => ?_
                rcases or_b (a0.N == 0) with hb_114 | hb_114
                · rw [ifb_t hb_114] at H
                  refine sl_skip hK (by decide) (wft hb_114) rfl fun a hK => ?_
                  refine sl_skip hK (by decide) (wft hb_114) rfl fun a hK => ?_
                  refine sl_skip hK (by decide) (wft hb_114) rfl fun a hK => ?_
                  refine sl hK (by decide) rfl rfl (r_pick_t hb_114 hK rfl rfl) fun a hK => ?_
                  refine sl hK (by decide) rfl rfl (r_assign hK rfl) fun a hK => ?_
                  refine wpList_nil ?_
                  exact ⟨true, H, hK.sub (all_cons rfl (all_cons rfl (all_nil))), hS.trunc 1⟩
                · rw [ifb_f hb_114] at H
                  refine sl hK (by decide) (wff hb_114) rfl (r_fieldAddr Try.underlying50 rfl Try.sizeOf3 hK rfl) fun a hK => ?_
                  refine sl hK (by decide) (wff hb_114) rfl (r_load Try.isAgg3 hK rfl (hS.cell (.tail _ (.head _)) rfl)) fun a hK => ?_
                  refine sl hK (by decide) (wff hb_114) rfl (r_ibin hK rfl rfl rfl) fun a hK => ?_
                  refine sl hK (by decide) rfl rfl (r_pick_f hb_114 hK rfl rfl) fun a hK => ?_
                  refine sl hK (by decide) rfl rfl (r_assign hK rfl) fun a hK => ?_
                  refine wpList_nil ?_
                  exact ⟨(a0.N == 1), H, hK.sub (all_cons rfl (all_cons rfl (all_nil))), hS.trunc 1⟩
              · rintro a w ⟨x_112, H, hK, hS⟩
                unfold value_Valid.j3 at H
                exact ⟨0, a0.H, x_112, H, hK.sub (all_cons rfl (all_cons rfl (all_nil))), hS⟩
            · rw [ifb_f hb_110] at H
              refine wp_seq ?_
              refine wp_region_lit ?_
              refine sl hK (by decide) rfl rfl (r_ibin hK rfl rfl rfl) fun a hK => ?_
              refine sl hK (by decide) rfl rfl (r_assign hK rfl) fun a hK => ?_
              refine wpList_nil ?_
              refine wp_mid (fun a w => ∃ (x_116 : Arr8) (x_117 : Bool), value_Valid.j4 a0 x_116 x_117 = some r ∧ Kn 40 a [(3, .pointer (some ⟨b_2, 0, none⟩)), (4, .bool x_117)] ∧ St [] w0 w (fun _ => none) [.cells b_2 [.int .i64 0, .int .i64 a0.N, .string a0.S, .int .i64 x_116.a0, .int .i64 x_116.a1, .int .i64 x_116.a2, .int .i64 x_116.a3, .int .i64 x_116.a4, .int .i64 x_116.a5, .int .i64 x_116.a6, .int .i64 x_116.a7] 50]) ?_ ?_
              · refine wp_cond_split (hK.ev rfl) (fun (hb_119 : (a0.Kind == 4) = true) => ?_) (fun (hb_119 : (a0.Kind == 4) = false) => ?_)
                · rw [ifb_t hb_119] at H
                  refine wp_region_lit ?_
                  refine sl hK (by decide) rfl rfl (r_buildAC (ps := []) (c := [.int .i64 0, .int .i64 0, .int .i64 0, .int .i64 0, .int .i64 0, .int .i64 0, .int .i64 0, .int .i64 0]) Try.underlying48 Try.zeroValue48 Try.sizeOf3 hK rfl pc_nil rfl rfl) fun a hK => ?_
                  refine sl hK (by decide) rfl rfl (r_fieldAddr Try.underlying50 rfl Try.sizeOf48 hK rfl) fun a hK => ?_
                  refine sl_storeA (vs := [.int .i64 0, .int .i64 0, .int .i64 0, .int .i64 0, .int .i64 0, .int .i64 0, .int .i64 0, .int .i64 0]) (c' := [.int .i64 0, .int .i64 a0.N, .string a0.S, .int .i64 0, .int .i64 0, .int .i64 0, .int .i64 0, .int .i64 0, .int .i64 0, .int .i64 0, .int .i64 0]) Try.sizeOf48 hS hK rfl rfl rfl rfl (all_cons rfl (all_cons rfl (all_cons rfl (all_cons rfl (all_cons rfl (all_cons rfl (all_cons rfl (all_cons rfl (all_nil))))))))) (Nat.le_of_ble_eq_true rfl) rfl fun a w hS hK => ?_
                  refine wpList_nil ?_
                  exact ⟨(⟨0, 0, 0, 0, 0, 0, 0, 0⟩ : Arr8), true, H, hK.sub (all_cons rfl (all_cons rfl (all_nil))), hS.trunc 1⟩
                · rw [ifb_f hb_119] at H
                  refine wp_region_lit ?_
                  refine sl hK (by decide) rfl rfl (r_assign hK rfl) fun a hK => ?_
                  refine wpList_nil ?_
                  exact ⟨a0.H, false, H, hK.sub (all_cons rfl (all_cons rfl (all_nil))), hS.trunc 1⟩
              · rintro a w ⟨x_116, x_117, H, hK, hS⟩
                unfold value_Valid.j4 at H
                exact ⟨a0.N, x_116, x_117, H, hK.sub (all_cons rfl (all_cons rfl (all_nil))), hS⟩
          · rintro a w ⟨x_106, x_107, x_108, H, hK, hS⟩
            unfold value_Valid.j2 at H
            exact ⟨x_106, a0.S, x_107, x_108, H, hK.sub (all_cons rfl (all_cons rfl (all_nil))), hS⟩
      · rintro a w ⟨x_90, x_91, x_92, x_93, H, hK, hS⟩
        unfold value_Valid.j1 at H
        exact ⟨x_90, x_91, x_92, x_93, H, hK.sub (all_cons rfl (all_cons rfl (all_nil))), hS⟩
  · rintro a w ⟨x_59, x_60, x_61, x_62, H, hK, hS⟩
    unfold value_Valid.j0 at H
    refine wp_seq ?_
    refine wp_region_lit ?_
    refine sl hK (by decide) rfl rfl (r_move hK rfl) fun a hK => ?_
    refine sl hK (by decide) rfl rfl (r_move hK rfl) fun a hK => ?_
    rcases or_b x_62 with hb_120 | hb_120
    · rw [ifb_t hb_120] at H
      refine sl hK (by decide) (wtt hb_120) rfl (r_loadA (cs := [.int .i64 0, .int .i64 x_59, .string x_60, .int .i64 x_61.a0, .int .i64 x_61.a1, .int .i64 x_61.a2, .int .i64 x_61.a3, .int .i64 x_61.a4, .int .i64 x_61.a5, .int .i64 x_61.a6, .int .i64 x_61.a7]) Try.isAgg50 Try.sizeOf50 rfl hK rfl (hS.cells_of (m := 11) (.head _) rfl)) fun a hK => ?_
      refine sl hK (by decide) (wtt hb_120) rfl (r_buildC (ps := []) (c := [.int .i64 0, .int .i64 0, .string (⟨#[]⟩ : ByteArray), .int .i64 0, .int .i64 0, .int .i64 0, .int .i64 0, .int .i64 0, .int .i64 0, .int .i64 0, .int .i64 0]) Try.underlying50 Try.zeroValue50 places50 hK rfl pc_nil rfl rfl) fun a hK => ?_
      refine sl hK (by decide) (wtt hb_120) rfl (r_seq (by kernel_rfl) (eqs50 (⟨0, x_59, x_60, x_61⟩ : api_Value) (⟨0, 0, (⟨#[]⟩ : ByteArray), (⟨0, 0, 0, 0, 0, 0, 0, 0⟩ : Arr8)⟩ : api_Value)) hK rfl rfl) fun a hK => ?_
      refine sl hK (by decide) rfl rfl (r_pick_t hb_120 hK rfl rfl) fun a hK => ?_
      refine sl hK (by decide) rfl rfl (r_assign hK rfl) fun a hK => ?_
      refine wpList_nil ?_
      obtain rfl := Option.some.inj H
      refine wp_ret ?_
      repeat (first | refine ret_then ?_ | refine ret_block ?_ | refine ret_scope ?_)
      exact ret_1 Try.results30 hK (rv_tmp hK rfl) ⟨rfl, hS.bel⟩
    · rw [ifb_f hb_120] at H
      refine sl_skip hK (by decide) (wtf hb_120) rfl fun a hK => ?_
      refine sl_skip hK (by decide) (wtf hb_120) rfl fun a hK => ?_
      refine sl_skip hK (by decide) (wtf hb_120) rfl fun a hK => ?_
      refine sl hK (by decide) rfl rfl (r_pick_f hb_120 hK rfl rfl) fun a hK => ?_
      refine sl hK (by decide) rfl rfl (r_assign hK rfl) fun a hK => ?_
      refine wpList_nil ?_
      obtain rfl := Option.some.inj H
      refine wp_ret ?_
      repeat (first | refine ret_then ?_ | refine ret_block ?_ | refine ret_scope ?_)
      exact ret_1 Try.results30 hK (rv_tmp hK rfl) ⟨rfl, hS.bel⟩

/-! ### catchment/table.Check: function 13 -/
set_option maxHeartbeats 4000000 in
set_option maxRecDepth 100000 in
theorem table_Check.calls (a0 : api_Table) {w0 : World} {RA : Hp} {v0_0 : Value} {v0_1 : Value} (hRA : RA.sub w0) (h0_0 : SlR ty_api_Col RA v0_0 a0.Cols) (h0_1 : SlR (tySl ty_api_Value) RA v0_1 a0.Rows) {r : Int} (H : table_Check a0 = some r) : CallsV Try.prog 13 #[.agg #[v0_0, v0_1]] w0 (.int .i64 r) := by
  unfold table_Check at H
  refine enter (args := [.agg #[v0_0, v0_1]]) Try.func13 rfl Try.ntmps13 rfl fun a hK => ?_
  have hS := St.init (R := fun _ => none) (w := w0) (fun _ _ h => by cases h)
  have hRL := RLe.refl (M := []) w0 (fun _ => none)
  refine wp_seq ?_
  refine wp_region_lit ?_
  refine sl_box hS hK (by decide) rfl rfl (c := [v0_0, v0_1]) rfl fun a w b_1 hS hK => ?_
  refine sl hK (by decide) rfl rfl (r_assign hK rfl) fun a hK => ?_
  refine wpList_nil ?_
  refine wp_seq ?_
  refine wp_seq ?_
  refine wp_region_lit ?_
  refine sl hK (by decide) rfl rfl (r_fieldAddr Try.underlying25 rfl Try.sizeOf22 hK rfl) fun a hK => ?_
  refine sl hK (by decide) rfl rfl (r_load Try.isAgg22 hK rfl (hS.cell (.head _) rfl)) fun a hK => ?_
  obtain ⟨y_2, h_3, H⟩ := bind_some H
  refine sl_callV Try.call29 hS hK (by decide) rfl rfl rfl (table_columns.calls a0.Cols (lentOf_sub [] _) (h0_0.mono (hS.raLe0 hRA nil_not)) h_3) fun a w hS hK => ?_
  refine sl hK (by decide) rfl rfl (r_un hK rfl (u_not _)) fun a hK => ?_
  refine wpList_nil ?_
  refine wp_cond_split (hK.ev rfl) (fun (hb_4 : (!y_2) = true) => ?_) (fun (hb_4 : (!y_2) = false) => ?_)
  · rw [ifb_t hb_4] at H
    refine wp_seq ?_
    refine wp_region_lit ?_
    refine sl hK (by decide) rfl rfl (r_assign hK rfl) fun a hK => ?_
    refine wpList_nil ?_
    obtain rfl := Option.some.inj H
    refine wp_ret ?_
    repeat (first | refine ret_then ?_ | refine ret_block ?_ | refine ret_scope ?_)
    exact ret_1 Try.results13 hK (rv_tmp hK rfl) ⟨rfl, hS.bel⟩
  · rw [ifb_f hb_4] at H
    refine wp_skip ?_
    refine wp_seq ?_
    refine wp_seq ?_
    refine wp_region_lit ?_
    refine sl hK (by decide) rfl rfl (r_fieldAddr Try.underlying25 rfl Try.sizeOf23 hK rfl) fun a hK => ?_
    refine sl hK (by decide) rfl rfl (r_load Try.isAgg23 hK rfl (hS.cell (.head _) rfl)) fun a hK => ?_
    refine sl hK (by decide) rfl rfl (r_len_R Try.underlying23 h0_1 hK rfl) fun a hK => ?_
    refine sl hK (by decide) rfl rfl (r_move hK rfl) fun a hK => ?_
    refine wpList_nil ?_
    refine wp_block ?_
    refine wp_loop_k (fun k_l0 a w => ∃ (x_208 : Int), table_Check.l0 a0 k_l0 x_208 = some r ∧ Kn 47 a [(1, .pointer (some ⟨b_1, 0, none⟩)), (12, v0_1), (13, .int .i64 (a0.Rows.length : Int)), (14, .int .i64 x_208)] ∧ St [] w0 w (fun _ => none) [.cells b_1 [v0_0, v0_1] 25]) (((a0.Rows.length : Int) - 0).toNat + 1) ?_ ?_
    · exact ⟨0, H, hK.sub (all_cons rfl (all_cons rfl (all_cons rfl (all_cons rfl (all_nil))))), hS⟩
    · rintro k_l0 a w ⟨x_208, H, hK, hS⟩
      cases k_l0 with
      | zero => cases H
      | succ k_l0 =>
      rw [table_Check.l0.eq_2] at H
      refine wp_seq ?_
      refine wp_region_lit ?_
      refine sl hK (by decide) rfl rfl (r_ibin hK rfl rfl rfl) fun a hK => ?_
      refine wpList_nil ?_
      refine wp_seq ?_
      refine wp_cond_split (hK.ev rfl) (fun (hb_412 : (decide (x_208 < (a0.Rows.length : Int))) = true) => ?_) (fun (hb_412 : (decide (x_208 < (a0.Rows.length : Int))) = false) => ?_)
      · rw [ifb_t hb_412] at H
        refine wp_skip ?_
        refine wp_seq ?_
        refine wp_block ?_
        refine wp_seq ?_
        refine wp_region_lit ?_
        obtain ⟨y_413, h_414, H⟩ := bind_some H
        obtain ⟨b_415, o_416, c_417, cs_418, hv_419, hr_420, hc_421, h_4140, h_4141⟩ := h0_1.ix h_414
        obtain ⟨v_422, rfl, hs_423⟩ := hr_420
        refine sl hK (by decide) rfl rfl (r_indexAddr_R Try.underlying23 Try.sizeOf35 hv_419 h_4140 h_4141 hK rfl rfl) fun a hK => ?_
        refine sl hK (by decide) rfl rfl (r_load Try.isAgg35 hK rfl ((hS.ra hRA nil_not).cell (hc_421 0 _ rfl))) fun a hK => ?_
        refine sl hK (by decide) rfl rfl (r_assign hK rfl) fun a hK => ?_
        refine wpList_nil ?_
        refine wp_seq ?_
        refine wp_seq ?_
        refine wp_region_lit ?_
        refine sl hK (by decide) rfl rfl (r_move hK rfl) fun a hK => ?_
        refine sl hK (by decide) rfl rfl (r_len_R Try.underlying35 hs_423 hK rfl) fun a hK => ?_
        refine sl hK (by decide) rfl rfl (r_fieldAddr Try.underlying25 rfl Try.sizeOf22 hK rfl) fun a hK => ?_
        refine sl hK (by decide) rfl rfl (r_load Try.isAgg22 hK rfl (hS.cell (.head _) rfl)) fun a hK => ?_
        refine sl hK (by decide) rfl rfl (r_len_R Try.underlying22 h0_0 hK rfl) fun a hK => ?_
        refine sl hK (by decide) rfl rfl (r_ibin hK rfl rfl rfl) fun a hK => ?_
        refine wpList_nil ?_
        refine wp_cond_split (hK.ev rfl) (fun (hb_424 : ((y_413.length : Int) != (a0.Cols.length : Int)) = true) => ?_) (fun (hb_424 : ((y_413.length : Int) != (a0.Cols.length : Int)) = false) => ?_)
        · rw [ifb_t hb_424] at H
          refine wp_seq ?_
          refine wp_region_lit ?_
          refine sl hK (by decide) rfl rfl (r_assign hK rfl) fun a hK => ?_
          refine wpList_nil ?_
          obtain rfl := Option.some.inj H
          refine wp_ret ?_
          repeat (first | refine ret_then ?_ | refine ret_block ?_ | refine ret_scope ?_)
          exact ret_1 Try.results13 hK (rv_tmp hK rfl) ⟨rfl, hS.bel⟩
        · rw [ifb_f hb_424] at H
          refine wp_skip ?_
          refine wp_seq ?_
          refine wp_region_lit ?_
          refine sl hK (by decide) rfl rfl (r_move hK rfl) fun a hK => ?_
          refine sl hK (by decide) rfl rfl (r_len_R Try.underlying35 hs_423 hK rfl) fun a hK => ?_
          refine sl hK (by decide) rfl rfl (r_move hK rfl) fun a hK => ?_
          refine wpList_nil ?_
          refine wp_block ?_
          refine wp_loop_k (fun k_l1 a w => ∃ (x_488 : Int), table_Check.l1 (table_Check.l0 a0 k_l0) a0 x_208 y_413 k_l1 x_488 = some r ∧ Kn 47 a [(1, .pointer (some ⟨b_1, 0, none⟩)), (12, v0_1), (13, .int .i64 (a0.Rows.length : Int)), (14, .int .i64 x_208), (24, v_422), (25, .int .i64 (y_413.length : Int)), (26, .int .i64 x_488)] ∧ St [] w0 w (fun _ => none) [.cells b_1 [v0_0, v0_1] 25]) (((y_413.length : Int) - 0).toNat + 1) ?_ ?_
          · exact ⟨0, H, hK.sub (all_cons rfl (all_cons rfl (all_cons rfl (all_cons rfl (all_cons rfl (all_cons rfl (all_cons rfl (all_nil)))))))), hS⟩
          · rintro k_l1 a w ⟨x_488, H, hK, hS⟩
            cases k_l1 with
            | zero => cases H
            | succ k_l1 =>
            rw [table_Check.l1.eq_2] at H
            refine wp_seq ?_
            refine wp_region_lit ?_
            refine sl hK (by decide) rfl rfl (r_ibin hK rfl rfl rfl) fun a hK => ?_
            refine wpList_nil ?_
            refine wp_seq ?_
            refine wp_cond_split (hK.ev rfl) (fun (hb_552 : (decide (x_488 < (y_413.length : Int))) = true) => ?_) (fun (hb_552 : (decide (x_488 < (y_413.length : Int))) = false) => ?_)
            · rw [ifb_t hb_552] at H
              refine wp_skip ?_
              refine wp_seq ?_
              refine wp_block ?_
              refine wp_seq ?_
              refine wp_region_lit ?_
              refine sl hK (by decide) rfl rfl (r_move hK rfl) fun a hK => ?_
              obtain ⟨y_553, h_554, H⟩ := bind_some H
              obtain ⟨b_555, o_556, c_557, cs_558, hv_559, hr_560, hc_561, h_5540, h_5541⟩ := hs_423.ix h_554
              subst hr_560
              refine sl hK (by decide) rfl rfl (r_indexAddr_R Try.underlying35 Try.sizeOf50 hv_559 h_5540 h_5541 hK rfl rfl) fun a hK => ?_
              refine sl hK (by decide) rfl rfl (r_loadA (cs := [.int .i64 y_553.Kind, .int .i64 y_553.N, .string y_553.S, .int .i64 y_553.H.a0, .int .i64 y_553.H.a1, .int .i64 y_553.H.a2, .int .i64 y_553.H.a3, .int .i64 y_553.H.a4, .int .i64 y_553.H.a5, .int .i64 y_553.H.a6, .int .i64 y_553.H.a7]) Try.isAgg50 Try.sizeOf50 rfl hK rfl (fun j v hv => (hS.ra hRA nil_not).cell (hc_561 j v hv))) fun a hK => ?_
              refine sl_alloc Try.zeroValue50 hS hK (by decide) rfl rfl fun a w b_562 hS hK => ?_
              refine sl hK (by decide) rfl rfl (r_assign hK rfl) fun a hK => ?_
              refine sl_storeA (vs := [.int .i64 y_553.Kind, .int .i64 y_553.N, .string y_553.S, .int .i64 y_553.H.a0, .int .i64 y_553.H.a1, .int .i64 y_553.H.a2, .int .i64 y_553.H.a3, .int .i64 y_553.H.a4, .int .i64 y_553.H.a5, .int .i64 y_553.H.a6, .int .i64 y_553.H.a7]) (c' := [.int .i64 y_553.Kind, .int .i64 y_553.N, .string y_553.S, .int .i64 y_553.H.a0, .int .i64 y_553.H.a1, .int .i64 y_553.H.a2, .int .i64 y_553.H.a3, .int .i64 y_553.H.a4, .int .i64 y_553.H.a5, .int .i64 y_553.H.a6, .int .i64 y_553.H.a7]) Try.sizeOf50 hS hK rfl rfl rfl rfl (all_cons rfl (all_cons rfl (all_cons rfl (all_cons rfl (all_cons rfl (all_cons rfl (all_cons rfl (all_cons rfl (all_cons rfl (all_cons rfl (all_cons rfl (all_nil)))))))))))) (Nat.le_of_ble_eq_true rfl) rfl fun a w hS hK => ?_
              refine wpList_nil ?_
              refine wp_seq ?_
              refine wp_mid (fun a w => ∃ (x_587 : Bool), table_Check.j2 (table_Check.l1 (table_Check.l0 a0 k_l0) a0 x_208 y_413 k_l1) y_413 x_488 x_587 = some r ∧ Kn 47 a [(1, .pointer (some ⟨b_1, 0, none⟩)), (12, v0_1), (13, .int .i64 (a0.Rows.length : Int)), (14, .int .i64 x_208), (24, v_422), (25, .int .i64 (y_413.length : Int)), (26, .int .i64 x_488), (44, .bool x_587)] ∧ St [] w0 w (fun _ => none) [.cells b_1 [v0_0, v0_1] 25]) ?_ ?_
              · refine parT_region (C := fun w => St [] w0 w (fun _ => none) [.cells b_562 [.int .i64 y_553.Kind, .int .i64 y_553.N, .string y_553.S, .int .i64 y_553.H.a0, .int .i64 y_553.H.a1, .int .i64 y_553.H.a2, .int .i64 y_553.H.a3, .int .i64 y_553.H.a4, .int .i64 y_553.H.a5, .int .i64 y_553.H.a6, .int .i64 y_553.H.a7] 50, .cells b_1 [v0_0, v0_1] 25]) 8 [(0, true), (1, true), (2, true), (3, true), (4, true), (5, true), (6, true), (7, true)] mixed (by kernel_rfl) hS (fun w hS => hS) fun w hS => ?_
                refine sp (k := 0) rfl hK (by decide) rfl rfl (fun w hS => r_fieldAddr Try.underlying50 rfl Try.sizeOf3 hK rfl) fun a hK => ?_
                refine sp (k := 1) rfl hK (by decide) rfl rfl (fun w hS => r_load Try.isAgg3 hK rfl (hS.cell (.head _) rfl)) fun a hK => ?_
                refine sp (k := 2) rfl hK (by decide) rfl rfl (fun w hS => r_fieldAddr Try.underlying25 rfl Try.sizeOf22 hK rfl) fun a hK => ?_
                refine sp (k := 3) rfl hK (by decide) rfl rfl (fun w hS => r_load Try.isAgg22 hK rfl (hS.cell (.tail _ (.head _)) rfl)) fun a hK => ?_
                refine sp (k := 4) rfl hK (by decide) rfl rfl (fun w hS => r_move hK rfl) fun a hK => ?_
                obtain ⟨y_601, h_602, H⟩ := bind_some H
                obtain ⟨b_603, o_604, c_605, cs_606, hv_607, hr_608, hc_609, h_6020, h_6021⟩ := h0_0.ix h_602
                subst hr_608
                refine sp (k := 5) rfl hK (by decide) rfl rfl (fun w hS => r_indexAddr_R Try.underlying22 Try.sizeOf43 hv_607 h_6020 h_6021 hK rfl rfl) fun a hK => ?_
                refine sp (k := 6) rfl hK (by decide) rfl rfl (fun w hS => r_fieldAddr Try.underlying43 rfl Try.sizeOf3 hK rfl) fun a hK => ?_
                refine sp (k := 7) rfl hK (by decide) rfl rfl (fun w hS => r_load Try.isAgg3 hK rfl ((hS.ra hRA nil_not).cell (hc_609 1 _ rfl))) fun a hK => ?_
                refine thenL_nil ?_
                refine sl hK (by decide) rfl rfl (r_ibin hK rfl rfl rfl) fun a hK => ?_
                refine sl hK (by decide) rfl rfl (r_move hK rfl) fun a hK => ?_
                rcases or_b (y_553.Kind != y_601.Kind) with hb_610 | hb_610
                · rw [ifb_t hb_610] at H
                  refine sl_skip hK (by decide) (wft hb_610) rfl fun a hK => ?_
                  refine sl_skip hK (by decide) (wft hb_610) rfl fun a hK => ?_
                  refine sl_skip hK (by decide) (wft hb_610) rfl fun a hK => ?_
                  refine sl hK (by decide) rfl rfl (r_pick_t hb_610 hK rfl rfl) fun a hK => ?_
                  refine wpList_nil (NoP_nil ?_)
                  have hS := hS.pk1
                  exact ⟨true, H, hK.sub (all_cons rfl (all_cons rfl (all_cons rfl (all_cons rfl (all_cons rfl (all_cons rfl (all_cons rfl (all_cons rfl (all_nil))))))))), hS.trunc 1⟩
                · rw [ifb_f hb_610] at H
                  refine sl hK (by decide) (wff hb_610) rfl (r_loadA (cs := [.int .i64 y_553.Kind, .int .i64 y_553.N, .string y_553.S, .int .i64 y_553.H.a0, .int .i64 y_553.H.a1, .int .i64 y_553.H.a2, .int .i64 y_553.H.a3, .int .i64 y_553.H.a4, .int .i64 y_553.H.a5, .int .i64 y_553.H.a6, .int .i64 y_553.H.a7]) Try.isAgg50 Try.sizeOf50 rfl hK rfl (hS.cells_of (m := 11) (.head _) rfl)) fun a hK => ?_
                  obtain ⟨y_611, h_612, H⟩ := bind_some H
                  refine sl_callV Try.call30 hS hK (by decide) (wff hb_610) rfl rfl (value_Valid.calls y_553 h_612 _) fun a w hS hK => ?_
                  refine sl hK (by decide) (wff hb_610) rfl (r_un hK rfl (u_not _)) fun a hK => ?_
                  refine sl hK (by decide) rfl rfl (r_pick_f hb_610 hK rfl rfl) fun a hK => ?_
                  refine wpList_nil (NoP_nil ?_)
                  have hS := hS.pk1
                  exact ⟨(!y_611), H, hK.sub (all_cons rfl (all_cons rfl (all_cons rfl (all_cons rfl (all_cons rfl (all_cons rfl (all_cons rfl (all_cons rfl (all_nil))))))))), hS.trunc 1⟩
              · rintro a w ⟨x_587, H, hK, hS⟩
                unfold table_Check.j2 at H
                refine wp_cond_split (hK.ev rfl) (fun (hb_613 : x_587 = true) => ?_) (fun (hb_613 : x_587 = false) => ?_)
                · rw [ifb_t hb_613] at H
                  refine wp_seq ?_
                  refine wp_region_lit ?_
                  refine sl hK (by decide) rfl rfl (r_assign hK rfl) fun a hK => ?_
                  refine wpList_nil ?_
                  obtain rfl := Option.some.inj H
                  refine wp_ret ?_
                  repeat (first | refine ret_then ?_ | refine ret_block ?_ | refine ret_scope ?_)
                  exact ret_1 Try.results13 hK (rv_tmp hK rfl) ⟨rfl, hS.bel⟩
                · rw [ifb_f hb_613] at H
                  refine wp_skip ?_
                  refine wp_region_lit ?_
                  refine sl hK (by decide) rfl rfl (r_ibin hK rfl rfl rfl) fun a hK => ?_
                  refine sl hK (by decide) rfl rfl (r_move hK rfl) fun a hK => ?_
                  refine wpList_nil ?_
                  exact ⟨_, Nat.lt_succ_self _, (IntKind.i64.wrap (x_488 + 1)), H, hK.sub (all_cons rfl (all_cons rfl (all_cons rfl (all_cons rfl (all_cons rfl (all_cons rfl (all_cons rfl (all_nil)))))))), hS⟩
            · rw [ifb_f hb_552] at H
              refine wp_exit ?_
              refine wp_region_lit ?_
              refine sl hK (by decide) rfl rfl (r_ibin hK rfl rfl rfl) fun a hK => ?_
              refine sl hK (by decide) rfl rfl (r_move hK rfl) fun a hK => ?_
              refine wpList_nil ?_
              exact ⟨_, Nat.lt_succ_self _, (IntKind.i64.wrap (x_208 + 1)), H, hK.sub (all_cons rfl (all_cons rfl (all_cons rfl (all_cons rfl (all_nil))))), hS⟩
      · rw [ifb_f hb_412] at H
        refine wp_exit ?_
        refine wp_seq ?_
        refine wp_region_lit ?_
        refine sl hK (by decide) rfl rfl (r_assign hK rfl) fun a hK => ?_
        refine wpList_nil ?_
        obtain rfl := Option.some.inj H
        refine wp_ret ?_
        repeat (first | refine ret_then ?_ | refine ret_block ?_ | refine ret_scope ?_)
        exact ret_1 Try.results13 hK (rv_tmp hK rfl) ⟨rfl, hS.bel⟩

/-! ### slices.Index[[]int,int]: function 53 -/
set_option maxHeartbeats 4000000 in
set_option maxRecDepth 100000 in
theorem slices_Index_int_int.calls (a0 : List Int) (a1 : Int) {w0 : World} {RA : Hp} {v0_0 : Value} (hRA : RA.sub w0) (h0_0 : SlR (tyInt .i64) RA v0_0 a0) {r : Int} (H : slices_Index_int_int a0 a1 = some r) : CallsV Try.prog 53 #[v0_0, .int .i64 a1] w0 (.int .i64 r) := by
  unfold slices_Index_int_int at H
  refine enter (args := [v0_0, .int .i64 a1]) Try.func53 rfl Try.ntmps53 rfl fun a hK => ?_
  have hS := St.init (R := fun _ => none) (w := w0) (fun _ _ h => by cases h)
  have hRL := RLe.refl (M := []) w0 (fun _ => none)
  refine wp_seq ?_
  refine wp_region_lit ?_
  refine sl hK (by decide) rfl rfl (r_assign hK rfl) fun a hK => ?_
  refine wpList_nil ?_
  refine wp_seq ?_
  refine wp_seq ?_
  refine wp_region_lit ?_
  refine sl hK (by decide) rfl rfl (r_move hK rfl) fun a hK => ?_
  refine sl hK (by decide) rfl rfl (r_len_R Try.underlying45 h0_0 hK rfl) fun a hK => ?_
  refine sl hK (by decide) rfl rfl (r_move hK rfl) fun a hK => ?_
  refine wpList_nil ?_
  refine wp_block ?_
  refine wp_loop_k (fun k_l0 a w => ∃ (x_13 : Int), slices_Index_int_int.l0 a0 a1 k_l0 x_13 = some r ∧ Kn 19 a [(0, v0_0), (1, .int .i64 a1), (7, .int .i64 (a0.length : Int)), (8, .int .i64 x_13)] ∧ St [] w0 w (fun _ => none) []) (((a0.length : Int) - 0).toNat + 1) ?_ ?_
  · exact ⟨0, H, hK.sub (all_cons rfl (all_cons rfl (all_cons rfl (all_cons rfl (all_nil))))), hS⟩
  · rintro k_l0 a w ⟨x_13, H, hK, hS⟩
    cases k_l0 with
    | zero => cases H
    | succ k_l0 =>
    rw [slices_Index_int_int.l0.eq_2] at H
    refine wp_seq ?_
    refine wp_region_lit ?_
    refine sl hK (by decide) rfl rfl (r_ibin hK rfl rfl rfl) fun a hK => ?_
    refine wpList_nil ?_
    refine wp_seq ?_
    refine wp_cond_split (hK.ev rfl) (fun (hb_26 : (decide (x_13 < (a0.length : Int))) = true) => ?_) (fun (hb_26 : (decide (x_13 < (a0.length : Int))) = false) => ?_)
    · rw [ifb_t hb_26] at H
      refine wp_skip ?_
      refine wp_seq ?_
      refine wp_block ?_
      refine wp_seq ?_
      refine wp_region_lit ?_
      refine sl hK (by decide) rfl rfl (r_move hK rfl) fun a hK => ?_
      refine sl hK (by decide) rfl rfl (r_assign hK rfl) fun a hK => ?_
      refine wpList_nil ?_
      refine wp_seq ?_
      refine wp_region_lit ?_
      refine sl hK (by decide) rfl rfl (r_move hK rfl) fun a hK => ?_
      refine sl hK (by decide) rfl rfl (r_move hK rfl) fun a hK => ?_
      refine sl hK (by decide) rfl rfl (r_move hK rfl) fun a hK => ?_
      obtain ⟨y_27, h_28, H⟩ := bind_some H
      obtain ⟨b_29, o_30, c_31, cs_32, hv_33, hr_34, hc_35, h_280, h_281⟩ := h0_0.ix h_28
      subst hr_34
      refine sl hK (by decide) rfl rfl (r_indexAddr_R Try.underlying45 Try.sizeOf3 hv_33 h_280 h_281 hK rfl rfl) fun a hK => ?_
      refine sl hK (by decide) rfl rfl (r_load Try.isAgg3 hK rfl ((hS.ra hRA nil_not).cell (hc_35 0 _ rfl))) fun a hK => ?_
      refine sl hK (by decide) rfl rfl (r_ibin hK rfl rfl rfl) fun a hK => ?_
      refine wpList_nil ?_
      refine wp_cond_split (hK.ev rfl) (fun (hb_36 : (a1 == y_27) = true) => ?_) (fun (hb_36 : (a1 == y_27) = false) => ?_)
      · rw [ifb_t hb_36] at H
        refine wp_seq ?_
        refine wp_region_lit ?_
        refine sl hK (by decide) rfl rfl (r_move hK rfl) fun a hK => ?_
        refine sl hK (by decide) rfl rfl (r_assign hK rfl) fun a hK => ?_
        refine wpList_nil ?_
        obtain rfl := Option.some.inj H
        refine wp_ret ?_
        repeat (first | refine ret_then ?_ | refine ret_block ?_ | refine ret_scope ?_)
        exact ret_1 Try.results53 hK (rv_tmp hK rfl) ⟨rfl, hS.bel⟩
      · rw [ifb_f hb_36] at H
        refine wp_skip ?_
        refine wp_region_lit ?_
        refine sl hK (by decide) rfl rfl (r_ibin hK rfl rfl rfl) fun a hK => ?_
        refine sl hK (by decide) rfl rfl (r_move hK rfl) fun a hK => ?_
        refine wpList_nil ?_
        exact ⟨_, Nat.lt_succ_self _, (IntKind.i64.wrap (x_13 + 1)), H, hK.sub (all_cons rfl (all_cons rfl (all_cons rfl (all_cons rfl (all_nil))))), hS⟩
    · rw [ifb_f hb_26] at H
      refine wp_exit ?_
      refine wp_seq ?_
      refine wp_region_lit ?_
      refine sl hK (by decide) rfl rfl (r_assign hK rfl) fun a hK => ?_
      refine wpList_nil ?_
      obtain rfl := Option.some.inj H
      refine wp_ret ?_
      repeat (first | refine ret_then ?_ | refine ret_block ?_ | refine ret_scope ?_)
      exact ret_1 Try.results53 hK (rv_tmp hK rfl) ⟨rfl, hS.bel⟩

/-! ### slices.Contains[[]int,int]: function 46 -/
set_option maxHeartbeats 4000000 in
set_option maxRecDepth 100000 in
theorem slices_Contains_int_int.calls (a0 : List Int) (a1 : Int) {w0 : World} {RA : Hp} {v0_0 : Value} (hRA : RA.sub w0) (h0_0 : SlR (tyInt .i64) RA v0_0 a0) {r : Bool} (H : slices_Contains_int_int a0 a1 = some r) : CallsV Try.prog 46 #[v0_0, .int .i64 a1] w0 (.bool r) := by
  unfold slices_Contains_int_int at H
  refine enter (args := [v0_0, .int .i64 a1]) Try.func46 rfl Try.ntmps46 rfl fun a hK => ?_
  have hS := St.init (R := fun _ => none) (w := w0) (fun _ _ h => by cases h)
  have hRL := RLe.refl (M := []) w0 (fun _ => none)
  refine wp_seq ?_
  refine wp_region_lit ?_
  refine sl hK (by decide) rfl rfl (r_assign hK rfl) fun a hK => ?_
  refine wpList_nil ?_
  refine wp_seq ?_
  refine wp_region_lit ?_
  refine sl hK (by decide) rfl rfl (r_move hK rfl) fun a hK => ?_
  refine sl hK (by decide) rfl rfl (r_move hK rfl) fun a hK => ?_
  obtain ⟨y_1, h_2, H⟩ := bind_some H
  refine sl_callV Try.call53 hS hK (by decide) rfl rfl rfl (slices_Index_int_int.calls a0 a1 (lentOf_sub [] _) (h0_0.mono (hS.raLe0 hRA nil_not)) h_2) fun a w hS hK => ?_
  refine sl hK (by decide) rfl rfl (r_ibin hK rfl rfl rfl) fun a hK => ?_
  refine sl hK (by decide) rfl rfl (r_assign hK rfl) fun a hK => ?_
  refine wpList_nil ?_
  obtain rfl := Option.some.inj H
  refine wp_ret ?_
  repeat (first | refine ret_then ?_ | refine ret_block ?_ | refine ret_scope ?_)
  exact ret_1 Try.results46 hK (rv_tmp hK rfl) ⟨rfl, hS.bel⟩

/-! ### catchment/table.Keep: function 26 -/
set_option maxHeartbeats 4000000 in
set_option maxRecDepth 100000 in
theorem table_Keep.calls (a0 : api_Table) (a1 : List ByteArray) {w0 : World} {R : Hp} {RA : Hp} {v0_0 : Value} {v0_1 : Value} {v1_0 : Value} (hRA : RA.sub w0) (hR : R.sub w0) (h0_0 : SlR ty_api_Col RA v0_0 a0.Cols) (h0_1 : SlR (tySl ty_api_Value) RA v0_1 a0.Rows) (h1_0 : SlR tyStr RA v1_0 a1) {r : api_Table × Int} (H : table_Keep a0 a1 = some r) : Calls Try.prog 26 #[.agg #[v0_0, v0_1], v1_0] w0 (Rets fun v w' => ∃ (R' : Hp) (u0 : Value) (cu0 : List Value) (u1 : Value) (cu1 : List Value), v = .tuple #[.agg #[u0, u1], .int .i64 r.2] ∧ St [] w0 w' R' [.row 43 2 u0 r.1.Cols.length cu0, .row 35 1 u1 r.1.Rows.length cu1] ∧ RLe [] w0 R R' ∧ Reps ty_api_Col R' cu0 r.1.Cols ∧ Reps (tySl ty_api_Value) R' cu1 r.1.Rows) := by
  unfold table_Keep at H
  refine enter (args := [.agg #[v0_0, v0_1], v1_0]) Try.func26 rfl Try.ntmps26 rfl fun a hK => ?_
  have hS := St.init hR
  have hRL := RLe.refl (M := []) w0 R
  refine wp_seq ?_
  refine wp_region_lit ?_
  refine sl_box hS hK (by decide) rfl rfl (c := [v0_0, v0_1]) rfl fun a w b_1 hS hK => ?_
  refine sl_alloc Try.zeroValue25 hS hK (by decide) rfl rfl fun a w b_2 hS hK => ?_
  refine sl hK (by decide) rfl rfl (r_assign hK rfl) fun a hK => ?_
  refine wpList_nil ?_
  refine wp_seq ?_
  refine wp_seq ?_
  refine wp_region_lit ?_
  refine sl hK (by decide) rfl rfl (r_loadA (cs := [v0_0, v0_1]) Try.isAgg25 Try.sizeOf25 rfl hK rfl (hS.cells_of (m := 2) (.tail _ (.head _)) rfl)) fun a hK => ?_
  obtain ⟨y_3, h_4, H⟩ := bind_some H
  refine sl_callV Try.call13 hS hK (by decide) rfl rfl rfl (table_Check.calls a0 (lentOf_sub [] _) (h0_0.mono (hS.raLe0 hRA nil_not)) (h0_1.mono (hS.raLe0 hRA nil_not)) h_4) fun a w hS hK => ?_
  refine sl hK (by decide) rfl rfl (r_assign hK rfl) fun a hK => ?_
  refine wpList_nil ?_
  refine wp_seq ?_
  refine wp_region_lit ?_
  refine sl hK (by decide) rfl rfl (r_move hK rfl) fun a hK => ?_
  refine sl hK (by decide) rfl rfl (r_ibin hK rfl rfl rfl) fun a hK => ?_
  refine wpList_nil ?_
  refine wp_cond_split (hK.ev rfl) (fun (hb_5 : (y_3 != 0) = true) => ?_) (fun (hb_5 : (y_3 != 0) = false) => ?_)
  · rw [ifb_t hb_5] at H
    refine wp_seq ?_
    refine wp_region_lit ?_
    refine sl hK (by decide) rfl rfl (r_buildC (ps := []) (c := [.slice none 0 0, .slice none 0 0]) Try.underlying25 Try.zeroValue25 places25 hK rfl pc_nil rfl rfl) fun a hK => ?_
    refine sl hK (by decide) rfl rfl (r_move hK rfl) fun a hK => ?_
    refine sl_storeA (vs := [.slice none 0 0, .slice none 0 0]) (c' := [.slice none 0 0, .slice none 0 0]) Try.sizeOf25 hS hK rfl rfl rfl rfl (all_cons rfl (all_cons rfl (all_nil))) (Nat.le_of_ble_eq_true rfl) rfl fun a w hS hK => ?_
    refine sl hK (by decide) rfl rfl (r_assign hK rfl) fun a hK => ?_
    refine wpList_nil ?_
    have hS := hS.row_nil 43 2
    have hq_7 : Reps ty_api_Col R [] ([] : List api_Col) := Reps.nil _ _
    have hS := hS.row_nil 35 1
    have hq_9 : Reps (tySl ty_api_Value) R [] ([] : List (List api_Value)) := Reps.nil _ _
    obtain rfl := Option.some.inj H
    refine wp_ret ?_
    repeat (first | refine ret_then ?_ | refine ret_block ?_ | refine ret_scope ?_)
    exact ret_2 Try.results26 hK (rv_cell (c := [(.slice none 0 0), (.slice none 0 0)]) Try.isAgg25 Try.sizeOf25 hS (.tail _ (.tail _ (.head _))) rfl hK rfl) (rv_tmp hK rfl) ⟨_, rfl, _, _, _, _, _, rfl, (hS.pk1.trunc 2), hRL, hq_7, hq_9⟩
  · rw [ifb_f hb_5] at H
    refine wp_skip ?_
    refine wp_seq ?_
    refine wp_region_lit ?_
    refine sl_alloc Try.zeroValue25 hS hK (by decide) rfl rfl fun a w b_10 hS hK => ?_
    refine wpList_nil ?_
    refine wp_seq ?_
    refine wp_region_lit ?_
    refine sl hK (by decide) rfl rfl (r_assign hK rfl) fun a hK => ?_
    refine wpList_nil ?_
    refine wp_seq ?_
    refine wp_seq ?_
    refine wp_region_lit ?_
    refine sl hK (by decide) rfl rfl (r_move hK rfl) fun a hK => ?_
    refine sl hK (by decide) rfl rfl (r_len_R Try.underlying39 h1_0 hK rfl) fun a hK => ?_
    refine sl hK (by decide) rfl rfl (r_move hK rfl) fun a hK => ?_
    refine wpList_nil ?_
    refine wp_block ?_
    refine wp_loop_k (fun k_l0 a w => ∃ (x_83 : List api_Col) (x_88 : List Int) (x_92 : Int) (v_84 : Value) (cs_85 : List Value) (v_89 : Value) (cs_90 : List Value), table_Keep.l0 a0 a1 k_l0 x_83 x_88 x_92 = some r ∧ Reps ty_api_Col R cs_85 x_83 ∧ Reps (tyInt .i64) R cs_90 x_88 ∧ Kn 90 a [(2, .pointer (some ⟨b_1, 0, none⟩)), (4, .pointer (some ⟨b_2, 0, none⟩)), (7, .pointer (some ⟨b_10, 0, none⟩)), (8, v_89), (23, v1_0), (24, .int .i64 (a1.length : Int)), (25, .int .i64 x_92)] ∧ St [] w0 w R [.cells b_1 [v0_0, v0_1] 25, .cells b_2 [.slice none 0 0, .slice none 0 0] 25, .row 43 2 v_84 x_83.length cs_85, .cells b_10 [v_84, .slice none 0 0] 25, .row 3 1 v_89 x_88.length cs_90]) (((a1.length : Int) - 0).toNat + 1) ?_ ?_
    · have hS := hS.row_nil 43 2
      have hq_159 : Reps ty_api_Col R [] ([] : List api_Col) := Reps.nil _ _
      have hS := hS.row_nil 3 1
      have hq_161 : Reps (tyInt .i64) R [] ([] : List Int) := Reps.nil _ _
      have hS := hS.pk2
      have hS := hS.pk2
      have hS := hS.pk3
      have hS := hS.pk4
      exact ⟨[], [], 0, _, _, _, _, H, hq_159, hq_161, hK.sub (all_cons rfl (all_cons rfl (all_cons rfl (all_cons rfl (all_cons rfl (all_cons rfl (all_cons rfl (all_nil)))))))), hS⟩
    · rintro k_l0 a w ⟨x_83, x_88, x_92, v_84, cs_85, v_89, cs_90, H, hq_86, hq_91, hK, hS⟩
      cases k_l0 with
      | zero => cases H
      | succ k_l0 =>
      rw [table_Keep.l0.eq_2] at H
      refine wp_seq ?_
      refine wp_region_lit ?_
      refine sl hK (by decide) rfl rfl (r_ibin hK rfl rfl rfl) fun a hK => ?_
      refine wpList_nil ?_
      refine wp_seq ?_
      refine wp_cond_split (hK.ev rfl) (fun (hb_162 : (decide (x_92 < (a1.length : Int))) = true) => ?_) (fun (hb_162 : (decide (x_92 < (a1.length : Int))) = false) => ?_)
      · rw [ifb_t hb_162] at H
        refine wp_skip ?_
        refine wp_seq ?_
        refine wp_block ?_
        refine wp_seq ?_
        refine wp_region_lit ?_
        obtain ⟨y_163, h_164, H⟩ := bind_some H
        obtain ⟨b_165, o_166, c_167, cs_168, hv_169, hr_170, hc_171, h_1640, h_1641⟩ := h1_0.ix h_164
        subst hr_170
        refine sl hK (by decide) rfl rfl (r_indexAddr_R Try.underlying39 Try.sizeOf9 hv_169 h_1640 h_1641 hK rfl rfl) fun a hK => ?_
        refine sl hK (by decide) rfl rfl (r_load Try.isAgg9 hK rfl ((hS.ra hRA nil_not).cell (hc_171 0 _ rfl))) fun a hK => ?_
        refine sl hK (by decide) rfl rfl (r_assign hK rfl) fun a hK => ?_
        refine wpList_nil ?_
        refine wp_seq ?_
        refine wp_region_lit ?_
        refine sl hK (by decide) rfl rfl (r_fieldAddr Try.underlying25 rfl Try.sizeOf22 hK rfl) fun a hK => ?_
        refine sl hK (by decide) rfl rfl (r_load Try.isAgg22 hK rfl (hS.cell (.head _) rfl)) fun a hK => ?_
        refine sl hK (by decide) rfl rfl (r_move hK rfl) fun a hK => ?_
        obtain ⟨y_172, h_173, H⟩ := bind_some H
        refine sl_callV Try.call17 hS hK (by decide) rfl rfl rfl (table_Find.calls a0.Cols y_163 (lentOf_sub [] _) (h0_0.mono (hS.raLe0 hRA nil_not)) h_173) fun a w hS hK => ?_
        refine sl hK (by decide) rfl rfl (r_assign hK rfl) fun a hK => ?_
        refine wpList_nil ?_
        refine wp_seq ?_
        refine wp_seq ?_
        refine wp_mid (fun a w => ∃ (x_177 : Bool), table_Keep.j1 (table_Keep.l0 a0 a1 k_l0) a0 a1 x_83 x_88 x_92 y_172 x_177 = some r ∧ Kn 90 a [(2, .pointer (some ⟨b_1, 0, none⟩)), (4, .pointer (some ⟨b_2, 0, none⟩)), (7, .pointer (some ⟨b_10, 0, none⟩)), (8, v_89), (11, .int .i64 y_172), (23, v1_0), (24, .int .i64 (a1.length : Int)), (25, .int .i64 x_92), (39, .bool x_177)] ∧ St [] w0 w R [.cells b_1 [v0_0, v0_1] 25, .cells b_2 [.slice none 0 0, .slice none 0 0] 25, .row 43 2 v_84 x_83.length cs_85, .cells b_10 [v_84, .slice none 0 0] 25, .row 3 1 v_89 x_88.length cs_90]) ?_ ?_
        · refine wp_region_lit ?_
          refine sl hK (by decide) rfl rfl (r_move hK rfl) fun a hK => ?_
          refine sl hK (by decide) rfl rfl (r_ibin hK rfl rfl rfl) fun a hK => ?_
          refine sl hK (by decide) rfl rfl (r_move hK rfl) fun a hK => ?_
          rcases or_b (decide (y_172 < 0)) with hb_179 | hb_179
          · rw [ifb_t hb_179] at H
            refine sl_skip hK (by decide) (wft hb_179) rfl fun a hK => ?_
            refine sl_skip hK (by decide) (wft hb_179) rfl fun a hK => ?_
            refine sl_skip hK (by decide) (wft hb_179) rfl fun a hK => ?_
            refine sl hK (by decide) rfl rfl (r_pick_t hb_179 hK rfl rfl) fun a hK => ?_
            refine wpList_nil ?_
            have hS := hS.pk4
            have hS := hS.pk4
            have hS := hS.pk4
            have hS := hS.pk4
            have hS := hS.pk4
            exact ⟨true, H, hK.sub (all_cons rfl (all_cons rfl (all_cons rfl (all_cons rfl (all_cons rfl (all_cons rfl (all_cons rfl (all_cons rfl (all_cons rfl (all_nil)))))))))), hS⟩
          · rw [ifb_f hb_179] at H
            refine sl hK (by decide) (wff hb_179) rfl (r_move hK rfl) fun a hK => ?_
            refine sl hK (by decide) (wff hb_179) rfl (r_move hK rfl) fun a hK => ?_
            obtain ⟨y_180, h_181, H⟩ := bind_some H
            refine sl_callV Try.call46 hS hK (by decide) (wff hb_179) rfl rfl (slices_Contains_int_int.calls x_88 y_172 (lentOf_sub [] _) (hS.lend_row0 (.tail _ (.tail _ (.tail _ (.tail _ (.head _))))) hq_91 rfl rfl) h_181) fun a w hS hK => ?_
            refine sl hK (by decide) rfl rfl (r_pick_f hb_179 hK rfl rfl) fun a hK => ?_
            refine wpList_nil ?_
            have hS := hS.pk4
            have hS := hS.pk4
            have hS := hS.pk4
            have hS := hS.pk4
            have hS := hS.pk4
            exact ⟨y_180, H, hK.sub (all_cons rfl (all_cons rfl (all_cons rfl (all_cons rfl (all_cons rfl (all_cons rfl (all_cons rfl (all_cons rfl (all_cons rfl (all_nil)))))))))), hS⟩
        · rintro a w ⟨x_177, H, hK, hS⟩
          unfold table_Keep.j1 at H
          refine wp_cond_split (hK.ev rfl) (fun (hb_182 : x_177 = true) => ?_) (fun (hb_182 : x_177 = false) => ?_)
          · rw [ifb_t hb_182] at H
            refine wp_seq ?_
            refine wp_region_lit ?_
            refine sl hK (by decide) rfl rfl (r_buildC (ps := []) (c := [.slice none 0 0, .slice none 0 0]) Try.underlying25 Try.zeroValue25 places25 hK rfl pc_nil rfl rfl) fun a hK => ?_
            have hS := hS.pk1
            refine sl_storeA (vs := [.slice none 0 0, .slice none 0 0]) (c' := [.slice none 0 0, .slice none 0 0]) Try.sizeOf25 hS hK rfl rfl rfl rfl (all_cons rfl (all_cons rfl (all_nil))) (Nat.le_of_ble_eq_true rfl) rfl fun a w hS hK => ?_
            refine sl hK (by decide) rfl rfl (r_assign hK rfl) fun a hK => ?_
            refine wpList_nil ?_
            have hS := hS.row_nil 43 2
            have hq_184 : Reps ty_api_Col R [] ([] : List api_Col) := Reps.nil _ _
            have hS := hS.row_nil 35 1
            have hq_186 : Reps (tySl ty_api_Value) R [] ([] : List (List api_Value)) := Reps.nil _ _
            obtain rfl := Option.some.inj H
            refine wp_ret ?_
            repeat (first | refine ret_then ?_ | refine ret_block ?_ | refine ret_scope ?_)
            exact ret_2 Try.results26 hK (rv_cell (c := [(.slice none 0 0), (.slice none 0 0)]) Try.isAgg25 Try.sizeOf25 hS (.tail _ (.tail _ (.head _))) rfl hK rfl) (rv_tmp hK rfl) ⟨_, rfl, _, _, _, _, _, rfl, (hS.pk1.trunc 2), hRL, hq_184, hq_186⟩
          · rw [ifb_f hb_182] at H
            refine wp_skip ?_
            refine wp_seq ?_
            refine wp_region_lit ?_
            refine sl hK (by decide) rfl rfl (r_move hK rfl) fun a hK => ?_
            refine sl hK (by decide) rfl rfl (r_move hK rfl) fun a hK => ?_
            refine sl_buildSliceF (zc := [.int .i64 0]) (ps := [(0, .int .i64 y_172)]) (c := [.int .i64 y_172]) [[.int .i64 y_172]] Try.underlying45 Try.sizeOf3 Try.zeroValue3 rfl (pc_cons rfl pc_nil) rfl rfl (Nat.le_of_ble_eq_true rfl) rfl (all_cons rfl (all_nil)) rfl hS hK (by decide) rfl fun a w b_187 hS hK => ?_
            obtain ⟨y_188, h_189, H⟩ := bind_some H
            have hS := hS.pk5
            refine sl_append_L (ty := (tyInt .i64)) (ys := [y_172]) elT45 (by decide) rfl hq_91 rfl (Reps.cons (show Ty.rep (tyInt .i64) _ [.int .i64 y_172] y_172 from rfl) (Reps.nil _ _)) rfl h_189 hS hK (by decide) rfl rfl rfl fun a w v_190 cs_191 hq_192 hS hK => ?_
            refine sl hK (by decide) rfl rfl (r_assign hK rfl) fun a hK => ?_
            refine wpList_nil ?_
            refine parT_region (C := fun w => St [] w0 w R [.row 3 1 v_190 y_188.length cs_191, .cells b_1 [v0_0, v0_1] 25, .cells b_2 [.slice none 0 0, .slice none 0 0] 25, .row 43 2 v_84 x_83.length cs_85, .cells b_10 [v_84, .slice none 0 0] 25]) 8 [(0, true), (1, true), (2, true), (3, true), (4, true), (5, true), (6, true), (7, false)] mixed (by kernel_rfl) hS (fun w hS => hS) fun w hS => ?_
            refine sp (k := 0) rfl hK (by decide) rfl rfl (fun w hS => r_fieldAddr Try.underlying25 rfl Try.sizeOf22 hK rfl) fun a hK => ?_
            refine sp (k := 1) rfl hK (by decide) rfl rfl (fun w hS => r_load Try.isAgg22 hK rfl (hS.cell (.tail _ (.tail _ (.tail _ (.tail _ (.head _))))) rfl)) fun a hK => ?_
            refine sp (k := 2) rfl hK (by decide) rfl rfl (fun w hS => r_fieldAddr Try.underlying25 rfl Try.sizeOf22 hK rfl) fun a hK => ?_
            refine sp (k := 3) rfl hK (by decide) rfl rfl (fun w hS => r_load Try.isAgg22 hK rfl (hS.cell (.tail _ (.head _)) rfl)) fun a hK => ?_
            refine sp (k := 4) rfl hK (by decide) rfl rfl (fun w hS => r_move hK rfl) fun a hK => ?_
            obtain ⟨y_210, h_211, H⟩ := bind_some H
            obtain ⟨b_212, o_213, c_214, cs_215, hv_216, hr_217, hc_218, h_2110, h_2111⟩ := h0_0.ix h_211
            subst hr_217
            refine sp (k := 5) rfl hK (by decide) rfl rfl (fun w hS => r_indexAddr_R Try.underlying22 Try.sizeOf43 hv_216 h_2110 h_2111 hK rfl rfl) fun a hK => ?_
            refine sp (k := 6) rfl hK (by decide) rfl rfl (fun w hS => r_loadA (cs := [.string y_210.Name, .int .i64 y_210.Kind]) Try.isAgg43 Try.sizeOf43 rfl hK rfl (fun j v hv => (hS.ra hRA nil_not).cell (hc_218 j v hv))) fun a hK => ?_
            refine spw (k := 7) rfl rfl hS ?_
            refine sl_buildSliceF (zc := [.string (⟨#[]⟩ : ByteArray), .int .i64 0]) (ps := [(0, .agg #[.string y_210.Name, .int .i64 y_210.Kind])]) (c := [.string y_210.Name, .int .i64 y_210.Kind]) [[.string y_210.Name, .int .i64 y_210.Kind]] Try.underlying22 Try.sizeOf43 Try.zeroValue43 rfl (pc_cons rfl pc_nil) rfl rfl (Nat.le_of_ble_eq_true rfl) rfl (all_cons rfl (all_nil)) rfl hS hK (by decide) rfl fun a w b_219 hS hK => ?_
            refine parK_nil (hS.pk5.pk5.pk5.pk5.pk5.trunc 5) ?_
            refine thenL_nil ?_
            obtain ⟨y_220, h_221, H⟩ := bind_some H
            have hS := hS.pk4
            refine sl_append_L (ty := ty_api_Col) (ys := [y_210]) elT22 (by decide) rfl hq_86 rfl (Reps.cons (show Ty.rep ty_api_Col _ [.string y_210.Name, .int .i64 y_210.Kind] y_210 from rfl) (Reps.nil _ _)) rfl h_221 hS hK (by decide) rfl rfl rfl fun a w v_222 cs_223 hq_224 hS hK => ?_
            refine sl hK (by decide) rfl rfl (r_fieldAddr Try.underlying25 rfl Try.sizeOf22 hK rfl) fun a hK => ?_
            have hS := hS.pk4
            refine sl_store1 (c' := [v_222, .slice none 0 0]) Try.sizeOf22 hS hK rfl rfl rfl (hS.row_one (.tail _ (.head _))) (Nat.le_of_ble_eq_true rfl) rfl fun a w hS hK => ?_
            refine wpList_nil (NoP_nil ?_)
            refine wp_region_lit ?_
            refine sl hK (by decide) rfl rfl (r_ibin hK rfl rfl rfl) fun a hK => ?_
            refine sl hK (by decide) rfl rfl (r_move hK rfl) fun a hK => ?_
            refine wpList_nil ?_
            have hS := hS.pk2
            have hS := hS.pk1
            have hS := hS.pk2
            have hS := hS.pk4
            have hS := hS.pk4
            exact ⟨_, Nat.lt_succ_self _, y_220, y_188, (IntKind.i64.wrap (x_92 + 1)), _, _, _, _, H, hq_224, hq_192, hK.sub (all_cons rfl (all_cons rfl (all_cons rfl (all_cons rfl (all_cons rfl (all_cons rfl (all_cons rfl (all_nil)))))))), hS⟩
      · rw [ifb_f hb_162] at H
        refine wp_exit ?_
        refine wp_seq ?_
        refine wp_seq ?_
        refine wp_region_lit ?_
        refine sl hK (by decide) rfl rfl (r_move hK rfl) fun a hK => ?_
        refine sl hK (by decide) rfl rfl (r_len_O Try.underlying45 hS (.tail _ (.tail _ (.tail _ (.tail _ (.head _))))) hK rfl) fun a hK => ?_
        refine sl hK (by decide) rfl rfl (r_ibin hK rfl rfl rfl) fun a hK => ?_
        refine wpList_nil ?_
        refine wp_cond_split (hK.ev rfl) (fun (hb_226 : ((x_88.length : Int) == 0) = true) => ?_) (fun (hb_226 : ((x_88.length : Int) == 0) = false) => ?_)
        · rw [ifb_t hb_226] at H
          refine wp_seq ?_
          refine wp_region_lit ?_
          refine sl hK (by decide) rfl rfl (r_buildC (ps := []) (c := [.slice none 0 0, .slice none 0 0]) Try.underlying25 Try.zeroValue25 places25 hK rfl pc_nil rfl rfl) fun a hK => ?_
          have hS := hS.pk1
          refine sl_storeA (vs := [.slice none 0 0, .slice none 0 0]) (c' := [.slice none 0 0, .slice none 0 0]) Try.sizeOf25 hS hK rfl rfl rfl rfl (all_cons rfl (all_cons rfl (all_nil))) (Nat.le_of_ble_eq_true rfl) rfl fun a w hS hK => ?_
          refine sl hK (by decide) rfl rfl (r_assign hK rfl) fun a hK => ?_
          refine wpList_nil ?_
          have hS := hS.row_nil 43 2
          have hq_228 : Reps ty_api_Col R [] ([] : List api_Col) := Reps.nil _ _
          have hS := hS.row_nil 35 1
          have hq_230 : Reps (tySl ty_api_Value) R [] ([] : List (List api_Value)) := Reps.nil _ _
          obtain rfl := Option.some.inj H
          refine wp_ret ?_
          repeat (first | refine ret_then ?_ | refine ret_block ?_ | refine ret_scope ?_)
          exact ret_2 Try.results26 hK (rv_cell (c := [(.slice none 0 0), (.slice none 0 0)]) Try.isAgg25 Try.sizeOf25 hS (.tail _ (.tail _ (.head _))) rfl hK rfl) (rv_tmp hK rfl) ⟨_, rfl, _, _, _, _, _, rfl, (hS.pk1.trunc 2), hRL, hq_228, hq_230⟩
        · rw [ifb_f hb_226] at H
          refine wp_skip ?_
          refine wp_seq ?_
          refine wp_seq ?_
          refine wp_region_lit ?_
          refine sl hK (by decide) rfl rfl (r_fieldAddr Try.underlying25 rfl Try.sizeOf23 hK rfl) fun a hK => ?_
          refine sl hK (by decide) rfl rfl (r_load Try.isAgg23 hK rfl (hS.cell (.head _) rfl)) fun a hK => ?_
          refine sl hK (by decide) rfl rfl (r_len_R Try.underlying23 h0_1 hK rfl) fun a hK => ?_
          refine sl hK (by decide) rfl rfl (r_move hK rfl) fun a hK => ?_
          refine wpList_nil ?_
          refine wp_block ?_
          refine wp_loop_k (fun k_l2 a w => ∃ (x_347 : List (List api_Value)) (x_351 : Int) (R_352 : Hp) (v_348 : Value) (cs_349 : List Value), table_Keep.l2 a0 x_83 x_88 k_l2 x_347 x_351 = some r ∧ RLe [] w0 R R_352 ∧ Reps (tySl ty_api_Value) R_352 cs_349 x_347 ∧ Kn 90 a [(4, .pointer (some ⟨b_2, 0, none⟩)), (7, .pointer (some ⟨b_10, 0, none⟩)), (8, v_89), (61, v0_1), (62, .int .i64 (a0.Rows.length : Int)), (63, .int .i64 x_351)] ∧ St [] w0 w R_352 [.cells b_2 [.slice none 0 0, .slice none 0 0] 25, .row 43 2 v_84 x_83.length cs_85, .row 35 1 v_348 x_347.length cs_349, .cells b_10 [v_84, v_348] 25, .row 3 1 v_89 x_88.length cs_90]) (((a0.Rows.length : Int) - 0).toNat + 1) ?_ ?_
          · have hS := hS.row_nil 35 1
            have hq_465 : Reps (tySl ty_api_Value) R [] ([] : List (List api_Value)) := Reps.nil _ _
            have hS := hS.pk5
            have hS := hS.pk5
            have hS := hS.pk2
            have hS := hS.pk5
            have hS := hS.pk5
            exact ⟨[], 0, _, _, _, H, (RLe.refl _ _), hq_465, hK.sub (all_cons rfl (all_cons rfl (all_cons rfl (all_cons rfl (all_cons rfl (all_cons rfl (all_nil))))))), hS.trunc 5⟩
          · rintro k_l2 a w ⟨x_347, x_351, R_352, v_348, cs_349, H, hl_353, hq_350, hK, hS⟩
            cases k_l2 with
            | zero => cases H
            | succ k_l2 =>
            rw [table_Keep.l2.eq_2] at H
            have hRL := hRL.trans hl_353
            refine wp_seq ?_
            refine wp_region_lit ?_
            refine sl hK (by decide) rfl rfl (r_ibin hK rfl rfl rfl) fun a hK => ?_
            refine wpList_nil ?_
            refine wp_seq ?_
            refine wp_cond_split (hK.ev rfl) (fun (hb_466 : (decide (x_351 < (a0.Rows.length : Int))) = true) => ?_) (fun (hb_466 : (decide (x_351 < (a0.Rows.length : Int))) = false) => ?_)
            · rw [ifb_t hb_466] at H
              refine wp_skip ?_
              refine wp_seq ?_
              refine wp_block ?_
              refine wp_seq ?_
              refine wp_region_lit ?_
              obtain ⟨y_467, h_468, H⟩ := bind_some H
              obtain ⟨b_469, o_470, c_471, cs_472, hv_473, hr_474, hc_475, h_4680, h_4681⟩ := h0_1.ix h_468
              obtain ⟨v_476, rfl, hs_477⟩ := hr_474
              refine sl hK (by decide) rfl rfl (r_indexAddr_R Try.underlying23 Try.sizeOf35 hv_473 h_4680 h_4681 hK rfl rfl) fun a hK => ?_
              refine sl hK (by decide) rfl rfl (r_load Try.isAgg35 hK rfl ((hS.ra hRA nil_not).cell (hc_475 0 _ rfl))) fun a hK => ?_
              refine sl hK (by decide) rfl rfl (r_assign hK rfl) fun a hK => ?_
              refine wpList_nil ?_
              refine wp_seq ?_
              refine wp_region_lit ?_
              refine sl hK (by decide) rfl rfl (r_assign hK rfl) fun a hK => ?_
              refine wpList_nil ?_
              refine wp_seq ?_
              refine wp_seq ?_
              refine wp_region_lit ?_
              refine sl hK (by decide) rfl rfl (r_move hK rfl) fun a hK => ?_
              refine sl hK (by decide) rfl rfl (r_len_O Try.underlying45 hS (.tail _ (.tail _ (.tail _ (.tail _ (.head _))))) hK rfl) fun a hK => ?_
              refine sl hK (by decide) rfl rfl (r_move hK rfl) fun a hK => ?_
              refine wpList_nil ?_
              refine wp_block ?_
              refine wp_loop_k (fun k_l3 a w => ∃ (x_507 : List api_Value) (x_511 : Int) (v_508 : Value) (cs_509 : List Value), table_Keep.l3 (table_Keep.l2 a0 x_83 x_88 k_l2) a0 x_88 x_347 x_351 y_467 k_l3 x_507 x_511 = some r ∧ Reps ty_api_Value R_352 cs_509 x_507 ∧ Kn 90 a [(4, .pointer (some ⟨b_2, 0, none⟩)), (7, .pointer (some ⟨b_10, 0, none⟩)), (8, v_89), (13, v_476), (14, v_508), (61, v0_1), (62, .int .i64 (a0.Rows.length : Int)), (63, .int .i64 x_351), (67, v_89), (68, .int .i64 (x_88.length : Int)), (69, .int .i64 x_511)] ∧ St [] w0 w R_352 [.cells b_2 [.slice none 0 0, .slice none 0 0] 25, .row 43 2 v_84 x_83.length cs_85, .row 35 1 v_348 x_347.length cs_349, .cells b_10 [v_84, v_348] 25, .row 3 1 v_89 x_88.length cs_90, .row 50 11 v_508 x_507.length cs_509]) (((x_88.length : Int) - 0).toNat + 1) ?_ ?_
              · have hS := hS.row_nil 50 11
                have hq_539 : Reps ty_api_Value R_352 [] ([] : List api_Value) := Reps.nil _ _
                have hS := hS.pk5
                have hS := hS.pk5
                have hS := hS.pk5
                have hS := hS.pk5
                have hS := hS.pk5
                exact ⟨[], 0, _, _, H, hq_539, hK.sub (all_cons rfl (all_cons rfl (all_cons rfl (all_cons rfl (all_cons rfl (all_cons rfl (all_cons rfl (all_cons rfl (all_cons rfl (all_cons rfl (all_cons rfl (all_nil)))))))))))), hS⟩
              · rintro k_l3 a w ⟨x_507, x_511, v_508, cs_509, H, hq_510, hK, hS⟩
                cases k_l3 with
                | zero => cases H
                | succ k_l3 =>
                rw [table_Keep.l3.eq_2] at H
                refine wp_seq ?_
                refine wp_region_lit ?_
                refine sl hK (by decide) rfl rfl (r_ibin hK rfl rfl rfl) fun a hK => ?_
                refine wpList_nil ?_
                refine wp_seq ?_
                refine wp_cond_split (hK.ev rfl) (fun (hb_540 : (decide (x_511 < (x_88.length : Int))) = true) => ?_) (fun (hb_540 : (decide (x_511 < (x_88.length : Int))) = false) => ?_)
                · rw [ifb_t hb_540] at H
                  refine wp_skip ?_
                  refine wp_seq ?_
                  refine wp_block ?_
                  refine wp_seq ?_
                  refine wp_region_lit ?_
                  obtain ⟨y_541, h_542, H⟩ := bind_some H
                  obtain ⟨b_544, c_545, cs_546, hv_543, hr_547, hc_548, h_5420, h_5421⟩ := hS.row_ix (.tail _ (.tail _ (.tail _ (.tail _ (.head _))))) (hq_91.mono hl_353.le) rfl rfl h_542
                  subst hr_547
                  refine sl hK (by decide) rfl rfl (r_indexAddr_R Try.underlying45 Try.sizeOf3 hv_543 h_5420 h_5421 hK rfl rfl) fun a hK => ?_
                  refine sl hK (by decide) rfl rfl (r_load Try.isAgg3 hK rfl (hS.row_cell (.tail _ (.tail _ (.tail _ (.tail _ (.head _))))) hv_543 (hc_548 0 _ rfl))) fun a hK => ?_
                  refine sl hK (by decide) rfl rfl (r_assign hK rfl) fun a hK => ?_
                  refine wpList_nil ?_
                  refine wp_region_lit ?_
                  refine sl hK (by decide) rfl rfl (r_move hK rfl) fun a hK => ?_
                  refine sl hK (by decide) rfl rfl (r_move hK rfl) fun a hK => ?_
                  refine sl hK (by decide) rfl rfl (r_move hK rfl) fun a hK => ?_
                  obtain ⟨y_549, h_550, H⟩ := bind_some H
                  obtain ⟨b_551, o_552, c_553, cs_554, hv_555, hr_556, hc_557, h_5500, h_5501⟩ := hs_477.ix h_550
                  subst hr_556
                  refine sl hK (by decide) rfl rfl (r_indexAddr_R Try.underlying35 Try.sizeOf50 hv_555 h_5500 h_5501 hK rfl rfl) fun a hK => ?_
                  refine sl hK (by decide) rfl rfl (r_loadA (cs := [.int .i64 y_549.Kind, .int .i64 y_549.N, .string y_549.S, .int .i64 y_549.H.a0, .int .i64 y_549.H.a1, .int .i64 y_549.H.a2, .int .i64 y_549.H.a3, .int .i64 y_549.H.a4, .int .i64 y_549.H.a5, .int .i64 y_549.H.a6, .int .i64 y_549.H.a7]) Try.isAgg50 Try.sizeOf50 rfl hK rfl (fun j v hv => (hS.ra hRA nil_not).cell (hc_557 j v hv))) fun a hK => ?_
                  refine sl_buildSliceF (zc := [.int .i64 0, .int .i64 0, .string (⟨#[]⟩ : ByteArray), .int .i64 0, .int .i64 0, .int .i64 0, .int .i64 0, .int .i64 0, .int .i64 0, .int .i64 0, .int .i64 0]) (ps := [(0, .agg #[.int .i64 y_549.Kind, .int .i64 y_549.N, .string y_549.S, .int .i64 y_549.H.a0, .int .i64 y_549.H.a1, .int .i64 y_549.H.a2, .int .i64 y_549.H.a3, .int .i64 y_549.H.a4, .int .i64 y_549.H.a5, .int .i64 y_549.H.a6, .int .i64 y_549.H.a7])]) (c := [.int .i64 y_549.Kind, .int .i64 y_549.N, .string y_549.S, .int .i64 y_549.H.a0, .int .i64 y_549.H.a1, .int .i64 y_549.H.a2, .int .i64 y_549.H.a3, .int .i64 y_549.H.a4, .int .i64 y_549.H.a5, .int .i64 y_549.H.a6, .int .i64 y_549.H.a7]) [[.int .i64 y_549.Kind, .int .i64 y_549.N, .string y_549.S, .int .i64 y_549.H.a0, .int .i64 y_549.H.a1, .int .i64 y_549.H.a2, .int .i64 y_549.H.a3, .int .i64 y_549.H.a4, .int .i64 y_549.H.a5, .int .i64 y_549.H.a6, .int .i64 y_549.H.a7]] Try.underlying35 Try.sizeOf50 Try.zeroValue50 rfl (pc_cons rfl pc_nil) rfl rfl (Nat.le_of_ble_eq_true rfl) rfl (all_cons rfl (all_nil)) rfl hS hK (by decide) rfl fun a w b_558 hS hK => ?_
                  obtain ⟨y_559, h_560, H⟩ := bind_some H
                  have hS := hS.pk6
                  refine sl_append_L (ty := ty_api_Value) (ys := [y_549]) elT35 (by decide) rfl hq_510 rfl (Reps.cons (show Ty.rep ty_api_Value _ [.int .i64 y_549.Kind, .int .i64 y_549.N, .string y_549.S, .int .i64 y_549.H.a0, .int .i64 y_549.H.a1, .int .i64 y_549.H.a2, .int .i64 y_549.H.a3, .int .i64 y_549.H.a4, .int .i64 y_549.H.a5, .int .i64 y_549.H.a6, .int .i64 y_549.H.a7] y_549 from rfl) (Reps.nil _ _)) rfl h_560 hS hK (by decide) rfl rfl rfl fun a w v_561 cs_562 hq_563 hS hK => ?_
                  refine sl hK (by decide) rfl rfl (r_assign hK rfl) fun a hK => ?_
                  refine wpList_nil ?_
                  refine wp_region_lit ?_
                  refine sl hK (by decide) rfl rfl (r_ibin hK rfl rfl rfl) fun a hK => ?_
                  refine sl hK (by decide) rfl rfl (r_move hK rfl) fun a hK => ?_
                  refine wpList_nil ?_
                  have hS := hS.pk5
                  have hS := hS.pk5
                  have hS := hS.pk5
                  have hS := hS.pk5
                  have hS := hS.pk5
                  exact ⟨_, Nat.lt_succ_self _, y_559, (IntKind.i64.wrap (x_511 + 1)), _, _, H, hq_563, hK.sub (all_cons rfl (all_cons rfl (all_cons rfl (all_cons rfl (all_cons rfl (all_cons rfl (all_cons rfl (all_cons rfl (all_cons rfl (all_cons rfl (all_cons rfl (all_nil)))))))))))), hS⟩
                · rw [ifb_f hb_540] at H
                  refine wp_exit ?_
                  refine wp_region_lit ?_
                  refine sl hK (by decide) rfl rfl (r_fieldAddr Try.underlying25 rfl Try.sizeOf23 hK rfl) fun a hK => ?_
                  refine sl hK (by decide) rfl rfl (r_load Try.isAgg23 hK rfl (hS.cell (.tail _ (.tail _ (.tail _ (.head _)))) rfl)) fun a hK => ?_
                  refine sl hK (by decide) rfl rfl (r_move hK rfl) fun a hK => ?_
                  have ho_565 := hS.row_one (.tail _ (.tail _ (.tail _ (.tail _ (.tail _ (.head _))))))
                  refine sl_buildSliceF (zc := [.slice none 0 0]) (ps := [(0, v_508)]) (c := [v_508]) [[v_508]] Try.underlying23 Try.sizeOf35 Try.zeroValue35 rfl (pc_cons (cells1 ho_565) pc_nil) rfl rfl (Nat.le_of_ble_eq_true rfl) rfl (all_cons rfl (all_nil)) rfl hS hK (by decide) rfl fun a w b_566 hS hK => ?_
                  have hS := hS.pk3
                  have hS := hS.pk6
                  obtain ⟨R_567, hS, hl_569, hs_568⟩ := hS.fz_row hq_510 rfl rfl
                  have hRL := hRL.trans hl_569
                  obtain ⟨y_570, h_571, H⟩ := bind_some H
                  refine sl_append_L (ty := (tySl ty_api_Value)) (ys := [x_507]) elT23 (by decide) rfl (hq_350.mono hl_569.le) rfl (Reps.cons (show Ty.rep (tySl ty_api_Value) _ [v_508] x_507 from ⟨_, rfl, hs_568⟩) (Reps.nil _ _)) rfl h_571 hS hK (by decide) rfl rfl rfl fun a w v_572 cs_573 hq_574 hS hK => ?_
                  refine sl hK (by decide) rfl rfl (r_fieldAddr Try.underlying25 rfl Try.sizeOf23 hK rfl) fun a hK => ?_
                  have hS := hS.pk3
                  refine sl_store1 (c' := [v_84, v_572]) Try.sizeOf23 hS hK rfl rfl rfl (hS.row_one (.tail _ (.head _))) (Nat.le_of_ble_eq_true rfl) rfl fun a w hS hK => ?_
                  refine wpList_nil ?_
                  refine wp_region_lit ?_
                  refine sl hK (by decide) rfl rfl (r_ibin hK rfl rfl rfl) fun a hK => ?_
                  refine sl hK (by decide) rfl rfl (r_move hK rfl) fun a hK => ?_
                  refine wpList_nil ?_
                  have hS := hS.pk4
                  have hS := hS.pk1
                  have hS := hS.pk2
                  have hS := hS.pk4
                  have hS := hS.pk4
                  exact ⟨_, Nat.lt_succ_self _, y_570, (IntKind.i64.wrap (x_351 + 1)), _, _, _, H, (hl_353.trans hl_569), hq_574, hK.sub (all_cons rfl (all_cons rfl (all_cons rfl (all_cons rfl (all_cons rfl (all_cons rfl (all_nil))))))), hS⟩
            · rw [ifb_f hb_466] at H
              refine wp_exit ?_
              refine wp_seq ?_
              refine wp_region_lit ?_
              refine sl hK (by decide) rfl rfl (r_loadA (cs := [v_84, v_348]) Try.isAgg25 Try.sizeOf25 rfl hK rfl (hS.cells_of (m := 2) (.tail _ (.tail _ (.tail _ (.head _)))) rfl)) fun a hK => ?_
              obtain ⟨y_576, h_577, H⟩ := bind_some H
              refine sl_call Try.call20 hK (by decide) rfl rfl rfl (table_Canon.calls (⟨x_83, x_347⟩ : api_Table) (lentOf_sub [] _) hS.sub (hS.lend_row0 (.tail _ (.head _)) (hq_86.mono hl_353.le) rfl rfl) (hS.lend_row0 (.tail _ (.tail _ (.head _))) hq_350 rfl rfl) h_577) fun a v_ w hv_ hK => ?_
              obtain ⟨R_578, v_581, cs_582, v_585, cs_586, hv_, hr_, hl_579, hq_583, hq_587⟩ := hv_
              have hv_ := hv_.symm
              subst hv_
              obtain ⟨hS, hl_579⟩ := hS.sp0.back hr_ hl_579
              have hS := hS.un2
              have hRL := hRL.trans hl_579
              have hS := hS.pk2
              refine sl_storeA (vs := [v_581, v_585]) (c' := [v_581, v_585]) Try.sizeOf25 hS hK rfl rfl rfl rfl (all_cons (hS.row_one (.tail _ (.head _))) (all_cons (hS.row_one (.tail _ (.tail _ (.head _)))) (all_nil))) (Nat.le_of_ble_eq_true rfl) rfl fun a w hS hK => ?_
              refine sl hK (by decide) rfl rfl (r_assign hK rfl) fun a hK => ?_
              refine wpList_nil ?_
              obtain rfl := Option.some.inj H
              refine wp_ret ?_
              repeat (first | refine ret_then ?_ | refine ret_block ?_ | refine ret_scope ?_)
              exact ret_2 Try.results26 hK (rv_cell (c := [v_581, v_585]) Try.isAgg25 Try.sizeOf25 hS (.head _) rfl hK rfl) (rv_tmp hK rfl) ⟨_, rfl, _, _, _, _, _, rfl, (hS.pk2.pk2.trunc 2), hRL, hq_583, hq_587⟩

/-! ### slices.Equal[[]catchment/api.Col,catchment/api.Col]: function 42 -/
set_option maxHeartbeats 4000000 in
set_option maxRecDepth 100000 in
theorem slices_Equal_api_Col_api_Col.calls (a0 : List api_Col) (a1 : List api_Col) {w0 : World} {RA : Hp} {v0_0 : Value} {v1_0 : Value} (hRA : RA.sub w0) (h0_0 : SlR ty_api_Col RA v0_0 a0) (h1_0 : SlR ty_api_Col RA v1_0 a1) {r : Bool} (H : slices_Equal_api_Col_api_Col a0 a1 = some r) : CallsV Try.prog 42 #[v0_0, v1_0] w0 (.bool r) := by
  unfold slices_Equal_api_Col_api_Col at H
  refine enter (args := [v0_0, v1_0]) Try.func42 rfl Try.ntmps42 rfl fun a hK => ?_
  have hS := St.init (R := fun _ => none) (w := w0) (fun _ _ h => by cases h)
  have hRL := RLe.refl (M := []) w0 (fun _ => none)
  refine wp_seq ?_
  refine wp_region_lit ?_
  refine sl hK (by decide) rfl rfl (r_assign hK rfl) fun a hK => ?_
  refine wpList_nil ?_
  refine wp_seq ?_
  refine wp_seq ?_
  refine wp_region_lit ?_
  refine sl hK (by decide) rfl rfl (r_move hK rfl) fun a hK => ?_
  refine sl hK (by decide) rfl rfl (r_len_R Try.underlying22 h0_0 hK rfl) fun a hK => ?_
  refine sl hK (by decide) rfl rfl (r_move hK rfl) fun a hK => ?_
  refine sl hK (by decide) rfl rfl (r_len_R Try.underlying22 h1_0 hK rfl) fun a hK => ?_
  refine sl hK (by decide) rfl rfl (r_ibin hK rfl rfl rfl) fun a hK => ?_
  refine wpList_nil ?_
  refine wp_cond_split (hK.ev rfl) (fun (hb_1 : ((a0.length : Int) != (a1.length : Int)) = true) => ?_) (fun (hb_1 : ((a0.length : Int) != (a1.length : Int)) = false) => ?_)
  · rw [ifb_t hb_1] at H
    refine wp_seq ?_
    refine wp_region_lit ?_
    refine sl hK (by decide) rfl rfl (r_assign hK rfl) fun a hK => ?_
    refine wpList_nil ?_
    obtain rfl := Option.some.inj H
    refine wp_ret ?_
    repeat (first | refine ret_then ?_ | refine ret_block ?_ | refine ret_scope ?_)
    exact ret_1 Try.results42 hK (rv_tmp hK rfl) ⟨rfl, hS.bel⟩
  · rw [ifb_f hb_1] at H
    refine wp_skip ?_
    refine wp_seq ?_
    refine wp_seq ?_
    refine wp_region_lit ?_
    refine sl hK (by decide) rfl rfl (r_move hK rfl) fun a hK => ?_
    refine sl hK (by decide) rfl rfl (r_len_R Try.underlying22 h0_0 hK rfl) fun a hK => ?_
    refine sl hK (by decide) rfl rfl (r_move hK rfl) fun a hK => ?_
    refine wpList_nil ?_
    refine wp_block ?_
    refine wp_loop_k (fun k_l0 a w => ∃ (x_41 : Int), slices_Equal_api_Col_api_Col.l0 a0 a1 k_l0 x_41 = some r ∧ Kn 26 a [(0, v0_0), (1, v1_0), (12, .int .i64 (a0.length : Int)), (13, .int .i64 x_41)] ∧ St [] w0 w (fun _ => none) []) (((a0.length : Int) - 0).toNat + 1) ?_ ?_
    · exact ⟨0, H, hK.sub (all_cons rfl (all_cons rfl (all_cons rfl (all_cons rfl (all_nil))))), hS⟩
    · rintro k_l0 a w ⟨x_41, H, hK, hS⟩
      cases k_l0 with
      | zero => cases H
      | succ k_l0 =>
      rw [slices_Equal_api_Col_api_Col.l0.eq_2] at H
      refine wp_seq ?_
      refine wp_region_lit ?_
      refine sl hK (by decide) rfl rfl (r_ibin hK rfl rfl rfl) fun a hK => ?_
      refine wpList_nil ?_
      refine wp_seq ?_
      refine wp_cond_split (hK.ev rfl) (fun (hb_81 : (decide (x_41 < (a0.length : Int))) = true) => ?_) (fun (hb_81 : (decide (x_41 < (a0.length : Int))) = false) => ?_)
      · rw [ifb_t hb_81] at H
        refine wp_skip ?_
        refine wp_seq ?_
        refine wp_block ?_
        refine wp_seq ?_
        refine wp_region_lit ?_
        refine sl hK (by decide) rfl rfl (r_move hK rfl) fun a hK => ?_
        refine sl hK (by decide) rfl rfl (r_assign hK rfl) fun a hK => ?_
        refine wpList_nil ?_
        refine wp_seq ?_
        refine par_region (C := fun w => St [] w0 w (fun _ => none) []) [(0, true), (1, true), (2, true), (3, true), (4, true), (5, true), (6, true), (7, true), (8, true)] mixed (by kernel_rfl) hS (fun w hS => hS) fun w hS => ?_
        refine sp (k := 0) rfl hK (by decide) rfl rfl (fun w hS => r_move hK rfl) fun a hK => ?_
        refine sp (k := 1) rfl hK (by decide) rfl rfl (fun w hS => r_move hK rfl) fun a hK => ?_
        obtain ⟨y_100, h_101, H⟩ := bind_some H
        obtain ⟨b_102, o_103, c_104, cs_105, hv_106, hr_107, hc_108, h_1010, h_1011⟩ := h0_0.ix h_101
        subst hr_107
        refine sp (k := 2) rfl hK (by decide) rfl rfl (fun w hS => r_indexAddr_R Try.underlying22 Try.sizeOf43 hv_106 h_1010 h_1011 hK rfl rfl) fun a hK => ?_
        refine sp (k := 3) rfl hK (by decide) rfl rfl (fun w hS => r_loadA (cs := [.string y_100.Name, .int .i64 y_100.Kind]) Try.isAgg43 Try.sizeOf43 rfl hK rfl (fun j v hv => (hS.ra hRA nil_not).cell (hc_108 j v hv))) fun a hK => ?_
        refine sp (k := 4) rfl hK (by decide) rfl rfl (fun w hS => r_move hK rfl) fun a hK => ?_
        refine sp (k := 5) rfl hK (by decide) rfl rfl (fun w hS => r_move hK rfl) fun a hK => ?_
        obtain ⟨y_109, h_110, H⟩ := bind_some H
        obtain ⟨b_111, o_112, c_113, cs_114, hv_115, hr_116, hc_117, h_1100, h_1101⟩ := h1_0.ix h_110
        subst hr_116
        refine sp (k := 6) rfl hK (by decide) rfl rfl (fun w hS => r_indexAddr_R Try.underlying22 Try.sizeOf43 hv_115 h_1100 h_1101 hK rfl rfl) fun a hK => ?_
        refine sp (k := 7) rfl hK (by decide) rfl rfl (fun w hS => r_loadA (cs := [.string y_109.Name, .int .i64 y_109.Kind]) Try.isAgg43 Try.sizeOf43 rfl hK rfl (fun j v hv => (hS.ra hRA nil_not).cell (hc_117 j v hv))) fun a hK => ?_
        refine sp (k := 8) rfl hK (by decide) rfl rfl (fun w hS => r_sne (by kernel_rfl) (eqs43 y_100 y_109) hK rfl rfl) fun a hK => ?_
        refine wpPar_nil (NoP_nil ?_)
        refine wp_cond_split (hK.ev rfl) (fun (hb_118 : (!decide (y_100 = y_109)) = true) => ?_) (fun (hb_118 : (!decide (y_100 = y_109)) = false) => ?_)
        · rw [ifb_t hb_118] at H
          refine wp_seq ?_
          refine wp_region_lit ?_
          refine sl hK (by decide) rfl rfl (r_assign hK rfl) fun a hK => ?_
          refine wpList_nil ?_
          obtain rfl := Option.some.inj H
          refine wp_ret ?_
          repeat (first | refine ret_then ?_ | refine ret_block ?_ | refine ret_scope ?_)
          exact ret_1 Try.results42 hK (rv_tmp hK rfl) ⟨rfl, hS.bel⟩
        · rw [ifb_f hb_118] at H
          refine wp_skip ?_
          refine wp_region_lit ?_
          refine sl hK (by decide) rfl rfl (r_ibin hK rfl rfl rfl) fun a hK => ?_
          refine sl hK (by decide) rfl rfl (r_move hK rfl) fun a hK => ?_
          refine wpList_nil ?_
          exact ⟨_, Nat.lt_succ_self _, (IntKind.i64.wrap (x_41 + 1)), H, hK.sub (all_cons rfl (all_cons rfl (all_cons rfl (all_cons rfl (all_nil))))), hS⟩
      · rw [ifb_f hb_81] at H
        refine wp_exit ?_
        refine wp_seq ?_
        refine wp_region_lit ?_
        refine sl hK (by decide) rfl rfl (r_assign hK rfl) fun a hK => ?_
        refine wpList_nil ?_
        obtain rfl := Option.some.inj H
        refine wp_ret ?_
        repeat (first | refine ret_then ?_ | refine ret_block ?_ | refine ret_scope ?_)
        exact ret_1 Try.results42 hK (rv_tmp hK rfl) ⟨rfl, hS.bel⟩

/-! ### slices.Grow[[][]catchment/api.Value,[]catchment/api.Value]: function 52 -/
set_option maxHeartbeats 4000000 in
set_option maxRecDepth 100000 in
theorem slices_Grow_api_Value_api_Value.calls (a0 : List (List api_Value)) (a1 : Int) {w0 : World} {R RA : Hp} (hRA : RA.sub w0) (hR : R.sub w0) (h0 : SlR (tySl ty_api_Value) RA (.slice none 0 0) a0) {r : List (List api_Value)} (H : slices_Grow_api_Value_api_Value a0 a1 = some r) :
    Calls Try.prog 52 #[.slice none 0 0, .int .i64 a1] w0 (Rets fun v w' => ∃ (R' : Hp) (u0 : Value) (cu0 : List Value), v = u0 ∧ St [] w0 w' R' [.row 35 1 u0 r.length cu0] ∧ RLe [] w0 R R' ∧ Reps (tySl ty_api_Value) R' cu0 r) := by
  obtain ⟨k, rfl, hb, rfl⟩ := grow0_some H
  have hl0 : a0 = [] := by
    obtain ⟨ad, cap, h1, _⟩ := h0
    simp only [Value.slice.injEq] at h1
    exact List.eq_nil_of_length_eq_zero h1.2.1.symm
  subst hl0
  have hbig : k ≤ 140737488355328 := Nat.le_trans (Nat.le_mul_of_pos_right _ (by decide)) hb
  refine enter (args := [.slice none 0 0, .int .i64 (k : Int)]) Try.func52 rfl Try.ntmps52 rfl fun a hK => ?_
  have hS := St.init hR
  refine wp_seq ?_
  refine wp_region_lit ?_
  refine sl hK (by decide) rfl rfl (r_assign hK rfl) fun a hK => ?_
  refine wpList_nil ?_
  refine wp_seq ?_
  refine wp_seq ?_
  refine wp_region_lit ?_
  refine sl hK (by decide) rfl rfl (r_move hK rfl) fun a hK => ?_
  refine sl hK (by decide) rfl rfl (r_ibin hK rfl rfl rfl) fun a hK => ?_
  refine wpList_nil ?_
  refine wp_cond_false ((hK.ev rfl).trans (congrArg Value.bool (show decide ((k : Int) < 0) = false by simp))) ?_
  refine wp_skip ?_
  refine wp_seq ?_
  refine wp_seq ?_
  refine wp_region_lit ?_
  refine sl hK (by decide) rfl rfl (r_move hK rfl) fun a hK => ?_
  refine sl hK (by decide) rfl rfl (r_move hK rfl) fun a hK => ?_
  refine sl hK (by decide) rfl rfl (r_cap Try.underlying23 hK rfl) fun a hK => ?_
  refine sl hK (by decide) rfl rfl (r_move hK rfl) fun a hK => ?_
  refine sl hK (by decide) rfl rfl (r_len_sl Try.underlying23 hK rfl) fun a hK => ?_
  refine sl hK (by decide) rfl rfl (r_ibin (k := .i64) (v := .int .i64 0) hK rfl rfl rfl) fun a hK => ?_
  refine sl hK (by decide) rfl rfl (r_ibin (k := .i64) (v := .int .i64 (k : Int)) hK rfl rfl (by show some (Value.int .i64 (IntKind.i64.wrap ((k : Int) - 0))) = _; rw [Int.sub_zero, w64 (by omega) (by omega)])) fun a hK => ?_
  refine sl hK (by decide) rfl rfl (r_assign hK rfl) fun a hK => ?_
  refine wpList_nil ?_
  refine wp_seq ?_
  refine wp_region_lit ?_
  refine sl hK (by decide) rfl rfl (r_move hK rfl) fun a hK => ?_
  refine sl hK (by decide) rfl rfl (r_ibin hK rfl rfl rfl) fun a hK => ?_
  refine wpList_nil ?_
  by_cases hk : k = 0
  · refine wp_cond_false ((hK.ev rfl).trans (congrArg Value.bool (show decide ((k : Int) > 0) = false by simp; omega))) ?_
    refine wp_skip ?_
    refine wp_seq ?_
    refine wp_region_lit ?_
    refine sl hK (by decide) rfl rfl (r_move hK rfl) fun a hK => ?_
    refine sl hK (by decide) rfl rfl (r_assign hK rfl) fun a hK => ?_
    refine wpList_nil ?_
    refine wp_ret ?_
    repeat (first | refine ret_then ?_ | refine ret_block ?_)
    exact ret_1 Try.results52 hK (rv_tmp hK rfl) ⟨_, rfl, R, _, [], rfl, hS.row_nil 35 1, RLe.refl _ _, Reps.nil _ _⟩
  · refine wp_cond_true ((hK.ev rfl).trans (congrArg Value.bool (show decide ((k : Int) > 0) = true by simp; omega))) ?_
    refine wp_region_lit ?_
    refine sl hK (by decide) rfl rfl (r_move hK rfl) fun a hK => ?_
    refine sl hK (by decide) rfl rfl (r_move hK rfl) fun a hK => ?_
    refine sl hK (by decide) rfl rfl (r_cap Try.underlying23 hK rfl) fun a hK => ?_
    refine sl hK (by decide) rfl rfl (r_slice_H (l := 0) (h := 0) Try.underlying23 Try.sizeOf35 (Nat.le_refl _) (Nat.le_refl _) hK rfl rfl ⟨_, rfl⟩) fun a hK => ?_
    refine sl hK (by decide) rfl rfl (r_move hK rfl) fun a hK => ?_
    refine sl_append_zeros (i := 0) (k := k) (olds := []) (cap := 0) (ad := none) elT23 Try.underlying3 (by omega) (by omega) (by decide) (by simpa using hb) (by simp) (fun h => absurd rfl h) (fun h => absurd rfl h) hS hK (by decide) rfl rfl rfl fun a w b capn rest' hgn hcmn hln hS hK => ?_
    refine sl hK (by decide) rfl rfl (r_move hK rfl) fun a hK => ?_
    refine sl hK (by decide) rfl rfl (r_len_sl Try.underlying23 hK rfl) fun a hK => ?_
    refine sl hK (by decide) rfl rfl (r_slice_Hv (b := b) (o := 0) (m := 0 + k) (c := capn) (l := 0) (h := 0) (o' := 0) (m' := 0) (c' := capn) Try.underlying23 Try.sizeOf35 (by omega) (by omega) (Or.inr rfl) rfl rfl rfl hK rfl rfl ⟨_, rfl⟩) fun a hK => ?_
    refine sl hK (by decide) rfl rfl (r_assign hK rfl) fun a hK => ?_
    refine wpList_nil ?_
    refine wp_seq ?_
    refine wp_region_lit ?_
    refine sl hK (by decide) rfl rfl (r_move hK rfl) fun a hK => ?_
    refine sl hK (by decide) rfl rfl (r_assign hK rfl) fun a hK => ?_
    refine wpList_nil ?_
    refine wp_ret ?_
    repeat (first | refine ret_then ?_ | refine ret_block ?_)
    have hS := hS.raw_row (z := 1) (m := 0) (Nat.zero_le _) hcmn hln
    rw [Nat.zero_mul, List.take_zero] at hS
    exact ret_1 Try.results52 hK (rv_tmp hK rfl) ⟨_, rfl, R, _, [], rfl, hS, RLe.refl _ _, Reps.nil _ _⟩


/-! ### slices.Concat[[][]catchment/api.Value,[]catchment/api.Value]: function 45 -/
set_option maxHeartbeats 4000000 in
set_option maxRecDepth 100000 in
theorem slices_Concat_api_Value_api_Value.calls (a0 : List (List (List api_Value))) {w0 : World} {R : Hp} {v0_0 : Value} (hR : R.sub w0) (h0_0 : SlR (tySl (tySl ty_api_Value)) R v0_0 a0) {r : List (List api_Value)} (H : slices_Concat_api_Value_api_Value a0 = some r) : Calls Try.prog 45 #[v0_0] w0 (Rets fun v w' => ∃ (R' : Hp) (u0 : Value) (cu0 : List Value), v = u0 ∧ St [] w0 w' R' [.row 35 1 u0 r.length cu0] ∧ RLe [] w0 R R' ∧ Reps (tySl ty_api_Value) R' cu0 r) := by
  unfold slices_Concat_api_Value_api_Value at H
  refine enter (args := [v0_0]) Try.func45 rfl Try.ntmps45 rfl fun a hK => ?_
  have hS := St.init hR
  have hRL := RLe.refl (M := []) w0 R
  refine wp_seq ?_
  refine wp_region_lit ?_
  refine sl hK (by decide) rfl rfl (r_assign hK rfl) fun a hK => ?_
  refine wpList_nil ?_
  refine wp_seq ?_
  refine wp_region_lit ?_
  refine sl hK (by decide) rfl rfl (r_assign hK rfl) fun a hK => ?_
  refine wpList_nil ?_
  refine wp_seq ?_
  refine wp_seq ?_
  refine wp_region_lit ?_
  refine sl hK (by decide) rfl rfl (r_move hK rfl) fun a hK => ?_
  refine sl hK (by decide) rfl rfl (r_len_R Try.underlying71 h0_0 hK rfl) fun a hK => ?_
  refine sl hK (by decide) rfl rfl (r_move hK rfl) fun a hK => ?_
  refine wpList_nil ?_
  refine wp_block ?_
  refine wp_loop_k (fun k_l0 a w => ∃ (x_16 : Int) (x_17 : Int), slices_Concat_api_Value_api_Value.l0 a0 k_l0 x_16 x_17 = some r ∧ Kn 36 a [(0, v0_0), (3, .int .i64 x_16), (9, v0_0), (10, .int .i64 (a0.length : Int)), (11, .int .i64 x_17)] ∧ St [] w0 w R []) (((a0.length : Int) - 0).toNat + 1) ?_ ?_
  · exact ⟨0, 0, H, hK.sub (all_cons rfl (all_cons rfl (all_cons rfl (all_cons rfl (all_cons rfl (all_nil)))))), hS⟩
  · rintro k_l0 a w ⟨x_16, x_17, H, hK, hS⟩
    cases k_l0 with
    | zero => cases H
    | succ k_l0 =>
    rw [slices_Concat_api_Value_api_Value.l0.eq_2] at H
    refine wp_seq ?_
    refine wp_region_lit ?_
    refine sl hK (by decide) rfl rfl (r_ibin hK rfl rfl rfl) fun a hK => ?_
    refine wpList_nil ?_
    refine wp_seq ?_
    refine wp_cond_split (hK.ev rfl) (fun (hb_33 : (decide (x_17 < (a0.length : Int))) = true) => ?_) (fun (hb_33 : (decide (x_17 < (a0.length : Int))) = false) => ?_)
    · rw [ifb_t hb_33] at H
      refine wp_skip ?_
      refine wp_seq ?_
      refine wp_block ?_
      refine wp_seq ?_
      refine wp_region_lit ?_
      obtain ⟨y_34, h_35, H⟩ := bind_some H
      obtain ⟨b_36, o_37, c_38, cs_39, hv_40, hr_41, hc_42, h_350, h_351⟩ := h0_0.ix h_35
      obtain ⟨v_43, rfl, hs_44⟩ := hr_41
      refine sl hK (by decide) rfl rfl (r_indexAddr_R Try.underlying71 Try.sizeOf23 hv_40 h_350 h_351 hK rfl rfl) fun a hK => ?_
      refine sl hK (by decide) rfl rfl (r_load Try.isAgg23 hK rfl (hS.sub.cell (hc_42 0 _ rfl))) fun a hK => ?_
      refine sl hK (by decide) rfl rfl (r_assign hK rfl) fun a hK => ?_
      refine wpList_nil ?_
      refine wp_seq ?_
      refine wp_region_lit ?_
      refine sl hK (by decide) rfl rfl (r_move hK rfl) fun a hK => ?_
      refine sl hK (by decide) rfl rfl (r_move hK rfl) fun a hK => ?_
      refine sl hK (by decide) rfl rfl (r_len_R Try.underlying23 hs_44 hK rfl) fun a hK => ?_
      refine sl hK (by decide) rfl rfl (r_ibin hK rfl rfl rfl) fun a hK => ?_
      refine sl hK (by decide) rfl rfl (r_assign hK rfl) fun a hK => ?_
      refine wpList_nil ?_
      refine wp_seq ?_
      refine wp_region_lit ?_
      refine sl hK (by decide) rfl rfl (r_move hK rfl) fun a hK => ?_
      refine sl hK (by decide) rfl rfl (r_ibin hK rfl rfl rfl) fun a hK => ?_
      refine wpList_nil ?_
      refine wp_cond_split (hK.ev rfl) (fun (hb_46 : (decide ((IntKind.i64.wrap (x_16 + (y_34.length : Int))) < 0)) = true) => ?_) (fun (hb_46 : (decide ((IntKind.i64.wrap (x_16 + (y_34.length : Int))) < 0)) = false) => ?_)
      · rw [ifb_t hb_46] at H
        refine wp_region_lit ?_
        cases H
      · rw [ifb_f hb_46] at H
        refine wp_skip ?_
        refine wp_region_lit ?_
        refine sl hK (by decide) rfl rfl (r_ibin hK rfl rfl rfl) fun a hK => ?_
        refine sl hK (by decide) rfl rfl (r_move hK rfl) fun a hK => ?_
        refine wpList_nil ?_
        exact ⟨_, Nat.lt_succ_self _, (IntKind.i64.wrap (x_16 + (y_34.length : Int))), (IntKind.i64.wrap (x_17 + 1)), H, hK.sub (all_cons rfl (all_cons rfl (all_cons rfl (all_cons rfl (all_cons rfl (all_nil)))))), hS⟩
    · rw [ifb_f hb_33] at H
      refine wp_exit ?_
      refine wp_seq ?_
      refine wp_region_lit ?_
      refine sl hK (by decide) rfl rfl (r_move hK rfl) fun a hK => ?_
      obtain ⟨y_47, h_48, H⟩ := bind_some H
      refine sl_call Try.call52 hK (by decide) rfl rfl rfl (slices_Grow_api_Value_api_Value.calls ([] : List (List api_Value)) x_16 (lentOf_sub [] _) hS.sub (SlR.nil (tySl ty_api_Value) _) h_48) fun a v_ w hv_ hK => ?_
      obtain ⟨R_49, v_52, cs_53, hv_, hr_, hl_50, hq_54⟩ := hv_
      have hv_ := hv_.symm
      subst hv_
      obtain ⟨hS, hl_50⟩ := hS.sp0.back hr_ hl_50
      have hS := hS.un1
      have hRL := hRL.trans hl_50
      refine sl hK (by decide) rfl rfl (r_assign hK rfl) fun a hK => ?_
      refine wpList_nil ?_
      refine wp_seq ?_
      refine wp_seq ?_
      refine wp_region_lit ?_
      refine sl hK (by decide) rfl rfl (r_move hK rfl) fun a hK => ?_
      refine sl hK (by decide) rfl rfl (r_len_R Try.underlying71 h0_0 hK rfl) fun a hK => ?_
      refine sl hK (by decide) rfl rfl (r_move hK rfl) fun a hK => ?_
      refine wpList_nil ?_
      refine wp_block ?_
      refine wp_loop_k (fun k_l1 a w => ∃ (x_75 : List (List api_Value)) (x_79 : Int) (v_76 : Value) (cs_77 : List Value), slices_Concat_api_Value_api_Value.l1 a0 k_l1 x_75 x_79 = some r ∧ Reps (tySl ty_api_Value) R_49 cs_77 x_75 ∧ Kn 36 a [(6, v_76), (25, v0_0), (26, .int .i64 (a0.length : Int)), (27, .int .i64 x_79)] ∧ St [] w0 w R_49 [.row 35 1 v_76 x_75.length cs_77]) (((a0.length : Int) - 0).toNat + 1) ?_ ?_
      · exact ⟨y_47, 0, _, _, H, hq_54, hK.sub (all_cons rfl (all_cons rfl (all_cons rfl (all_cons rfl (all_nil))))), hS⟩
      · rintro k_l1 a w ⟨x_75, x_79, v_76, cs_77, H, hq_78, hK, hS⟩
        cases k_l1 with
        | zero => cases H
        | succ k_l1 =>
        rw [slices_Concat_api_Value_api_Value.l1.eq_2] at H
        refine wp_seq ?_
        refine wp_region_lit ?_
        refine sl hK (by decide) rfl rfl (r_ibin hK rfl rfl rfl) fun a hK => ?_
        refine wpList_nil ?_
        refine wp_seq ?_
        refine wp_cond_split (hK.ev rfl) (fun (hb_99 : (decide (x_79 < (a0.length : Int))) = true) => ?_) (fun (hb_99 : (decide (x_79 < (a0.length : Int))) = false) => ?_)
        · rw [ifb_t hb_99] at H
          refine wp_skip ?_
          refine wp_seq ?_
          refine wp_block ?_
          refine wp_seq ?_
          refine wp_region_lit ?_
          obtain ⟨y_100, h_101, H⟩ := bind_some H
          obtain ⟨b_102, o_103, c_104, cs_105, hv_106, hr_107, hc_108, h_1010, h_1011⟩ := h0_0.ix h_101
          obtain ⟨v_109, rfl, hs_110⟩ := hr_107
          refine sl hK (by decide) rfl rfl (r_indexAddr_R Try.underlying71 Try.sizeOf23 hv_106 h_1010 h_1011 hK rfl rfl) fun a hK => ?_
          refine sl hK (by decide) rfl rfl (r_load Try.isAgg23 hK rfl ((hS.sub.le hl_50.le).cell (hc_108 0 _ rfl))) fun a hK => ?_
          refine sl hK (by decide) rfl rfl (r_assign hK rfl) fun a hK => ?_
          refine wpList_nil ?_
          refine wp_region_lit ?_
          refine sl hK (by decide) rfl rfl (r_move hK rfl) fun a hK => ?_
          refine sl hK (by decide) rfl rfl (r_move hK rfl) fun a hK => ?_
          obtain ⟨y_111, h_112, H⟩ := bind_some H
          refine sl_append_R elT23 (by decide) rfl hq_78 rfl (hs_110.mono hl_50.le) h_112 hS hK (by decide) rfl rfl rfl fun a w v_113 cs_114 hq_115 hS hK => ?_
          refine sl hK (by decide) rfl rfl (r_assign hK rfl) fun a hK => ?_
          refine wpList_nil ?_
          refine wp_region_lit ?_
          refine sl hK (by decide) rfl rfl (r_ibin hK rfl rfl rfl) fun a hK => ?_
          refine sl hK (by decide) rfl rfl (r_move hK rfl) fun a hK => ?_
          refine wpList_nil ?_
          exact ⟨_, Nat.lt_succ_self _, y_111, (IntKind.i64.wrap (x_79 + 1)), _, _, H, hq_115, hK.sub (all_cons rfl (all_cons rfl (all_cons rfl (all_cons rfl (all_nil))))), hS⟩
        · rw [ifb_f hb_99] at H
          refine wp_exit ?_
          refine wp_seq ?_
          refine wp_region_lit ?_
          refine sl hK (by decide) rfl rfl (r_move hK rfl) fun a hK => ?_
          refine sl hK (by decide) rfl rfl (r_assign hK rfl) fun a hK => ?_
          refine wpList_nil ?_
          obtain rfl := Option.some.inj H
          refine wp_ret ?_
          repeat (first | refine ret_then ?_ | refine ret_block ?_ | refine ret_scope ?_)
          exact ret_1 Try.results45 hK (rv_tmp hK rfl) ⟨_, rfl, _, _, _, rfl, hS, hRL, hq_78⟩

/-! ### catchment/table.Union: function 24 -/
set_option maxHeartbeats 4000000 in
set_option maxRecDepth 100000 in
theorem table_Union.calls (a0 : api_Table) (a1 : api_Table) {w0 : World} {R : Hp} {v0_0 : Value} {v0_1 : Value} {v1_0 : Value} {v1_1 : Value} (hR : R.sub w0) (h0_0 : SlR ty_api_Col R v0_0 a0.Cols) (h0_1 : SlR (tySl ty_api_Value) R v0_1 a0.Rows) (h1_0 : SlR ty_api_Col R v1_0 a1.Cols) (h1_1 : SlR (tySl ty_api_Value) R v1_1 a1.Rows) {r : api_Table × Int} (H : table_Union a0 a1 = some r) : Calls Try.prog 24 #[.agg #[v0_0, v0_1], .agg #[v1_0, v1_1]] w0 (Rets fun v w' => ∃ (R' : Hp) (u0 : Value) (cu0 : List Value) (u1 : Value) (cu1 : List Value), v = .tuple #[.agg #[u0, u1], .int .i64 r.2] ∧ St [] w0 w' R' [.row 43 2 u0 r.1.Cols.length cu0, .row 35 1 u1 r.1.Rows.length cu1] ∧ RLe [] w0 R R' ∧ Reps ty_api_Col R' cu0 r.1.Cols ∧ Reps (tySl ty_api_Value) R' cu1 r.1.Rows) := by
  unfold table_Union at H
  refine enter (args := [.agg #[v0_0, v0_1], .agg #[v1_0, v1_1]]) Try.func24 rfl Try.ntmps24 rfl fun a hK => ?_
  have hS := St.init hR
  have hRL := RLe.refl (M := []) w0 R
  refine wp_seq ?_
  refine wp_region_lit ?_
  refine sl_box hS hK (by decide) rfl rfl (c := [v0_0, v0_1]) rfl fun a w b_1 hS hK => ?_
  refine sl_box hS hK (by decide) rfl rfl (c := [v1_0, v1_1]) rfl fun a w b_2 hS hK => ?_
  refine sl_alloc Try.zeroValue25 hS hK (by decide) rfl rfl fun a w b_3 hS hK => ?_
  refine sl hK (by decide) rfl rfl (r_assign hK rfl) fun a hK => ?_
  refine wpList_nil ?_
  refine wp_seq ?_
  refine wp_seq ?_
  refine wp_region_lit ?_
  refine sl hK (by decide) rfl rfl (r_loadA (cs := [v0_0, v0_1]) Try.isAgg25 Try.sizeOf25 rfl hK rfl (hS.cells_of (m := 2) (.tail _ (.tail _ (.head _))) rfl)) fun a hK => ?_
  refine sl hK (by decide) rfl rfl (r_loadA (cs := [v1_0, v1_1]) Try.isAgg25 Try.sizeOf25 rfl hK rfl (hS.cells_of (m := 2) (.tail _ (.head _)) rfl)) fun a hK => ?_
  refine sl_buildSliceF (zc := [.slice none 0 0, .slice none 0 0]) (ps := [(0, .agg #[v0_0, v0_1]), (1, .agg #[v1_0, v1_1])]) (c := [v0_0, v0_1, v1_0, v1_1]) [[v0_0, v0_1], [v1_0, v1_1]] Try.underlying63 Try.sizeOf25 Try.zeroValue25 rfl (pc_cons rfl (pc_cons rfl pc_nil)) rfl rfl (Nat.le_of_ble_eq_true rfl) rfl (all_cons rfl (all_cons rfl (all_nil))) rfl hS hK (by decide) rfl fun a w b_4 hS hK => ?_
  refine sl hK (by decide) rfl rfl (r_len_sl Try.underlying63 hK rfl) fun a hK => ?_
  refine sl hK (by decide) rfl rfl (r_move hK rfl) fun a hK => ?_
  refine wpList_nil ?_
  refine wp_block ?_
  refine wp_loop_k (fun k_l0 a w => ∃ (x_32 : List api_Table) (x_36 : Int) (v_33 : Value) (cs_34 : List Value), table_Union.l0 a0 a1 k_l0 x_32 x_36 = some r ∧ Reps ty_api_Table R cs_34 x_32 ∧ Kn 41 a [(2, .pointer (some ⟨b_1, 0, none⟩)), (3, .pointer (some ⟨b_2, 0, none⟩)), (4, .pointer (some ⟨b_3, 0, none⟩)), (11, v_33), (12, .int .i64 2), (13, .int .i64 x_36)] ∧ St [] w0 w R [.cells b_1 [v0_0, v0_1] 25, .cells b_2 [v1_0, v1_1] 25, .cells b_3 [.slice none 0 0, .slice none 0 0] 25, .row 25 2 v_33 x_32.length cs_34]) (((2 : Int) - 0).toNat + 1) ?_ ?_
  · have hS := hS.row_lit (size := 2) (m := 2) rfl (by decide)
    have hq_60 : Reps ty_api_Table R [v0_0, v0_1, v1_0, v1_1] [a0, a1] := (Reps.cons (show Ty.rep ty_api_Table _ [v0_0, v0_1] a0 from ⟨_, _, rfl, h0_0, h0_1⟩) (Reps.cons (show Ty.rep ty_api_Table _ [v1_0, v1_1] a1 from ⟨_, _, rfl, h1_0, h1_1⟩) (Reps.nil _ _)))
    have hS := hS.pk1
    have hS := hS.pk2
    have hS := hS.pk3
    exact ⟨[a0, a1], 0, _, _, H, hq_60, hK.sub (all_cons rfl (all_cons rfl (all_cons rfl (all_cons rfl (all_cons rfl (all_cons rfl (all_nil))))))), hS⟩
  · rintro k_l0 a w ⟨x_32, x_36, v_33, cs_34, H, hq_35, hK, hS⟩
    cases k_l0 with
    | zero => cases H
    | succ k_l0 =>
    rw [table_Union.l0.eq_2] at H
    refine wp_seq ?_
    refine wp_region_lit ?_
    refine sl hK (by decide) rfl rfl (r_ibin hK rfl rfl rfl) fun a hK => ?_
    refine wpList_nil ?_
    refine wp_seq ?_
    refine wp_cond_split (hK.ev rfl) (fun (hb_61 : (decide (x_36 < 2)) = true) => ?_) (fun (hb_61 : (decide (x_36 < 2)) = false) => ?_)
    · rw [ifb_t hb_61] at H
      refine wp_skip ?_
      refine wp_seq ?_
      refine wp_block ?_
      refine wp_seq ?_
      refine wp_region_lit ?_
      obtain ⟨y_62, h_63, H⟩ := bind_some H
      obtain ⟨b_65, c_66, cs_67, hv_64, hr_68, hc_69, h_630, h_631⟩ := hS.row_ix (.tail _ (.tail _ (.tail _ (.head _)))) hq_35 rfl rfl h_63
      obtain ⟨v_70, v_72, rfl, hs_71, hs_73⟩ := hr_68
      refine sl hK (by decide) rfl rfl (r_indexAddr_R Try.underlying63 Try.sizeOf25 hv_64 h_630 h_631 hK rfl rfl) fun a hK => ?_
      refine sl hK (by decide) rfl rfl (r_loadA (cs := [v_70, v_72]) Try.isAgg25 Try.sizeOf25 rfl hK rfl (fun j v hv => by have := hS.row_cell (.tail _ (.tail _ (.tail _ (.head _)))) hv_64 (hc_69 j v hv); simpa [Nat.add_assoc] using this)) fun a hK => ?_
      refine sl_alloc Try.zeroValue25 hS hK (by decide) rfl rfl fun a w b_74 hS hK => ?_
      refine sl_storeA (vs := [v_70, v_72]) (c' := [v_70, v_72]) Try.sizeOf25 hS hK rfl rfl rfl rfl (all_cons hs_71.one (all_cons hs_73.one (all_nil))) (Nat.le_of_ble_eq_true rfl) rfl fun a w hS hK => ?_
      refine wpList_nil ?_
      refine wp_seq ?_
      refine wp_region_lit ?_
      refine sl hK (by decide) rfl rfl (r_loadA (cs := [v_70, v_72]) Try.isAgg25 Try.sizeOf25 rfl hK rfl (hS.cells_of (m := 2) (.head _) rfl)) fun a hK => ?_
      obtain ⟨y_75, h_76, H⟩ := bind_some H
      refine sl_callV Try.call13 hS hK (by decide) rfl rfl rfl (table_Check.calls y_62 (lentOf_sub [] _) (hs_71.mono hS.rLe0) (hs_73.mono hS.rLe0) h_76) fun a w hS hK => ?_
      refine sl hK (by decide) rfl rfl (r_assign hK rfl) fun a hK => ?_
      refine wpList_nil ?_
      refine wp_seq ?_
      refine wp_region_lit ?_
      refine sl hK (by decide) rfl rfl (r_move hK rfl) fun a hK => ?_
      refine sl hK (by decide) rfl rfl (r_ibin hK rfl rfl rfl) fun a hK => ?_
      refine wpList_nil ?_
      refine wp_cond_split (hK.ev rfl) (fun (hb_77 : (y_75 != 0) = true) => ?_) (fun (hb_77 : (y_75 != 0) = false) => ?_)
      · rw [ifb_t hb_77] at H
        refine wp_seq ?_
        refine wp_region_lit ?_
        refine sl hK (by decide) rfl rfl (r_buildC (ps := []) (c := [.slice none 0 0, .slice none 0 0]) Try.underlying25 Try.zeroValue25 places25 hK rfl pc_nil rfl rfl) fun a hK => ?_
        refine sl hK (by decide) rfl rfl (r_move hK rfl) fun a hK => ?_
        have hS := hS.pk3
        refine sl_storeA (vs := [.slice none 0 0, .slice none 0 0]) (c' := [.slice none 0 0, .slice none 0 0]) Try.sizeOf25 hS hK rfl rfl rfl rfl (all_cons rfl (all_cons rfl (all_nil))) (Nat.le_of_ble_eq_true rfl) rfl fun a w hS hK => ?_
        refine sl hK (by decide) rfl rfl (r_assign hK rfl) fun a hK => ?_
        refine wpList_nil ?_
        have hS := hS.row_nil 43 2
        have hq_79 : Reps ty_api_Col R [] ([] : List api_Col) := Reps.nil _ _
        have hS := hS.row_nil 35 1
        have hq_81 : Reps (tySl ty_api_Value) R [] ([] : List (List api_Value)) := Reps.nil _ _
        obtain rfl := Option.some.inj H
        refine wp_ret ?_
        repeat (first | refine ret_then ?_ | refine ret_block ?_ | refine ret_scope ?_)
        exact ret_2 Try.results24 hK (rv_cell (c := [(.slice none 0 0), (.slice none 0 0)]) Try.isAgg25 Try.sizeOf25 hS (.tail _ (.tail _ (.head _))) rfl hK rfl) (rv_tmp hK rfl) ⟨_, rfl, _, _, _, _, _, rfl, (hS.pk1.trunc 2), hRL, hq_79, hq_81⟩
      · rw [ifb_f hb_77] at H
        refine wp_skip ?_
        refine wp_region_lit ?_
        refine sl hK (by decide) rfl rfl (r_ibin hK rfl rfl rfl) fun a hK => ?_
        refine sl hK (by decide) rfl rfl (r_move hK rfl) fun a hK => ?_
        refine wpList_nil ?_
        have hS := hS.pk4
        have hS := hS.pk4
        have hS := hS.pk4
        have hS := hS.pk4
        exact ⟨_, Nat.lt_succ_self _, x_32, (IntKind.i64.wrap (x_36 + 1)), _, _, H, hq_35, hK.sub (all_cons rfl (all_cons rfl (all_cons rfl (all_cons rfl (all_cons rfl (all_cons rfl (all_nil))))))), hS.trunc 4⟩
    · rw [ifb_f hb_61] at H
      refine wp_exit ?_
      refine wp_seq ?_
      refine wp_seq ?_
      refine wp_region_lit ?_
      refine sl hK (by decide) rfl rfl (r_fieldAddr Try.underlying25 rfl Try.sizeOf22 hK rfl) fun a hK => ?_
      refine sl hK (by decide) rfl rfl (r_load Try.isAgg22 hK rfl (hS.cell (.head _) rfl)) fun a hK => ?_
      refine sl hK (by decide) rfl rfl (r_fieldAddr Try.underlying25 rfl Try.sizeOf22 hK rfl) fun a hK => ?_
      refine sl hK (by decide) rfl rfl (r_load Try.isAgg22 hK rfl (hS.cell (.tail _ (.head _)) rfl)) fun a hK => ?_
      obtain ⟨y_82, h_83, H⟩ := bind_some H
      refine sl_callV Try.call42 hS hK (by decide) rfl rfl rfl (slices_Equal_api_Col_api_Col.calls a0.Cols a1.Cols (lentOf_sub [] _) (h0_0.mono hS.rLe0) (h1_0.mono hS.rLe0) h_83) fun a w hS hK => ?_
      refine sl hK (by decide) rfl rfl (r_un hK rfl (u_not _)) fun a hK => ?_
      refine wpList_nil ?_
      refine wp_cond_split (hK.ev rfl) (fun (hb_84 : (!y_82) = true) => ?_) (fun (hb_84 : (!y_82) = false) => ?_)
      · rw [ifb_t hb_84] at H
        refine wp_seq ?_
        refine wp_region_lit ?_
        refine sl hK (by decide) rfl rfl (r_buildC (ps := []) (c := [.slice none 0 0, .slice none 0 0]) Try.underlying25 Try.zeroValue25 places25 hK rfl pc_nil rfl rfl) fun a hK => ?_
        have hS := hS.pk2
        refine sl_storeA (vs := [.slice none 0 0, .slice none 0 0]) (c' := [.slice none 0 0, .slice none 0 0]) Try.sizeOf25 hS hK rfl rfl rfl rfl (all_cons rfl (all_cons rfl (all_nil))) (Nat.le_of_ble_eq_true rfl) rfl fun a w hS hK => ?_
        refine sl hK (by decide) rfl rfl (r_assign hK rfl) fun a hK => ?_
        refine wpList_nil ?_
        have hS := hS.row_nil 43 2
        have hq_86 : Reps ty_api_Col R [] ([] : List api_Col) := Reps.nil _ _
        have hS := hS.row_nil 35 1
        have hq_88 : Reps (tySl ty_api_Value) R [] ([] : List (List api_Value)) := Reps.nil _ _
        obtain rfl := Option.some.inj H
        refine wp_ret ?_
        repeat (first | refine ret_then ?_ | refine ret_block ?_ | refine ret_scope ?_)
        exact ret_2 Try.results24 hK (rv_cell (c := [(.slice none 0 0), (.slice none 0 0)]) Try.isAgg25 Try.sizeOf25 hS (.tail _ (.tail _ (.head _))) rfl hK rfl) (rv_tmp hK rfl) ⟨_, rfl, _, _, _, _, _, rfl, (hS.pk1.trunc 2), hRL, hq_86, hq_88⟩
      · rw [ifb_f hb_84] at H
        refine wp_skip ?_
        refine wp_seq ?_
        refine parT_region (C := fun w => St [] w0 w R [.cells b_1 [v0_0, v0_1] 25, .cells b_2 [v1_0, v1_1] 25, .cells b_3 [.slice none 0 0, .slice none 0 0] 25, .row 25 2 v_33 x_32.length cs_34]) 8 [(0, true), (1, true), (2, true), (3, true), (4, true), (5, true), (6, false), (7, false)] mixed (by kernel_rfl) hS (fun w hS => hS) fun w hS => ?_
        refine sp (k := 0) rfl hK (by decide) rfl rfl (fun w hS => r_fieldAddr Try.underlying25 rfl Try.sizeOf22 hK rfl) fun a hK => ?_
        refine sp (k := 1) rfl hK (by decide) rfl rfl (fun w hS => r_load Try.isAgg22 hK rfl (hS.cell (.head _) rfl)) fun a hK => ?_
        refine sp (k := 2) rfl hK (by decide) rfl rfl (fun w hS => r_fieldAddr Try.underlying25 rfl Try.sizeOf23 hK rfl) fun a hK => ?_
        refine sp (k := 3) rfl hK (by decide) rfl rfl (fun w hS => r_load Try.isAgg23 hK rfl (hS.cell (.head _) rfl)) fun a hK => ?_
        refine sp (k := 4) rfl hK (by decide) rfl rfl (fun w hS => r_fieldAddr Try.underlying25 rfl Try.sizeOf23 hK rfl) fun a hK => ?_
        refine sp (k := 5) rfl hK (by decide) rfl rfl (fun w hS => r_load Try.isAgg23 hK rfl (hS.cell (.tail _ (.head _)) rfl)) fun a hK => ?_
        refine spw (k := 6) rfl rfl hS ?_
        refine sl_buildSliceF (zc := [.slice none 0 0]) (ps := [(0, v0_1), (1, v1_1)]) (c := [v0_1, v1_1]) [[v0_1], [v1_1]] Try.underlying71 Try.sizeOf23 Try.zeroValue23 rfl (pc_cons (cells1 h0_1.one) (pc_cons (cells1 h1_1.one) pc_nil)) rfl rfl (Nat.le_of_ble_eq_true rfl) rfl (all_cons rfl (all_cons rfl (all_nil))) rfl hS hK (by decide) rfl fun a w b_114 hS hK => ?_
        refine parK_nil (hS.pk4.pk4.pk4.pk4.trunc 4) ?_
        refine spw (k := 7) rfl rfl (hS.pk4.pk4.pk4.pk4.trunc 4) ?_
        obtain ⟨R_115, hS, hl_117, hs_116⟩ := hS.fz_lit (ty := (tySl (tySl ty_api_Value))) (xs := [a0.Rows, a1.Rows]) (Reps.cons (show Ty.rep (tySl (tySl ty_api_Value)) _ [v0_1] a0.Rows from ⟨_, rfl, h0_1⟩) (Reps.cons (show Ty.rep (tySl (tySl ty_api_Value)) _ [v1_1] a1.Rows from ⟨_, rfl, h1_1⟩) (Reps.nil _ _))) rfl
        have hRL := hRL.trans hl_117
        obtain ⟨y_118, h_119, H⟩ := bind_some H
        refine sl_call Try.call45 hK (by decide) rfl rfl rfl (slices_Concat_api_Value_api_Value.calls [a0.Rows, a1.Rows] hS.sub hs_116 h_119) fun a v_ w hv_ hK => ?_
        obtain ⟨R_120, v_123, cs_124, hv_, hr_, hl_121, hq_125⟩ := hv_
        have hv_ := hv_.symm
        subst hv_
        obtain ⟨hS, hl_121⟩ := hS.sp0.back hr_ hl_121
        have hS := hS.un1
        have hRL := hRL.trans hl_121
        refine parK_nil ((hS.pk4.pk4.pk4.pk4.trunc 4).lower (hl_117.le.trans hl_121.le)) ?_
        refine thenL_nil ?_
        have ho_126 := hS.row_one (.head _)
        refine sl hK (by decide) rfl rfl (r_buildC (ps := [(0, v0_0), (1, v_123)]) (c := [v0_0, v_123]) Try.underlying25 Try.zeroValue25 places25 hK rfl (pc_cons (cells1 h0_0.one) (pc_cons (cells1 ho_126) pc_nil)) rfl rfl) fun a hK => ?_
        obtain ⟨y_127, h_128, H⟩ := bind_some H
        refine sl_call Try.call20 hK (by decide) rfl rfl rfl (table_Canon.calls (⟨a0.Cols, y_118⟩ : api_Table) (lentOf_sub [] _) hS.sub (h0_0.mono ((hl_117.le.trans hl_121.le).trans hS.rLe0)) (hS.lend_row0 (.head _) hq_125 rfl rfl) h_128) fun a v_ w hv_ hK => ?_
        obtain ⟨R_129, v_132, cs_133, v_136, cs_137, hv_, hr_, hl_130, hq_134, hq_138⟩ := hv_
        have hv_ := hv_.symm
        subst hv_
        obtain ⟨hS, hl_130⟩ := hS.sp0.back hr_ hl_130
        have hS := hS.un2
        have hRL := hRL.trans hl_130
        have hS := hS.pk5
        refine sl_storeA (vs := [v_132, v_136]) (c' := [v_132, v_136]) Try.sizeOf25 hS hK rfl rfl rfl rfl (all_cons (hS.row_one (.tail _ (.head _))) (all_cons (hS.row_one (.tail _ (.tail _ (.head _)))) (all_nil))) (Nat.le_of_ble_eq_true rfl) rfl fun a w hS hK => ?_
        refine sl hK (by decide) rfl rfl (r_assign hK rfl) fun a hK => ?_
        refine wpList_nil (NoP_nil ?_)
        obtain rfl := Option.some.inj H
        refine wp_ret ?_
        repeat (first | refine ret_then ?_ | refine ret_block ?_ | refine ret_scope ?_)
        exact ret_2 Try.results24 hK (rv_cell (c := [v_132, v_136]) Try.isAgg25 Try.sizeOf25 hS (.head _) rfl hK rfl) (rv_tmp hK rfl) ⟨_, rfl, _, _, _, _, _, rfl, (hS.pk2.pk2.trunc 2), hRL, hq_134, hq_138⟩

/-! ### slices.Equal[[]catchment/api.Value,catchment/api.Value]: function 44 -/
set_option maxHeartbeats 4000000 in
set_option maxRecDepth 100000 in
theorem slices_Equal_api_Value_api_Value.calls (a0 : List api_Value) (a1 : List api_Value) {w0 : World} {RA : Hp} {v0_0 : Value} {v1_0 : Value} (hRA : RA.sub w0) (h0_0 : SlR ty_api_Value RA v0_0 a0) (h1_0 : SlR ty_api_Value RA v1_0 a1) {r : Bool} (H : slices_Equal_api_Value_api_Value a0 a1 = some r) : CallsV Try.prog 44 #[v0_0, v1_0] w0 (.bool r) := by
  unfold slices_Equal_api_Value_api_Value at H
  refine enter (args := [v0_0, v1_0]) Try.func44 rfl Try.ntmps44 rfl fun a hK => ?_
  have hS := St.init (R := fun _ => none) (w := w0) (fun _ _ h => by cases h)
  have hRL := RLe.refl (M := []) w0 (fun _ => none)
  refine wp_seq ?_
  refine wp_region_lit ?_
  refine sl hK (by decide) rfl rfl (r_assign hK rfl) fun a hK => ?_
  refine wpList_nil ?_
  refine wp_seq ?_
  refine wp_seq ?_
  refine wp_region_lit ?_
  refine sl hK (by decide) rfl rfl (r_move hK rfl) fun a hK => ?_
  refine sl hK (by decide) rfl rfl (r_len_R Try.underlying35 h0_0 hK rfl) fun a hK => ?_
  refine sl hK (by decide) rfl rfl (r_move hK rfl) fun a hK => ?_
  refine sl hK (by decide) rfl rfl (r_len_R Try.underlying35 h1_0 hK rfl) fun a hK => ?_
  refine sl hK (by decide) rfl rfl (r_ibin hK rfl rfl rfl) fun a hK => ?_
  refine wpList_nil ?_
  refine wp_cond_split (hK.ev rfl) (fun (hb_1 : ((a0.length : Int) != (a1.length : Int)) = true) => ?_) (fun (hb_1 : ((a0.length : Int) != (a1.length : Int)) = false) => ?_)
  · rw [ifb_t hb_1] at H
    refine wp_seq ?_
    refine wp_region_lit ?_
    refine sl hK (by decide) rfl rfl (r_assign hK rfl) fun a hK => ?_
    refine wpList_nil ?_
    obtain rfl := Option.some.inj H
    refine wp_ret ?_
    repeat (first | refine ret_then ?_ | refine ret_block ?_ | refine ret_scope ?_)
    exact ret_1 Try.results44 hK (rv_tmp hK rfl) ⟨rfl, hS.bel⟩
  · rw [ifb_f hb_1] at H
    refine wp_skip ?_
    refine wp_seq ?_
    refine wp_seq ?_
    refine wp_region_lit ?_
    refine sl hK (by decide) rfl rfl (r_move hK rfl) fun a hK => ?_
    refine sl hK (by decide) rfl rfl (r_len_R Try.underlying35 h0_0 hK rfl) fun a hK => ?_
    refine sl hK (by decide) rfl rfl (r_move hK rfl) fun a hK => ?_
    refine wpList_nil ?_
    refine wp_block ?_
    refine wp_loop_k (fun k_l0 a w => ∃ (x_41 : Int), slices_Equal_api_Value_api_Value.l0 a0 a1 k_l0 x_41 = some r ∧ Kn 26 a [(0, v0_0), (1, v1_0), (12, .int .i64 (a0.length : Int)), (13, .int .i64 x_41)] ∧ St [] w0 w (fun _ => none) []) (((a0.length : Int) - 0).toNat + 1) ?_ ?_
    · exact ⟨0, H, hK.sub (all_cons rfl (all_cons rfl (all_cons rfl (all_cons rfl (all_nil))))), hS⟩
    · rintro k_l0 a w ⟨x_41, H, hK, hS⟩
      cases k_l0 with
      | zero => cases H
      | succ k_l0 =>
      rw [slices_Equal_api_Value_api_Value.l0.eq_2] at H
      refine wp_seq ?_
      refine wp_region_lit ?_
      refine sl hK (by decide) rfl rfl (r_ibin hK rfl rfl rfl) fun a hK => ?_
      refine wpList_nil ?_
      refine wp_seq ?_
      refine wp_cond_split (hK.ev rfl) (fun (hb_81 : (decide (x_41 < (a0.length : Int))) = true) => ?_) (fun (hb_81 : (decide (x_41 < (a0.length : Int))) = false) => ?_)
      · rw [ifb_t hb_81] at H
        refine wp_skip ?_
        refine wp_seq ?_
        refine wp_block ?_
        refine wp_seq ?_
        refine wp_region_lit ?_
        refine sl hK (by decide) rfl rfl (r_move hK rfl) fun a hK => ?_
        refine sl hK (by decide) rfl rfl (r_assign hK rfl) fun a hK => ?_
        refine wpList_nil ?_
        refine wp_seq ?_
        refine par_region (C := fun w => St [] w0 w (fun _ => none) []) [(0, true), (1, true), (2, true), (3, true), (4, true), (5, true), (6, true), (7, true), (8, true)] mixed (by kernel_rfl) hS (fun w hS => hS) fun w hS => ?_
        refine sp (k := 0) rfl hK (by decide) rfl rfl (fun w hS => r_move hK rfl) fun a hK => ?_
        refine sp (k := 1) rfl hK (by decide) rfl rfl (fun w hS => r_move hK rfl) fun a hK => ?_
        obtain ⟨y_100, h_101, H⟩ := bind_some H
        obtain ⟨b_102, o_103, c_104, cs_105, hv_106, hr_107, hc_108, h_1010, h_1011⟩ := h0_0.ix h_101
        subst hr_107
        refine sp (k := 2) rfl hK (by decide) rfl rfl (fun w hS => r_indexAddr_R Try.underlying35 Try.sizeOf50 hv_106 h_1010 h_1011 hK rfl rfl) fun a hK => ?_
        refine sp (k := 3) rfl hK (by decide) rfl rfl (fun w hS => r_loadA (cs := [.int .i64 y_100.Kind, .int .i64 y_100.N, .string y_100.S, .int .i64 y_100.H.a0, .int .i64 y_100.H.a1, .int .i64 y_100.H.a2, .int .i64 y_100.H.a3, .int .i64 y_100.H.a4, .int .i64 y_100.H.a5, .int .i64 y_100.H.a6, .int .i64 y_100.H.a7]) Try.isAgg50 Try.sizeOf50 rfl hK rfl (fun j v hv => (hS.ra hRA nil_not).cell (hc_108 j v hv))) fun a hK => ?_
        refine sp (k := 4) rfl hK (by decide) rfl rfl (fun w hS => r_move hK rfl) fun a hK => ?_
        refine sp (k := 5) rfl hK (by decide) rfl rfl (fun w hS => r_move hK rfl) fun a hK => ?_
        obtain ⟨y_109, h_110, H⟩ := bind_some H
        obtain ⟨b_111, o_112, c_113, cs_114, hv_115, hr_116, hc_117, h_1100, h_1101⟩ := h1_0.ix h_110
        subst hr_116
        refine sp (k := 6) rfl hK (by decide) rfl rfl (fun w hS => r_indexAddr_R Try.underlying35 Try.sizeOf50 hv_115 h_1100 h_1101 hK rfl rfl) fun a hK => ?_
        refine sp (k := 7) rfl hK (by decide) rfl rfl (fun w hS => r_loadA (cs := [.int .i64 y_109.Kind, .int .i64 y_109.N, .string y_109.S, .int .i64 y_109.H.a0, .int .i64 y_109.H.a1, .int .i64 y_109.H.a2, .int .i64 y_109.H.a3, .int .i64 y_109.H.a4, .int .i64 y_109.H.a5, .int .i64 y_109.H.a6, .int .i64 y_109.H.a7]) Try.isAgg50 Try.sizeOf50 rfl hK rfl (fun j v hv => (hS.ra hRA nil_not).cell (hc_117 j v hv))) fun a hK => ?_
        refine sp (k := 8) rfl hK (by decide) rfl rfl (fun w hS => r_sne (by kernel_rfl) (eqs50 y_100 y_109) hK rfl rfl) fun a hK => ?_
        refine wpPar_nil (NoP_nil ?_)
        refine wp_cond_split (hK.ev rfl) (fun (hb_118 : (!decide (y_100 = y_109)) = true) => ?_) (fun (hb_118 : (!decide (y_100 = y_109)) = false) => ?_)
        · rw [ifb_t hb_118] at H
          refine wp_seq ?_
          refine wp_region_lit ?_
          refine sl hK (by decide) rfl rfl (r_assign hK rfl) fun a hK => ?_
          refine wpList_nil ?_
          obtain rfl := Option.some.inj H
          refine wp_ret ?_
          repeat (first | refine ret_then ?_ | refine ret_block ?_ | refine ret_scope ?_)
          exact ret_1 Try.results44 hK (rv_tmp hK rfl) ⟨rfl, hS.bel⟩
        · rw [ifb_f hb_118] at H
          refine wp_skip ?_
          refine wp_region_lit ?_
          refine sl hK (by decide) rfl rfl (r_ibin hK rfl rfl rfl) fun a hK => ?_
          refine sl hK (by decide) rfl rfl (r_move hK rfl) fun a hK => ?_
          refine wpList_nil ?_
          exact ⟨_, Nat.lt_succ_self _, (IntKind.i64.wrap (x_41 + 1)), H, hK.sub (all_cons rfl (all_cons rfl (all_cons rfl (all_cons rfl (all_nil))))), hS⟩
      · rw [ifb_f hb_81] at H
        refine wp_exit ?_
        refine wp_seq ?_
        refine wp_region_lit ?_
        refine sl hK (by decide) rfl rfl (r_assign hK rfl) fun a hK => ?_
        refine wpList_nil ?_
        obtain rfl := Option.some.inj H
        refine wp_ret ?_
        repeat (first | refine ret_then ?_ | refine ret_block ?_ | refine ret_scope ?_)
        exact ret_1 Try.results44 hK (rv_tmp hK rfl) ⟨rfl, hS.bel⟩

/-! ### slices.EqualFunc[[][]catchment/api.Value,[][]catchment/api.Value,[]catchment/api.Value,[]catchment/api.Value]: function 43 -/
set_option maxHeartbeats 4000000 in
set_option maxRecDepth 100000 in
theorem slices_EqualFunc_api_Value_api_Value_api_Value_api_Value_f_slices_Equal_api_Value_api_Value.calls (a0 : List (List api_Value)) (a1 : List (List api_Value)) {w0 : World} {RA : Hp} {v0_0 : Value} {v1_0 : Value} (hRA : RA.sub w0) (h0_0 : SlR (tySl ty_api_Value) RA v0_0 a0) (h1_0 : SlR (tySl ty_api_Value) RA v1_0 a1) {r : Bool} (H : slices_EqualFunc_api_Value_api_Value_api_Value_api_Value_f_slices_Equal_api_Value_api_Value a0 a1 = some r) : CallsV Try.prog 43 #[v0_0, v1_0, .func (.func 44) #[] #[]] w0 (.bool r) := by
  unfold slices_EqualFunc_api_Value_api_Value_api_Value_api_Value_f_slices_Equal_api_Value_api_Value at H
  refine enter (args := [v0_0, v1_0, .func (.func 44) #[] #[]]) Try.func43 rfl Try.ntmps43 rfl fun a hK => ?_
  have hS := St.init (R := fun _ => none) (w := w0) (fun _ _ h => by cases h)
  have hRL := RLe.refl (M := []) w0 (fun _ => none)
  refine wp_seq ?_
  refine wp_region_lit ?_
  refine sl hK (by decide) rfl rfl (r_assign hK rfl) fun a hK => ?_
  refine wpList_nil ?_
  refine wp_seq ?_
  refine wp_seq ?_
  refine wp_region_lit ?_
  refine sl hK (by decide) rfl rfl (r_move hK rfl) fun a hK => ?_
  refine sl hK (by decide) rfl rfl (r_len_R Try.underlying23 h0_0 hK rfl) fun a hK => ?_
  refine sl hK (by decide) rfl rfl (r_move hK rfl) fun a hK => ?_
  refine sl hK (by decide) rfl rfl (r_len_R Try.underlying23 h1_0 hK rfl) fun a hK => ?_
  refine sl hK (by decide) rfl rfl (r_ibin hK rfl rfl rfl) fun a hK => ?_
  refine wpList_nil ?_
  refine wp_cond_split (hK.ev rfl) (fun (hb_1 : ((a0.length : Int) != (a1.length : Int)) = true) => ?_) (fun (hb_1 : ((a0.length : Int) != (a1.length : Int)) = false) => ?_)
  · rw [ifb_t hb_1] at H
    refine wp_seq ?_
    refine wp_region_lit ?_
    refine sl hK (by decide) rfl rfl (r_assign hK rfl) fun a hK => ?_
    refine wpList_nil ?_
    obtain rfl := Option.some.inj H
    refine wp_ret ?_
    repeat (first | refine ret_then ?_ | refine ret_block ?_ | refine ret_scope ?_)
    exact ret_1 Try.results43 hK (rv_tmp hK rfl) ⟨rfl, hS.bel⟩
  · rw [ifb_f hb_1] at H
    refine wp_skip ?_
    refine wp_seq ?_
    refine wp_seq ?_
    refine wp_region_lit ?_
    refine sl hK (by decide) rfl rfl (r_move hK rfl) fun a hK => ?_
    refine sl hK (by decide) rfl rfl (r_len_R Try.underlying23 h0_0 hK rfl) fun a hK => ?_
    refine sl hK (by decide) rfl rfl (r_move hK rfl) fun a hK => ?_
    refine wpList_nil ?_
    refine wp_block ?_
    refine wp_loop_k (fun k_l0 a w => ∃ (x_29 : Int), slices_EqualFunc_api_Value_api_Value_api_Value_api_Value_f_slices_Equal_api_Value_api_Value.l0 a0 a1 k_l0 x_29 = some r ∧ Kn 32 a [(1, v1_0), (2, .func (.func 44) #[] #[]), (15, v0_0), (16, .int .i64 (a0.length : Int)), (17, .int .i64 x_29)] ∧ St [] w0 w (fun _ => none) []) (((a0.length : Int) - 0).toNat + 1) ?_ ?_
    · exact ⟨0, H, hK.sub (all_cons rfl (all_cons rfl (all_cons rfl (all_cons rfl (all_cons rfl (all_nil)))))), hS⟩
    · rintro k_l0 a w ⟨x_29, H, hK, hS⟩
      cases k_l0 with
      | zero => cases H
      | succ k_l0 =>
      rw [slices_EqualFunc_api_Value_api_Value_api_Value_api_Value_f_slices_Equal_api_Value_api_Value.l0.eq_2] at H
      refine wp_seq ?_
      refine wp_region_lit ?_
      refine sl hK (by decide) rfl rfl (r_ibin hK rfl rfl rfl) fun a hK => ?_
      refine wpList_nil ?_
      refine wp_seq ?_
      refine wp_cond_split (hK.ev rfl) (fun (hb_57 : (decide (x_29 < (a0.length : Int))) = true) => ?_) (fun (hb_57 : (decide (x_29 < (a0.length : Int))) = false) => ?_)
      · rw [ifb_t hb_57] at H
        refine wp_skip ?_
        refine wp_seq ?_
        refine wp_block ?_
        refine wp_seq ?_
        refine wp_region_lit ?_
        refine sl hK (by decide) rfl rfl (r_move hK rfl) fun a hK => ?_
        obtain ⟨y_58, h_59, H⟩ := bind_some H
        obtain ⟨b_60, o_61, c_62, cs_63, hv_64, hr_65, hc_66, h_590, h_591⟩ := h0_0.ix h_59
        obtain ⟨v_67, rfl, hs_68⟩ := hr_65
        refine sl hK (by decide) rfl rfl (r_indexAddr_R Try.underlying23 Try.sizeOf35 hv_64 h_590 h_591 hK rfl rfl) fun a hK => ?_
        refine sl hK (by decide) rfl rfl (r_load Try.isAgg35 hK rfl ((hS.ra hRA nil_not).cell (hc_66 0 _ rfl))) fun a hK => ?_
        refine sl hK (by decide) rfl rfl (r_assign hK rfl) fun a hK => ?_
        refine sl hK (by decide) rfl rfl (r_assign hK rfl) fun a hK => ?_
        refine wpList_nil ?_
        refine wp_seq ?_
        refine wp_region_lit ?_
        refine sl hK (by decide) rfl rfl (r_move hK rfl) fun a hK => ?_
        refine sl hK (by decide) rfl rfl (r_move hK rfl) fun a hK => ?_
        obtain ⟨y_69, h_70, H⟩ := bind_some H
        obtain ⟨b_71, o_72, c_73, cs_74, hv_75, hr_76, hc_77, h_700, h_701⟩ := h1_0.ix h_70
        obtain ⟨v_78, rfl, hs_79⟩ := hr_76
        refine sl hK (by decide) rfl rfl (r_indexAddr_R Try.underlying23 Try.sizeOf35 hv_75 h_700 h_701 hK rfl rfl) fun a hK => ?_
        refine sl hK (by decide) rfl rfl (r_load Try.isAgg35 hK rfl ((hS.ra hRA nil_not).cell (hc_77 0 _ rfl))) fun a hK => ?_
        refine sl hK (by decide) rfl rfl (r_assign hK rfl) fun a hK => ?_
        refine wpList_nil ?_
        refine wp_seq ?_
        refine wp_region_lit ?_
        refine sl hK (by decide) rfl rfl (r_move hK rfl) fun a hK => ?_
        refine sl hK (by decide) rfl rfl (r_move hK rfl) fun a hK => ?_
        refine sl hK (by decide) rfl rfl (r_move hK rfl) fun a hK => ?_
        obtain ⟨y_80, h_81, H⟩ := bind_some H
        refine sl_callV Try.call44 hS hK (by decide) rfl rfl rfl (slices_Equal_api_Value_api_Value.calls y_58 y_69 (lentOf_sub [] _) (hs_68.mono (hS.raLe0 hRA nil_not)) (hs_79.mono (hS.raLe0 hRA nil_not)) h_81) fun a w hS hK => ?_
        refine sl hK (by decide) rfl rfl (r_un hK rfl (u_not _)) fun a hK => ?_
        refine wpList_nil ?_
        refine wp_cond_split (hK.ev rfl) (fun (hb_82 : (!y_80) = true) => ?_) (fun (hb_82 : (!y_80) = false) => ?_)
        · rw [ifb_t hb_82] at H
          refine wp_seq ?_
          refine wp_region_lit ?_
          refine sl hK (by decide) rfl rfl (r_assign hK rfl) fun a hK => ?_
          refine wpList_nil ?_
          obtain rfl := Option.some.inj H
          refine wp_ret ?_
          repeat (first | refine ret_then ?_ | refine ret_block ?_ | refine ret_scope ?_)
          exact ret_1 Try.results43 hK (rv_tmp hK rfl) ⟨rfl, hS.bel⟩
        · rw [ifb_f hb_82] at H
          refine wp_skip ?_
          refine wp_region_lit ?_
          refine sl hK (by decide) rfl rfl (r_ibin hK rfl rfl rfl) fun a hK => ?_
          refine sl hK (by decide) rfl rfl (r_move hK rfl) fun a hK => ?_
          refine wpList_nil ?_
          exact ⟨_, Nat.lt_succ_self _, (IntKind.i64.wrap (x_29 + 1)), H, hK.sub (all_cons rfl (all_cons rfl (all_cons rfl (all_cons rfl (all_cons rfl (all_nil)))))), hS⟩
      · rw [ifb_f hb_57] at H
        refine wp_exit ?_
        refine wp_seq ?_
        refine wp_region_lit ?_
        refine sl hK (by decide) rfl rfl (r_assign hK rfl) fun a hK => ?_
        refine wpList_nil ?_
        obtain rfl := Option.some.inj H
        refine wp_ret ?_
        repeat (first | refine ret_then ?_ | refine ret_block ?_ | refine ret_scope ?_)
        exact ret_1 Try.results43 hK (rv_tmp hK rfl) ⟨rfl, hS.bel⟩

/-! ### catchment/table.Same: function 23 -/
set_option maxHeartbeats 4000000 in
set_option maxRecDepth 100000 in
theorem table_Same.calls (a0 : api_Table) (a1 : api_Table) {w0 : World} {RA : Hp} {v0_0 : Value} {v0_1 : Value} {v1_0 : Value} {v1_1 : Value} (hRA : RA.sub w0) (h0_0 : SlR ty_api_Col RA v0_0 a0.Cols) (h0_1 : SlR (tySl ty_api_Value) RA v0_1 a0.Rows) (h1_0 : SlR ty_api_Col RA v1_0 a1.Cols) (h1_1 : SlR (tySl ty_api_Value) RA v1_1 a1.Rows) {r : Bool} (H : table_Same a0 a1 = some r) : CallsV Try.prog 23 #[.agg #[v0_0, v0_1], .agg #[v1_0, v1_1]] w0 (.bool r) := by
  unfold table_Same at H
  refine enter (args := [.agg #[v0_0, v0_1], .agg #[v1_0, v1_1]]) Try.func23 rfl Try.ntmps23 rfl fun a hK => ?_
  have hS := St.init (R := fun _ => none) (w := w0) (fun _ _ h => by cases h)
  have hRL := RLe.refl (M := []) w0 (fun _ => none)
  refine wp_seq ?_
  refine wp_region_lit ?_
  refine sl_box hS hK (by decide) rfl rfl (c := [v0_0, v0_1]) rfl fun a w b_1 hS hK => ?_
  refine sl_box hS hK (by decide) rfl rfl (c := [v1_0, v1_1]) rfl fun a w b_2 hS hK => ?_
  refine sl hK (by decide) rfl rfl (r_assign hK rfl) fun a hK => ?_
  refine wpList_nil ?_
  refine wp_seq ?_
  refine wp_region_lit ?_
  refine sl hK (by decide) rfl rfl (r_fieldAddr Try.underlying25 rfl Try.sizeOf22 hK rfl) fun a hK => ?_
  refine sl hK (by decide) rfl rfl (r_load Try.isAgg22 hK rfl (hS.cell (.tail _ (.head _)) rfl)) fun a hK => ?_
  refine sl hK (by decide) rfl rfl (r_fieldAddr Try.underlying25 rfl Try.sizeOf22 hK rfl) fun a hK => ?_
  refine sl hK (by decide) rfl rfl (r_load Try.isAgg22 hK rfl (hS.cell (.head _) rfl)) fun a hK => ?_
  obtain ⟨y_3, h_4, H⟩ := bind_some H
  refine sl_callV Try.call42 hS hK (by decide) rfl rfl rfl (slices_Equal_api_Col_api_Col.calls a0.Cols a1.Cols (lentOf_sub [] _) (h0_0.mono (hS.raLe0 hRA nil_not)) (h1_0.mono (hS.raLe0 hRA nil_not)) h_4) fun a w hS hK => ?_
  refine sl hK (by decide) rfl rfl (r_move hK rfl) fun a hK => ?_
  rcases or_b y_3 with hb_5 | hb_5
  · rw [ifb_t hb_5] at H
    refine sl hK (by decide) (wtt hb_5) rfl (r_fieldAddr Try.underlying25 rfl Try.sizeOf23 hK rfl) fun a hK => ?_
    refine sl hK (by decide) (wtt hb_5) rfl (r_load Try.isAgg23 hK rfl (hS.cell (.tail _ (.head _)) rfl)) fun a hK => ?_
    refine sl hK (by decide) (wtt hb_5) rfl (r_fieldAddr Try.underlying25 rfl Try.sizeOf23 hK rfl) fun a hK => ?_
    refine sl hK (by decide) (wtt hb_5) rfl (r_load Try.isAgg23 hK rfl (hS.cell (.head _) rfl)) fun a hK => ?_
    obtain ⟨y_6, h_7, H⟩ := bind_some H
    refine sl_callV Try.call43 hS hK (by decide) (wtt hb_5) rfl rfl (slices_EqualFunc_api_Value_api_Value_api_Value_api_Value_f_slices_Equal_api_Value_api_Value.calls a0.Rows a1.Rows (lentOf_sub [] _) (h0_1.mono (hS.raLe0 hRA nil_not)) (h1_1.mono (hS.raLe0 hRA nil_not)) h_7) fun a w hS hK => ?_
    refine sl hK (by decide) rfl rfl (r_pick_t hb_5 hK rfl rfl) fun a hK => ?_
    refine sl hK (by decide) rfl rfl (r_assign hK rfl) fun a hK => ?_
    refine wpList_nil ?_
    obtain rfl := Option.some.inj H
    refine wp_ret ?_
    repeat (first | refine ret_then ?_ | refine ret_block ?_ | refine ret_scope ?_)
    exact ret_1 Try.results23 hK (rv_tmp hK rfl) ⟨rfl, hS.bel⟩
  · rw [ifb_f hb_5] at H
    refine sl_skip hK (by decide) (wtf hb_5) rfl fun a hK => ?_
    refine sl_skip hK (by decide) (wtf hb_5) rfl fun a hK => ?_
    refine sl_skip hK (by decide) (wtf hb_5) rfl fun a hK => ?_
    refine sl_skip hK (by decide) (wtf hb_5) rfl fun a hK => ?_
    refine sl_skip hK (by decide) (wtf hb_5) rfl fun a hK => ?_
    refine sl hK (by decide) rfl rfl (r_pick_f hb_5 hK rfl rfl) fun a hK => ?_
    refine sl hK (by decide) rfl rfl (r_assign hK rfl) fun a hK => ?_
    refine wpList_nil ?_
    obtain rfl := Option.some.inj H
    refine wp_ret ?_
    repeat (first | refine ret_then ?_ | refine ret_block ?_ | refine ret_scope ?_)
    exact ret_1 Try.results23 hK (rv_tmp hK rfl) ⟨rfl, hS.bel⟩

end Go.Proofs.Ytojfckndloelpaa.M
