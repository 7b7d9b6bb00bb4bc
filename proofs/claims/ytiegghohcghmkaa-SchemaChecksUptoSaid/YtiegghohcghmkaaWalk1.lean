/- Each Go function of the laws answers as its plain Lean function tells, wherever that tells something. Printed by wip/eng/gen.py. -/
import Derived.Test.YtiegghohcghmkaaPure
import Derived.Test.YtiegghohcghmkaaProg
import Derived.Shelf.Strings.Search3
namespace Go.Proofs.Ytiegghohcghmkaa.M
open Go Go.Eng Go.Proofs Go.RowKit
set_option linter.unusedVariables false
set_option linter.unusedSimpArgs false

theorem mixed : Try.prog.follows .mixedOrders = true := by kernel_rfl
def GF (RA : Hp) : Prop := (∀ w, RA.sub w → ∃ m, w.cell? ⟨0, 0, none⟩ = some (.int .i64 m))
theorem GF.mono {R R' : Hp} (h : R.le R') (g : GF R) : GF R' := fun w hw => g w (fun k u hk => hw k u (h k u hk))
theorem GF_maxlen {RA : Hp} {w : World} (g : GF RA) (h : RA.sub w) : ∃ m, w.cell? ⟨0, 0, none⟩ = some (.int .i64 m) := g w h
set_option maxRecDepth 100000 in
theorem elT24 : ElT Try.prog 24 52 2 24 := ⟨Try.underlying24, ⟨Try.t52, _, Try.type52, rfl, rfl, rfl, rfl⟩, by decide⟩
set_option maxRecDepth 100000 in
theorem elT22 : ElT Try.prog 22 26 3 64 := ⟨Try.underlying22, ⟨Try.t26, _, Try.type26, rfl, rfl, rfl, rfl⟩, by decide⟩
set_option maxRecDepth 100000 in
theorem elT36 : ElT Try.prog 36 43 11 96 := ⟨Try.underlying36, ⟨Try.t43, _, Try.type43, rfl, rfl, rfl, rfl⟩, by decide⟩
theorem places52 (w : World) : (placesOf Try.prog 52).run Try.prog w = .ok #[(0, 1), (1, 1)] w := by
  unfold placesOf
  rw [Try.underlying52]
  simp [Try.sizeOf3, Try.sizeOf9]
theorem places26 (w : World) : (placesOf Try.prog 26).run Try.prog w = .ok #[(0, 1), (1, 1), (2, 1)] w := by
  unfold placesOf
  rw [Try.underlying26]
  simp [Try.sizeOf24, Try.sizeOf9]
theorem places43 (w : World) : (placesOf Try.prog 43).run Try.prog w = .ok #[(0, 1), (1, 1), (2, 1), (3, 8)] w := by
  unfold placesOf
  rw [Try.underlying43]
  simp [Try.sizeOf3, Try.sizeOf41, Try.sizeOf9]
theorem places38 (w : World) : (placesOf Try.prog 38).run Try.prog w = .ok #[(0, 1), (1, 1), (2, 1), (3, 1)] w := by
  unfold placesOf
  rw [Try.underlying38]
  simp [Try.sizeOf3, Try.sizeOf36, Try.sizeOf9]
def conL26_ren : Go.Shelf.Ren := ⟨fun | 144 => 26 | 143 => 37 | 219 => 47 | 217 => 49 | 225 => 50 | 224 => 51 | 267 => 52 | 266 => 54 | 314 => 55 | n => n, fun | 9 => 9 | 4 => 4 | 3 => 3 | 5 => 5 | 46 => 72 | 146 => 74 | 51 => 73 | n => n, fun | 1 => 0 | n => n⟩
theorem conL26 : Go.Proofs.Lays.n144 Try.prog conL26_ren := {
  mixed := by kernel_rfl
  f143 := Try.func37.trans (congrArg some (by kernel_rfl))
  f144 := Try.func26.trans (congrArg some (by kernel_rfl))
  f217 := Try.func49.trans (congrArg some (by kernel_rfl))
  f219 := Try.func47.trans (congrArg some (by kernel_rfl))
  f224 := Try.func51.trans (congrArg some (by kernel_rfl))
  f225 := Try.func50.trans (congrArg some (by kernel_rfl))
  f266 := Try.func54.trans (congrArg some (by kernel_rfl))
  f267 := Try.func52.trans (congrArg some (by kernel_rfl))
  f314 := Try.func55.trans (congrArg some (by kernel_rfl))
  t3 := Try.underlying3
  a3 := Try.isAgg3
  z3 := Try.sizeOf3
  v3 := Try.zeroValue3
  t4 := Try.underlying4
  a4 := Try.isAgg4
  z4 := Try.sizeOf4
  v4 := Try.zeroValue4
  t5 := Try.underlying5
  a5 := Try.isAgg5
  z5 := Try.sizeOf5
  v5 := Try.zeroValue5
  t9 := Try.underlying9
  a9 := Try.isAgg9
  z9 := Try.sizeOf9
  v9 := Try.zeroValue9
  t46 := Try.underlying72
  a46 := Try.isAgg72
  z46 := Try.sizeOf72
  v46 := Try.zeroValue72
  t51 := Try.underlying73
  a51 := Try.isAgg73
  z51 := Try.sizeOf73
  v51 := Try.zeroValue73
  t146 := Try.underlying74
  a146 := Try.isAgg74
  z146 := Try.sizeOf74
  v146 := Try.zeroValue74
  g1 := by kernel_rfl }
theorem places47 (w : World) : (placesOf Try.prog 47).run Try.prog w = .ok #[(0, 1), (1, 1)] w := by
  unfold placesOf
  rw [Try.underlying47]
  simp [Try.sizeOf24, Try.sizeOf45]
theorem eqs43 (x y : api_Value) : EqS Try.prog 43 #[.int .i64 x.Kind, .int .i64 x.N, .string x.S, .int .i64 x.H.a0, .int .i64 x.H.a1, .int .i64 x.H.a2, .int .i64 x.H.a3, .int .i64 x.H.a4, .int .i64 x.H.a5, .int .i64 x.H.a6, .int .i64 x.H.a7] #[.int .i64 y.Kind, .int .i64 y.N, .string y.S, .int .i64 y.H.a0, .int .i64 y.H.a1, .int .i64 y.H.a2, .int .i64 y.H.a3, .int .i64 y.H.a4, .int .i64 y.H.a5, .int .i64 y.H.a6, .int .i64 y.H.a7] (decide (x = y)) := by
  refine eqS_of (by kernel_rfl) (by kernel_rfl) (fun w => by
    simp only [Program.fieldsOf, Try.underlying43]
    exact eqF_cons (by decide) (run_part1 Try.isAgg3 rfl) (run_part1 Try.isAgg3 rfl) (run_equalIn_int w _ _ _ _ _ _ Try.underlying3) (eqF_cons (by decide) (run_part1 Try.isAgg3 rfl) (run_part1 Try.isAgg3 rfl) (run_equalIn_int w _ _ _ _ _ _ Try.underlying3) (eqF_cons (by decide) (run_part1 Try.isAgg9 rfl) (run_part1 Try.isAgg9 rfl) (run_equalIn_string w _ _ _ _ Try.underlying9) (eqF_cons (by decide) (run_partA (ys := (x.H.list.map (Value.int .i64)).toArray) Try.isAgg41 Try.sizeOf41 rfl) (run_partA (ys := (y.H.list.map (Value.int .i64)).toArray) Try.isAgg41 Try.sizeOf41 rfl) (eq_arr' (q := 9998) Try.underlying41 (fun a b w => run_equalIn_int w 9997 _ _ _ a b Try.underlying3) Try.isAgg3 Try.sizeOf3 x.H.list y.H.list rfl rfl w) (eqF_nil))))) ?_
  simp only [beq_bytes, Arr8.list_inj, Arr2.list_inj, Bool.and_true]
  cases x; cases y; simp <;> rfl
theorem eqs52 (x y : api_Col) : EqS Try.prog 52 #[.string x.Name, .int .i64 x.Kind] #[.string y.Name, .int .i64 y.Kind] (decide (x = y)) := by
  refine eqS_of (by kernel_rfl) (by kernel_rfl) (fun w => by
    simp only [Program.fieldsOf, Try.underlying52]
    exact eqF_cons (by decide) (run_part1 Try.isAgg9 rfl) (run_part1 Try.isAgg9 rfl) (run_equalIn_string w _ _ _ _ Try.underlying9) (eqF_cons (by decide) (run_part1 Try.isAgg3 rfl) (run_part1 Try.isAgg3 rfl) (run_equalIn_int w _ _ _ _ _ _ Try.underlying3) (eqF_nil))) ?_
  simp only [beq_bytes, Arr8.list_inj, Arr2.list_inj, Bool.and_true]
  cases x; cases y; simp <;> rfl
theorem eqs41 (x y : Arr8) : EqS Try.prog 41 (x.list.map (Value.int .i64)).toArray (y.list.map (Value.int .i64)).toArray (decide (x = y)) := eqA_of Try.underlying41 Try.underlying3 Try.isAgg3 Try.sizeOf3 rfl rfl rfl rfl Arr8.list_inj

/-! ### catchment/catchmentlaw05.load: function 22 -/
set_option maxHeartbeats 4000000 in
set_option maxRecDepth 100000 in
theorem law05_load.calls {w0 : World} {R : Hp} (hR : R.sub w0) {r : api_Schema} (H : law05_load  = some r) : Calls Try.prog 22 #[] w0 (Rets fun v w' => ∃ (R' : Hp) (u0 : Value) (cu0 : List Value) (u1 : Value) (cu1 : List Value), v = .agg #[.string r.Name, u0, u1] ∧ St [] w0 w' R' [.row 52 2 u0 r.Keys.length cu0, .row 52 2 u1 r.Vals.length cu1] ∧ RLe [] w0 R R' ∧ Reps ty_api_Col R' cu0 r.Keys ∧ Reps ty_api_Col R' cu1 r.Vals) := by
  unfold law05_load at H
  refine enter (args := []) Try.func22 rfl Try.ntmps22 rfl fun a hK => ?_
  have hS := St.init hR
  have hRL := RLe.refl (M := []) w0 R
  refine wp_seq ?_
  refine wp_region_lit ?_
  refine sl_alloc Try.zeroValue26 hS hK (by decide) rfl rfl fun a w b_1 hS hK => ?_
  refine wpList_nil ?_
  refine wp_seq ?_
  refine wp_region_lit ?_
  refine sl hK (by decide) rfl rfl (r_buildC (ps := [(0, .string (⟨#[104, 111, 115, 116]⟩ : ByteArray)), (1, .int .i64 2)]) (c := [.string (⟨#[104, 111, 115, 116]⟩ : ByteArray), .int .i64 2]) Try.underlying52 Try.zeroValue52 places52 hK rfl (pc_cons rfl (pc_cons rfl pc_nil)) rfl rfl) fun a hK => ?_
  refine sl_buildSliceF (zc := [.string (⟨#[]⟩ : ByteArray), .int .i64 0]) (ps := [(0, .agg #[.string (⟨#[104, 111, 115, 116]⟩ : ByteArray), .int .i64 2])]) (c := [.string (⟨#[104, 111, 115, 116]⟩ : ByteArray), .int .i64 2]) [[.string (⟨#[104, 111, 115, 116]⟩ : ByteArray), .int .i64 2]] Try.underlying24 Try.sizeOf52 Try.zeroValue52 rfl (pc_cons rfl pc_nil) rfl rfl (Nat.le_of_ble_eq_true rfl) rfl (all_cons rfl (all_nil)) rfl hS hK (by decide) rfl fun a w b_2 hS hK => ?_
  refine sl hK (by decide) rfl rfl (r_buildC (ps := [(0, .string (⟨#[110]⟩ : ByteArray)), (1, .int .i64 1)]) (c := [.string (⟨#[110]⟩ : ByteArray), .int .i64 1]) Try.underlying52 Try.zeroValue52 places52 hK rfl (pc_cons rfl (pc_cons rfl pc_nil)) rfl rfl) fun a hK => ?_
  refine sl_buildSliceF (zc := [.string (⟨#[]⟩ : ByteArray), .int .i64 0]) (ps := [(0, .agg #[.string (⟨#[110]⟩ : ByteArray), .int .i64 1])]) (c := [.string (⟨#[110]⟩ : ByteArray), .int .i64 1]) [[.string (⟨#[110]⟩ : ByteArray), .int .i64 1]] Try.underlying24 Try.sizeOf52 Try.zeroValue52 rfl (pc_cons rfl pc_nil) rfl rfl (Nat.le_of_ble_eq_true rfl) rfl (all_cons rfl (all_nil)) rfl hS hK (by decide) rfl fun a w b_3 hS hK => ?_
  refine sl hK (by decide) rfl rfl (r_buildC (ps := [(0, .string (⟨#[108, 111, 97, 100]⟩ : ByteArray)), (1, .slice (some ⟨b_2, 0, none⟩) 1 1), (2, .slice (some ⟨b_3, 0, none⟩) 1 1)]) (c := [.string (⟨#[108, 111, 97, 100]⟩ : ByteArray), .slice (some ⟨b_2, 0, none⟩) 1 1, .slice (some ⟨b_3, 0, none⟩) 1 1]) Try.underlying26 Try.zeroValue26 places26 hK rfl (pc_cons rfl (pc_cons rfl (pc_cons rfl pc_nil))) rfl rfl) fun a hK => ?_
  have hS := hS.pk2
  refine sl_storeA (vs := [.string (⟨#[108, 111, 97, 100]⟩ : ByteArray), .slice (some ⟨b_2, 0, none⟩) 1 1, .slice (some ⟨b_3, 0, none⟩) 1 1]) (c' := [.string (⟨#[108, 111, 97, 100]⟩ : ByteArray), .slice (some ⟨b_2, 0, none⟩) 1 1, .slice (some ⟨b_3, 0, none⟩) 1 1]) Try.sizeOf26 hS hK rfl rfl rfl rfl (all_cons rfl (all_cons rfl (all_cons rfl (all_nil)))) (Nat.le_of_ble_eq_true rfl) rfl fun a w hS hK => ?_
  refine wpList_nil ?_
  have hS := hS.pk2
  have hS := hS.row_lit (size := 2) (m := 1) rfl (by decide)
  have hq_5 : Reps ty_api_Col R [.string (⟨#[104, 111, 115, 116]⟩ : ByteArray), .int .i64 2] [(⟨(⟨#[104, 111, 115, 116]⟩ : ByteArray), 2⟩ : api_Col)] := (Reps.cons (show Ty.rep ty_api_Col _ [.string (⟨#[104, 111, 115, 116]⟩ : ByteArray), .int .i64 2] (⟨(⟨#[104, 111, 115, 116]⟩ : ByteArray), 2⟩ : api_Col) from rfl) (Reps.nil _ _))
  have hS := hS.pk2
  have hS := hS.row_lit (size := 2) (m := 1) rfl (by decide)
  have hq_7 : Reps ty_api_Col R [.string (⟨#[110]⟩ : ByteArray), .int .i64 1] [(⟨(⟨#[110]⟩ : ByteArray), 1⟩ : api_Col)] := (Reps.cons (show Ty.rep ty_api_Col _ [.string (⟨#[110]⟩ : ByteArray), .int .i64 1] (⟨(⟨#[110]⟩ : ByteArray), 1⟩ : api_Col) from rfl) (Reps.nil _ _))
  obtain rfl := Option.some.inj H
  refine wp_ret ?_
  repeat (first | refine ret_then ?_ | refine ret_block ?_ | refine ret_scope ?_)
  exact ret_1 Try.results22 hK (rv_cell (c := [.string (⟨#[108, 111, 97, 100]⟩ : ByteArray), (.slice (some ⟨b_2, 0, none⟩) 1 1), (.slice (some ⟨b_3, 0, none⟩) 1 1)]) Try.isAgg26 Try.sizeOf26 hS (.tail _ (.tail _ (.head _))) rfl hK rfl) ⟨_, rfl, _, _, _, _, _, rfl, (hS.pk1.trunc 2), hRL, hq_5, hq_7⟩

/-! ### catchment/catchmentlaw05.point: function 23 -/
set_option maxHeartbeats 4000000 in
set_option maxRecDepth 100000 in
theorem law05_point.calls (a0 : Int) {w0 : World} {R : Hp} (hR : R.sub w0) {r : api_Point} (H : law05_point a0 = some r) : Calls Try.prog 23 #[.int .i64 a0] w0 (Rets fun v w' => ∃ (R' : Hp) (u0 : Value) (cu0 : List Value) (u1 : Value) (cu1 : List Value), v = .agg #[.string r.Schema, u0, .int .i64 r.Time, u1] ∧ St [] w0 w' R' [.row 43 11 u0 r.Keys.length cu0, .row 43 11 u1 r.Vals.length cu1] ∧ RLe [] w0 R R' ∧ Reps ty_api_Value R' cu0 r.Keys ∧ Reps ty_api_Value R' cu1 r.Vals) := by
  unfold law05_point at H
  refine enter (args := [.int .i64 a0]) Try.func23 rfl Try.ntmps23 rfl fun a hK => ?_
  have hS := St.init hR
  have hRL := RLe.refl (M := []) w0 R
  refine wp_seq ?_
  refine wp_region_lit ?_
  refine sl_alloc Try.zeroValue38 hS hK (by decide) rfl rfl fun a w b_1 hS hK => ?_
  refine wpList_nil ?_
  refine wp_seq ?_
  refine wp_region_lit ?_
  refine sl hK (by decide) rfl rfl (r_buildC (ps := [(0, .int .i64 2), (2, .string (⟨#[97]⟩ : ByteArray))]) (c := [.int .i64 2, .int .i64 0, .string (⟨#[97]⟩ : ByteArray), .int .i64 0, .int .i64 0, .int .i64 0, .int .i64 0, .int .i64 0, .int .i64 0, .int .i64 0, .int .i64 0]) Try.underlying43 Try.zeroValue43 places43 hK rfl (pc_cons rfl (pc_cons rfl pc_nil)) rfl rfl) fun a hK => ?_
  refine sl_buildSliceF (zc := [.int .i64 0, .int .i64 0, .string (⟨#[]⟩ : ByteArray), .int .i64 0, .int .i64 0, .int .i64 0, .int .i64 0, .int .i64 0, .int .i64 0, .int .i64 0, .int .i64 0]) (ps := [(0, .agg #[.int .i64 2, .int .i64 0, .string (⟨#[97]⟩ : ByteArray), .int .i64 0, .int .i64 0, .int .i64 0, .int .i64 0, .int .i64 0, .int .i64 0, .int .i64 0, .int .i64 0])]) (c := [.int .i64 2, .int .i64 0, .string (⟨#[97]⟩ : ByteArray), .int .i64 0, .int .i64 0, .int .i64 0, .int .i64 0, .int .i64 0, .int .i64 0, .int .i64 0, .int .i64 0]) [[.int .i64 2, .int .i64 0, .string (⟨#[97]⟩ : ByteArray), .int .i64 0, .int .i64 0, .int .i64 0, .int .i64 0, .int .i64 0, .int .i64 0, .int .i64 0, .int .i64 0]] Try.underlying36 Try.sizeOf43 Try.zeroValue43 rfl (pc_cons rfl pc_nil) rfl rfl (Nat.le_of_ble_eq_true rfl) rfl (all_cons rfl (all_nil)) rfl hS hK (by decide) rfl fun a w b_2 hS hK => ?_
  refine sl hK (by decide) rfl rfl (r_move hK rfl) fun a hK => ?_
  refine sl hK (by decide) rfl rfl (r_buildC (ps := [(0, .int .i64 1), (1, .int .i64 7)]) (c := [.int .i64 1, .int .i64 7, .string (⟨#[]⟩ : ByteArray), .int .i64 0, .int .i64 0, .int .i64 0, .int .i64 0, .int .i64 0, .int .i64 0, .int .i64 0, .int .i64 0]) Try.underlying43 Try.zeroValue43 places43 hK rfl (pc_cons rfl (pc_cons rfl pc_nil)) rfl rfl) fun a hK => ?_
  refine sl_buildSliceF (zc := [.int .i64 0, .int .i64 0, .string (⟨#[]⟩ : ByteArray), .int .i64 0, .int .i64 0, .int .i64 0, .int .i64 0, .int .i64 0, .int .i64 0, .int .i64 0, .int .i64 0]) (ps := [(0, .agg #[.int .i64 1, .int .i64 7, .string (⟨#[]⟩ : ByteArray), .int .i64 0, .int .i64 0, .int .i64 0, .int .i64 0, .int .i64 0, .int .i64 0, .int .i64 0, .int .i64 0])]) (c := [.int .i64 1, .int .i64 7, .string (⟨#[]⟩ : ByteArray), .int .i64 0, .int .i64 0, .int .i64 0, .int .i64 0, .int .i64 0, .int .i64 0, .int .i64 0, .int .i64 0]) [[.int .i64 1, .int .i64 7, .string (⟨#[]⟩ : ByteArray), .int .i64 0, .int .i64 0, .int .i64 0, .int .i64 0, .int .i64 0, .int .i64 0, .int .i64 0, .int .i64 0]] Try.underlying36 Try.sizeOf43 Try.zeroValue43 rfl (pc_cons rfl pc_nil) rfl rfl (Nat.le_of_ble_eq_true rfl) rfl (all_cons rfl (all_nil)) rfl hS hK (by decide) rfl fun a w b_3 hS hK => ?_
  refine sl hK (by decide) rfl rfl (r_buildC (ps := [(0, .string (⟨#[108, 111, 97, 100]⟩ : ByteArray)), (1, .slice (some ⟨b_2, 0, none⟩) 1 1), (2, .int .i64 a0), (3, .slice (some ⟨b_3, 0, none⟩) 1 1)]) (c := [.string (⟨#[108, 111, 97, 100]⟩ : ByteArray), .slice (some ⟨b_2, 0, none⟩) 1 1, .int .i64 a0, .slice (some ⟨b_3, 0, none⟩) 1 1]) Try.underlying38 Try.zeroValue38 places38 hK rfl (pc_cons rfl (pc_cons rfl (pc_cons rfl (pc_cons rfl pc_nil)))) rfl rfl) fun a hK => ?_
  have hS := hS.pk2
  refine sl_storeA (vs := [.string (⟨#[108, 111, 97, 100]⟩ : ByteArray), .slice (some ⟨b_2, 0, none⟩) 1 1, .int .i64 a0, .slice (some ⟨b_3, 0, none⟩) 1 1]) (c' := [.string (⟨#[108, 111, 97, 100]⟩ : ByteArray), .slice (some ⟨b_2, 0, none⟩) 1 1, .int .i64 a0, .slice (some ⟨b_3, 0, none⟩) 1 1]) Try.sizeOf38 hS hK rfl rfl rfl rfl (all_cons rfl (all_cons rfl (all_cons rfl (all_cons rfl (all_nil))))) (Nat.le_of_ble_eq_true rfl) rfl fun a w hS hK => ?_
  refine wpList_nil ?_
  have hS := hS.pk2
  have hS := hS.row_lit (size := 11) (m := 1) rfl (by decide)
  have hq_5 : Reps ty_api_Value R [.int .i64 2, .int .i64 0, .string (⟨#[97]⟩ : ByteArray), .int .i64 0, .int .i64 0, .int .i64 0, .int .i64 0, .int .i64 0, .int .i64 0, .int .i64 0, .int .i64 0] [(⟨2, 0, (⟨#[97]⟩ : ByteArray), (⟨0, 0, 0, 0, 0, 0, 0, 0⟩ : Arr8)⟩ : api_Value)] := (Reps.cons (show Ty.rep ty_api_Value _ [.int .i64 2, .int .i64 0, .string (⟨#[97]⟩ : ByteArray), .int .i64 0, .int .i64 0, .int .i64 0, .int .i64 0, .int .i64 0, .int .i64 0, .int .i64 0, .int .i64 0] (⟨2, 0, (⟨#[97]⟩ : ByteArray), (⟨0, 0, 0, 0, 0, 0, 0, 0⟩ : Arr8)⟩ : api_Value) from rfl) (Reps.nil _ _))
  have hS := hS.pk2
  have hS := hS.row_lit (size := 11) (m := 1) rfl (by decide)
  have hq_7 : Reps ty_api_Value R [.int .i64 1, .int .i64 7, .string (⟨#[]⟩ : ByteArray), .int .i64 0, .int .i64 0, .int .i64 0, .int .i64 0, .int .i64 0, .int .i64 0, .int .i64 0, .int .i64 0] [(⟨1, 7, (⟨#[]⟩ : ByteArray), (⟨0, 0, 0, 0, 0, 0, 0, 0⟩ : Arr8)⟩ : api_Value)] := (Reps.cons (show Ty.rep ty_api_Value _ [.int .i64 1, .int .i64 7, .string (⟨#[]⟩ : ByteArray), .int .i64 0, .int .i64 0, .int .i64 0, .int .i64 0, .int .i64 0, .int .i64 0, .int .i64 0, .int .i64 0] (⟨1, 7, (⟨#[]⟩ : ByteArray), (⟨0, 0, 0, 0, 0, 0, 0, 0⟩ : Arr8)⟩ : api_Value) from rfl) (Reps.nil _ _))
  obtain rfl := Option.some.inj H
  refine wp_ret ?_
  repeat (first | refine ret_then ?_ | refine ret_block ?_ | refine ret_scope ?_)
  exact ret_1 Try.results23 hK (rv_cell (c := [.string (⟨#[108, 111, 97, 100]⟩ : ByteArray), (.slice (some ⟨b_2, 0, none⟩) 1 1), .int .i64 a0, (.slice (some ⟨b_3, 0, none⟩) 1 1)]) Try.isAgg38 Try.sizeOf38 hS (.tail _ (.tail _ (.head _))) rfl hK rfl) ⟨_, rfl, _, _, _, _, _, rfl, (hS.pk1.trunc 2), hRL, hq_5, hq_7⟩

/-! ### catchment/schema.Find: function 9 -/
set_option maxHeartbeats 4000000 in
set_option maxRecDepth 100000 in
theorem schema_Find.calls (a0 : List api_Schema) (a1 : ByteArray) {w0 : World} {R : Hp} {v0_0 : Value} (hR : R.sub w0) (h0_0 : SlR ty_api_Schema R v0_0 a0) {r : api_Schema × Bool} (H : schema_Find a0 a1 = some r) : Calls Try.prog 9 #[v0_0, .string a1] w0 (Rets fun v w' => ∃ (R' : Hp) (u0 : Value) (u1 : Value), v = .tuple #[.agg #[.string r.1.Name, u0, u1], .bool r.2] ∧ St [] w0 w' R' [] ∧ RLe [] w0 R R' ∧ SlR ty_api_Col R' u0 r.1.Keys ∧ SlR ty_api_Col R' u1 r.1.Vals) := by
  unfold schema_Find at H
  refine enter (args := [v0_0, .string a1]) Try.func9 rfl Try.ntmps9 rfl fun a hK => ?_
  have hS := St.init hR
  have hRL := RLe.refl (M := []) w0 R
  refine wp_seq ?_
  refine wp_region_lit ?_
  refine sl_alloc Try.zeroValue26 hS hK (by decide) rfl rfl fun a w b_1 hS hK => ?_
  refine sl hK (by decide) rfl rfl (r_assign hK rfl) fun a hK => ?_
  refine wpList_nil ?_
  refine wp_seq ?_
  refine wp_seq ?_
  refine wp_region_lit ?_
  refine sl hK (by decide) rfl rfl (r_move hK rfl) fun a hK => ?_
  refine sl hK (by decide) rfl rfl (r_len_R Try.underlying22 h0_0 hK rfl) fun a hK => ?_
  refine sl hK (by decide) rfl rfl (r_move hK rfl) fun a hK => ?_
  refine wpList_nil ?_
  refine wp_block ?_
  refine wp_loop_k (fun k_l0 a w => ∃ (x_19 : Int), schema_Find.l0 a0 a1 k_l0 x_19 = some r ∧ Kn 21 a [(1, .string a1), (4, .pointer (some ⟨b_1, 0, none⟩)), (8, v0_0), (9, .int .i64 (a0.length : Int)), (10, .int .i64 x_19)] ∧ St [] w0 w R [.cells b_1 [.string (⟨#[]⟩ : ByteArray), .slice none 0 0, .slice none 0 0] 26]) (((a0.length : Int) - 0).toNat + 1) ?_ ?_
  · exact ⟨0, H, hK.sub (all_cons rfl (all_cons rfl (all_cons rfl (all_cons rfl (all_cons rfl (all_nil)))))), hS⟩
  · rintro k_l0 a w ⟨x_19, H, hK, hS⟩
    cases k_l0 with
    | zero => cases H
    | succ k_l0 =>
    rw [schema_Find.l0.eq_2] at H
    refine wp_seq ?_
    refine wp_region_lit ?_
    refine sl hK (by decide) rfl rfl (r_ibin hK rfl rfl rfl) fun a hK => ?_
    refine wpList_nil ?_
    refine wp_seq ?_
    refine wp_cond_split (hK.ev rfl) (fun (hb_37 : (decide (x_19 < (a0.length : Int))) = true) => ?_) (fun (hb_37 : (decide (x_19 < (a0.length : Int))) = false) => ?_)
    · rw [ifb_t hb_37] at H
      refine wp_skip ?_
      refine wp_seq ?_
      refine wp_block ?_
      refine wp_seq ?_
      refine wp_region_lit ?_
      obtain ⟨y_38, h_39, H⟩ := bind_some H
      obtain ⟨b_40, o_41, c_42, cs_43, hv_44, hr_45, hc_46, h_390, h_391⟩ := h0_0.ix h_39
      obtain ⟨v_47, v_49, rfl, hs_48, hs_50⟩ := hr_45
      refine sl hK (by decide) rfl rfl (r_indexAddr_R Try.underlying22 Try.sizeOf26 hv_44 h_390 h_391 hK rfl rfl) fun a hK => ?_
      refine sl hK (by decide) rfl rfl (r_loadA (cs := [.string y_38.Name, v_47, v_49]) Try.isAgg26 Try.sizeOf26 rfl hK rfl (fun j v hv => hS.sub.cell (hc_46 j v hv))) fun a hK => ?_
      refine sl_alloc Try.zeroValue26 hS hK (by decide) rfl rfl fun a w b_51 hS hK => ?_
      refine sl_storeA (vs := [.string y_38.Name, v_47, v_49]) (c' := [.string y_38.Name, v_47, v_49]) Try.sizeOf26 hS hK rfl rfl rfl rfl (all_cons rfl (all_cons hs_48.one (all_cons hs_50.one (all_nil)))) (Nat.le_of_ble_eq_true rfl) rfl fun a w hS hK => ?_
      refine wpList_nil ?_
      refine wp_seq ?_
      refine wp_region_lit ?_
      refine sl hK (by decide) rfl rfl (r_fieldAddr Try.underlying26 rfl Try.sizeOf9 hK rfl) fun a hK => ?_
      refine sl hK (by decide) rfl rfl (r_load Try.isAgg9 hK rfl (hS.cell (.head _) rfl)) fun a hK => ?_
      refine sl hK (by decide) rfl rfl (r_move hK rfl) fun a hK => ?_
      refine sl hK (by decide) rfl rfl (r_sbin hK rfl rfl rfl) fun a hK => ?_
      refine wpList_nil ?_
      refine wp_cond_split (hK.ev rfl) (fun (hb_52 : (y_38.Name.toList == a1.toList) = true) => ?_) (fun (hb_52 : (y_38.Name.toList == a1.toList) = false) => ?_)
      · rw [ifb_t hb_52] at H
        refine wp_seq ?_
        refine wp_region_lit ?_
        refine sl hK (by decide) rfl rfl (r_loadA (cs := [.string y_38.Name, v_47, v_49]) Try.isAgg26 Try.sizeOf26 rfl hK rfl (hS.cells_of (m := 3) (.head _) rfl)) fun a hK => ?_
        have hS := hS.pk1
        refine sl_storeA (vs := [.string y_38.Name, v_47, v_49]) (c' := [.string y_38.Name, v_47, v_49]) Try.sizeOf26 hS hK rfl rfl rfl rfl (all_cons rfl (all_cons hs_48.one (all_cons hs_50.one (all_nil)))) (Nat.le_of_ble_eq_true rfl) rfl fun a w hS hK => ?_
        refine sl hK (by decide) rfl rfl (r_assign hK rfl) fun a hK => ?_
        refine wpList_nil ?_
        obtain rfl := Option.some.inj H
        refine wp_ret ?_
        repeat (first | refine ret_then ?_ | refine ret_block ?_ | refine ret_scope ?_)
        exact ret_2 Try.results9 hK (rv_cell (c := [.string y_38.Name, v_47, v_49]) Try.isAgg26 Try.sizeOf26 hS (.head _) rfl hK rfl) (rv_tmp hK rfl) ⟨_, rfl, _, _, _, rfl, (hS.trunc 0), hRL, hs_48, hs_50⟩
      · rw [ifb_f hb_52] at H
        refine wp_skip ?_
        refine wp_region_lit ?_
        refine sl hK (by decide) rfl rfl (r_ibin hK rfl rfl rfl) fun a hK => ?_
        refine sl hK (by decide) rfl rfl (r_move hK rfl) fun a hK => ?_
        refine wpList_nil ?_
        have hS := hS.pk1
        exact ⟨_, Nat.lt_succ_self _, (IntKind.i64.wrap (x_19 + 1)), H, hK.sub (all_cons rfl (all_cons rfl (all_cons rfl (all_cons rfl (all_cons rfl (all_nil)))))), hS.trunc 1⟩
    · rw [ifb_f hb_37] at H
      refine wp_exit ?_
      refine wp_seq ?_
      refine wp_region_lit ?_
      refine sl hK (by decide) rfl rfl (r_buildC (ps := []) (c := [.string (⟨#[]⟩ : ByteArray), .slice none 0 0, .slice none 0 0]) Try.underlying26 Try.zeroValue26 places26 hK rfl pc_nil rfl rfl) fun a hK => ?_
      refine sl_storeA (vs := [.string (⟨#[]⟩ : ByteArray), .slice none 0 0, .slice none 0 0]) (c' := [.string (⟨#[]⟩ : ByteArray), .slice none 0 0, .slice none 0 0]) Try.sizeOf26 hS hK rfl rfl rfl rfl (all_cons rfl (all_cons rfl (all_cons rfl (all_nil)))) (Nat.le_of_ble_eq_true rfl) rfl fun a w hS hK => ?_
      refine sl hK (by decide) rfl rfl (r_assign hK rfl) fun a hK => ?_
      refine wpList_nil ?_
      obtain rfl := Option.some.inj H
      refine wp_ret ?_
      repeat (first | refine ret_then ?_ | refine ret_block ?_ | refine ret_scope ?_)
      exact ret_2 Try.results9 hK (rv_cell (c := [.string (⟨#[]⟩ : ByteArray), .slice none 0 0, .slice none 0 0]) Try.isAgg26 Try.sizeOf26 hS (.head _) rfl hK rfl) (rv_tmp hK rfl) ⟨_, rfl, _, _, _, rfl, (hS.trunc 0), hRL, SlR.nil _ _, SlR.nil _ _⟩

/-! ### catchment/table.Name: function 25 -/
set_option maxHeartbeats 4000000 in
set_option maxRecDepth 100000 in
theorem table_Name.calls (a0 : ByteArray) {r : Bool} (H : table_Name a0 = some r) (w0 : World) : CallsV Try.prog 25 #[.string a0] w0 (.bool r) := by
  unfold table_Name at H
  refine enter (args := [.string a0]) Try.func25 rfl Try.ntmps25 rfl fun a hK => ?_
  have hS := St.init (R := fun _ => none) (w := w0) (fun _ _ h => by cases h)
  have hRL := RLe.refl (M := []) w0 (fun _ => none)
  refine wp_seq ?_
  refine wp_region_lit ?_
  refine sl hK (by decide) rfl rfl (r_assign hK rfl) fun a hK => ?_
  refine wpList_nil ?_
  refine wp_seq ?_
  refine wp_seq ?_
  refine wp_region_lit ?_
  refine sl hK (by decide) rfl rfl (r_move hK rfl) fun a hK => ?_
  refine sl hK (by decide) rfl rfl (r_len_str Try.underlying9 hK rfl) fun a hK => ?_
  refine sl hK (by decide) rfl rfl (r_move hK rfl) fun a hK => ?_
  refine wpList_nil ?_
  refine wp_block ?_
  refine wp_loop_k (fun k_l0 a w => ∃ (x_11 : Int), table_Name.l0 a0 k_l0 x_11 = some r ∧ Kn 48 a [(0, .string a0), (6, .int .i64 (a0.size : Int)), (7, .int .i64 x_11)] ∧ St [] w0 w (fun _ => none) []) (((a0.size : Int) - 0).toNat + 1) ?_ ?_
  · exact ⟨0, H, hK.sub (all_cons rfl (all_cons rfl (all_cons rfl (all_nil)))), hS⟩
  · rintro k_l0 a w ⟨x_11, H, hK, hS⟩
    cases k_l0 with
    | zero => cases H
    | succ k_l0 =>
    rw [table_Name.l0.eq_2] at H
    refine wp_seq ?_
    refine wp_region_lit ?_
    refine sl hK (by decide) rfl rfl (r_ibin hK rfl rfl rfl) fun a hK => ?_
    refine wpList_nil ?_
    refine wp_seq ?_
    refine wp_cond_split (hK.ev rfl) (fun (hb_49 : (decide (x_11 < (a0.size : Int))) = true) => ?_) (fun (hb_49 : (decide (x_11 < (a0.size : Int))) = false) => ?_)
    · rw [ifb_t hb_49] at H
      refine wp_skip ?_
      refine wp_seq ?_
      refine wp_block ?_
      refine wp_seq ?_
      refine wp_region_lit ?_
      refine sl hK (by decide) rfl rfl (r_move hK rfl) fun a hK => ?_
      refine sl hK (by decide) rfl rfl (r_assign hK rfl) fun a hK => ?_
      refine wpList_nil ?_
      refine wp_seq ?_
      refine wp_region_lit ?_
      refine sl hK (by decide) rfl rfl (r_move hK rfl) fun a hK => ?_
      refine sl hK (by decide) rfl rfl (r_move hK rfl) fun a hK => ?_
      obtain ⟨y_50, h_51, H⟩ := bind_some H
      refine sl hK (by decide) rfl rfl (r_index_str' Try.underlying9 h_51 hK rfl rfl) fun a hK => ?_
      refine sl hK (by decide) rfl rfl (r_assign hK rfl) fun a hK => ?_
      refine wpList_nil ?_
      refine wp_block ?_
      refine wp_seq ?_
      refine wp_mid (fun a w => ∃ (x_53 : Bool), table_Name.j1 (table_Name.l0 a0 k_l0) a0 x_11 y_50 x_53 = some r ∧ Kn 48 a [(0, .string a0), (3, .int .i64 x_11), (4, .int .u8 y_50), (6, .int .i64 (a0.size : Int)), (7, .int .i64 x_11), (13, .bool x_53)] ∧ St [] w0 w (fun _ => none) []) ?_ ?_
      · refine wp_region_lit ?_
        refine sl hK (by decide) rfl rfl (r_move hK rfl) fun a hK => ?_
        refine sl hK (by decide) rfl rfl (r_ibin hK rfl rfl rfl) fun a hK => ?_
        refine sl hK (by decide) rfl rfl (r_move hK rfl) fun a hK => ?_
        rcases or_b (decide (y_50 ≥ 97)) with hb_55 | hb_55
        · rw [ifb_t hb_55] at H
          refine sl hK (by decide) (wtt hb_55) rfl (r_move hK rfl) fun a hK => ?_
          refine sl hK (by decide) (wtt hb_55) rfl (r_ibin hK rfl rfl rfl) fun a hK => ?_
          refine sl hK (by decide) rfl rfl (r_pick_t hb_55 hK rfl rfl) fun a hK => ?_
          refine sl hK (by decide) rfl rfl (r_assign hK rfl) fun a hK => ?_
          refine wpList_nil ?_
          exact ⟨(decide (y_50 ≤ 122)), H, hK.sub (all_cons rfl (all_cons rfl (all_cons rfl (all_cons rfl (all_cons rfl (all_cons rfl (all_nil))))))), hS⟩
        · rw [ifb_f hb_55] at H
          refine sl_skip hK (by decide) (wtf hb_55) rfl fun a hK => ?_
          refine sl_skip hK (by decide) (wtf hb_55) rfl fun a hK => ?_
          refine sl hK (by decide) rfl rfl (r_pick_f hb_55 hK rfl rfl) fun a hK => ?_
          refine sl hK (by decide) rfl rfl (r_assign hK rfl) fun a hK => ?_
          refine wpList_nil ?_
          exact ⟨false, H, hK.sub (all_cons rfl (all_cons rfl (all_cons rfl (all_cons rfl (all_cons rfl (all_cons rfl (all_nil))))))), hS⟩
      · rintro a w ⟨x_53, H, hK, hS⟩
        unfold table_Name.j1 at H
        refine wp_mid (fun a w => table_Name.j2 (table_Name.l0 a0 k_l0) a0 x_11 = some r ∧ Kn 48 a [(0, .string a0), (6, .int .i64 (a0.size : Int)), (7, .int .i64 x_11)] ∧ St [] w0 w (fun _ => none) []) ?_ ?_
        · refine wp_cond_split (hK.ev rfl) (fun (hb_71 : x_53 = true) => ?_) (fun (hb_71 : x_53 = false) => ?_)
          · rw [ifb_t hb_71] at H
            refine wp_skip ?_
            exact ⟨H, hK.sub (all_cons rfl (all_cons rfl (all_cons rfl (all_nil)))), hS⟩
          · rw [ifb_f hb_71] at H
            refine wp_seq ?_
            refine wp_mid (fun a w => ∃ (x_77 : Bool), table_Name.j3 (table_Name.l0 a0 k_l0) a0 x_11 x_77 = some r ∧ Kn 48 a [(0, .string a0), (6, .int .i64 (a0.size : Int)), (7, .int .i64 x_11), (20, .bool x_77)] ∧ St [] w0 w (fun _ => none) []) ?_ ?_
            · refine wp_region_lit ?_
              refine sl hK (by decide) rfl rfl (r_move hK rfl) fun a hK => ?_
              refine sl hK (by decide) rfl rfl (r_ibin hK rfl rfl rfl) fun a hK => ?_
              refine sl hK (by decide) rfl rfl (r_move hK rfl) fun a hK => ?_
              rcases or_b (decide (x_11 > 0)) with hb_79 | hb_79
              · rw [ifb_t hb_79] at H
                refine sl hK (by decide) (wtt hb_79) rfl (r_move hK rfl) fun a hK => ?_
                refine sl hK (by decide) (wtt hb_79) rfl (r_ibin hK rfl rfl rfl) fun a hK => ?_
                refine sl hK (by decide) (wtt hb_79) rfl (r_move hK rfl) fun a hK => ?_
                rcases or_b (decide (y_50 ≥ 48)) with hb_80 | hb_80
                · rw [ifb_t hb_80] at H
                  refine sl hK (by decide) (wtt hb_80) rfl (r_move hK rfl) fun a hK => ?_
                  refine sl hK (by decide) (wtt hb_80) rfl (r_ibin hK rfl rfl rfl) fun a hK => ?_
                  refine sl hK (by decide) (wtt hb_79) rfl (r_pick_t hb_80 hK rfl rfl) fun a hK => ?_
                  refine sl hK (by decide) (wtt hb_79) rfl (r_move hK rfl) fun a hK => ?_
                  rcases or_b (decide (y_50 ≤ 57)) with hb_81 | hb_81
                  · rw [ifb_t hb_81] at H
                    refine sl_skip hK (by decide) (wft hb_81) rfl fun a hK => ?_
                    refine sl_skip hK (by decide) (wft hb_81) rfl fun a hK => ?_
                    refine sl hK (by decide) (wtt hb_79) rfl (r_pick_t hb_81 hK rfl rfl) fun a hK => ?_
                    refine sl hK (by decide) (wtt hb_79) rfl (r_move hK rfl) fun a hK => ?_
                    refine sl_skip hK (by decide) rfl rfl fun a hK => ?_
                    refine sl_skip hK (by decide) rfl rfl fun a hK => ?_
                    refine sl hK (by decide) (wtt hb_79) rfl (r_pick hK rfl rfl rfl) fun a hK => ?_
                    refine sl hK (by decide) rfl rfl (r_pick_t hb_79 hK rfl rfl) fun a hK => ?_
                    refine sl hK (by decide) rfl rfl (r_assign hK rfl) fun a hK => ?_
                    refine wpList_nil ?_
                    exact ⟨true, H, hK.sub (all_cons rfl (all_cons rfl (all_cons rfl (all_cons rfl (all_nil))))), hS⟩
                  · rw [ifb_f hb_81] at H
                    refine sl hK (by decide) (wff hb_81) rfl (r_move hK rfl) fun a hK => ?_
                    refine sl hK (by decide) (wff hb_81) rfl (r_ibin hK rfl rfl rfl) fun a hK => ?_
                    refine sl hK (by decide) (wtt hb_79) rfl (r_pick_f hb_81 hK rfl rfl) fun a hK => ?_
                    refine sl hK (by decide) (wtt hb_79) rfl (r_move hK rfl) fun a hK => ?_
                    rcases or_b (y_50 == 95) with hb_82 | hb_82
                    · rw [ifb_t hb_82] at H
                      refine sl_skip hK (by decide) (wft hb_82) rfl fun a hK => ?_
                      refine sl_skip hK (by decide) (wft hb_82) rfl fun a hK => ?_
                      refine sl hK (by decide) (wtt hb_79) rfl (r_pick_t hb_82 hK rfl rfl) fun a hK => ?_
                      refine sl hK (by decide) rfl rfl (r_pick_t hb_79 hK rfl rfl) fun a hK => ?_
                      refine sl hK (by decide) rfl rfl (r_assign hK rfl) fun a hK => ?_
                      refine wpList_nil ?_
                      exact ⟨true, H, hK.sub (all_cons rfl (all_cons rfl (all_cons rfl (all_cons rfl (all_nil))))), hS⟩
                    · rw [ifb_f hb_82] at H
                      refine sl hK (by decide) (wff hb_82) rfl (r_move hK rfl) fun a hK => ?_
                      refine sl hK (by decide) (wff hb_82) rfl (r_ibin hK rfl rfl rfl) fun a hK => ?_
                      refine sl hK (by decide) (wtt hb_79) rfl (r_pick_f hb_82 hK rfl rfl) fun a hK => ?_
                      refine sl hK (by decide) rfl rfl (r_pick_t hb_79 hK rfl rfl) fun a hK => ?_
                      refine sl hK (by decide) rfl rfl (r_assign hK rfl) fun a hK => ?_
                      refine wpList_nil ?_
                      exact ⟨(y_50 == 35), H, hK.sub (all_cons rfl (all_cons rfl (all_cons rfl (all_cons rfl (all_nil))))), hS⟩
                · rw [ifb_f hb_80] at H
                  refine sl_skip hK (by decide) (wtf hb_80) rfl fun a hK => ?_
                  refine sl_skip hK (by decide) (wtf hb_80) rfl fun a hK => ?_
                  refine sl hK (by decide) (wtt hb_79) rfl (r_pick_f hb_80 hK rfl rfl) fun a hK => ?_
                  refine sl hK (by decide) (wtt hb_79) rfl (r_move hK rfl) fun a hK => ?_
                  refine sl hK (by decide) rfl rfl (r_move hK rfl) fun a hK => ?_
                  refine sl hK (by decide) rfl rfl (r_ibin hK rfl rfl rfl) fun a hK => ?_
                  refine sl hK (by decide) (wtt hb_79) rfl (r_pick hK rfl rfl rfl) fun a hK => ?_
                  refine sl hK (by decide) (wtt hb_79) rfl (r_move hK rfl) fun a hK => ?_
                  rcases or_b (y_50 == 95) with hb_83 | hb_83
                  · rw [ifb_t hb_83] at H
                    refine sl_skip hK (by decide) (wft hb_83) rfl fun a hK => ?_
                    refine sl_skip hK (by decide) (wft hb_83) rfl fun a hK => ?_
                    refine sl hK (by decide) (wtt hb_79) rfl (r_pick_t hb_83 hK rfl rfl) fun a hK => ?_
                    refine sl hK (by decide) rfl rfl (r_pick_t hb_79 hK rfl rfl) fun a hK => ?_
                    refine sl hK (by decide) rfl rfl (r_assign hK rfl) fun a hK => ?_
                    refine wpList_nil ?_
                    exact ⟨true, H, hK.sub (all_cons rfl (all_cons rfl (all_cons rfl (all_cons rfl (all_nil))))), hS⟩
                  · rw [ifb_f hb_83] at H
                    refine sl hK (by decide) (wff hb_83) rfl (r_move hK rfl) fun a hK => ?_
                    refine sl hK (by decide) (wff hb_83) rfl (r_ibin hK rfl rfl rfl) fun a hK => ?_
                    refine sl hK (by decide) (wtt hb_79) rfl (r_pick_f hb_83 hK rfl rfl) fun a hK => ?_
                    refine sl hK (by decide) rfl rfl (r_pick_t hb_79 hK rfl rfl) fun a hK => ?_
                    refine sl hK (by decide) rfl rfl (r_assign hK rfl) fun a hK => ?_
                    refine wpList_nil ?_
                    exact ⟨(y_50 == 35), H, hK.sub (all_cons rfl (all_cons rfl (all_cons rfl (all_cons rfl (all_nil))))), hS⟩
              · rw [ifb_f hb_79] at H
                refine sl_skip hK (by decide) (wtf hb_79) rfl fun a hK => ?_
                refine sl_skip hK (by decide) (wtf hb_79) rfl fun a hK => ?_
                refine sl_skip hK (by decide) (wtf hb_79) rfl fun a hK => ?_
                refine sl_skip hK (by decide) rfl rfl fun a hK => ?_
                refine sl_skip hK (by decide) rfl rfl fun a hK => ?_
                refine sl_skip hK (by decide) (wtf hb_79) rfl fun a hK => ?_
                refine sl_skip hK (by decide) (wtf hb_79) rfl fun a hK => ?_
                refine sl_skip hK (by decide) rfl rfl fun a hK => ?_
                refine sl_skip hK (by decide) rfl rfl fun a hK => ?_
                refine sl_skip hK (by decide) (wtf hb_79) rfl fun a hK => ?_
                refine sl_skip hK (by decide) (wtf hb_79) rfl fun a hK => ?_
                refine sl_skip hK (by decide) rfl rfl fun a hK => ?_
                refine sl_skip hK (by decide) rfl rfl fun a hK => ?_
                refine sl_skip hK (by decide) (wtf hb_79) rfl fun a hK => ?_
                refine sl hK (by decide) rfl rfl (r_pick_f hb_79 hK rfl rfl) fun a hK => ?_
                refine sl hK (by decide) rfl rfl (r_assign hK rfl) fun a hK => ?_
                refine wpList_nil ?_
                exact ⟨false, H, hK.sub (all_cons rfl (all_cons rfl (all_cons rfl (all_cons rfl (all_nil))))), hS⟩
            · rintro a w ⟨x_77, H, hK, hS⟩
              unfold table_Name.j3 at H
              refine wp_cond_split (hK.ev rfl) (fun (hb_84 : x_77 = true) => ?_) (fun (hb_84 : x_77 = false) => ?_)
              · rw [ifb_t hb_84] at H
                refine wp_skip ?_
                exact ⟨H, hK.sub (all_cons rfl (all_cons rfl (all_cons rfl (all_nil)))), hS⟩
              · rw [ifb_f hb_84] at H
                refine wp_seq ?_
                refine wp_region_lit ?_
                refine sl hK (by decide) rfl rfl (r_assign hK rfl) fun a hK => ?_
                refine wpList_nil ?_
                obtain rfl := Option.some.inj H
                refine wp_ret ?_
                repeat (first | refine ret_then ?_ | refine ret_block ?_ | refine ret_scope ?_)
                exact ret_1 Try.results25 hK (rv_tmp hK rfl) ⟨rfl, hS.bel⟩
        · rintro a w ⟨H, hK, hS⟩
          unfold table_Name.j2 at H
          refine wp_region_lit ?_
          refine sl hK (by decide) rfl rfl (r_ibin hK rfl rfl rfl) fun a hK => ?_
          refine sl hK (by decide) rfl rfl (r_move hK rfl) fun a hK => ?_
          refine wpList_nil ?_
          exact ⟨_, Nat.lt_succ_self _, (IntKind.i64.wrap (x_11 + 1)), H, hK.sub (all_cons rfl (all_cons rfl (all_cons rfl (all_nil)))), hS⟩
    · rw [ifb_f hb_49] at H
      refine wp_exit ?_
      refine wp_seq ?_
      refine wp_region_lit ?_
      refine sl hK (by decide) rfl rfl (r_move hK rfl) fun a hK => ?_
      refine sl hK (by decide) rfl rfl (r_len_str Try.underlying9 hK rfl) fun a hK => ?_
      refine sl hK (by decide) rfl rfl (r_ibin hK rfl rfl rfl) fun a hK => ?_
      refine sl hK (by decide) rfl rfl (r_move hK rfl) fun a hK => ?_
      rcases or_b (decide ((a0.size : Int) ≥ 1)) with hb_85 | hb_85
      · rw [ifb_t hb_85] at H
        refine sl hK (by decide) (wtt hb_85) rfl (r_move hK rfl) fun a hK => ?_
        refine sl hK (by decide) (wtt hb_85) rfl (r_len_str Try.underlying9 hK rfl) fun a hK => ?_
        refine sl hK (by decide) (wtt hb_85) rfl (r_ibin hK rfl rfl rfl) fun a hK => ?_
        refine sl hK (by decide) rfl rfl (r_pick_t hb_85 hK rfl rfl) fun a hK => ?_
        refine sl hK (by decide) rfl rfl (r_assign hK rfl) fun a hK => ?_
        refine wpList_nil ?_
        obtain rfl := Option.some.inj H
        refine wp_ret ?_
        repeat (first | refine ret_then ?_ | refine ret_block ?_ | refine ret_scope ?_)
        exact ret_1 Try.results25 hK (rv_tmp hK rfl) ⟨rfl, hS.bel⟩
      · rw [ifb_f hb_85] at H
        refine sl_skip hK (by decide) (wtf hb_85) rfl fun a hK => ?_
        refine sl_skip hK (by decide) (wtf hb_85) rfl fun a hK => ?_
        refine sl_skip hK (by decide) (wtf hb_85) rfl fun a hK => ?_
        refine sl hK (by decide) rfl rfl (r_pick_f hb_85 hK rfl rfl) fun a hK => ?_
        refine sl hK (by decide) rfl rfl (r_assign hK rfl) fun a hK => ?_
        refine wpList_nil ?_
        obtain rfl := Option.some.inj H
        refine wp_ret ?_
        repeat (first | refine ret_then ?_ | refine ret_block ?_ | refine ret_scope ?_)
        exact ret_1 Try.results25 hK (rv_tmp hK rfl) ⟨rfl, hS.bel⟩

/-! ### strings.Contains: function 26 -/
set_option maxHeartbeats 4000000 in
set_option maxRecDepth 100000 in
theorem strings_Contains.calls (a0 : ByteArray) (a1 : ByteArray) {w0 : World} {RA : Hp} (hRA : RA.sub w0) (hG : GF RA) {r : Bool} (H : strings_Contains a0 a1 = some r) : CallsV Try.prog 26 #[.string a0, .string a1] w0 (.bool r) := by
  unfold strings_Contains at H
  split at H
  · rename_i hs
    obtain rfl := Option.some.inj H
    obtain ⟨gm, hgm⟩ := GF_maxlen hG hRA
    exact (Any.strings_Contains conL26 a0 a1 gm w0 hs hgm).mono fun e w' ⟨he, hw⟩ => ⟨he, by rw [hw]; exact Bel.refl _ _⟩
  · cases H

/-! ### catchment/schema.Word: function 15 -/
set_option maxHeartbeats 4000000 in
set_option maxRecDepth 100000 in
theorem schema_Word.calls (a0 : ByteArray) {w0 : World} {RA : Hp} (hRA : RA.sub w0) (hG : GF RA) {r : Bool} (H : schema_Word a0 = some r) : CallsV Try.prog 15 #[.string a0] w0 (.bool r) := by
  unfold schema_Word at H
  refine enter (args := [.string a0]) Try.func15 rfl Try.ntmps15 rfl fun a hK => ?_
  have hS := St.init (R := fun _ => none) (w := w0) (fun _ _ h => by cases h)
  have hRL := RLe.refl (M := []) w0 (fun _ => none)
  refine wp_seq ?_
  refine wp_region_lit ?_
  refine sl hK (by decide) rfl rfl (r_assign hK rfl) fun a hK => ?_
  refine wpList_nil ?_
  refine wp_seq ?_
  refine wp_region_lit ?_
  refine sl hK (by decide) rfl rfl (r_move hK rfl) fun a hK => ?_
  obtain ⟨y_1, h_2, H⟩ := bind_some H
  refine sl_callV Try.call25 hS hK (by decide) rfl rfl rfl (table_Name.calls a0 h_2 _) fun a w hS hK => ?_
  refine sl hK (by decide) rfl rfl (r_move hK rfl) fun a hK => ?_
  rcases or_b y_1 with hb_3 | hb_3
  · rw [ifb_t hb_3] at H
    refine sl hK (by decide) (wtt hb_3) rfl (r_move hK rfl) fun a hK => ?_
    obtain ⟨y_4, h_5, H⟩ := bind_some H
    refine sl_callV Try.call26 hS hK (by decide) (wtt hb_3) rfl rfl (strings_Contains.calls a0 (⟨#[35]⟩ : ByteArray) (lentOf_sub [] _) (GF.mono (hS.raLe0 hRA nil_not) hG) h_5) fun a w hS hK => ?_
    refine sl hK (by decide) (wtt hb_3) rfl (r_un hK rfl (u_not _)) fun a hK => ?_
    refine sl hK (by decide) rfl rfl (r_pick_t hb_3 hK rfl rfl) fun a hK => ?_
    refine sl hK (by decide) rfl rfl (r_move hK rfl) fun a hK => ?_
    rcases or_b (!y_4) with hb_6 | hb_6
    · rw [ifb_t hb_6] at H
      refine sl hK (by decide) (wtt hb_6) rfl (r_move hK rfl) fun a hK => ?_
      rcases or_b (decide ((⟨#[32]⟩ : ByteArray).size + a0.size ≤ 9223372036854775807)) with hn_7 | hn_7
      · rw [ifb_t hn_7] at H
        refine sl hK (by decide) (wtt hb_6) rfl (r_sadd hK rfl rfl (of_decide_eq_true hn_7)) fun a hK => ?_
        rcases or_b (decide (((⟨#[32]⟩ : ByteArray) ++ a0).size + (⟨#[32]⟩ : ByteArray).size ≤ 9223372036854775807)) with hn_8 | hn_8
        · rw [ifb_t hn_8] at H
          refine sl hK (by decide) (wtt hb_6) rfl (r_sadd hK rfl rfl (of_decide_eq_true hn_8)) fun a hK => ?_
          obtain ⟨y_9, h_10, H⟩ := bind_some H
          refine sl_callV Try.call26 hS hK (by decide) (wtt hb_6) rfl rfl (strings_Contains.calls (⟨#[32, 102, 101, 116, 99, 104, 32, 102, 114, 111, 109, 32, 116, 111, 32, 119, 104, 101, 114, 101, 32, 107, 101, 101, 112, 32, 97, 108, 105, 103, 110, 32, 103, 114, 111, 117, 112, 32, 116, 111, 112, 32, 98, 121, 32, 106, 111, 105, 110, 32, 117, 110, 105, 111, 110, 32, 97, 110, 100, 32, 111, 114, 32, 110, 111, 116, 32, 104, 97, 115, 32, 116, 114, 117, 101, 32, 102, 97, 108, 115, 101, 32, 99, 111, 117, 110, 116, 32, 115, 117, 109, 32, 109, 105, 110, 32, 109, 97, 120, 32, 109, 101, 97, 110, 32, 109, 101, 114, 103, 101, 32, 116, 105, 109, 101, 32]⟩ : ByteArray) (((⟨#[32]⟩ : ByteArray) ++ a0) ++ (⟨#[32]⟩ : ByteArray)) (lentOf_sub [] _) (GF.mono (hS.raLe0 hRA nil_not) hG) h_10) fun a w hS hK => ?_
          refine sl hK (by decide) (wtt hb_6) rfl (r_un hK rfl (u_not _)) fun a hK => ?_
          refine sl hK (by decide) rfl rfl (r_pick_t hb_6 hK rfl rfl) fun a hK => ?_
          refine sl hK (by decide) rfl rfl (r_assign hK rfl) fun a hK => ?_
          refine wpList_nil ?_
          obtain rfl := Option.some.inj H
          refine wp_ret ?_
          repeat (first | refine ret_then ?_ | refine ret_block ?_ | refine ret_scope ?_)
          exact ret_1 Try.results15 hK (rv_tmp hK rfl) ⟨rfl, hS.bel⟩
        · rw [ifb_f hn_8] at H
          cases H
      · rw [ifb_f hn_7] at H
        cases H
    · rw [ifb_f hb_6] at H
      refine sl_skip hK (by decide) (wtf hb_6) rfl fun a hK => ?_
      refine sl_skip hK (by decide) (wtf hb_6) rfl fun a hK => ?_
      refine sl_skip hK (by decide) (wtf hb_6) rfl fun a hK => ?_
      refine sl_skip hK (by decide) (wtf hb_6) rfl fun a hK => ?_
      refine sl_skip hK (by decide) (wtf hb_6) rfl fun a hK => ?_
      refine sl hK (by decide) rfl rfl (r_pick_f hb_6 hK rfl rfl) fun a hK => ?_
      refine sl hK (by decide) rfl rfl (r_assign hK rfl) fun a hK => ?_
      refine wpList_nil ?_
      obtain rfl := Option.some.inj H
      refine wp_ret ?_
      repeat (first | refine ret_then ?_ | refine ret_block ?_ | refine ret_scope ?_)
      exact ret_1 Try.results15 hK (rv_tmp hK rfl) ⟨rfl, hS.bel⟩
  · rw [ifb_f hb_3] at H
    refine sl_skip hK (by decide) (wtf hb_3) rfl fun a hK => ?_
    refine sl_skip hK (by decide) (wtf hb_3) rfl fun a hK => ?_
    refine sl_skip hK (by decide) (wtf hb_3) rfl fun a hK => ?_
    refine sl hK (by decide) rfl rfl (r_pick_f hb_3 hK rfl rfl) fun a hK => ?_
    refine sl hK (by decide) rfl rfl (r_move hK rfl) fun a hK => ?_
    refine sl_skip hK (by decide) rfl rfl fun a hK => ?_
    refine sl_skip hK (by decide) rfl rfl fun a hK => ?_
    refine sl_skip hK (by decide) rfl rfl fun a hK => ?_
    refine sl_skip hK (by decide) rfl rfl fun a hK => ?_
    refine sl_skip hK (by decide) rfl rfl fun a hK => ?_
    refine sl hK (by decide) rfl rfl (r_pick hK rfl rfl rfl) fun a hK => ?_
    refine sl hK (by decide) rfl rfl (r_assign hK rfl) fun a hK => ?_
    refine wpList_nil ?_
    obtain rfl := Option.some.inj H
    refine wp_ret ?_
    repeat (first | refine ret_then ?_ | refine ret_block ?_ | refine ret_scope ?_)
    exact ret_1 Try.results15 hK (rv_tmp hK rfl) ⟨rfl, hS.bel⟩

/-! ### catchment/schema.one$1: function 39 -/
set_option maxHeartbeats 4000000 in
set_option maxRecDepth 100000 in
theorem schema_one_1.calls (a0 : api_Col) {w0 : World} {RA : Hp} (hRA : RA.sub w0) (hG : GF RA) {r : Bool} (H : schema_one_1 a0 = some r) : CallsV Try.prog 39 #[.agg #[.string a0.Name, .int .i64 a0.Kind]] w0 (.bool r) := by
  unfold schema_one_1 at H
  refine enter (args := [.agg #[.string a0.Name, .int .i64 a0.Kind]]) Try.func39 rfl Try.ntmps39 rfl fun a hK => ?_
  have hS := St.init (R := fun _ => none) (w := w0) (fun _ _ h => by cases h)
  have hRL := RLe.refl (M := []) w0 (fun _ => none)
  refine wp_seq ?_
  refine wp_region_lit ?_
  refine sl_box hS hK (by decide) rfl rfl (c := [.string a0.Name, .int .i64 a0.Kind]) rfl fun a w b_1 hS hK => ?_
  refine sl hK (by decide) rfl rfl (r_assign hK rfl) fun a hK => ?_
  refine wpList_nil ?_
  refine wp_seq ?_
  refine wp_region_lit ?_
  refine sl hK (by decide) rfl rfl (r_fieldAddr Try.underlying52 rfl Try.sizeOf9 hK rfl) fun a hK => ?_
  refine sl hK (by decide) rfl rfl (r_load Try.isAgg9 hK rfl (hS.cell (.head _) rfl)) fun a hK => ?_
  obtain ⟨y_2, h_3, H⟩ := bind_some H
  refine sl_callV Try.call15 hS hK (by decide) rfl rfl rfl (schema_Word.calls a0.Name (lentOf_sub [] _) (GF.mono (hS.raLe0 hRA nil_not) hG) h_3) fun a w hS hK => ?_
  refine sl hK (by decide) rfl rfl (r_assign hK rfl) fun a hK => ?_
  refine wpList_nil ?_
  obtain rfl := Option.some.inj H
  refine wp_ret ?_
  repeat (first | refine ret_then ?_ | refine ret_block ?_ | refine ret_scope ?_)
  exact ret_1 Try.results39 hK (rv_tmp hK rfl) ⟨rfl, hS.bel⟩

/-! ### catchment/schema.all: function 38 -/
set_option maxHeartbeats 4000000 in
set_option maxRecDepth 100000 in
theorem schema_all_f_schema_one_1.calls (a1 : List (List api_Col)) {w0 : World} {RA : Hp} {v1_0 : Value} (hRA : RA.sub w0) (h1_0 : SlR (tySl ty_api_Col) RA v1_0 a1) (hG : GF RA) {r : Bool} (H : schema_all_f_schema_one_1 a1 = some r) : CallsV Try.prog 38 #[.func (.func 39) #[] #[], v1_0] w0 (.bool r) := by
  unfold schema_all_f_schema_one_1 at H
  refine enter (args := [.func (.func 39) #[] #[], v1_0]) Try.func38 rfl Try.ntmps38 rfl fun a hK => ?_
  have hS := St.init (R := fun _ => none) (w := w0) (fun _ _ h => by cases h)
  have hRL := RLe.refl (M := []) w0 (fun _ => none)
  refine wp_seq ?_
  refine wp_region_lit ?_
  refine sl hK (by decide) rfl rfl (r_assign hK rfl) fun a hK => ?_
  refine wpList_nil ?_
  refine wp_seq ?_
  refine wp_seq ?_
  refine wp_region_lit ?_
  refine sl hK (by decide) rfl rfl (r_move hK rfl) fun a hK => ?_
  refine sl hK (by decide) rfl rfl (r_len_R Try.underlying61 h1_0 hK rfl) fun a hK => ?_
  refine sl hK (by decide) rfl rfl (r_move hK rfl) fun a hK => ?_
  refine wpList_nil ?_
  refine wp_block ?_
  refine wp_loop_k (fun k_l0 a w => ∃ (x_59 : Int), schema_all_f_schema_one_1.l0 a1 k_l0 x_59 = some r ∧ Kn 27 a [(0, .func (.func 39) #[] #[]), (9, v1_0), (10, .int .i64 (a1.length : Int)), (11, .int .i64 x_59)] ∧ St [] w0 w (fun _ => none) []) (((a1.length : Int) - 0).toNat + 1) ?_ ?_
  · exact ⟨0, H, hK.sub (all_cons rfl (all_cons rfl (all_cons rfl (all_cons rfl (all_nil))))), hS⟩
  · rintro k_l0 a w ⟨x_59, H, hK, hS⟩
    cases k_l0 with
    | zero => cases H
    | succ k_l0 =>
    rw [schema_all_f_schema_one_1.l0.eq_2] at H
    refine wp_seq ?_
    refine wp_region_lit ?_
    refine sl hK (by decide) rfl rfl (r_ibin hK rfl rfl rfl) fun a hK => ?_
    refine wpList_nil ?_
    refine wp_seq ?_
    refine wp_cond_split (hK.ev rfl) (fun (hb_118 : (decide (x_59 < (a1.length : Int))) = true) => ?_) (fun (hb_118 : (decide (x_59 < (a1.length : Int))) = false) => ?_)
    · rw [ifb_t hb_118] at H
      refine wp_skip ?_
      refine wp_seq ?_
      refine wp_block ?_
      refine wp_seq ?_
      refine wp_region_lit ?_
      obtain ⟨y_119, h_120, H⟩ := bind_some H
      obtain ⟨b_121, o_122, c_123, cs_124, hv_125, hr_126, hc_127, h_1200, h_1201⟩ := h1_0.ix h_120
      obtain ⟨v_128, rfl, hs_129⟩ := hr_126
      refine sl hK (by decide) rfl rfl (r_indexAddr_R Try.underlying61 Try.sizeOf24 hv_125 h_1200 h_1201 hK rfl rfl) fun a hK => ?_
      refine sl hK (by decide) rfl rfl (r_load Try.isAgg24 hK rfl ((hS.ra hRA nil_not).cell (hc_127 0 _ rfl))) fun a hK => ?_
      refine sl hK (by decide) rfl rfl (r_assign hK rfl) fun a hK => ?_
      refine wpList_nil ?_
      refine wp_seq ?_
      refine wp_region_lit ?_
      refine sl hK (by decide) rfl rfl (r_move hK rfl) fun a hK => ?_
      refine sl hK (by decide) rfl rfl (r_len_R Try.underlying24 hs_129 hK rfl) fun a hK => ?_
      refine sl hK (by decide) rfl rfl (r_move hK rfl) fun a hK => ?_
      refine wpList_nil ?_
      refine wp_block ?_
      refine wp_loop_k (fun k_l1 a w => ∃ (x_145 : Int), schema_all_f_schema_one_1.l1 (schema_all_f_schema_one_1.l0 a1 k_l0) a1 x_59 y_119 k_l1 x_145 = some r ∧ Kn 27 a [(0, .func (.func 39) #[] #[]), (9, v1_0), (10, .int .i64 (a1.length : Int)), (11, .int .i64 x_59), (15, v_128), (16, .int .i64 (y_119.length : Int)), (17, .int .i64 x_145)] ∧ St [] w0 w (fun _ => none) []) (((y_119.length : Int) - 0).toNat + 1) ?_ ?_
      · exact ⟨0, H, hK.sub (all_cons rfl (all_cons rfl (all_cons rfl (all_cons rfl (all_cons rfl (all_cons rfl (all_cons rfl (all_nil)))))))), hS⟩
      · rintro k_l1 a w ⟨x_145, H, hK, hS⟩
        cases k_l1 with
        | zero => cases H
        | succ k_l1 =>
        rw [schema_all_f_schema_one_1.l1.eq_2] at H
        refine wp_seq ?_
        refine wp_region_lit ?_
        refine sl hK (by decide) rfl rfl (r_ibin hK rfl rfl rfl) fun a hK => ?_
        refine wpList_nil ?_
        refine wp_seq ?_
        refine wp_cond_split (hK.ev rfl) (fun (hb_161 : (decide (x_145 < (y_119.length : Int))) = true) => ?_) (fun (hb_161 : (decide (x_145 < (y_119.length : Int))) = false) => ?_)
        · rw [ifb_t hb_161] at H
          refine wp_skip ?_
          refine wp_seq ?_
          refine wp_block ?_
          refine wp_seq ?_
          refine wp_region_lit ?_
          obtain ⟨y_162, h_163, H⟩ := bind_some H
          obtain ⟨b_164, o_165, c_166, cs_167, hv_168, hr_169, hc_170, h_1630, h_1631⟩ := hs_129.ix h_163
          subst hr_169
          refine sl hK (by decide) rfl rfl (r_indexAddr_R Try.underlying24 Try.sizeOf52 hv_168 h_1630 h_1631 hK rfl rfl) fun a hK => ?_
          refine sl hK (by decide) rfl rfl (r_loadA (cs := [.string y_162.Name, .int .i64 y_162.Kind]) Try.isAgg52 Try.sizeOf52 rfl hK rfl (fun j v hv => (hS.ra hRA nil_not).cell (hc_170 j v hv))) fun a hK => ?_
          refine sl_alloc Try.zeroValue52 hS hK (by decide) rfl rfl fun a w b_171 hS hK => ?_
          refine sl_storeA (vs := [.string y_162.Name, .int .i64 y_162.Kind]) (c' := [.string y_162.Name, .int .i64 y_162.Kind]) Try.sizeOf52 hS hK rfl rfl rfl rfl (all_cons rfl (all_cons rfl (all_nil))) (Nat.le_of_ble_eq_true rfl) rfl fun a w hS hK => ?_
          refine wpList_nil ?_
          refine wp_seq ?_
          refine wp_region_lit ?_
          refine sl hK (by decide) rfl rfl (r_move hK rfl) fun a hK => ?_
          refine sl hK (by decide) rfl rfl (r_loadA (cs := [.string y_162.Name, .int .i64 y_162.Kind]) Try.isAgg52 Try.sizeOf52 rfl hK rfl (hS.cells_of (m := 2) (.head _) rfl)) fun a hK => ?_
          obtain ⟨y_172, h_173, H⟩ := bind_some H
          refine sl_callV Try.call39 hS hK (by decide) rfl rfl rfl (schema_one_1.calls y_162 (lentOf_sub [] _) (GF.mono (hS.raLe0 hRA nil_not) hG) h_173) fun a w hS hK => ?_
          refine sl hK (by decide) rfl rfl (r_un hK rfl (u_not _)) fun a hK => ?_
          refine wpList_nil ?_
          refine wp_cond_split (hK.ev rfl) (fun (hb_174 : (!y_172) = true) => ?_) (fun (hb_174 : (!y_172) = false) => ?_)
          · rw [ifb_t hb_174] at H
            refine wp_seq ?_
            refine wp_region_lit ?_
            refine sl hK (by decide) rfl rfl (r_assign hK rfl) fun a hK => ?_
            refine wpList_nil ?_
            obtain rfl := Option.some.inj H
            refine wp_ret ?_
            repeat (first | refine ret_then ?_ | refine ret_block ?_ | refine ret_scope ?_)
            exact ret_1 Try.results38 hK (rv_tmp hK rfl) ⟨rfl, hS.bel⟩
          · rw [ifb_f hb_174] at H
            refine wp_skip ?_
            refine wp_region_lit ?_
            refine sl hK (by decide) rfl rfl (r_ibin hK rfl rfl rfl) fun a hK => ?_
            refine sl hK (by decide) rfl rfl (r_move hK rfl) fun a hK => ?_
            refine wpList_nil ?_
            exact ⟨_, Nat.lt_succ_self _, (IntKind.i64.wrap (x_145 + 1)), H, hK.sub (all_cons rfl (all_cons rfl (all_cons rfl (all_cons rfl (all_cons rfl (all_cons rfl (all_cons rfl (all_nil)))))))), hS.trunc 0⟩
        · rw [ifb_f hb_161] at H
          refine wp_exit ?_
          refine wp_region_lit ?_
          refine sl hK (by decide) rfl rfl (r_ibin hK rfl rfl rfl) fun a hK => ?_
          refine sl hK (by decide) rfl rfl (r_move hK rfl) fun a hK => ?_
          refine wpList_nil ?_
          exact ⟨_, Nat.lt_succ_self _, (IntKind.i64.wrap (x_59 + 1)), H, hK.sub (all_cons rfl (all_cons rfl (all_cons rfl (all_cons rfl (all_nil))))), hS⟩
    · rw [ifb_f hb_118] at H
      refine wp_exit ?_
      refine wp_seq ?_
      refine wp_region_lit ?_
      refine sl hK (by decide) rfl rfl (r_assign hK rfl) fun a hK => ?_
      refine wpList_nil ?_
      obtain rfl := Option.some.inj H
      refine wp_ret ?_
      repeat (first | refine ret_then ?_ | refine ret_block ?_ | refine ret_scope ?_)
      exact ret_1 Try.results38 hK (rv_tmp hK rfl) ⟨rfl, hS.bel⟩

/-! ### catchment/schema.one$2: function 40 -/
set_option maxHeartbeats 4000000 in
set_option maxRecDepth 100000 in
theorem schema_one_2.calls (a0 : api_Col) {r : Bool} (H : schema_one_2 a0 = some r) (w0 : World) : CallsV Try.prog 40 #[.agg #[.string a0.Name, .int .i64 a0.Kind]] w0 (.bool r) := by
  unfold schema_one_2 at H
  refine enter (args := [.agg #[.string a0.Name, .int .i64 a0.Kind]]) Try.func40 rfl Try.ntmps40 rfl fun a hK => ?_
  have hS := St.init (R := fun _ => none) (w := w0) (fun _ _ h => by cases h)
  have hRL := RLe.refl (M := []) w0 (fun _ => none)
  refine wp_seq ?_
  refine wp_region_lit ?_
  refine sl_box hS hK (by decide) rfl rfl (c := [.string a0.Name, .int .i64 a0.Kind]) rfl fun a w b_1 hS hK => ?_
  refine sl hK (by decide) rfl rfl (r_assign hK rfl) fun a hK => ?_
  refine wpList_nil ?_
  refine wp_seq ?_
  refine wp_region_lit ?_
  refine sl hK (by decide) rfl rfl (r_fieldAddr Try.underlying52 rfl Try.sizeOf3 hK rfl) fun a hK => ?_
  refine sl hK (by decide) rfl rfl (r_load Try.isAgg3 hK rfl (hS.cell (.head _) rfl)) fun a hK => ?_
  refine sl hK (by decide) rfl rfl (r_ibin hK rfl rfl rfl) fun a hK => ?_
  refine sl hK (by decide) rfl rfl (r_assign hK rfl) fun a hK => ?_
  refine wpList_nil ?_
  obtain rfl := Option.some.inj H
  refine wp_ret ?_
  repeat (first | refine ret_then ?_ | refine ret_block ?_ | refine ret_scope ?_)
  exact ret_1 Try.results40 hK (rv_tmp hK rfl) ⟨rfl, hS.bel⟩

/-! ### catchment/schema.all: function 38 -/
set_option maxHeartbeats 4000000 in
set_option maxRecDepth 100000 in
theorem schema_all_f_schema_one_2.calls (a1 : List (List api_Col)) {w0 : World} {RA : Hp} {v1_0 : Value} (hRA : RA.sub w0) (h1_0 : SlR (tySl ty_api_Col) RA v1_0 a1) {r : Bool} (H : schema_all_f_schema_one_2 a1 = some r) : CallsV Try.prog 38 #[.func (.func 40) #[] #[], v1_0] w0 (.bool r) := by
  unfold schema_all_f_schema_one_2 at H
  refine enter (args := [.func (.func 40) #[] #[], v1_0]) Try.func38 rfl Try.ntmps38 rfl fun a hK => ?_
  have hS := St.init (R := fun _ => none) (w := w0) (fun _ _ h => by cases h)
  have hRL := RLe.refl (M := []) w0 (fun _ => none)
  refine wp_seq ?_
  refine wp_region_lit ?_
  refine sl hK (by decide) rfl rfl (r_assign hK rfl) fun a hK => ?_
  refine wpList_nil ?_
  refine wp_seq ?_
  refine wp_seq ?_
  refine wp_region_lit ?_
  refine sl hK (by decide) rfl rfl (r_move hK rfl) fun a hK => ?_
  refine sl hK (by decide) rfl rfl (r_len_R Try.underlying61 h1_0 hK rfl) fun a hK => ?_
  refine sl hK (by decide) rfl rfl (r_move hK rfl) fun a hK => ?_
  refine wpList_nil ?_
  refine wp_block ?_
  refine wp_loop_k (fun k_l0 a w => ∃ (x_59 : Int), schema_all_f_schema_one_2.l0 a1 k_l0 x_59 = some r ∧ Kn 27 a [(0, .func (.func 40) #[] #[]), (9, v1_0), (10, .int .i64 (a1.length : Int)), (11, .int .i64 x_59)] ∧ St [] w0 w (fun _ => none) []) (((a1.length : Int) - 0).toNat + 1) ?_ ?_
  · exact ⟨0, H, hK.sub (all_cons rfl (all_cons rfl (all_cons rfl (all_cons rfl (all_nil))))), hS⟩
  · rintro k_l0 a w ⟨x_59, H, hK, hS⟩
    cases k_l0 with
    | zero => cases H
    | succ k_l0 =>
    rw [schema_all_f_schema_one_2.l0.eq_2] at H
    refine wp_seq ?_
    refine wp_region_lit ?_
    refine sl hK (by decide) rfl rfl (r_ibin hK rfl rfl rfl) fun a hK => ?_
    refine wpList_nil ?_
    refine wp_seq ?_
    refine wp_cond_split (hK.ev rfl) (fun (hb_118 : (decide (x_59 < (a1.length : Int))) = true) => ?_) (fun (hb_118 : (decide (x_59 < (a1.length : Int))) = false) => ?_)
    · rw [ifb_t hb_118] at H
      refine wp_skip ?_
      refine wp_seq ?_
      refine wp_block ?_
      refine wp_seq ?_
      refine wp_region_lit ?_
      obtain ⟨y_119, h_120, H⟩ := bind_some H
      obtain ⟨b_121, o_122, c_123, cs_124, hv_125, hr_126, hc_127, h_1200, h_1201⟩ := h1_0.ix h_120
      obtain ⟨v_128, rfl, hs_129⟩ := hr_126
      refine sl hK (by decide) rfl rfl (r_indexAddr_R Try.underlying61 Try.sizeOf24 hv_125 h_1200 h_1201 hK rfl rfl) fun a hK => ?_
      refine sl hK (by decide) rfl rfl (r_load Try.isAgg24 hK rfl ((hS.ra hRA nil_not).cell (hc_127 0 _ rfl))) fun a hK => ?_
      refine sl hK (by decide) rfl rfl (r_assign hK rfl) fun a hK => ?_
      refine wpList_nil ?_
      refine wp_seq ?_
      refine wp_region_lit ?_
      refine sl hK (by decide) rfl rfl (r_move hK rfl) fun a hK => ?_
      refine sl hK (by decide) rfl rfl (r_len_R Try.underlying24 hs_129 hK rfl) fun a hK => ?_
      refine sl hK (by decide) rfl rfl (r_move hK rfl) fun a hK => ?_
      refine wpList_nil ?_
      refine wp_block ?_
      refine wp_loop_k (fun k_l1 a w => ∃ (x_145 : Int), schema_all_f_schema_one_2.l1 (schema_all_f_schema_one_2.l0 a1 k_l0) a1 x_59 y_119 k_l1 x_145 = some r ∧ Kn 27 a [(0, .func (.func 40) #[] #[]), (9, v1_0), (10, .int .i64 (a1.length : Int)), (11, .int .i64 x_59), (15, v_128), (16, .int .i64 (y_119.length : Int)), (17, .int .i64 x_145)] ∧ St [] w0 w (fun _ => none) []) (((y_119.length : Int) - 0).toNat + 1) ?_ ?_
      · exact ⟨0, H, hK.sub (all_cons rfl (all_cons rfl (all_cons rfl (all_cons rfl (all_cons rfl (all_cons rfl (all_cons rfl (all_nil)))))))), hS⟩
      · rintro k_l1 a w ⟨x_145, H, hK, hS⟩
        cases k_l1 with
        | zero => cases H
        | succ k_l1 =>
        rw [schema_all_f_schema_one_2.l1.eq_2] at H
        refine wp_seq ?_
        refine wp_region_lit ?_
        refine sl hK (by decide) rfl rfl (r_ibin hK rfl rfl rfl) fun a hK => ?_
        refine wpList_nil ?_
        refine wp_seq ?_
        refine wp_cond_split (hK.ev rfl) (fun (hb_161 : (decide (x_145 < (y_119.length : Int))) = true) => ?_) (fun (hb_161 : (decide (x_145 < (y_119.length : Int))) = false) => ?_)
        · rw [ifb_t hb_161] at H
          refine wp_skip ?_
          refine wp_seq ?_
          refine wp_block ?_
          refine wp_seq ?_
          refine wp_region_lit ?_
          obtain ⟨y_162, h_163, H⟩ := bind_some H
          obtain ⟨b_164, o_165, c_166, cs_167, hv_168, hr_169, hc_170, h_1630, h_1631⟩ := hs_129.ix h_163
          subst hr_169
          refine sl hK (by decide) rfl rfl (r_indexAddr_R Try.underlying24 Try.sizeOf52 hv_168 h_1630 h_1631 hK rfl rfl) fun a hK => ?_
          refine sl hK (by decide) rfl rfl (r_loadA (cs := [.string y_162.Name, .int .i64 y_162.Kind]) Try.isAgg52 Try.sizeOf52 rfl hK rfl (fun j v hv => (hS.ra hRA nil_not).cell (hc_170 j v hv))) fun a hK => ?_
          refine sl_alloc Try.zeroValue52 hS hK (by decide) rfl rfl fun a w b_171 hS hK => ?_
          refine sl_storeA (vs := [.string y_162.Name, .int .i64 y_162.Kind]) (c' := [.string y_162.Name, .int .i64 y_162.Kind]) Try.sizeOf52 hS hK rfl rfl rfl rfl (all_cons rfl (all_cons rfl (all_nil))) (Nat.le_of_ble_eq_true rfl) rfl fun a w hS hK => ?_
          refine wpList_nil ?_
          refine wp_seq ?_
          refine wp_region_lit ?_
          refine sl hK (by decide) rfl rfl (r_move hK rfl) fun a hK => ?_
          refine sl hK (by decide) rfl rfl (r_loadA (cs := [.string y_162.Name, .int .i64 y_162.Kind]) Try.isAgg52 Try.sizeOf52 rfl hK rfl (hS.cells_of (m := 2) (.head _) rfl)) fun a hK => ?_
          obtain ⟨y_172, h_173, H⟩ := bind_some H
          refine sl_callV Try.call40 hS hK (by decide) rfl rfl rfl (schema_one_2.calls y_162 h_173 _) fun a w hS hK => ?_
          refine sl hK (by decide) rfl rfl (r_un hK rfl (u_not _)) fun a hK => ?_
          refine wpList_nil ?_
          refine wp_cond_split (hK.ev rfl) (fun (hb_174 : (!y_172) = true) => ?_) (fun (hb_174 : (!y_172) = false) => ?_)
          · rw [ifb_t hb_174] at H
            refine wp_seq ?_
            refine wp_region_lit ?_
            refine sl hK (by decide) rfl rfl (r_assign hK rfl) fun a hK => ?_
            refine wpList_nil ?_
            obtain rfl := Option.some.inj H
            refine wp_ret ?_
            repeat (first | refine ret_then ?_ | refine ret_block ?_ | refine ret_scope ?_)
            exact ret_1 Try.results38 hK (rv_tmp hK rfl) ⟨rfl, hS.bel⟩
          · rw [ifb_f hb_174] at H
            refine wp_skip ?_
            refine wp_region_lit ?_
            refine sl hK (by decide) rfl rfl (r_ibin hK rfl rfl rfl) fun a hK => ?_
            refine sl hK (by decide) rfl rfl (r_move hK rfl) fun a hK => ?_
            refine wpList_nil ?_
            exact ⟨_, Nat.lt_succ_self _, (IntKind.i64.wrap (x_145 + 1)), H, hK.sub (all_cons rfl (all_cons rfl (all_cons rfl (all_cons rfl (all_cons rfl (all_cons rfl (all_cons rfl (all_nil)))))))), hS.trunc 0⟩
        · rw [ifb_f hb_161] at H
          refine wp_exit ?_
          refine wp_region_lit ?_
          refine sl hK (by decide) rfl rfl (r_ibin hK rfl rfl rfl) fun a hK => ?_
          refine sl hK (by decide) rfl rfl (r_move hK rfl) fun a hK => ?_
          refine wpList_nil ?_
          exact ⟨_, Nat.lt_succ_self _, (IntKind.i64.wrap (x_59 + 1)), H, hK.sub (all_cons rfl (all_cons rfl (all_cons rfl (all_cons rfl (all_nil))))), hS⟩
    · rw [ifb_f hb_118] at H
      refine wp_exit ?_
      refine wp_seq ?_
      refine wp_region_lit ?_
      refine sl hK (by decide) rfl rfl (r_assign hK rfl) fun a hK => ?_
      refine wpList_nil ?_
      obtain rfl := Option.some.inj H
      refine wp_ret ?_
      repeat (first | refine ret_then ?_ | refine ret_block ?_ | refine ret_scope ?_)
      exact ret_1 Try.results38 hK (rv_tmp hK rfl) ⟨rfl, hS.bel⟩

/-! ### slices.Grow[[]catchment/api.Col,catchment/api.Col]: function 36 -/
set_option maxHeartbeats 4000000 in
set_option maxRecDepth 100000 in
theorem slices_Grow_api_Col_api_Col.calls (a0 : List api_Col) (a1 : Int) {w0 : World} {R RA : Hp} (hRA : RA.sub w0) (hR : R.sub w0) (h0 : SlR ty_api_Col RA (.slice none 0 0) a0) {r : List api_Col} (H : slices_Grow_api_Col_api_Col a0 a1 = some r) :
    Calls Try.prog 36 #[.slice none 0 0, .int .i64 a1] w0 (Rets fun v w' => ∃ (R' : Hp) (u0 : Value) (cu0 : List Value), v = u0 ∧ St [] w0 w' R' [.row 52 2 u0 r.length cu0] ∧ RLe [] w0 R R' ∧ Reps ty_api_Col R' cu0 r) := by
  obtain ⟨k, rfl, hb, rfl⟩ := grow0_some H
  have hl0 : a0 = [] := by
    obtain ⟨ad, cap, h1, _⟩ := h0
    simp only [Value.slice.injEq] at h1
    exact List.eq_nil_of_length_eq_zero h1.2.1.symm
  subst hl0
  have hbig : k ≤ 140737488355328 := Nat.le_trans (Nat.le_mul_of_pos_right _ (by decide)) hb
  refine enter (args := [.slice none 0 0, .int .i64 (k : Int)]) Try.func36 rfl Try.ntmps36 rfl fun a hK => ?_
  have hS := St.init hR
  refine wp_seq ?_
  refine wp_region_lit ?_
  refine sl hK (by decide) rfl rfl (r_assign hK rfl) fun a hK => ?_
  refine wpList_nil ?_
  refine wp_seq ?_
  refine wp_seq ?_
  refine wp_region_lit ?_
  refine sl hK (by decide) rfl rfl (r_move hK rfl) fun a hK => ?_
  refine sl hK (by decide) rfl rfl (r_ibin hK rfl rfl rfl) fun a hK => ?_
  refine wpList_nil ?_
  refine wp_cond_false ((hK.ev rfl).trans (congrArg Value.bool (show decide ((k : Int) < 0) = false by simp))) ?_
  refine wp_skip ?_
  refine wp_seq ?_
  refine wp_seq ?_
  refine wp_region_lit ?_
  refine sl hK (by decide) rfl rfl (r_move hK rfl) fun a hK => ?_
  refine sl hK (by decide) rfl rfl (r_move hK rfl) fun a hK => ?_
  refine sl hK (by decide) rfl rfl (r_cap Try.underlying24 hK rfl) fun a hK => ?_
  refine sl hK (by decide) rfl rfl (r_move hK rfl) fun a hK => ?_
  refine sl hK (by decide) rfl rfl (r_len_sl Try.underlying24 hK rfl) fun a hK => ?_
  refine sl hK (by decide) rfl rfl (r_ibin (k := .i64) (v := .int .i64 0) hK rfl rfl rfl) fun a hK => ?_
  refine sl hK (by decide) rfl rfl (r_ibin (k := .i64) (v := .int .i64 (k : Int)) hK rfl rfl (by show some (Value.int .i64 (IntKind.i64.wrap ((k : Int) - 0))) = _; rw [Int.sub_zero, w64 (by omega) (by omega)])) fun a hK => ?_
  refine sl hK (by decide) rfl rfl (r_assign hK rfl) fun a hK => ?_
  refine wpList_nil ?_
  refine wp_seq ?_
  refine wp_region_lit ?_
  refine sl hK (by decide) rfl rfl (r_move hK rfl) fun a hK => ?_
  refine sl hK (by decide) rfl rfl (r_ibin hK rfl rfl rfl) fun a hK => ?_
  refine wpList_nil ?_
  by_cases hk : k = 0
  · refine wp_cond_false ((hK.ev rfl).trans (congrArg Value.bool (show decide ((k : Int) > 0) = false by simp; omega))) ?_
    refine wp_skip ?_
    refine wp_seq ?_
    refine wp_region_lit ?_
    refine sl hK (by decide) rfl rfl (r_move hK rfl) fun a hK => ?_
    refine sl hK (by decide) rfl rfl (r_assign hK rfl) fun a hK => ?_
    refine wpList_nil ?_
    refine wp_ret ?_
    repeat (first | refine ret_then ?_ | refine ret_block ?_)
    exact ret_1 Try.results36 hK (rv_tmp hK rfl) ⟨_, rfl, R, _, [], rfl, hS.row_nil 52 2, RLe.refl _ _, Reps.nil _ _⟩
  · refine wp_cond_true ((hK.ev rfl).trans (congrArg Value.bool (show decide ((k : Int) > 0) = true by simp; omega))) ?_
    refine wp_region_lit ?_
    refine sl hK (by decide) rfl rfl (r_move hK rfl) fun a hK => ?_
    refine sl hK (by decide) rfl rfl (r_move hK rfl) fun a hK => ?_
    refine sl hK (by decide) rfl rfl (r_cap Try.underlying24 hK rfl) fun a hK => ?_
    refine sl hK (by decide) rfl rfl (r_slice_H (l := 0) (h := 0) Try.underlying24 Try.sizeOf52 (Nat.le_refl _) (Nat.le_refl _) hK rfl rfl ⟨_, rfl⟩) fun a hK => ?_
    refine sl hK (by decide) rfl rfl (r_move hK rfl) fun a hK => ?_
    refine sl_append_zeros (i := 0) (k := k) (olds := []) (cap := 0) (ad := none) elT24 Try.underlying3 (by omega) (by omega) (by decide) (by simpa using hb) (by simp) (fun h => absurd rfl h) (fun h => absurd rfl h) hS hK (by decide) rfl rfl rfl fun a w b capn rest' hgn hcmn hln hS hK => ?_
    refine sl hK (by decide) rfl rfl (r_move hK rfl) fun a hK => ?_
    refine sl hK (by decide) rfl rfl (r_len_sl Try.underlying24 hK rfl) fun a hK => ?_
    refine sl hK (by decide) rfl rfl (r_slice_Hv (b := b) (o := 0) (m := 0 + k) (c := capn) (l := 0) (h := 0) (o' := 0) (m' := 0) (c' := capn) Try.underlying24 Try.sizeOf52 (by omega) (by omega) (Or.inr rfl) rfl rfl rfl hK rfl rfl ⟨_, rfl⟩) fun a hK => ?_
    refine sl hK (by decide) rfl rfl (r_assign hK rfl) fun a hK => ?_
    refine wpList_nil ?_
    refine wp_seq ?_
    refine wp_region_lit ?_
    refine sl hK (by decide) rfl rfl (r_move hK rfl) fun a hK => ?_
    refine sl hK (by decide) rfl rfl (r_assign hK rfl) fun a hK => ?_
    refine wpList_nil ?_
    refine wp_ret ?_
    repeat (first | refine ret_then ?_ | refine ret_block ?_)
    have hS := hS.raw_row (z := 2) (m := 0) (Nat.zero_le _) hcmn hln
    rw [Nat.zero_mul, List.take_zero] at hS
    exact ret_1 Try.results36 hK (rv_tmp hK rfl) ⟨_, rfl, R, _, [], rfl, hS, RLe.refl _ _, Reps.nil _ _⟩


/-! ### slices.Concat[[]catchment/api.Col,catchment/api.Col]: function 24 -/
set_option maxHeartbeats 4000000 in
set_option maxRecDepth 100000 in
theorem slices_Concat_api_Col_api_Col.calls (a0 : List (List api_Col)) {w0 : World} {R : Hp} {RA : Hp} {v0_0 : Value} (hRA : RA.sub w0) (hR : R.sub w0) (h0_0 : SlR (tySl ty_api_Col) RA v0_0 a0) {r : List api_Col} (H : slices_Concat_api_Col_api_Col a0 = some r) : Calls Try.prog 24 #[v0_0] w0 (Rets fun v w' => ∃ (R' : Hp) (u0 : Value) (cu0 : List Value), v = u0 ∧ St [] w0 w' R' [.row 52 2 u0 r.length cu0] ∧ RLe [] w0 R R' ∧ Reps ty_api_Col R' cu0 r) := by
  unfold slices_Concat_api_Col_api_Col at H
  refine enter (args := [v0_0]) Try.func24 rfl Try.ntmps24 rfl fun a hK => ?_
  have hS := St.init hR
  have hRL := RLe.refl (M := []) w0 R
  refine wp_seq ?_
  refine wp_region_lit ?_
  refine sl hK (by decide) rfl rfl (r_assign hK rfl) fun a hK => ?_
  refine wpList_nil ?_
  refine wp_seq ?_
  refine wp_region_lit ?_
  refine sl hK (by decide) rfl rfl (r_assign hK rfl) fun a hK => ?_
  refine wpList_nil ?_
  refine wp_seq ?_
  refine wp_seq ?_
  refine wp_region_lit ?_
  refine sl hK (by decide) rfl rfl (r_move hK rfl) fun a hK => ?_
  refine sl hK (by decide) rfl rfl (r_len_R Try.underlying61 h0_0 hK rfl) fun a hK => ?_
  refine sl hK (by decide) rfl rfl (r_move hK rfl) fun a hK => ?_
  refine wpList_nil ?_
  refine wp_block ?_
  refine wp_loop_k (fun k_l0 a w => ∃ (x_16 : Int) (x_17 : Int), slices_Concat_api_Col_api_Col.l0 a0 k_l0 x_16 x_17 = some r ∧ Kn 36 a [(0, v0_0), (3, .int .i64 x_16), (9, v0_0), (10, .int .i64 (a0.length : Int)), (11, .int .i64 x_17)] ∧ St [] w0 w R []) (((a0.length : Int) - 0).toNat + 1) ?_ ?_
  · exact ⟨0, 0, H, hK.sub (all_cons rfl (all_cons rfl (all_cons rfl (all_cons rfl (all_cons rfl (all_nil)))))), hS⟩
  · rintro k_l0 a w ⟨x_16, x_17, H, hK, hS⟩
    cases k_l0 with
    | zero => cases H
    | succ k_l0 =>
    rw [slices_Concat_api_Col_api_Col.l0.eq_2] at H
    refine wp_seq ?_
    refine wp_region_lit ?_
    refine sl hK (by decide) rfl rfl (r_ibin hK rfl rfl rfl) fun a hK => ?_
    refine wpList_nil ?_
    refine wp_seq ?_
    refine wp_cond_split (hK.ev rfl) (fun (hb_33 : (decide (x_17 < (a0.length : Int))) = true) => ?_) (fun (hb_33 : (decide (x_17 < (a0.length : Int))) = false) => ?_)
    · rw [ifb_t hb_33] at H
      refine wp_skip ?_
      refine wp_seq ?_
      refine wp_block ?_
      refine wp_seq ?_
      refine wp_region_lit ?_
      obtain ⟨y_34, h_35, H⟩ := bind_some H
      obtain ⟨b_36, o_37, c_38, cs_39, hv_40, hr_41, hc_42, h_350, h_351⟩ := h0_0.ix h_35
      obtain ⟨v_43, rfl, hs_44⟩ := hr_41
      refine sl hK (by decide) rfl rfl (r_indexAddr_R Try.underlying61 Try.sizeOf24 hv_40 h_350 h_351 hK rfl rfl) fun a hK => ?_
      refine sl hK (by decide) rfl rfl (r_load Try.isAgg24 hK rfl ((hS.ra hRA nil_not).cell (hc_42 0 _ rfl))) fun a hK => ?_
      refine sl hK (by decide) rfl rfl (r_assign hK rfl) fun a hK => ?_
      refine wpList_nil ?_
      refine wp_seq ?_
      refine wp_region_lit ?_
      refine sl hK (by decide) rfl rfl (r_move hK rfl) fun a hK => ?_
      refine sl hK (by decide) rfl rfl (r_move hK rfl) fun a hK => ?_
      refine sl hK (by decide) rfl rfl (r_len_R Try.underlying24 hs_44 hK rfl) fun a hK => ?_
      refine sl hK (by decide) rfl rfl (r_ibin hK rfl rfl rfl) fun a hK => ?_
      refine sl hK (by decide) rfl rfl (r_assign hK rfl) fun a hK => ?_
      refine wpList_nil ?_
      refine wp_seq ?_
      refine wp_region_lit ?_
      refine sl hK (by decide) rfl rfl (r_move hK rfl) fun a hK => ?_
      refine sl hK (by decide) rfl rfl (r_ibin hK rfl rfl rfl) fun a hK => ?_
      refine wpList_nil ?_
      refine wp_cond_split (hK.ev rfl) (fun (hb_46 : (decide ((IntKind.i64.wrap (x_16 + (y_34.length : Int))) < 0)) = true) => ?_) (fun (hb_46 : (decide ((IntKind.i64.wrap (x_16 + (y_34.length : Int))) < 0)) = false) => ?_)
      · rw [ifb_t hb_46] at H
        refine wp_region_lit ?_
        cases H
      · rw [ifb_f hb_46] at H
        refine wp_skip ?_
        refine wp_region_lit ?_
        refine sl hK (by decide) rfl rfl (r_ibin hK rfl rfl rfl) fun a hK => ?_
        refine sl hK (by decide) rfl rfl (r_move hK rfl) fun a hK => ?_
        refine wpList_nil ?_
        exact ⟨_, Nat.lt_succ_self _, (IntKind.i64.wrap (x_16 + (y_34.length : Int))), (IntKind.i64.wrap (x_17 + 1)), H, hK.sub (all_cons rfl (all_cons rfl (all_cons rfl (all_cons rfl (all_cons rfl (all_nil)))))), hS⟩
    · rw [ifb_f hb_33] at H
      refine wp_exit ?_
      refine wp_seq ?_
      refine wp_region_lit ?_
      refine sl hK (by decide) rfl rfl (r_move hK rfl) fun a hK => ?_
      obtain ⟨y_47, h_48, H⟩ := bind_some H
      refine sl_call Try.call36 hK (by decide) rfl rfl rfl (slices_Grow_api_Col_api_Col.calls ([] : List api_Col) x_16 (lentOf_sub [] _) hS.sub (SlR.nil ty_api_Col _) h_48) fun a v_ w hv_ hK => ?_
      obtain ⟨R_49, v_52, cs_53, hv_, hr_, hl_50, hq_54⟩ := hv_
      have hv_ := hv_.symm
      subst hv_
      obtain ⟨hS, hl_50⟩ := hS.sp0.back hr_ hl_50
      have hS := hS.un1
      have hRL := hRL.trans hl_50
      refine sl hK (by decide) rfl rfl (r_assign hK rfl) fun a hK => ?_
      refine wpList_nil ?_
      refine wp_seq ?_
      refine wp_seq ?_
      refine wp_region_lit ?_
      refine sl hK (by decide) rfl rfl (r_move hK rfl) fun a hK => ?_
      refine sl hK (by decide) rfl rfl (r_len_R Try.underlying61 h0_0 hK rfl) fun a hK => ?_
      refine sl hK (by decide) rfl rfl (r_move hK rfl) fun a hK => ?_
      refine wpList_nil ?_
      refine wp_block ?_
      refine wp_loop_k (fun k_l1 a w => ∃ (x_75 : List api_Col) (x_79 : Int) (v_76 : Value) (cs_77 : List Value), slices_Concat_api_Col_api_Col.l1 a0 k_l1 x_75 x_79 = some r ∧ Reps ty_api_Col R_49 cs_77 x_75 ∧ Kn 36 a [(6, v_76), (25, v0_0), (26, .int .i64 (a0.length : Int)), (27, .int .i64 x_79)] ∧ St [] w0 w R_49 [.row 52 2 v_76 x_75.length cs_77]) (((a0.length : Int) - 0).toNat + 1) ?_ ?_
      · exact ⟨y_47, 0, _, _, H, hq_54, hK.sub (all_cons rfl (all_cons rfl (all_cons rfl (all_cons rfl (all_nil))))), hS⟩
      · rintro k_l1 a w ⟨x_75, x_79, v_76, cs_77, H, hq_78, hK, hS⟩
        cases k_l1 with
        | zero => cases H
        | succ k_l1 =>
        rw [slices_Concat_api_Col_api_Col.l1.eq_2] at H
        refine wp_seq ?_
        refine wp_region_lit ?_
        refine sl hK (by decide) rfl rfl (r_ibin hK rfl rfl rfl) fun a hK => ?_
        refine wpList_nil ?_
        refine wp_seq ?_
        refine wp_cond_split (hK.ev rfl) (fun (hb_99 : (decide (x_79 < (a0.length : Int))) = true) => ?_) (fun (hb_99 : (decide (x_79 < (a0.length : Int))) = false) => ?_)
        · rw [ifb_t hb_99] at H
          refine wp_skip ?_
          refine wp_seq ?_
          refine wp_block ?_
          refine wp_seq ?_
          refine wp_region_lit ?_
          obtain ⟨y_100, h_101, H⟩ := bind_some H
          obtain ⟨b_102, o_103, c_104, cs_105, hv_106, hr_107, hc_108, h_1010, h_1011⟩ := h0_0.ix h_101
          obtain ⟨v_109, rfl, hs_110⟩ := hr_107
          refine sl hK (by decide) rfl rfl (r_indexAddr_R Try.underlying61 Try.sizeOf24 hv_106 h_1010 h_1011 hK rfl rfl) fun a hK => ?_
          refine sl hK (by decide) rfl rfl (r_load Try.isAgg24 hK rfl ((hS.ra hRA nil_not).cell (hc_108 0 _ rfl))) fun a hK => ?_
          refine sl hK (by decide) rfl rfl (r_assign hK rfl) fun a hK => ?_
          refine wpList_nil ?_
          refine wp_region_lit ?_
          refine sl hK (by decide) rfl rfl (r_move hK rfl) fun a hK => ?_
          refine sl hK (by decide) rfl rfl (r_move hK rfl) fun a hK => ?_
          obtain ⟨y_111, h_112, H⟩ := bind_some H
          refine sl_append_A elT24 (by decide) rfl (fun _ _ _ _ h => h) (hS.ra hRA nil_not) hq_78 rfl hs_110 h_112 hS hK (by decide) rfl rfl rfl fun a w v_113 cs_114 hq_115 hS hK => ?_
          refine sl hK (by decide) rfl rfl (r_assign hK rfl) fun a hK => ?_
          refine wpList_nil ?_
          refine wp_region_lit ?_
          refine sl hK (by decide) rfl rfl (r_ibin hK rfl rfl rfl) fun a hK => ?_
          refine sl hK (by decide) rfl rfl (r_move hK rfl) fun a hK => ?_
          refine wpList_nil ?_
          exact ⟨_, Nat.lt_succ_self _, y_111, (IntKind.i64.wrap (x_79 + 1)), _, _, H, hq_115, hK.sub (all_cons rfl (all_cons rfl (all_cons rfl (all_cons rfl (all_nil))))), hS⟩
        · rw [ifb_f hb_99] at H
          refine wp_exit ?_
          refine wp_seq ?_
          refine wp_region_lit ?_
          refine sl hK (by decide) rfl rfl (r_move hK rfl) fun a hK => ?_
          refine sl hK (by decide) rfl rfl (r_assign hK rfl) fun a hK => ?_
          refine wpList_nil ?_
          obtain rfl := Option.some.inj H
          refine wp_ret ?_
          repeat (first | refine ret_then ?_ | refine ret_block ?_ | refine ret_scope ?_)
          exact ret_1 Try.results24 hK (rv_tmp hK rfl) ⟨_, rfl, _, _, _, rfl, hS, hRL, hq_78⟩

/-! ### catchment/table.Find$1: function 57 -/
set_option maxHeartbeats 4000000 in
set_option maxRecDepth 100000 in
theorem table_Find_1_cp.calls (a0 : api_Col) (a1 : ByteArray) {w0 : World} {RA : Hp} {b1 : Nat} {o1 : Nat} (hRA : RA.sub w0) (hc1 : ∀ j u, ([.string a1] : List Value)[j]? = some u → RA.cell b1 (o1 + j) = some u) {r : Bool} (H : table_Find_1_cp a0 a1 = some r) : CallsV Try.prog 57 #[.agg #[.string a0.Name, .int .i64 a0.Kind], .pointer (some ⟨b1, o1, none⟩)] w0 (.bool r) := by
  unfold table_Find_1_cp at H
  refine enter (args := [.agg #[.string a0.Name, .int .i64 a0.Kind], .pointer (some ⟨b1, o1, none⟩)]) Try.func57 rfl Try.ntmps57 rfl fun a hK => ?_
  have hS := St.init (R := fun _ => none) (w := w0) (fun _ _ h => by cases h)
  have hRL := RLe.refl (M := []) w0 (fun _ => none)
  refine wp_seq ?_
  refine wp_region_lit ?_
  refine sl_box hS hK (by decide) rfl rfl (c := [.string a0.Name, .int .i64 a0.Kind]) rfl fun a w b_1 hS hK => ?_
  refine sl hK (by decide) rfl rfl (r_assign hK rfl) fun a hK => ?_
  refine wpList_nil ?_
  refine wp_seq ?_
  refine wp_region_lit ?_
  refine sl hK (by decide) rfl rfl (r_fieldAddr Try.underlying52 rfl Try.sizeOf9 hK rfl) fun a hK => ?_
  refine sl hK (by decide) rfl rfl (r_load Try.isAgg9 hK rfl (hS.cell (.head _) rfl)) fun a hK => ?_
  refine sl hK (by decide) rfl rfl (r_load Try.isAgg9 hK rfl ((hS.ra hRA nil_not).cell (hc1 0 _ rfl))) fun a hK => ?_
  refine sl hK (by decide) rfl rfl (r_sbin hK rfl rfl rfl) fun a hK => ?_
  refine sl hK (by decide) rfl rfl (r_assign hK rfl) fun a hK => ?_
  refine wpList_nil ?_
  obtain rfl := Option.some.inj H
  refine wp_ret ?_
  repeat (first | refine ret_then ?_ | refine ret_block ?_ | refine ret_scope ?_)
  exact ret_1 Try.results57 hK (rv_tmp hK rfl) ⟨rfl, hS.bel⟩

/-! ### slices.IndexFunc[[]catchment/api.Col,catchment/api.Col]: function 56 -/
set_option maxHeartbeats 4000000 in
set_option maxRecDepth 100000 in
theorem slices_IndexFunc_api_Col_api_Col_f_table_Find_1p.calls (a0 : List api_Col) (a1_0 : ByteArray) {w0 : World} {RA : Hp} {v0_0 : Value} {b1q0 : Nat} {o1q0 : Nat} (hRA : RA.sub w0) (h0_0 : SlR ty_api_Col RA v0_0 a0) (hc1q0 : ∀ j u, ([.string a1_0] : List Value)[j]? = some u → RA.cell b1q0 (o1q0 + j) = some u) {r : Int} (H : slices_IndexFunc_api_Col_api_Col_f_table_Find_1p a0 a1_0 = some r) : CallsV Try.prog 56 #[v0_0, .func (.func 57) #[] #[.pointer (some ⟨b1q0, o1q0, none⟩)]] w0 (.int .i64 r) := by
  unfold slices_IndexFunc_api_Col_api_Col_f_table_Find_1p at H
  refine enter (args := [v0_0, .func (.func 57) #[] #[.pointer (some ⟨b1q0, o1q0, none⟩)]]) Try.func56 rfl Try.ntmps56 rfl fun a hK => ?_
  have hS := St.init (R := fun _ => none) (w := w0) (fun _ _ h => by cases h)
  have hRL := RLe.refl (M := []) w0 (fun _ => none)
  refine wp_seq ?_
  refine wp_region_lit ?_
  refine sl hK (by decide) rfl rfl (r_assign hK rfl) fun a hK => ?_
  refine wpList_nil ?_
  refine wp_seq ?_
  refine wp_seq ?_
  refine wp_region_lit ?_
  refine sl hK (by decide) rfl rfl (r_move hK rfl) fun a hK => ?_
  refine sl hK (by decide) rfl rfl (r_len_R Try.underlying24 h0_0 hK rfl) fun a hK => ?_
  refine sl hK (by decide) rfl rfl (r_move hK rfl) fun a hK => ?_
  refine wpList_nil ?_
  refine wp_block ?_
  refine wp_loop_k (fun k_l0 a w => ∃ (x_15 : Int), slices_IndexFunc_api_Col_api_Col_f_table_Find_1p.l0 a0 a1_0 k_l0 x_15 = some r ∧ Kn 19 a [(0, v0_0), (1, .func (.func 57) #[] #[.pointer (some ⟨b1q0, o1q0, none⟩)]), (7, .int .i64 (a0.length : Int)), (8, .int .i64 x_15)] ∧ St [] w0 w (fun _ => none) []) (((a0.length : Int) - 0).toNat + 1) ?_ ?_
  · exact ⟨0, H, hK.sub (all_cons rfl (all_cons rfl (all_cons rfl (all_cons rfl (all_nil))))), hS⟩
  · rintro k_l0 a w ⟨x_15, H, hK, hS⟩
    cases k_l0 with
    | zero => cases H
    | succ k_l0 =>
    rw [slices_IndexFunc_api_Col_api_Col_f_table_Find_1p.l0.eq_2] at H
    refine wp_seq ?_
    refine wp_region_lit ?_
    refine sl hK (by decide) rfl rfl (r_ibin hK rfl rfl rfl) fun a hK => ?_
    refine wpList_nil ?_
    refine wp_seq ?_
    refine wp_cond_split (hK.ev rfl) (fun (hb_30 : (decide (x_15 < (a0.length : Int))) = true) => ?_) (fun (hb_30 : (decide (x_15 < (a0.length : Int))) = false) => ?_)
    · rw [ifb_t hb_30] at H
      refine wp_skip ?_
      refine wp_seq ?_
      refine wp_block ?_
      refine wp_seq ?_
      refine wp_region_lit ?_
      refine sl hK (by decide) rfl rfl (r_move hK rfl) fun a hK => ?_
      refine sl hK (by decide) rfl rfl (r_assign hK rfl) fun a hK => ?_
      refine wpList_nil ?_
      refine wp_seq ?_
      refine wp_region_lit ?_
      refine sl hK (by decide) rfl rfl (r_move hK rfl) fun a hK => ?_
      refine sl hK (by decide) rfl rfl (r_move hK rfl) fun a hK => ?_
      refine sl hK (by decide) rfl rfl (r_move hK rfl) fun a hK => ?_
      obtain ⟨y_31, h_32, H⟩ := bind_some H
      obtain ⟨b_33, o_34, c_35, cs_36, hv_37, hr_38, hc_39, h_320, h_321⟩ := h0_0.ix h_32
      subst hr_38
      refine sl hK (by decide) rfl rfl (r_indexAddr_R Try.underlying24 Try.sizeOf52 hv_37 h_320 h_321 hK rfl rfl) fun a hK => ?_
      refine sl hK (by decide) rfl rfl (r_loadA (cs := [.string y_31.Name, .int .i64 y_31.Kind]) Try.isAgg52 Try.sizeOf52 rfl hK rfl (fun j v hv => (hS.ra hRA nil_not).cell (hc_39 j v hv))) fun a hK => ?_
      obtain ⟨y_40, h_41, H⟩ := bind_some H
      refine sl_callV Try.call57 hS hK (by decide) rfl rfl rfl (table_Find_1_cp.calls y_31 a1_0 (lentOf_sub [] _) (fun j u hu => Hp.cell_le (hS.raLe0 hRA nil_not) (hc1q0 j u hu)) h_41) fun a w hS hK => ?_
      refine wpList_nil ?_
      refine wp_cond_split (hK.ev rfl) (fun (hb_42 : y_40 = true) => ?_) (fun (hb_42 : y_40 = false) => ?_)
      · rw [ifb_t hb_42] at H
        refine wp_seq ?_
        refine wp_region_lit ?_
        refine sl hK (by decide) rfl rfl (r_move hK rfl) fun a hK => ?_
        refine sl hK (by decide) rfl rfl (r_assign hK rfl) fun a hK => ?_
        refine wpList_nil ?_
        obtain rfl := Option.some.inj H
        refine wp_ret ?_
        repeat (first | refine ret_then ?_ | refine ret_block ?_ | refine ret_scope ?_)
        exact ret_1 Try.results56 hK (rv_tmp hK rfl) ⟨rfl, hS.bel⟩
      · rw [ifb_f hb_42] at H
        refine wp_skip ?_
        refine wp_region_lit ?_
        refine sl hK (by decide) rfl rfl (r_ibin hK rfl rfl rfl) fun a hK => ?_
        refine sl hK (by decide) rfl rfl (r_move hK rfl) fun a hK => ?_
        refine wpList_nil ?_
        exact ⟨_, Nat.lt_succ_self _, (IntKind.i64.wrap (x_15 + 1)), H, hK.sub (all_cons rfl (all_cons rfl (all_cons rfl (all_cons rfl (all_nil))))), hS⟩
    · rw [ifb_f hb_30] at H
      refine wp_exit ?_
      refine wp_seq ?_
      refine wp_region_lit ?_
      refine sl hK (by decide) rfl rfl (r_assign hK rfl) fun a hK => ?_
      refine wpList_nil ?_
      obtain rfl := Option.some.inj H
      refine wp_ret ?_
      repeat (first | refine ret_then ?_ | refine ret_block ?_ | refine ret_scope ?_)
      exact ret_1 Try.results56 hK (rv_tmp hK rfl) ⟨rfl, hS.bel⟩

/-! ### catchment/table.Find: function 53 -/
set_option maxHeartbeats 4000000 in
set_option maxRecDepth 100000 in
theorem table_Find.calls (a0 : List api_Col) (a1 : ByteArray) {w0 : World} {RA : Hp} {v0_0 : Value} (hRA : RA.sub w0) (h0_0 : SlR ty_api_Col RA v0_0 a0) {r : Int} (H : table_Find a0 a1 = some r) : CallsV Try.prog 53 #[v0_0, .string a1] w0 (.int .i64 r) := by
  unfold table_Find at H
  refine enter (args := [v0_0, .string a1]) Try.func53 rfl Try.ntmps53 rfl fun a hK => ?_
  have hS := St.init (R := fun _ => none) (w := w0) (fun _ _ h => by cases h)
  have hRL := RLe.refl (M := []) w0 (fun _ => none)
  refine wp_seq ?_
  refine wp_region_lit ?_
  refine sl_box hS hK (by decide) rfl rfl (c := [.string a1]) rfl fun a w b_1 hS hK => ?_
  refine sl hK (by decide) rfl rfl (r_assign hK rfl) fun a hK => ?_
  refine wpList_nil ?_
  refine wp_seq ?_
  refine wp_region_lit ?_
  refine sl hK (by decide) rfl rfl (r_move hK rfl) fun a hK => ?_
  refine sl hK (by decide) rfl rfl (r_func (us := []) (vs := [.pointer (some ⟨b_1, 0, none⟩)]) rfl (hK.evs rfl)) fun a hK => ?_
  obtain ⟨y_2, h_3, H⟩ := bind_some H
  refine sl_callV Try.call56 hS hK (by decide) rfl rfl rfl (slices_IndexFunc_api_Col_api_Col_f_table_Find_1p.calls a0 a1 (lentOf_sub [] _) (h0_0.mono (hS.raLe0 hRA nil_not)) (hS.lend_box0 (.head _)) h_3) fun a w hS hK => ?_
  refine sl hK (by decide) rfl rfl (r_assign hK rfl) fun a hK => ?_
  refine wpList_nil ?_
  obtain rfl := Option.some.inj H
  refine wp_ret ?_
  repeat (first | refine ret_then ?_ | refine ret_block ?_ | refine ret_scope ?_)
  exact ret_1 Try.results53 hK (rv_tmp hK rfl) ⟨rfl, hS.bel⟩

/-! ### catchment/table.columns: function 48 -/
set_option maxHeartbeats 4000000 in
set_option maxRecDepth 100000 in
theorem table_columns.calls (a0 : List api_Col) {w0 : World} {RA : Hp} {v0_0 : Value} (hRA : RA.sub w0) (h0_0 : SlR ty_api_Col RA v0_0 a0) {r : Bool} (H : table_columns a0 = some r) : CallsV Try.prog 48 #[v0_0] w0 (.bool r) := by
  unfold table_columns at H
  refine enter (args := [v0_0]) Try.func48 rfl Try.ntmps48 rfl fun a hK => ?_
  have hS := St.init (R := fun _ => none) (w := w0) (fun _ _ h => by cases h)
  have hRL := RLe.refl (M := []) w0 (fun _ => none)
  refine wp_seq ?_
  refine wp_region_lit ?_
  refine sl hK (by decide) rfl rfl (r_assign hK rfl) fun a hK => ?_
  refine wpList_nil ?_
  refine wp_seq ?_
  refine wp_seq ?_
  refine wp_region_lit ?_
  refine sl hK (by decide) rfl rfl (r_move hK rfl) fun a hK => ?_
  refine sl hK (by decide) rfl rfl (r_len_R Try.underlying24 h0_0 hK rfl) fun a hK => ?_
  refine sl hK (by decide) rfl rfl (r_move hK rfl) fun a hK => ?_
  refine wpList_nil ?_
  refine wp_block ?_
  refine wp_loop_k (fun k_l0 a w => ∃ (x_30 : Int), table_columns.l0 a0 k_l0 x_30 = some r ∧ Kn 43 a [(0, v0_0), (5, v0_0), (6, .int .i64 (a0.length : Int)), (7, .int .i64 x_30)] ∧ St [] w0 w (fun _ => none) []) (((a0.length : Int) - 0).toNat + 1) ?_ ?_
  · exact ⟨0, H, hK.sub (all_cons rfl (all_cons rfl (all_cons rfl (all_cons rfl (all_nil))))), hS⟩
  · rintro k_l0 a w ⟨x_30, H, hK, hS⟩
    cases k_l0 with
    | zero => cases H
    | succ k_l0 =>
    rw [table_columns.l0.eq_2] at H
    refine wp_seq ?_
    refine wp_region_lit ?_
    refine sl hK (by decide) rfl rfl (r_ibin hK rfl rfl rfl) fun a hK => ?_
    refine wpList_nil ?_
    refine wp_seq ?_
    refine wp_cond_split (hK.ev rfl) (fun (hb_60 : (decide (x_30 < (a0.length : Int))) = true) => ?_) (fun (hb_60 : (decide (x_30 < (a0.length : Int))) = false) => ?_)
    · rw [ifb_t hb_60] at H
      refine wp_skip ?_
      refine wp_seq ?_
      refine wp_block ?_
      refine wp_seq ?_
      refine wp_region_lit ?_
      refine sl hK (by decide) rfl rfl (r_move hK rfl) fun a hK => ?_
      obtain ⟨y_61, h_62, H⟩ := bind_some H
      obtain ⟨b_63, o_64, c_65, cs_66, hv_67, hr_68, hc_69, h_620, h_621⟩ := h0_0.ix h_62
      subst hr_68
      refine sl hK (by decide) rfl rfl (r_indexAddr_R Try.underlying24 Try.sizeOf52 hv_67 h_620 h_621 hK rfl rfl) fun a hK => ?_
      refine sl hK (by decide) rfl rfl (r_loadA (cs := [.string y_61.Name, .int .i64 y_61.Kind]) Try.isAgg52 Try.sizeOf52 rfl hK rfl (fun j v hv => (hS.ra hRA nil_not).cell (hc_69 j v hv))) fun a hK => ?_
      refine sl_alloc Try.zeroValue52 hS hK (by decide) rfl rfl fun a w b_70 hS hK => ?_
      refine sl hK (by decide) rfl rfl (r_assign hK rfl) fun a hK => ?_
      refine sl_storeA (vs := [.string y_61.Name, .int .i64 y_61.Kind]) (c' := [.string y_61.Name, .int .i64 y_61.Kind]) Try.sizeOf52 hS hK rfl rfl rfl rfl (all_cons rfl (all_cons rfl (all_nil))) (Nat.le_of_ble_eq_true rfl) rfl fun a w hS hK => ?_
      refine wpList_nil ?_
      refine wp_seq ?_
      refine wp_mid (fun a w => ∃ (x_78 : Bool), table_columns.j1 (table_columns.l0 a0 k_l0) a0 x_30 x_78 = some r ∧ Kn 43 a [(0, v0_0), (5, v0_0), (6, .int .i64 (a0.length : Int)), (7, .int .i64 x_30), (33, .bool x_78)] ∧ St [] w0 w (fun _ => none) []) ?_ ?_
      · refine wp_region_lit ?_
        refine sl hK (by decide) rfl rfl (r_fieldAddr Try.underlying52 rfl Try.sizeOf9 hK rfl) fun a hK => ?_
        refine sl hK (by decide) rfl rfl (r_load Try.isAgg9 hK rfl (hS.cell (.head _) rfl)) fun a hK => ?_
        obtain ⟨y_80, h_81, H⟩ := bind_some H
        refine sl_callV Try.call25 hS hK (by decide) rfl rfl rfl (table_Name.calls y_61.Name h_81 _) fun a w hS hK => ?_
        refine sl hK (by decide) rfl rfl (r_un hK rfl (u_not _)) fun a hK => ?_
        refine sl hK (by decide) rfl rfl (r_move hK rfl) fun a hK => ?_
        rcases or_b (!y_80) with hb_82 | hb_82
        · rw [ifb_t hb_82] at H
          refine sl_skip hK (by decide) (wft hb_82) rfl fun a hK => ?_
          refine sl_skip hK (by decide) (wft hb_82) rfl fun a hK => ?_
          refine sl_skip hK (by decide) (wft hb_82) rfl fun a hK => ?_
          refine sl hK (by decide) rfl rfl (r_pick_t hb_82 hK rfl rfl) fun a hK => ?_
          refine sl hK (by decide) rfl rfl (r_move hK rfl) fun a hK => ?_
          refine sl_skip hK (by decide) rfl rfl fun a hK => ?_
          refine sl_skip hK (by decide) rfl rfl fun a hK => ?_
          refine sl_skip hK (by decide) rfl rfl fun a hK => ?_
          refine sl hK (by decide) rfl rfl (r_pick hK rfl rfl rfl) fun a hK => ?_
          refine sl hK (by decide) rfl rfl (r_move hK rfl) fun a hK => ?_
          refine sl_skip hK (by decide) rfl rfl fun a hK => ?_
          refine sl_skip hK (by decide) rfl rfl fun a hK => ?_
          refine sl_skip hK (by decide) rfl rfl fun a hK => ?_
          refine sl_skip hK (by decide) rfl rfl fun a hK => ?_
          refine sl_skip hK (by decide) rfl rfl fun a hK => ?_
          refine sl_skip hK (by decide) rfl rfl fun a hK => ?_
          refine sl hK (by decide) rfl rfl (r_pick hK rfl rfl rfl) fun a hK => ?_
          refine wpList_nil ?_
          exact ⟨true, H, hK.sub (all_cons rfl (all_cons rfl (all_cons rfl (all_cons rfl (all_cons rfl (all_nil)))))), hS.trunc 0⟩
        · rw [ifb_f hb_82] at H
          refine sl hK (by decide) (wff hb_82) rfl (r_fieldAddr Try.underlying52 rfl Try.sizeOf3 hK rfl) fun a hK => ?_
          refine sl hK (by decide) (wff hb_82) rfl (r_load Try.isAgg3 hK rfl (hS.cell (.head _) rfl)) fun a hK => ?_
          refine sl hK (by decide) (wff hb_82) rfl (r_ibin hK rfl rfl rfl) fun a hK => ?_
          refine sl hK (by decide) rfl rfl (r_pick_f hb_82 hK rfl rfl) fun a hK => ?_
          refine sl hK (by decide) rfl rfl (r_move hK rfl) fun a hK => ?_
          rcases or_b (decide (y_61.Kind < 1)) with hb_83 | hb_83
          · rw [ifb_t hb_83] at H
            refine sl_skip hK (by decide) (wft hb_83) rfl fun a hK => ?_
            refine sl_skip hK (by decide) (wft hb_83) rfl fun a hK => ?_
            refine sl_skip hK (by decide) (wft hb_83) rfl fun a hK => ?_
            refine sl hK (by decide) rfl rfl (r_pick_t hb_83 hK rfl rfl) fun a hK => ?_
            refine sl hK (by decide) rfl rfl (r_move hK rfl) fun a hK => ?_
            refine sl_skip hK (by decide) rfl rfl fun a hK => ?_
            refine sl_skip hK (by decide) rfl rfl fun a hK => ?_
            refine sl_skip hK (by decide) rfl rfl fun a hK => ?_
            refine sl_skip hK (by decide) rfl rfl fun a hK => ?_
            refine sl_skip hK (by decide) rfl rfl fun a hK => ?_
            refine sl_skip hK (by decide) rfl rfl fun a hK => ?_
            refine sl hK (by decide) rfl rfl (r_pick hK rfl rfl rfl) fun a hK => ?_
            refine wpList_nil ?_
            exact ⟨true, H, hK.sub (all_cons rfl (all_cons rfl (all_cons rfl (all_cons rfl (all_cons rfl (all_nil)))))), hS.trunc 0⟩
          · rw [ifb_f hb_83] at H
            refine sl hK (by decide) (wff hb_83) rfl (r_fieldAddr Try.underlying52 rfl Try.sizeOf3 hK rfl) fun a hK => ?_
            refine sl hK (by decide) (wff hb_83) rfl (r_load Try.isAgg3 hK rfl (hS.cell (.head _) rfl)) fun a hK => ?_
            refine sl hK (by decide) (wff hb_83) rfl (r_ibin hK rfl rfl rfl) fun a hK => ?_
            refine sl hK (by decide) rfl rfl (r_pick_f hb_83 hK rfl rfl) fun a hK => ?_
            refine sl hK (by decide) rfl rfl (r_move hK rfl) fun a hK => ?_
            rcases or_b (decide (y_61.Kind > 4)) with hb_84 | hb_84
            · rw [ifb_t hb_84] at H
              refine sl_skip hK (by decide) (wft hb_84) rfl fun a hK => ?_
              refine sl_skip hK (by decide) (wft hb_84) rfl fun a hK => ?_
              refine sl_skip hK (by decide) (wft hb_84) rfl fun a hK => ?_
              refine sl_skip hK (by decide) (wft hb_84) rfl fun a hK => ?_
              refine sl_skip hK (by decide) (wft hb_84) rfl fun a hK => ?_
              refine sl_skip hK (by decide) (wft hb_84) rfl fun a hK => ?_
              refine sl hK (by decide) rfl rfl (r_pick_t hb_84 hK rfl rfl) fun a hK => ?_
              refine wpList_nil ?_
              exact ⟨true, H, hK.sub (all_cons rfl (all_cons rfl (all_cons rfl (all_cons rfl (all_cons rfl (all_nil)))))), hS.trunc 0⟩
            · rw [ifb_f hb_84] at H
              refine sl hK (by decide) (wff hb_84) rfl (r_move hK rfl) fun a hK => ?_
              refine sl hK (by decide) (wff hb_84) rfl (r_fieldAddr Try.underlying52 rfl Try.sizeOf9 hK rfl) fun a hK => ?_
              refine sl hK (by decide) (wff hb_84) rfl (r_load Try.isAgg9 hK rfl (hS.cell (.head _) rfl)) fun a hK => ?_
              obtain ⟨y_85, h_86, H⟩ := bind_some H
              refine sl_callV Try.call53 hS hK (by decide) (wff hb_84) rfl rfl (table_Find.calls a0 y_61.Name (lentOf_sub [] _) (h0_0.mono (hS.raLe0 hRA nil_not)) h_86) fun a w hS hK => ?_
              refine sl hK (by decide) (wff hb_84) rfl (r_move hK rfl) fun a hK => ?_
              refine sl hK (by decide) (wff hb_84) rfl (r_ibin hK rfl rfl rfl) fun a hK => ?_
              refine sl hK (by decide) rfl rfl (r_pick_f hb_84 hK rfl rfl) fun a hK => ?_
              refine wpList_nil ?_
              exact ⟨(y_85 != x_30), H, hK.sub (all_cons rfl (all_cons rfl (all_cons rfl (all_cons rfl (all_cons rfl (all_nil)))))), hS.trunc 0⟩
      · rintro a w ⟨x_78, H, hK, hS⟩
        unfold table_columns.j1 at H
        refine wp_cond_split (hK.ev rfl) (fun (hb_87 : x_78 = true) => ?_) (fun (hb_87 : x_78 = false) => ?_)
        · rw [ifb_t hb_87] at H
          refine wp_seq ?_
          refine wp_region_lit ?_
          refine sl hK (by decide) rfl rfl (r_assign hK rfl) fun a hK => ?_
          refine wpList_nil ?_
          obtain rfl := Option.some.inj H
          refine wp_ret ?_
          repeat (first | refine ret_then ?_ | refine ret_block ?_ | refine ret_scope ?_)
          exact ret_1 Try.results48 hK (rv_tmp hK rfl) ⟨rfl, hS.bel⟩
        · rw [ifb_f hb_87] at H
          refine wp_skip ?_
          refine wp_region_lit ?_
          refine sl hK (by decide) rfl rfl (r_ibin hK rfl rfl rfl) fun a hK => ?_
          refine sl hK (by decide) rfl rfl (r_move hK rfl) fun a hK => ?_
          refine wpList_nil ?_
          exact ⟨_, Nat.lt_succ_self _, (IntKind.i64.wrap (x_30 + 1)), H, hK.sub (all_cons rfl (all_cons rfl (all_cons rfl (all_cons rfl (all_nil))))), hS⟩
    · rw [ifb_f hb_60] at H
      refine wp_exit ?_
      refine wp_seq ?_
      refine wp_region_lit ?_
      refine sl hK (by decide) rfl rfl (r_move hK rfl) fun a hK => ?_
      refine sl hK (by decide) rfl rfl (r_len_R Try.underlying24 h0_0 hK rfl) fun a hK => ?_
      refine sl hK (by decide) rfl rfl (r_ibin hK rfl rfl rfl) fun a hK => ?_
      refine sl hK (by decide) rfl rfl (r_move hK rfl) fun a hK => ?_
      rcases or_b (decide ((a0.length : Int) ≥ 1)) with hb_88 | hb_88
      · rw [ifb_t hb_88] at H
        refine sl hK (by decide) (wtt hb_88) rfl (r_move hK rfl) fun a hK => ?_
        refine sl hK (by decide) (wtt hb_88) rfl (r_len_R Try.underlying24 h0_0 hK rfl) fun a hK => ?_
        refine sl hK (by decide) (wtt hb_88) rfl (r_ibin hK rfl rfl rfl) fun a hK => ?_
        refine sl hK (by decide) rfl rfl (r_pick_t hb_88 hK rfl rfl) fun a hK => ?_
        refine sl hK (by decide) rfl rfl (r_assign hK rfl) fun a hK => ?_
        refine wpList_nil ?_
        obtain rfl := Option.some.inj H
        refine wp_ret ?_
        repeat (first | refine ret_then ?_ | refine ret_block ?_ | refine ret_scope ?_)
        exact ret_1 Try.results48 hK (rv_tmp hK rfl) ⟨rfl, hS.bel⟩
      · rw [ifb_f hb_88] at H
        refine sl_skip hK (by decide) (wtf hb_88) rfl fun a hK => ?_
        refine sl_skip hK (by decide) (wtf hb_88) rfl fun a hK => ?_
        refine sl_skip hK (by decide) (wtf hb_88) rfl fun a hK => ?_
        refine sl hK (by decide) rfl rfl (r_pick_f hb_88 hK rfl rfl) fun a hK => ?_
        refine sl hK (by decide) rfl rfl (r_assign hK rfl) fun a hK => ?_
        refine wpList_nil ?_
        obtain rfl := Option.some.inj H
        refine wp_ret ?_
        repeat (first | refine ret_then ?_ | refine ret_block ?_ | refine ret_scope ?_)
        exact ret_1 Try.results48 hK (rv_tmp hK rfl) ⟨rfl, hS.bel⟩

/-! ### catchment/value.Valid: function 45 -/
set_option maxHeartbeats 4000000 in
set_option maxRecDepth 100000 in
theorem value_Valid.calls (a0 : api_Value) {r : Bool} (H : value_Valid a0 = some r) (w0 : World) : CallsV Try.prog 45 #[.agg #[.int .i64 a0.Kind, .int .i64 a0.N, .string a0.S, .int .i64 a0.H.a0, .int .i64 a0.H.a1, .int .i64 a0.H.a2, .int .i64 a0.H.a3, .int .i64 a0.H.a4, .int .i64 a0.H.a5, .int .i64 a0.H.a6, .int .i64 a0.H.a7]] w0 (.bool r) := by
  unfold value_Valid at H
  refine enter (args := [.agg #[.int .i64 a0.Kind, .int .i64 a0.N, .string a0.S, .int .i64 a0.H.a0, .int .i64 a0.H.a1, .int .i64 a0.H.a2, .int .i64 a0.H.a3, .int .i64 a0.H.a4, .int .i64 a0.H.a5, .int .i64 a0.H.a6, .int .i64 a0.H.a7]]) Try.func45 rfl Try.ntmps45 rfl fun a hK => ?_
  have hS := St.init (R := fun _ => none) (w := w0) (fun _ _ h => by cases h)
  have hRL := RLe.refl (M := []) w0 (fun _ => none)
  refine wp_seq ?_
  refine wp_region_lit ?_
  refine sl_box hS hK (by decide) rfl rfl (c := [.int .i64 a0.Kind, .int .i64 a0.N, .string a0.S, .int .i64 a0.H.a0, .int .i64 a0.H.a1, .int .i64 a0.H.a2, .int .i64 a0.H.a3, .int .i64 a0.H.a4, .int .i64 a0.H.a5, .int .i64 a0.H.a6, .int .i64 a0.H.a7]) rfl fun a w b_1 hS hK => ?_
  refine sl hK (by decide) rfl rfl (r_assign hK rfl) fun a hK => ?_
  refine wpList_nil ?_
  refine wp_seq ?_
  refine wp_region_lit ?_
  refine sl hK (by decide) rfl rfl (r_loadA (cs := [.int .i64 a0.Kind, .int .i64 a0.N, .string a0.S, .int .i64 a0.H.a0, .int .i64 a0.H.a1, .int .i64 a0.H.a2, .int .i64 a0.H.a3, .int .i64 a0.H.a4, .int .i64 a0.H.a5, .int .i64 a0.H.a6, .int .i64 a0.H.a7]) Try.isAgg43 Try.sizeOf43 rfl hK rfl (hS.cells_of (m := 11) (.head _) rfl)) fun a hK => ?_
  refine sl_alloc Try.zeroValue43 hS hK (by decide) rfl rfl fun a w b_2 hS hK => ?_
  refine sl_storeA (vs := [.int .i64 a0.Kind, .int .i64 a0.N, .string a0.S, .int .i64 a0.H.a0, .int .i64 a0.H.a1, .int .i64 a0.H.a2, .int .i64 a0.H.a3, .int .i64 a0.H.a4, .int .i64 a0.H.a5, .int .i64 a0.H.a6, .int .i64 a0.H.a7]) (c' := [.int .i64 a0.Kind, .int .i64 a0.N, .string a0.S, .int .i64 a0.H.a0, .int .i64 a0.H.a1, .int .i64 a0.H.a2, .int .i64 a0.H.a3, .int .i64 a0.H.a4, .int .i64 a0.H.a5, .int .i64 a0.H.a6, .int .i64 a0.H.a7]) Try.sizeOf43 hS hK rfl rfl rfl rfl (all_cons rfl (all_cons rfl (all_cons rfl (all_cons rfl (all_cons rfl (all_cons rfl (all_cons rfl (all_cons rfl (all_cons rfl (all_cons rfl (all_cons rfl (all_nil)))))))))))) (Nat.le_of_ble_eq_true rfl) rfl fun a w hS hK => ?_
  refine wpList_nil ?_
  refine wp_seq ?_
  refine wp_region_lit ?_
  refine sl hK (by decide) rfl rfl (r_fieldAddr Try.underlying43 rfl Try.sizeOf3 hK rfl) fun a hK => ?_
  refine sl_store1 (c' := [.int .i64 0, .int .i64 a0.N, .string a0.S, .int .i64 a0.H.a0, .int .i64 a0.H.a1, .int .i64 a0.H.a2, .int .i64 a0.H.a3, .int .i64 a0.H.a4, .int .i64 a0.H.a5, .int .i64 a0.H.a6, .int .i64 a0.H.a7]) Try.sizeOf3 hS hK rfl rfl rfl rfl (Nat.le_of_ble_eq_true rfl) rfl fun a w hS hK => ?_
  refine wpList_nil ?_
  refine wp_seq ?_
  refine wp_region_lit ?_
  refine sl hK (by decide) rfl rfl (r_assign hK rfl) fun a hK => ?_
  refine wpList_nil ?_
  refine wp_seq ?_
  refine wp_seq ?_
  refine wp_region_lit ?_
  refine sl hK (by decide) rfl rfl (r_fieldAddr Try.underlying43 rfl Try.sizeOf3 hK rfl) fun a hK => ?_
  refine sl hK (by decide) rfl rfl (r_load Try.isAgg3 hK rfl (hS.cell (.tail _ (.head _)) rfl)) fun a hK => ?_
  refine wpList_nil ?_
  refine wp_block ?_
  refine wp_seq ?_
  refine wp_region_lit ?_
  refine sl hK (by decide) rfl rfl (r_ibin hK rfl rfl rfl) fun a hK => ?_
  refine sl hK (by decide) rfl rfl (r_assign hK rfl) fun a hK => ?_
  refine wpList_nil ?_
  refine wp_mid (fun a w => ∃ (x_59 : Int) (x_60 : ByteArray) (x_61 : Arr8) (x_62 : Bool), value_Valid.j0 x_59 x_60 x_61 x_62 = some r ∧ Kn 40 a [(3, .pointer (some ⟨b_2, 0, none⟩)), (4, .bool x_62)] ∧ St [] w0 w (fun _ => none) [.cells b_2 [.int .i64 0, .int .i64 x_59, .string x_60, .int .i64 x_61.a0, .int .i64 x_61.a1, .int .i64 x_61.a2, .int .i64 x_61.a3, .int .i64 x_61.a4, .int .i64 x_61.a5, .int .i64 x_61.a6, .int .i64 x_61.a7] 43]) ?_ ?_
  · refine wp_cond_split (hK.ev rfl) (fun (hb_64 : (a0.Kind == 1) = true) => ?_) (fun (hb_64 : (a0.Kind == 1) = false) => ?_)
    · rw [ifb_t hb_64] at H
      refine wp_region_lit ?_
      refine sl hK (by decide) rfl rfl (r_fieldAddr Try.underlying43 rfl Try.sizeOf3 hK rfl) fun a hK => ?_
      refine sl_store1 (c' := [.int .i64 0, .int .i64 0, .string a0.S, .int .i64 a0.H.a0, .int .i64 a0.H.a1, .int .i64 a0.H.a2, .int .i64 a0.H.a3, .int .i64 a0.H.a4, .int .i64 a0.H.a5, .int .i64 a0.H.a6, .int .i64 a0.H.a7]) Try.sizeOf3 hS hK rfl rfl rfl rfl (Nat.le_of_ble_eq_true rfl) rfl fun a w hS hK => ?_
      refine wpList_nil ?_
      exact ⟨0, a0.S, a0.H, true, H, hK.sub (all_cons rfl (all_cons rfl (all_nil))), hS.trunc 1⟩
    · rw [ifb_f hb_64] at H
      refine wp_seq ?_
      refine wp_region_lit ?_
      refine sl hK (by decide) rfl rfl (r_ibin hK rfl rfl rfl) fun a hK => ?_
      refine sl hK (by decide) rfl rfl (r_assign hK rfl) fun a hK => ?_
      refine wpList_nil ?_
      refine wp_mid (fun a w => ∃ (x_90 : Int) (x_91 : ByteArray) (x_92 : Arr8) (x_93 : Bool), value_Valid.j1 x_90 x_91 x_92 x_93 = some r ∧ Kn 40 a [(3, .pointer (some ⟨b_2, 0, none⟩)), (4, .bool x_93)] ∧ St [] w0 w (fun _ => none) [.cells b_2 [.int .i64 0, .int .i64 x_90, .string x_91, .int .i64 x_92.a0, .int .i64 x_92.a1, .int .i64 x_92.a2, .int .i64 x_92.a3, .int .i64 x_92.a4, .int .i64 x_92.a5, .int .i64 x_92.a6, .int .i64 x_92.a7] 43]) ?_ ?_
      · refine wp_cond_split (hK.ev rfl) (fun (hb_95 : (a0.Kind == 2) = true) => ?_) (fun (hb_95 : (a0.Kind == 2) = false) => ?_)
        · rw [ifb_t hb_95] at H
          refine wp_seq ?_
          refine wp_region_lit ?_
          refine sl hK (by decide) rfl rfl (r_fieldAddr Try.underlying43 rfl Try.sizeOf9 hK rfl) fun a hK => ?_
          refine sl_store1 (c' := [.int .i64 0, .int .i64 a0.N, .string (⟨#[]⟩ : ByteArray), .int .i64 a0.H.a0, .int .i64 a0.H.a1, .int .i64 a0.H.a2, .int .i64 a0.H.a3, .int .i64 a0.H.a4, .int .i64 a0.H.a5, .int .i64 a0.H.a6, .int .i64 a0.H.a7]) Try.sizeOf9 hS hK rfl rfl rfl rfl (Nat.le_of_ble_eq_true rfl) rfl fun a w hS hK => ?_
          refine wpList_nil ?_
          refine wp_region_lit ?_
          refine sl hK (by decide) rfl rfl (r_fieldAddr Try.underlying43 rfl Try.sizeOf9 hK rfl) fun a hK => ?_
          refine sl hK (by decide) rfl rfl (r_load Try.isAgg9 hK rfl (hS.cell (.tail _ (.head _)) rfl)) fun a hK => ?_
          refine sl hK (by decide) rfl rfl (r_len_str Try.underlying9 hK rfl) fun a hK => ?_
          refine sl hK (by decide) rfl rfl (r_ibin hK rfl rfl rfl) fun a hK => ?_
          refine sl hK (by decide) rfl rfl (r_assign hK rfl) fun a hK => ?_
          refine wpList_nil ?_
          exact ⟨a0.N, (⟨#[]⟩ : ByteArray), a0.H, (decide ((a0.S.size : Int) ≤ 64)), H, hK.sub (all_cons rfl (all_cons rfl (all_nil))), hS.trunc 1⟩
        · rw [ifb_f hb_95] at H
          refine wp_seq ?_
          refine wp_region_lit ?_
          refine sl hK (by decide) rfl rfl (r_ibin hK rfl rfl rfl) fun a hK => ?_
          refine sl hK (by decide) rfl rfl (r_assign hK rfl) fun a hK => ?_
          refine wpList_nil ?_
          refine wp_mid (fun a w => ∃ (x_106 : Int) (x_107 : Arr8) (x_108 : Bool), value_Valid.j2 a0 x_106 x_107 x_108 = some r ∧ Kn 40 a [(3, .pointer (some ⟨b_2, 0, none⟩)), (4, .bool x_108)] ∧ St [] w0 w (fun _ => none) [.cells b_2 [.int .i64 0, .int .i64 x_106, .string a0.S, .int .i64 x_107.a0, .int .i64 x_107.a1, .int .i64 x_107.a2, .int .i64 x_107.a3, .int .i64 x_107.a4, .int .i64 x_107.a5, .int .i64 x_107.a6, .int .i64 x_107.a7] 43]) ?_ ?_
          · refine wp_cond_split (hK.ev rfl) (fun (hb_110 : (a0.Kind == 3) = true) => ?_) (fun (hb_110 : (a0.Kind == 3) = false) => ?_)
            · rw [ifb_t hb_110] at H
              refine wp_seq ?_
              refine wp_region_lit ?_
              refine sl hK (by decide) rfl rfl (r_fieldAddr Try.underlying43 rfl Try.sizeOf3 hK rfl) fun a hK => ?_
              refine sl_store1 (c' := [.int .i64 0, .int .i64 0, .string a0.S, .int .i64 a0.H.a0, .int .i64 a0.H.a1, .int .i64 a0.H.a2, .int .i64 a0.H.a3, .int .i64 a0.H.a4, .int .i64 a0.H.a5, .int .i64 a0.H.a6, .int .i64 a0.H.a7]) Try.sizeOf3 hS hK rfl rfl rfl rfl (Nat.le_of_ble_eq_true rfl) rfl fun a w hS hK => ?_
              refine wpList_nil ?_
              refine wp_mid (fun a w => ∃ (x_112 : Bool), value_Valid.j3 a0 x_112 = some r ∧ Kn 40 a [(3, .pointer (some ⟨b_2, 0, none⟩)), (4, .bool x_112)] ∧ St [] w0 w (fun _ => none) [.cells b_2 [.int .i64 0, .int .i64 0, .string a0.S, .int .i64 a0.H.a0, .int .i64 a0.H.a1, .int .i64 a0.H.a2, .int .i64 a0.H.a3, .int .i64 a0.H.a4, .int .i64 a0.H.a5, .int .i64 a0.H.a6, .int .i64 a0.H.a7] 43]) ?_ ?_
              · refine wp_region_lit ?_
                refine sl hK (by decide) rfl rfl (r_fieldAddr Try.underlying43 rfl Try.sizeOf3 hK rfl) fun a hK => ?_
                refine sl hK (by decide) rfl rfl (r_load Try.isAgg3 hK rfl (hS.cell (.tail _ (.head _)) rfl)) fun a hK => ?_
                refine sl hK (by decide) rfl rfl (r_ibin hK rfl rfl rfl) fun a hK => ?_
                refine sl hK (by decide) rfl rfl (r_move hK rfl) fun a hK => ?_
                rcases or_b (a0.N == 0) with hb_114 | hb_114
                · rw [ifb_t hb_114] at H
                  refine sl_skip hK (by decide) (wft hb_114) rfl fun a hK => ?_
                  refine sl_skip hK (by decide) (wft hb_114) rfl fun a hK => ?_
                  refine sl_skip hK (by decide) (wft hb_114) rfl fun a hK => ?_
                  refine sl hK (by decide) rfl rfl (r_pick_t hb_114 hK rfl rfl) fun a hK => ?_
                  refine sl hK (by decide) rfl rfl (r_assign hK rfl) fun a hK => ?_
                  refine wpList_nil ?_
                  exact ⟨true, H, hK.sub (all_cons rfl (all_cons rfl (all_nil))), hS.trunc 1⟩
                · rw [ifb_f hb_114] at H
                  refine sl hK (by decide) (wff hb_114) rfl (r_fieldAddr Try.underlying43 rfl Try.sizeOf3 hK rfl) fun a hK => ?_
                  refine sl hK (by decide) (wff hb_114) rfl (r_load Try.isAgg3 hK rfl (hS.cell (.tail _ (.head _)) rfl)) fun a hK => ?_
                  refine sl hK (by decide) (wff hb_114) rfl (r_ibin hK rfl rfl rfl) fun a hK => ?_
                  refine sl hK (by decide) rfl rfl (r_pick_f hb_114 hK rfl rfl) fun a hK => ?_
                  refine sl hK (by decide) rfl rfl (r_assign hK rfl) fun a hK => ?_
                  refine wpList_nil ?_
                  exact ⟨(a0.N == 1), H, hK.sub (all_cons rfl (all_cons rfl (all_nil))), hS.trunc 1⟩
              · rintro a w ⟨x_112, H, hK, hS⟩
                unfold value_Valid.j3 at H
                exact ⟨0, a0.H, x_112, H, hK.sub (all_cons rfl (all_cons rfl (all_nil))), hS⟩
            · rw [ifb_f hb_110] at H
              refine wp_seq ?_
              refine wp_region_lit ?_
              refine sl hK (by decide) rfl rfl (r_ibin hK rfl rfl rfl) fun a hK => ?_
              refine sl hK (by decide) rfl rfl (r_assign hK rfl) fun a hK => ?_
              refine wpList_nil ?_
              refine wp_mid (fun a w => ∃ (x_116 : Arr8) (x_117 : Bool), value_Valid.j4 a0 x_116 x_117 = some r ∧ Kn 40 a [(3, .pointer (some ⟨b_2, 0, none⟩)), (4, .bool x_117)] ∧ St [] w0 w (fun _ => none) [.cells b_2 [.int .i64 0, .int .i64 a0.N, .string a0.S, .int .i64 x_116.a0, .int .i64 x_116.a1, .int .i64 x_116.a2, .int .i64 x_116.a3, .int .i64 x_116.a4, .int .i64 x_116.a5, .int .i64 x_116.a6, .int .i64 x_116.a7] 43]) ?_ ?_
              · refine wp_cond_split (hK.ev rfl) (fun (hb_119 : (a0.Kind == 4) = true) => ?_) (fun (hb_119 : (a0.Kind == 4) = false) => ?_)
                · rw [ifb_t hb_119] at H
                  refine wp_region_lit ?_
                  refine sl hK (by decide) rfl rfl (r_buildAC (ps := []) (c := [.int .i64 0, .int .i64 0, .int .i64 0, .int .i64 0, .int .i64 0, .int .i64 0, .int .i64 0, .int .i64 0]) Try.underlying41 Try.zeroValue41 Try.sizeOf3 hK rfl pc_nil rfl rfl) fun a hK => ?_
                  refine sl hK (by decide) rfl rfl (r_fieldAddr Try.underlying43 rfl Try.sizeOf41 hK rfl) fun a hK => ?_
                  refine sl_storeA (vs := [.int .i64 0, .int .i64 0, .int .i64 0, .int .i64 0, .int .i64 0, .int .i64 0, .int .i64 0, .int .i64 0]) (c' := [.int .i64 0, .int .i64 a0.N, .string a0.S, .int .i64 0, .int .i64 0, .int .i64 0, .int .i64 0, .int .i64 0, .int .i64 0, .int .i64 0, .int .i64 0]) Try.sizeOf41 hS hK rfl rfl rfl rfl (all_cons rfl (all_cons rfl (all_cons rfl (all_cons rfl (all_cons rfl (all_cons rfl (all_cons rfl (all_cons rfl (all_nil))))))))) (Nat.le_of_ble_eq_true rfl) rfl fun a w hS hK => ?_
                  refine wpList_nil ?_
                  exact ⟨(⟨0, 0, 0, 0, 0, 0, 0, 0⟩ : Arr8), true, H, hK.sub (all_cons rfl (all_cons rfl (all_nil))), hS.trunc 1⟩
                · rw [ifb_f hb_119] at H
                  refine wp_region_lit ?_
                  refine sl hK (by decide) rfl rfl (r_assign hK rfl) fun a hK => ?_
                  refine wpList_nil ?_
                  exact ⟨a0.H, false, H, hK.sub (all_cons rfl (all_cons rfl (all_nil))), hS.trunc 1⟩
              · rintro a w ⟨x_116, x_117, H, hK, hS⟩
                unfold value_Valid.j4 at H
                exact ⟨a0.N, x_116, x_117, H, hK.sub (all_cons rfl (all_cons rfl (all_nil))), hS⟩
          · rintro a w ⟨x_106, x_107, x_108, H, hK, hS⟩
            unfold value_Valid.j2 at H
            exact ⟨x_106, a0.S, x_107, x_108, H, hK.sub (all_cons rfl (all_cons rfl (all_nil))), hS⟩
      · rintro a w ⟨x_90, x_91, x_92, x_93, H, hK, hS⟩
        unfold value_Valid.j1 at H
        exact ⟨x_90, x_91, x_92, x_93, H, hK.sub (all_cons rfl (all_cons rfl (all_nil))), hS⟩
  · rintro a w ⟨x_59, x_60, x_61, x_62, H, hK, hS⟩
    unfold value_Valid.j0 at H
    refine wp_seq ?_
    refine wp_region_lit ?_
    refine sl hK (by decide) rfl rfl (r_move hK rfl) fun a hK => ?_
    refine sl hK (by decide) rfl rfl (r_move hK rfl) fun a hK => ?_
    rcases or_b x_62 with hb_120 | hb_120
    · rw [ifb_t hb_120] at H
      refine sl hK (by decide) (wtt hb_120) rfl (r_loadA (cs := [.int .i64 0, .int .i64 x_59, .string x_60, .int .i64 x_61.a0, .int .i64 x_61.a1, .int .i64 x_61.a2, .int .i64 x_61.a3, .int .i64 x_61.a4, .int .i64 x_61.a5, .int .i64 x_61.a6, .int .i64 x_61.a7]) Try.isAgg43 Try.sizeOf43 rfl hK rfl (hS.cells_of (m := 11) (.head _) rfl)) fun a hK => ?_
      refine sl hK (by decide) (wtt hb_120) rfl (r_buildC (ps := []) (c := [.int .i64 0, .int .i64 0, .string (⟨#[]⟩ : ByteArray), .int .i64 0, .int .i64 0, .int .i64 0, .int .i64 0, .int .i64 0, .int .i64 0, .int .i64 0, .int .i64 0]) Try.underlying43 Try.zeroValue43 places43 hK rfl pc_nil rfl rfl) fun a hK => ?_
      refine sl hK (by decide) (wtt hb_120) rfl (r_seq (by kernel_rfl) (eqs43 (⟨0, x_59, x_60, x_61⟩ : api_Value) (⟨0, 0, (⟨#[]⟩ : ByteArray), (⟨0, 0, 0, 0, 0, 0, 0, 0⟩ : Arr8)⟩ : api_Value)) hK rfl rfl) fun a hK => ?_
      refine sl hK (by decide) rfl rfl (r_pick_t hb_120 hK rfl rfl) fun a hK => ?_
      refine sl hK (by decide) rfl rfl (r_assign hK rfl) fun a hK => ?_
      refine wpList_nil ?_
      obtain rfl := Option.some.inj H
      refine wp_ret ?_
      repeat (first | refine ret_then ?_ | refine ret_block ?_ | refine ret_scope ?_)
      exact ret_1 Try.results45 hK (rv_tmp hK rfl) ⟨rfl, hS.bel⟩
    · rw [ifb_f hb_120] at H
      refine sl_skip hK (by decide) (wtf hb_120) rfl fun a hK => ?_
      refine sl_skip hK (by decide) (wtf hb_120) rfl fun a hK => ?_
      refine sl_skip hK (by decide) (wtf hb_120) rfl fun a hK => ?_
      refine sl hK (by decide) rfl rfl (r_pick_f hb_120 hK rfl rfl) fun a hK => ?_
      refine sl hK (by decide) rfl rfl (r_assign hK rfl) fun a hK => ?_
      refine wpList_nil ?_
      obtain rfl := Option.some.inj H
      refine wp_ret ?_
      repeat (first | refine ret_then ?_ | refine ret_block ?_ | refine ret_scope ?_)
      exact ret_1 Try.results45 hK (rv_tmp hK rfl) ⟨rfl, hS.bel⟩

/-! ### catchment/table.Check: function 41 -/
set_option maxHeartbeats 4000000 in
set_option maxRecDepth 100000 in
theorem table_Check.calls (a0 : api_Table) {w0 : World} {RA : Hp} {v0_0 : Value} {v0_1 : Value} (hRA : RA.sub w0) (h0_0 : SlR ty_api_Col RA v0_0 a0.Cols) (h0_1 : SlR (tySl ty_api_Value) RA v0_1 a0.Rows) {r : Int} (H : table_Check a0 = some r) : CallsV Try.prog 41 #[.agg #[v0_0, v0_1]] w0 (.int .i64 r) := by
  unfold table_Check at H
  refine enter (args := [.agg #[v0_0, v0_1]]) Try.func41 rfl Try.ntmps41 rfl fun a hK => ?_
  have hS := St.init (R := fun _ => none) (w := w0) (fun _ _ h => by cases h)
  have hRL := RLe.refl (M := []) w0 (fun _ => none)
  refine wp_seq ?_
  refine wp_region_lit ?_
  refine sl_box hS hK (by decide) rfl rfl (c := [v0_0, v0_1]) rfl fun a w b_1 hS hK => ?_
  refine sl hK (by decide) rfl rfl (r_assign hK rfl) fun a hK => ?_
  refine wpList_nil ?_
  refine wp_seq ?_
  refine wp_seq ?_
  refine wp_region_lit ?_
  refine sl hK (by decide) rfl rfl (r_fieldAddr Try.underlying47 rfl Try.sizeOf24 hK rfl) fun a hK => ?_
  refine sl hK (by decide) rfl rfl (r_load Try.isAgg24 hK rfl (hS.cell (.head _) rfl)) fun a hK => ?_
  obtain ⟨y_2, h_3, H⟩ := bind_some H
  refine sl_callV Try.call48 hS hK (by decide) rfl rfl rfl (table_columns.calls a0.Cols (lentOf_sub [] _) (h0_0.mono (hS.raLe0 hRA nil_not)) h_3) fun a w hS hK => ?_
  refine sl hK (by decide) rfl rfl (r_un hK rfl (u_not _)) fun a hK => ?_
  refine wpList_nil ?_
  refine wp_cond_split (hK.ev rfl) (fun (hb_4 : (!y_2) = true) => ?_) (fun (hb_4 : (!y_2) = false) => ?_)
  · rw [ifb_t hb_4] at H
    refine wp_seq ?_
    refine wp_region_lit ?_
    refine sl hK (by decide) rfl rfl (r_assign hK rfl) fun a hK => ?_
    refine wpList_nil ?_
    obtain rfl := Option.some.inj H
    refine wp_ret ?_
    repeat (first | refine ret_then ?_ | refine ret_block ?_ | refine ret_scope ?_)
    exact ret_1 Try.results41 hK (rv_tmp hK rfl) ⟨rfl, hS.bel⟩
  · rw [ifb_f hb_4] at H
    refine wp_skip ?_
    refine wp_seq ?_
    refine wp_seq ?_
    refine wp_region_lit ?_
    refine sl hK (by decide) rfl rfl (r_fieldAddr Try.underlying47 rfl Try.sizeOf45 hK rfl) fun a hK => ?_
    refine sl hK (by decide) rfl rfl (r_load Try.isAgg45 hK rfl (hS.cell (.head _) rfl)) fun a hK => ?_
    refine sl hK (by decide) rfl rfl (r_len_R Try.underlying45 h0_1 hK rfl) fun a hK => ?_
    refine sl hK (by decide) rfl rfl (r_move hK rfl) fun a hK => ?_
    refine wpList_nil ?_
    refine wp_block ?_
    refine wp_loop_k (fun k_l0 a w => ∃ (x_208 : Int), table_Check.l0 a0 k_l0 x_208 = some r ∧ Kn 47 a [(1, .pointer (some ⟨b_1, 0, none⟩)), (12, v0_1), (13, .int .i64 (a0.Rows.length : Int)), (14, .int .i64 x_208)] ∧ St [] w0 w (fun _ => none) [.cells b_1 [v0_0, v0_1] 47]) (((a0.Rows.length : Int) - 0).toNat + 1) ?_ ?_
    · exact ⟨0, H, hK.sub (all_cons rfl (all_cons rfl (all_cons rfl (all_cons rfl (all_nil))))), hS⟩
    · rintro k_l0 a w ⟨x_208, H, hK, hS⟩
      cases k_l0 with
      | zero => cases H
      | succ k_l0 =>
      rw [table_Check.l0.eq_2] at H
      refine wp_seq ?_
      refine wp_region_lit ?_
      refine sl hK (by decide) rfl rfl (r_ibin hK rfl rfl rfl) fun a hK => ?_
      refine wpList_nil ?_
      refine wp_seq ?_
      refine wp_cond_split (hK.ev rfl) (fun (hb_412 : (decide (x_208 < (a0.Rows.length : Int))) = true) => ?_) (fun (hb_412 : (decide (x_208 < (a0.Rows.length : Int))) = false) => ?_)
      · rw [ifb_t hb_412] at H
        refine wp_skip ?_
        refine wp_seq ?_
        refine wp_block ?_
        refine wp_seq ?_
        refine wp_region_lit ?_
        obtain ⟨y_413, h_414, H⟩ := bind_some H
        obtain ⟨b_415, o_416, c_417, cs_418, hv_419, hr_420, hc_421, h_4140, h_4141⟩ := h0_1.ix h_414
        obtain ⟨v_422, rfl, hs_423⟩ := hr_420
        refine sl hK (by decide) rfl rfl (r_indexAddr_R Try.underlying45 Try.sizeOf36 hv_419 h_4140 h_4141 hK rfl rfl) fun a hK => ?_
        refine sl hK (by decide) rfl rfl (r_load Try.isAgg36 hK rfl ((hS.ra hRA nil_not).cell (hc_421 0 _ rfl))) fun a hK => ?_
        refine sl hK (by decide) rfl rfl (r_assign hK rfl) fun a hK => ?_
        refine wpList_nil ?_
        refine wp_seq ?_
        refine wp_seq ?_
        refine wp_region_lit ?_
        refine sl hK (by decide) rfl rfl (r_move hK rfl) fun a hK => ?_
        refine sl hK (by decide) rfl rfl (r_len_R Try.underlying36 hs_423 hK rfl) fun a hK => ?_
        refine sl hK (by decide) rfl rfl (r_fieldAddr Try.underlying47 rfl Try.sizeOf24 hK rfl) fun a hK => ?_
        refine sl hK (by decide) rfl rfl (r_load Try.isAgg24 hK rfl (hS.cell (.head _) rfl)) fun a hK => ?_
        refine sl hK (by decide) rfl rfl (r_len_R Try.underlying24 h0_0 hK rfl) fun a hK => ?_
        refine sl hK (by decide) rfl rfl (r_ibin hK rfl rfl rfl) fun a hK => ?_
        refine wpList_nil ?_
        refine wp_cond_split (hK.ev rfl) (fun (hb_424 : ((y_413.length : Int) != (a0.Cols.length : Int)) = true) => ?_) (fun (hb_424 : ((y_413.length : Int) != (a0.Cols.length : Int)) = false) => ?_)
        · rw [ifb_t hb_424] at H
          refine wp_seq ?_
          refine wp_region_lit ?_
          refine sl hK (by decide) rfl rfl (r_assign hK rfl) fun a hK => ?_
          refine wpList_nil ?_
          obtain rfl := Option.some.inj H
          refine wp_ret ?_
          repeat (first | refine ret_then ?_ | refine ret_block ?_ | refine ret_scope ?_)
          exact ret_1 Try.results41 hK (rv_tmp hK rfl) ⟨rfl, hS.bel⟩
        · rw [ifb_f hb_424] at H
          refine wp_skip ?_
          refine wp_seq ?_
          refine wp_region_lit ?_
          refine sl hK (by decide) rfl rfl (r_move hK rfl) fun a hK => ?_
          refine sl hK (by decide) rfl rfl (r_len_R Try.underlying36 hs_423 hK rfl) fun a hK => ?_
          refine sl hK (by decide) rfl rfl (r_move hK rfl) fun a hK => ?_
          refine wpList_nil ?_
          refine wp_block ?_
          refine wp_loop_k (fun k_l1 a w => ∃ (x_488 : Int), table_Check.l1 (table_Check.l0 a0 k_l0) a0 x_208 y_413 k_l1 x_488 = some r ∧ Kn 47 a [(1, .pointer (some ⟨b_1, 0, none⟩)), (12, v0_1), (13, .int .i64 (a0.Rows.length : Int)), (14, .int .i64 x_208), (24, v_422), (25, .int .i64 (y_413.length : Int)), (26, .int .i64 x_488)] ∧ St [] w0 w (fun _ => none) [.cells b_1 [v0_0, v0_1] 47]) (((y_413.length : Int) - 0).toNat + 1) ?_ ?_
          · exact ⟨0, H, hK.sub (all_cons rfl (all_cons rfl (all_cons rfl (all_cons rfl (all_cons rfl (all_cons rfl (all_cons rfl (all_nil)))))))), hS⟩
          · rintro k_l1 a w ⟨x_488, H, hK, hS⟩
            cases k_l1 with
            | zero => cases H
            | succ k_l1 =>
            rw [table_Check.l1.eq_2] at H
            refine wp_seq ?_
            refine wp_region_lit ?_
            refine sl hK (by decide) rfl rfl (r_ibin hK rfl rfl rfl) fun a hK => ?_
            refine wpList_nil ?_
            refine wp_seq ?_
            refine wp_cond_split (hK.ev rfl) (fun (hb_552 : (decide (x_488 < (y_413.length : Int))) = true) => ?_) (fun (hb_552 : (decide (x_488 < (y_413.length : Int))) = false) => ?_)
            · rw [ifb_t hb_552] at H
              refine wp_skip ?_
              refine wp_seq ?_
              refine wp_block ?_
              refine wp_seq ?_
              refine wp_region_lit ?_
              refine sl hK (by decide) rfl rfl (r_move hK rfl) fun a hK => ?_
              obtain ⟨y_553, h_554, H⟩ := bind_some H
              obtain ⟨b_555, o_556, c_557, cs_558, hv_559, hr_560, hc_561, h_5540, h_5541⟩ := hs_423.ix h_554
              subst hr_560
              refine sl hK (by decide) rfl rfl (r_indexAddr_R Try.underlying36 Try.sizeOf43 hv_559 h_5540 h_5541 hK rfl rfl) fun a hK => ?_
              refine sl hK (by decide) rfl rfl (r_loadA (cs := [.int .i64 y_553.Kind, .int .i64 y_553.N, .string y_553.S, .int .i64 y_553.H.a0, .int .i64 y_553.H.a1, .int .i64 y_553.H.a2, .int .i64 y_553.H.a3, .int .i64 y_553.H.a4, .int .i64 y_553.H.a5, .int .i64 y_553.H.a6, .int .i64 y_553.H.a7]) Try.isAgg43 Try.sizeOf43 rfl hK rfl (fun j v hv => (hS.ra hRA nil_not).cell (hc_561 j v hv))) fun a hK => ?_
              refine sl_alloc Try.zeroValue43 hS hK (by decide) rfl rfl fun a w b_562 hS hK => ?_
              refine sl hK (by decide) rfl rfl (r_assign hK rfl) fun a hK => ?_
              refine sl_storeA (vs := [.int .i64 y_553.Kind, .int .i64 y_553.N, .string y_553.S, .int .i64 y_553.H.a0, .int .i64 y_553.H.a1, .int .i64 y_553.H.a2, .int .i64 y_553.H.a3, .int .i64 y_553.H.a4, .int .i64 y_553.H.a5, .int .i64 y_553.H.a6, .int .i64 y_553.H.a7]) (c' := [.int .i64 y_553.Kind, .int .i64 y_553.N, .string y_553.S, .int .i64 y_553.H.a0, .int .i64 y_553.H.a1, .int .i64 y_553.H.a2, .int .i64 y_553.H.a3, .int .i64 y_553.H.a4, .int .i64 y_553.H.a5, .int .i64 y_553.H.a6, .int .i64 y_553.H.a7]) Try.sizeOf43 hS hK rfl rfl rfl rfl (all_cons rfl (all_cons rfl (all_cons rfl (all_cons rfl (all_cons rfl (all_cons rfl (all_cons rfl (all_cons rfl (all_cons rfl (all_cons rfl (all_cons rfl (all_nil)))))))))))) (Nat.le_of_ble_eq_true rfl) rfl fun a w hS hK => ?_
              refine wpList_nil ?_
              refine wp_seq ?_
              refine wp_mid (fun a w => ∃ (x_587 : Bool), table_Check.j2 (table_Check.l1 (table_Check.l0 a0 k_l0) a0 x_208 y_413 k_l1) y_413 x_488 x_587 = some r ∧ Kn 47 a [(1, .pointer (some ⟨b_1, 0, none⟩)), (12, v0_1), (13, .int .i64 (a0.Rows.length : Int)), (14, .int .i64 x_208), (24, v_422), (25, .int .i64 (y_413.length : Int)), (26, .int .i64 x_488), (44, .bool x_587)] ∧ St [] w0 w (fun _ => none) [.cells b_1 [v0_0, v0_1] 47]) ?_ ?_
              · refine parT_region (C := fun w => St [] w0 w (fun _ => none) [.cells b_562 [.int .i64 y_553.Kind, .int .i64 y_553.N, .string y_553.S, .int .i64 y_553.H.a0, .int .i64 y_553.H.a1, .int .i64 y_553.H.a2, .int .i64 y_553.H.a3, .int .i64 y_553.H.a4, .int .i64 y_553.H.a5, .int .i64 y_553.H.a6, .int .i64 y_553.H.a7] 43, .cells b_1 [v0_0, v0_1] 47]) 8 [(0, true), (1, true), (2, true), (3, true), (4, true), (5, true), (6, true), (7, true)] mixed (by kernel_rfl) hS (fun w hS => hS) fun w hS => ?_
                refine sp (k := 0) rfl hK (by decide) rfl rfl (fun w hS => r_fieldAddr Try.underlying43 rfl Try.sizeOf3 hK rfl) fun a hK => ?_
                refine sp (k := 1) rfl hK (by decide) rfl rfl (fun w hS => r_load Try.isAgg3 hK rfl (hS.cell (.head _) rfl)) fun a hK => ?_
                refine sp (k := 2) rfl hK (by decide) rfl rfl (fun w hS => r_fieldAddr Try.underlying47 rfl Try.sizeOf24 hK rfl) fun a hK => ?_
                refine sp (k := 3) rfl hK (by decide) rfl rfl (fun w hS => r_load Try.isAgg24 hK rfl (hS.cell (.tail _ (.head _)) rfl)) fun a hK => ?_
                refine sp (k := 4) rfl hK (by decide) rfl rfl (fun w hS => r_move hK rfl) fun a hK => ?_
                obtain ⟨y_601, h_602, H⟩ := bind_some H
                obtain ⟨b_603, o_604, c_605, cs_606, hv_607, hr_608, hc_609, h_6020, h_6021⟩ := h0_0.ix h_602
                subst hr_608
                refine sp (k := 5) rfl hK (by decide) rfl rfl (fun w hS => r_indexAddr_R Try.underlying24 Try.sizeOf52 hv_607 h_6020 h_6021 hK rfl rfl) fun a hK => ?_
                refine sp (k := 6) rfl hK (by decide) rfl rfl (fun w hS => r_fieldAddr Try.underlying52 rfl Try.sizeOf3 hK rfl) fun a hK => ?_
                refine sp (k := 7) rfl hK (by decide) rfl rfl (fun w hS => r_load Try.isAgg3 hK rfl ((hS.ra hRA nil_not).cell (hc_609 1 _ rfl))) fun a hK => ?_
                refine thenL_nil ?_
                refine sl hK (by decide) rfl rfl (r_ibin hK rfl rfl rfl) fun a hK => ?_
                refine sl hK (by decide) rfl rfl (r_move hK rfl) fun a hK => ?_
                rcases or_b (y_553.Kind != y_601.Kind) with hb_610 | hb_610
                · rw [ifb_t hb_610] at H
                  refine sl_skip hK (by decide) (wft hb_610) rfl fun a hK => ?_
                  refine sl_skip hK (by decide) (wft hb_610) rfl fun a hK => ?_
                  refine sl_skip hK (by decide) (wft hb_610) rfl fun a hK => ?_
                  refine sl hK (by decide) rfl rfl (r_pick_t hb_610 hK rfl rfl) fun a hK => ?_
                  refine wpList_nil (NoP_nil ?_)
                  have hS := hS.pk1
                  exact ⟨true, H, hK.sub (all_cons rfl (all_cons rfl (all_cons rfl (all_cons rfl (all_cons rfl (all_cons rfl (all_cons rfl (all_cons rfl (all_nil))))))))), hS.trunc 1⟩
                · rw [ifb_f hb_610] at H
                  refine sl hK (by decide) (wff hb_610) rfl (r_loadA (cs := [.int .i64 y_553.Kind, .int .i64 y_553.N, .string y_553.S, .int .i64 y_553.H.a0, .int .i64 y_553.H.a1, .int .i64 y_553.H.a2, .int .i64 y_553.H.a3, .int .i64 y_553.H.a4, .int .i64 y_553.H.a5, .int .i64 y_553.H.a6, .int .i64 y_553.H.a7]) Try.isAgg43 Try.sizeOf43 rfl hK rfl (hS.cells_of (m := 11) (.head _) rfl)) fun a hK => ?_
                  obtain ⟨y_611, h_612, H⟩ := bind_some H
                  refine sl_callV Try.call45 hS hK (by decide) (wff hb_610) rfl rfl (value_Valid.calls y_553 h_612 _) fun a w hS hK => ?_
                  refine sl hK (by decide) (wff hb_610) rfl (r_un hK rfl (u_not _)) fun a hK => ?_
                  refine sl hK (by decide) rfl rfl (r_pick_f hb_610 hK rfl rfl) fun a hK => ?_
                  refine wpList_nil (NoP_nil ?_)
                  have hS := hS.pk1
                  exact ⟨(!y_611), H, hK.sub (all_cons rfl (all_cons rfl (all_cons rfl (all_cons rfl (all_cons rfl (all_cons rfl (all_cons rfl (all_cons rfl (all_nil))))))))), hS.trunc 1⟩
              · rintro a w ⟨x_587, H, hK, hS⟩
                unfold table_Check.j2 at H
                refine wp_cond_split (hK.ev rfl) (fun (hb_613 : x_587 = true) => ?_) (fun (hb_613 : x_587 = false) => ?_)
                · rw [ifb_t hb_613] at H
                  refine wp_seq ?_
                  refine wp_region_lit ?_
                  refine sl hK (by decide) rfl rfl (r_assign hK rfl) fun a hK => ?_
                  refine wpList_nil ?_
                  obtain rfl := Option.some.inj H
                  refine wp_ret ?_
                  repeat (first | refine ret_then ?_ | refine ret_block ?_ | refine ret_scope ?_)
                  exact ret_1 Try.results41 hK (rv_tmp hK rfl) ⟨rfl, hS.bel⟩
                · rw [ifb_f hb_613] at H
                  refine wp_skip ?_
                  refine wp_region_lit ?_
                  refine sl hK (by decide) rfl rfl (r_ibin hK rfl rfl rfl) fun a hK => ?_
                  refine sl hK (by decide) rfl rfl (r_move hK rfl) fun a hK => ?_
                  refine wpList_nil ?_
                  exact ⟨_, Nat.lt_succ_self _, (IntKind.i64.wrap (x_488 + 1)), H, hK.sub (all_cons rfl (all_cons rfl (all_cons rfl (all_cons rfl (all_cons rfl (all_cons rfl (all_cons rfl (all_nil)))))))), hS⟩
            · rw [ifb_f hb_552] at H
              refine wp_exit ?_
              refine wp_region_lit ?_
              refine sl hK (by decide) rfl rfl (r_ibin hK rfl rfl rfl) fun a hK => ?_
              refine sl hK (by decide) rfl rfl (r_move hK rfl) fun a hK => ?_
              refine wpList_nil ?_
              exact ⟨_, Nat.lt_succ_self _, (IntKind.i64.wrap (x_208 + 1)), H, hK.sub (all_cons rfl (all_cons rfl (all_cons rfl (all_cons rfl (all_nil))))), hS⟩
      · rw [ifb_f hb_412] at H
        refine wp_exit ?_
        refine wp_seq ?_
        refine wp_region_lit ?_
        refine sl hK (by decide) rfl rfl (r_assign hK rfl) fun a hK => ?_
        refine wpList_nil ?_
        obtain rfl := Option.some.inj H
        refine wp_ret ?_
        repeat (first | refine ret_then ?_ | refine ret_block ?_ | refine ret_scope ?_)
        exact ret_1 Try.results41 hK (rv_tmp hK rfl) ⟨rfl, hS.bel⟩

/-! ### catchment/schema.one: function 28 -/
set_option maxHeartbeats 4000000 in
set_option maxRecDepth 100000 in
theorem schema_one.calls (a0 : api_Schema) {w0 : World} {R : Hp} {RA : Hp} {v0_0 : Value} {v0_1 : Value} (hRA : RA.sub w0) (hR : R.sub w0) (h0_0 : SlR ty_api_Col R v0_0 a0.Keys) (h0_1 : SlR ty_api_Col R v0_1 a0.Vals) (hG : GF RA) {r : Bool} (H : schema_one a0 = some r) : CallsV Try.prog 28 #[.agg #[.string a0.Name, v0_0, v0_1]] w0 (.bool r) := by
  unfold schema_one at H
  refine enter (args := [.agg #[.string a0.Name, v0_0, v0_1]]) Try.func28 rfl Try.ntmps28 rfl fun a hK => ?_
  have hS := St.init hR
  have hRL := RLe.refl (M := []) w0 R
  refine wp_seq ?_
  refine wp_region_lit ?_
  refine sl_box hS hK (by decide) rfl rfl (c := [.string a0.Name, v0_0, v0_1]) rfl fun a w b_1 hS hK => ?_
  refine sl hK (by decide) rfl rfl (r_assign hK rfl) fun a hK => ?_
  refine wpList_nil ?_
  refine wp_seq ?_
  refine wp_region_lit ?_
  refine sl hK (by decide) rfl rfl (r_fieldAddr Try.underlying26 rfl Try.sizeOf24 hK rfl) fun a hK => ?_
  refine sl hK (by decide) rfl rfl (r_load Try.isAgg24 hK rfl (hS.cell (.head _) rfl)) fun a hK => ?_
  refine sl hK (by decide) rfl rfl (r_fieldAddr Try.underlying26 rfl Try.sizeOf24 hK rfl) fun a hK => ?_
  refine sl hK (by decide) rfl rfl (r_load Try.isAgg24 hK rfl (hS.cell (.head _) rfl)) fun a hK => ?_
  refine sl hK (by decide) rfl rfl (r_fieldAddr Try.underlying26 rfl Try.sizeOf9 hK rfl) fun a hK => ?_
  refine sl hK (by decide) rfl rfl (r_load Try.isAgg9 hK rfl (hS.cell (.head _) rfl)) fun a hK => ?_
  refine sl hK (by decide) rfl rfl (r_buildC (ps := [(0, .string a0.Name)]) (c := [.string a0.Name, .int .i64 0]) Try.underlying52 Try.zeroValue52 places52 hK rfl (pc_cons rfl pc_nil) rfl rfl) fun a hK => ?_
  refine sl_buildSliceF (zc := [.string (⟨#[]⟩ : ByteArray), .int .i64 0]) (ps := [(0, .agg #[.string a0.Name, .int .i64 0])]) (c := [.string a0.Name, .int .i64 0]) [[.string a0.Name, .int .i64 0]] Try.underlying24 Try.sizeOf52 Try.zeroValue52 rfl (pc_cons rfl pc_nil) rfl rfl (Nat.le_of_ble_eq_true rfl) rfl (all_cons rfl (all_nil)) rfl hS hK (by decide) rfl fun a w b_2 hS hK => ?_
  refine sl_buildSliceF (zc := [.slice none 0 0]) (ps := [(0, v0_0), (1, v0_1), (2, .slice (some ⟨b_2, 0, none⟩) 1 1)]) (c := [v0_0, v0_1, .slice (some ⟨b_2, 0, none⟩) 1 1]) [[v0_0], [v0_1], [.slice (some ⟨b_2, 0, none⟩) 1 1]] Try.underlying61 Try.sizeOf24 Try.zeroValue24 rfl (pc_cons (cells1 h0_0.one) (pc_cons (cells1 h0_1.one) (pc_cons rfl pc_nil))) rfl rfl (Nat.le_of_ble_eq_true rfl) rfl (all_cons rfl (all_cons rfl (all_cons rfl (all_nil)))) rfl hS hK (by decide) rfl fun a w b_3 hS hK => ?_
  have hS := hS.pk1
  obtain ⟨R_4, hS, hl_6, hs_5⟩ := hS.fz_lit (ty := ty_api_Col) (xs := [(⟨a0.Name, 0⟩ : api_Col)]) (Reps.cons (show Ty.rep ty_api_Col _ [.string a0.Name, .int .i64 0] (⟨a0.Name, 0⟩ : api_Col) from rfl) (Reps.nil _ _)) rfl
  have hRL := hRL.trans hl_6
  obtain ⟨y_7, h_8, H⟩ := bind_some H
  refine sl_callV Try.call38 hS hK (by decide) rfl rfl rfl (schema_all_f_schema_one_1.calls [a0.Keys, a0.Vals, [(⟨a0.Name, 0⟩ : api_Col)]] (lentOf_sub [] _) (hS.lend_lit0 (ty := (tySl ty_api_Col)) (xs := [a0.Keys, a0.Vals, [(⟨a0.Name, 0⟩ : api_Col)]]) (.head _) (Reps.cons (show Ty.rep (tySl ty_api_Col) _ [v0_0] a0.Keys from ⟨_, rfl, (h0_0.mono hl_6.le)⟩) (Reps.cons (show Ty.rep (tySl ty_api_Col) _ [v0_1] a0.Vals from ⟨_, rfl, (h0_1.mono hl_6.le)⟩) (Reps.cons (show Ty.rep (tySl ty_api_Col) _ [(.slice (some ⟨b_2, 0, none⟩) 1 1)] [(⟨a0.Name, 0⟩ : api_Col)] from ⟨_, rfl, hs_5⟩) (Reps.nil _ _)))) rfl) (GF.mono (hS.raLe0 hRA nil_not) hG) h_8) fun a w hS hK => ?_
  refine sl hK (by decide) rfl rfl (r_assign hK rfl) fun a hK => ?_
  refine wpList_nil ?_
  refine wp_seq ?_
  refine wp_region_lit ?_
  refine sl hK (by decide) rfl rfl (r_fieldAddr Try.underlying26 rfl Try.sizeOf24 hK rfl) fun a hK => ?_
  refine sl hK (by decide) rfl rfl (r_load Try.isAgg24 hK rfl (hS.cell (.tail _ (.head _)) rfl)) fun a hK => ?_
  refine sl_buildSliceF (zc := [.slice none 0 0]) (ps := [(0, v0_0)]) (c := [v0_0]) [[v0_0]] Try.underlying61 Try.sizeOf24 Try.zeroValue24 rfl (pc_cons (cells1 h0_0.one) pc_nil) rfl rfl (Nat.le_of_ble_eq_true rfl) rfl (all_cons rfl (all_nil)) rfl hS hK (by decide) rfl fun a w b_9 hS hK => ?_
  obtain ⟨y_10, h_11, H⟩ := bind_some H
  refine sl_callV Try.call38 hS hK (by decide) rfl rfl rfl (schema_all_f_schema_one_2.calls [a0.Keys] (lentOf_sub [] _) (hS.lend_lit0 (ty := (tySl ty_api_Col)) (xs := [a0.Keys]) (.head _) (Reps.cons (show Ty.rep (tySl ty_api_Col) _ [v0_0] a0.Keys from ⟨_, rfl, (h0_0.mono hl_6.le)⟩) (Reps.nil _ _)) rfl) h_11) fun a w hS hK => ?_
  refine sl hK (by decide) rfl rfl (r_assign hK rfl) fun a hK => ?_
  refine wpList_nil ?_
  refine wp_seq ?_
  refine wp_mid (fun a w => ∃ (x_15 : Bool), schema_one.j0 a0 y_7 y_10 x_15 = some r ∧ Kn 60 a [(1, .pointer (some ⟨b_1, 0, none⟩)), (3, .bool y_7), (4, .bool y_10), (5, .bool x_15)] ∧ St [] w0 w R_4 [.cells b_1 [.string a0.Name, v0_0, v0_1] 26]) ?_ ?_
  · refine wp_region_lit ?_
    refine sl hK (by decide) rfl rfl (r_fieldAddr Try.underlying26 rfl Try.sizeOf24 hK rfl) fun a hK => ?_
    refine sl hK (by decide) rfl rfl (r_load Try.isAgg24 hK rfl (hS.cell (.tail _ (.tail _ (.head _))) rfl)) fun a hK => ?_
    refine sl hK (by decide) rfl rfl (r_len_R Try.underlying24 h0_0 hK rfl) fun a hK => ?_
    refine sl hK (by decide) rfl rfl (r_ibin hK rfl rfl rfl) fun a hK => ?_
    refine sl hK (by decide) rfl rfl (r_move hK rfl) fun a hK => ?_
    rcases or_b (decide ((a0.Keys.length : Int) ≥ 1)) with hb_17 | hb_17
    · rw [ifb_t hb_17] at H
      refine sl hK (by decide) (wtt hb_17) rfl (r_fieldAddr Try.underlying26 rfl Try.sizeOf24 hK rfl) fun a hK => ?_
      refine sl hK (by decide) (wtt hb_17) rfl (r_load Try.isAgg24 hK rfl (hS.cell (.tail _ (.tail _ (.head _))) rfl)) fun a hK => ?_
      refine sl hK (by decide) (wtt hb_17) rfl (r_len_R Try.underlying24 h0_0 hK rfl) fun a hK => ?_
      refine sl hK (by decide) (wtt hb_17) rfl (r_ibin hK rfl rfl rfl) fun a hK => ?_
      refine sl hK (by decide) rfl rfl (r_pick_t hb_17 hK rfl rfl) fun a hK => ?_
      refine sl hK (by decide) rfl rfl (r_move hK rfl) fun a hK => ?_
      rcases or_b (decide ((a0.Keys.length : Int) ≤ 4)) with hb_18 | hb_18
      · rw [ifb_t hb_18] at H
        refine sl hK (by decide) (wtt hb_18) rfl (r_fieldAddr Try.underlying26 rfl Try.sizeOf24 hK rfl) fun a hK => ?_
        refine sl hK (by decide) (wtt hb_18) rfl (r_load Try.isAgg24 hK rfl (hS.cell (.tail _ (.tail _ (.head _))) rfl)) fun a hK => ?_
        refine sl hK (by decide) (wtt hb_18) rfl (r_len_R Try.underlying24 h0_1 hK rfl) fun a hK => ?_
        refine sl hK (by decide) (wtt hb_18) rfl (r_ibin hK rfl rfl rfl) fun a hK => ?_
        refine sl hK (by decide) rfl rfl (r_pick_t hb_18 hK rfl rfl) fun a hK => ?_
        refine sl hK (by decide) rfl rfl (r_move hK rfl) fun a hK => ?_
        rcases or_b (decide ((a0.Vals.length : Int) ≥ 1)) with hb_19 | hb_19
        · rw [ifb_t hb_19] at H
          refine sl hK (by decide) (wtt hb_19) rfl (r_fieldAddr Try.underlying26 rfl Try.sizeOf24 hK rfl) fun a hK => ?_
          refine sl hK (by decide) (wtt hb_19) rfl (r_load Try.isAgg24 hK rfl (hS.cell (.tail _ (.tail _ (.head _))) rfl)) fun a hK => ?_
          refine sl hK (by decide) (wtt hb_19) rfl (r_len_R Try.underlying24 h0_1 hK rfl) fun a hK => ?_
          refine sl hK (by decide) (wtt hb_19) rfl (r_ibin hK rfl rfl rfl) fun a hK => ?_
          refine sl hK (by decide) rfl rfl (r_pick_t hb_19 hK rfl rfl) fun a hK => ?_
          refine sl hK (by decide) rfl rfl (r_assign hK rfl) fun a hK => ?_
          refine wpList_nil ?_
          have hS := hS.pk2
          exact ⟨(decide ((a0.Vals.length : Int) ≤ 4)), H, hK.sub (all_cons rfl (all_cons rfl (all_cons rfl (all_cons rfl (all_nil))))), hS.trunc 1⟩
        · rw [ifb_f hb_19] at H
          refine sl_skip hK (by decide) (wtf hb_19) rfl fun a hK => ?_
          refine sl_skip hK (by decide) (wtf hb_19) rfl fun a hK => ?_
          refine sl_skip hK (by decide) (wtf hb_19) rfl fun a hK => ?_
          refine sl_skip hK (by decide) (wtf hb_19) rfl fun a hK => ?_
          refine sl hK (by decide) rfl rfl (r_pick_f hb_19 hK rfl rfl) fun a hK => ?_
          refine sl hK (by decide) rfl rfl (r_assign hK rfl) fun a hK => ?_
          refine wpList_nil ?_
          have hS := hS.pk2
          exact ⟨false, H, hK.sub (all_cons rfl (all_cons rfl (all_cons rfl (all_cons rfl (all_nil))))), hS.trunc 1⟩
      · rw [ifb_f hb_18] at H
        refine sl_skip hK (by decide) (wtf hb_18) rfl fun a hK => ?_
        refine sl_skip hK (by decide) (wtf hb_18) rfl fun a hK => ?_
        refine sl_skip hK (by decide) (wtf hb_18) rfl fun a hK => ?_
        refine sl_skip hK (by decide) (wtf hb_18) rfl fun a hK => ?_
        refine sl hK (by decide) rfl rfl (r_pick_f hb_18 hK rfl rfl) fun a hK => ?_
        refine sl hK (by decide) rfl rfl (r_move hK rfl) fun a hK => ?_
        refine sl_skip hK (by decide) rfl rfl fun a hK => ?_
        refine sl_skip hK (by decide) rfl rfl fun a hK => ?_
        refine sl_skip hK (by decide) rfl rfl fun a hK => ?_
        refine sl_skip hK (by decide) rfl rfl fun a hK => ?_
        refine sl hK (by decide) rfl rfl (r_pick hK rfl rfl rfl) fun a hK => ?_
        refine sl hK (by decide) rfl rfl (r_assign hK rfl) fun a hK => ?_
        refine wpList_nil ?_
        have hS := hS.pk2
        exact ⟨false, H, hK.sub (all_cons rfl (all_cons rfl (all_cons rfl (all_cons rfl (all_nil))))), hS.trunc 1⟩
    · rw [ifb_f hb_17] at H
      refine sl_skip hK (by decide) (wtf hb_17) rfl fun a hK => ?_
      refine sl_skip hK (by decide) (wtf hb_17) rfl fun a hK => ?_
      refine sl_skip hK (by decide) (wtf hb_17) rfl fun a hK => ?_
      refine sl_skip hK (by decide) (wtf hb_17) rfl fun a hK => ?_
      refine sl hK (by decide) rfl rfl (r_pick_f hb_17 hK rfl rfl) fun a hK => ?_
      refine sl hK (by decide) rfl rfl (r_move hK rfl) fun a hK => ?_
      refine sl_skip hK (by decide) rfl rfl fun a hK => ?_
      refine sl_skip hK (by decide) rfl rfl fun a hK => ?_
      refine sl_skip hK (by decide) rfl rfl fun a hK => ?_
      refine sl_skip hK (by decide) rfl rfl fun a hK => ?_
      refine sl hK (by decide) rfl rfl (r_pick hK rfl rfl rfl) fun a hK => ?_
      refine sl hK (by decide) rfl rfl (r_move hK rfl) fun a hK => ?_
      refine sl_skip hK (by decide) rfl rfl fun a hK => ?_
      refine sl_skip hK (by decide) rfl rfl fun a hK => ?_
      refine sl_skip hK (by decide) rfl rfl fun a hK => ?_
      refine sl_skip hK (by decide) rfl rfl fun a hK => ?_
      refine sl hK (by decide) rfl rfl (r_pick hK rfl rfl rfl) fun a hK => ?_
      refine sl hK (by decide) rfl rfl (r_assign hK rfl) fun a hK => ?_
      refine wpList_nil ?_
      have hS := hS.pk2
      exact ⟨false, H, hK.sub (all_cons rfl (all_cons rfl (all_cons rfl (all_cons rfl (all_nil))))), hS.trunc 1⟩
  · rintro a w ⟨x_15, H, hK, hS⟩
    unfold schema_one.j0 at H
    refine wp_seq ?_
    refine wp_region_lit ?_
    refine sl hK (by decide) rfl rfl (r_move hK rfl) fun a hK => ?_
    refine sl hK (by decide) rfl rfl (r_move hK rfl) fun a hK => ?_
    rcases or_b x_15 with hb_20 | hb_20
    · rw [ifb_t hb_20] at H
      refine sl hK (by decide) (wtt hb_20) rfl (r_move hK rfl) fun a hK => ?_
      refine sl hK (by decide) rfl rfl (r_pick_t hb_20 hK rfl rfl) fun a hK => ?_
      refine sl hK (by decide) rfl rfl (r_move hK rfl) fun a hK => ?_
      rcases or_b y_7 with hb_21 | hb_21
      · rw [ifb_t hb_21] at H
        refine sl hK (by decide) (wtt hb_21) rfl (r_move hK rfl) fun a hK => ?_
        refine sl hK (by decide) rfl rfl (r_pick_t hb_21 hK rfl rfl) fun a hK => ?_
        refine sl hK (by decide) rfl rfl (r_move hK rfl) fun a hK => ?_
        rcases or_b y_10 with hb_22 | hb_22
        · rw [ifb_t hb_22] at H
          refine sl hK (by decide) (wtt hb_22) rfl (r_fieldAddr Try.underlying26 rfl Try.sizeOf24 hK rfl) fun a hK => ?_
          refine sl hK (by decide) (wtt hb_22) rfl (r_load Try.isAgg24 hK rfl (hS.cell (.head _) rfl)) fun a hK => ?_
          refine sl hK (by decide) (wtt hb_22) rfl (r_fieldAddr Try.underlying26 rfl Try.sizeOf24 hK rfl) fun a hK => ?_
          refine sl hK (by decide) (wtt hb_22) rfl (r_load Try.isAgg24 hK rfl (hS.cell (.head _) rfl)) fun a hK => ?_
          refine sl_buildSliceF (zc := [.slice none 0 0]) (ps := [(0, v0_0), (1, v0_1)]) (c := [v0_0, v0_1]) [[v0_0], [v0_1]] Try.underlying61 Try.sizeOf24 Try.zeroValue24 rfl (pc_cons (cells1 h0_0.one) (pc_cons (cells1 h0_1.one) pc_nil)) rfl rfl (Nat.le_of_ble_eq_true rfl) rfl (all_cons rfl (all_cons rfl (all_nil))) rfl hS hK (by decide) (wtt hb_22) fun a w b_23 hS hK => ?_
          obtain ⟨y_24, h_25, H⟩ := bind_some H
          refine sl_call Try.call24 hK (by decide) (wtt hb_22) rfl rfl (slices_Concat_api_Col_api_Col.calls [a0.Keys, a0.Vals] (lentOf_sub [] _) hS.sub (hS.lend_lit0 (ty := (tySl ty_api_Col)) (xs := [a0.Keys, a0.Vals]) (.head _) (Reps.cons (show Ty.rep (tySl ty_api_Col) _ [v0_0] a0.Keys from ⟨_, rfl, (h0_0.mono hl_6.le)⟩) (Reps.cons (show Ty.rep (tySl ty_api_Col) _ [v0_1] a0.Vals from ⟨_, rfl, (h0_1.mono hl_6.le)⟩) (Reps.nil _ _))) rfl) h_25) fun a v_ w hv_ hK => ?_
          obtain ⟨R_26, v_29, cs_30, hv_, hr_, hl_27, hq_31⟩ := hv_
          have hv_ := hv_.symm
          subst hv_
          obtain ⟨hS, hl_27⟩ := hS.sp0.back hr_ hl_27
          have hS := hS.un1
          have hRL := hRL.trans hl_27
          have ho_32 := hS.row_one (.head _)
          refine sl hK (by decide) (wtt hb_22) rfl (r_buildC (ps := [(0, v_29)]) (c := [v_29, .slice none 0 0]) Try.underlying47 Try.zeroValue47 places47 hK rfl (pc_cons (cells1 ho_32) pc_nil) rfl rfl) fun a hK => ?_
          obtain ⟨y_33, h_34, H⟩ := bind_some H
          refine sl_callV Try.call41 hS hK (by decide) (wtt hb_22) rfl rfl (table_Check.calls (⟨y_24, []⟩ : api_Table) (lentOf_sub [] _) (hS.lend_row0 (.head _) hq_31 rfl rfl) (SlR.nil (tySl ty_api_Value) _) h_34) fun a w hS hK => ?_
          refine sl hK (by decide) (wtt hb_22) rfl (r_ibin hK rfl rfl rfl) fun a hK => ?_
          refine sl hK (by decide) rfl rfl (r_pick_t hb_22 hK rfl rfl) fun a hK => ?_
          refine sl hK (by decide) rfl rfl (r_assign hK rfl) fun a hK => ?_
          refine wpList_nil ?_
          obtain rfl := Option.some.inj H
          refine wp_ret ?_
          repeat (first | refine ret_then ?_ | refine ret_block ?_ | refine ret_scope ?_)
          exact ret_1 Try.results28 hK (rv_tmp hK rfl) ⟨rfl, hS.bel⟩
        · rw [ifb_f hb_22] at H
          refine sl_skip hK (by decide) (wtf hb_22) rfl fun a hK => ?_
          refine sl_skip hK (by decide) (wtf hb_22) rfl fun a hK => ?_
          refine sl_skip hK (by decide) (wtf hb_22) rfl fun a hK => ?_
          refine sl_skip hK (by decide) (wtf hb_22) rfl fun a hK => ?_
          refine sl_skip hK (by decide) (wtf hb_22) rfl fun a hK => ?_
          refine sl_skip hK (by decide) (wtf hb_22) rfl fun a hK => ?_
          refine sl_skip hK (by decide) (wtf hb_22) rfl fun a hK => ?_
          refine sl_skip hK (by decide) (wtf hb_22) rfl fun a hK => ?_
          refine sl_skip hK (by decide) (wtf hb_22) rfl fun a hK => ?_
          refine sl hK (by decide) rfl rfl (r_pick_f hb_22 hK rfl rfl) fun a hK => ?_
          refine sl hK (by decide) rfl rfl (r_assign hK rfl) fun a hK => ?_
          refine wpList_nil ?_
          obtain rfl := Option.some.inj H
          refine wp_ret ?_
          repeat (first | refine ret_then ?_ | refine ret_block ?_ | refine ret_scope ?_)
          exact ret_1 Try.results28 hK (rv_tmp hK rfl) ⟨rfl, hS.bel⟩
      · rw [ifb_f hb_21] at H
        refine sl_skip hK (by decide) (wtf hb_21) rfl fun a hK => ?_
        refine sl hK (by decide) rfl rfl (r_pick_f hb_21 hK rfl rfl) fun a hK => ?_
        refine sl hK (by decide) rfl rfl (r_move hK rfl) fun a hK => ?_
        refine sl_skip hK (by decide) rfl rfl fun a hK => ?_
        refine sl_skip hK (by decide) rfl rfl fun a hK => ?_
        refine sl_skip hK (by decide) rfl rfl fun a hK => ?_
        refine sl_skip hK (by decide) rfl rfl fun a hK => ?_
        refine sl_skip hK (by decide) rfl rfl fun a hK => ?_
        refine sl_skip hK (by decide) rfl rfl fun a hK => ?_
        refine sl_skip hK (by decide) rfl rfl fun a hK => ?_
        refine sl_skip hK (by decide) rfl rfl fun a hK => ?_
        refine sl_skip hK (by decide) rfl rfl fun a hK => ?_
        refine sl hK (by decide) rfl rfl (r_pick hK rfl rfl rfl) fun a hK => ?_
        refine sl hK (by decide) rfl rfl (r_assign hK rfl) fun a hK => ?_
        refine wpList_nil ?_
        obtain rfl := Option.some.inj H
        refine wp_ret ?_
        repeat (first | refine ret_then ?_ | refine ret_block ?_ | refine ret_scope ?_)
        exact ret_1 Try.results28 hK (rv_tmp hK rfl) ⟨rfl, hS.bel⟩
    · rw [ifb_f hb_20] at H
      refine sl_skip hK (by decide) (wtf hb_20) rfl fun a hK => ?_
      refine sl hK (by decide) rfl rfl (r_pick_f hb_20 hK rfl rfl) fun a hK => ?_
      refine sl hK (by decide) rfl rfl (r_move hK rfl) fun a hK => ?_
      refine sl_skip hK (by decide) rfl rfl fun a hK => ?_
      refine sl hK (by decide) rfl rfl (r_pick hK rfl rfl rfl) fun a hK => ?_
      refine sl hK (by decide) rfl rfl (r_move hK rfl) fun a hK => ?_
      refine sl_skip hK (by decide) rfl rfl fun a hK => ?_
      refine sl_skip hK (by decide) rfl rfl fun a hK => ?_
      refine sl_skip hK (by decide) rfl rfl fun a hK => ?_
      refine sl_skip hK (by decide) rfl rfl fun a hK => ?_
      refine sl_skip hK (by decide) rfl rfl fun a hK => ?_
      refine sl_skip hK (by decide) rfl rfl fun a hK => ?_
      refine sl_skip hK (by decide) rfl rfl fun a hK => ?_
      refine sl_skip hK (by decide) rfl rfl fun a hK => ?_
      refine sl_skip hK (by decide) rfl rfl fun a hK => ?_
      refine sl hK (by decide) rfl rfl (r_pick hK rfl rfl rfl) fun a hK => ?_
      refine sl hK (by decide) rfl rfl (r_assign hK rfl) fun a hK => ?_
      refine wpList_nil ?_
      obtain rfl := Option.some.inj H
      refine wp_ret ?_
      repeat (first | refine ret_then ?_ | refine ret_block ?_ | refine ret_scope ?_)
      exact ret_1 Try.results28 hK (rv_tmp hK rfl) ⟨rfl, hS.bel⟩

/-! ### catchment/schema.Check$1: function 30 -/
set_option maxHeartbeats 4000000 in
set_option maxRecDepth 100000 in
theorem schema_Check_1_cp.calls (a0 : api_Schema) (a1 : api_Schema) {w0 : World} {RA : Hp} {v0_0 : Value} {v0_1 : Value} {b1 : Nat} {o1 : Nat} {v1_0 : Value} {v1_1 : Value} (hRA : RA.sub w0) (h0_0 : SlR ty_api_Col RA v0_0 a0.Keys) (h0_1 : SlR ty_api_Col RA v0_1 a0.Vals) (hc1 : ∀ j u, ([.string a1.Name, v1_0, v1_1] : List Value)[j]? = some u → RA.cell b1 (o1 + j) = some u) (h1_0 : SlR ty_api_Col RA v1_0 a1.Keys) (h1_1 : SlR ty_api_Col RA v1_1 a1.Vals) {r : Bool} (H : schema_Check_1_cp a0 a1 = some r) : CallsV Try.prog 30 #[.agg #[.string a0.Name, v0_0, v0_1], .pointer (some ⟨b1, o1, none⟩)] w0 (.bool r) := by
  unfold schema_Check_1_cp at H
  refine enter (args := [.agg #[.string a0.Name, v0_0, v0_1], .pointer (some ⟨b1, o1, none⟩)]) Try.func30 rfl Try.ntmps30 rfl fun a hK => ?_
  have hS := St.init (R := fun _ => none) (w := w0) (fun _ _ h => by cases h)
  have hRL := RLe.refl (M := []) w0 (fun _ => none)
  refine wp_seq ?_
  refine wp_region_lit ?_
  refine sl_box hS hK (by decide) rfl rfl (c := [.string a0.Name, v0_0, v0_1]) rfl fun a w b_1 hS hK => ?_
  refine sl hK (by decide) rfl rfl (r_assign hK rfl) fun a hK => ?_
  refine wpList_nil ?_
  refine wp_seq ?_
  refine wp_region_lit ?_
  refine sl hK (by decide) rfl rfl (r_fieldAddr Try.underlying26 rfl Try.sizeOf9 hK rfl) fun a hK => ?_
  refine sl hK (by decide) rfl rfl (r_load Try.isAgg9 hK rfl (hS.cell (.head _) rfl)) fun a hK => ?_
  refine sl hK (by decide) rfl rfl (r_fieldAddr Try.underlying26 rfl Try.sizeOf9 hK rfl) fun a hK => ?_
  refine sl hK (by decide) rfl rfl (r_load Try.isAgg9 hK rfl ((hS.ra hRA nil_not).cell (hc1 0 _ rfl))) fun a hK => ?_
  refine sl hK (by decide) rfl rfl (r_sbin hK rfl rfl rfl) fun a hK => ?_
  refine sl hK (by decide) rfl rfl (r_assign hK rfl) fun a hK => ?_
  refine wpList_nil ?_
  obtain rfl := Option.some.inj H
  refine wp_ret ?_
  repeat (first | refine ret_then ?_ | refine ret_block ?_ | refine ret_scope ?_)
  exact ret_1 Try.results30 hK (rv_tmp hK rfl) ⟨rfl, hS.bel⟩

/-! ### slices.IndexFunc[[]catchment/api.Schema,catchment/api.Schema]: function 42 -/
set_option maxHeartbeats 4000000 in
set_option maxRecDepth 100000 in
theorem slices_IndexFunc_api_Schema_api_Schema_f_schema_Check_1p.calls (a0 : List api_Schema) (a1_0 : api_Schema) {w0 : World} {RA : Hp} {v0_0 : Value} {b1q0 : Nat} {o1q0 : Nat} {v1q0_0 : Value} {v1q0_1 : Value} (hRA : RA.sub w0) (h0_0 : SlR ty_api_Schema RA v0_0 a0) (hc1q0 : ∀ j u, ([.string a1_0.Name, v1q0_0, v1q0_1] : List Value)[j]? = some u → RA.cell b1q0 (o1q0 + j) = some u) (h1q0_0 : SlR ty_api_Col RA v1q0_0 a1_0.Keys) (h1q0_1 : SlR ty_api_Col RA v1q0_1 a1_0.Vals) {r : Int} (H : slices_IndexFunc_api_Schema_api_Schema_f_schema_Check_1p a0 a1_0 = some r) : CallsV Try.prog 42 #[v0_0, .func (.func 30) #[] #[.pointer (some ⟨b1q0, o1q0, none⟩)]] w0 (.int .i64 r) := by
  unfold slices_IndexFunc_api_Schema_api_Schema_f_schema_Check_1p at H
  refine enter (args := [v0_0, .func (.func 30) #[] #[.pointer (some ⟨b1q0, o1q0, none⟩)]]) Try.func42 rfl Try.ntmps42 rfl fun a hK => ?_
  have hS := St.init (R := fun _ => none) (w := w0) (fun _ _ h => by cases h)
  have hRL := RLe.refl (M := []) w0 (fun _ => none)
  refine wp_seq ?_
  refine wp_region_lit ?_
  refine sl hK (by decide) rfl rfl (r_assign hK rfl) fun a hK => ?_
  refine wpList_nil ?_
  refine wp_seq ?_
  refine wp_seq ?_
  refine wp_region_lit ?_
  refine sl hK (by decide) rfl rfl (r_move hK rfl) fun a hK => ?_
  refine sl hK (by decide) rfl rfl (r_len_R Try.underlying22 h0_0 hK rfl) fun a hK => ?_
  refine sl hK (by decide) rfl rfl (r_move hK rfl) fun a hK => ?_
  refine wpList_nil ?_
  refine wp_block ?_
  refine wp_loop_k (fun k_l0 a w => ∃ (x_19 : Int), slices_IndexFunc_api_Schema_api_Schema_f_schema_Check_1p.l0 a0 a1_0 k_l0 x_19 = some r ∧ Kn 19 a [(0, v0_0), (1, .func (.func 30) #[] #[.pointer (some ⟨b1q0, o1q0, none⟩)]), (7, .int .i64 (a0.length : Int)), (8, .int .i64 x_19)] ∧ St [] w0 w (fun _ => none) []) (((a0.length : Int) - 0).toNat + 1) ?_ ?_
  · exact ⟨0, H, hK.sub (all_cons rfl (all_cons rfl (all_cons rfl (all_cons rfl (all_nil))))), hS⟩
  · rintro k_l0 a w ⟨x_19, H, hK, hS⟩
    cases k_l0 with
    | zero => cases H
    | succ k_l0 =>
    rw [slices_IndexFunc_api_Schema_api_Schema_f_schema_Check_1p.l0.eq_2] at H
    refine wp_seq ?_
    refine wp_region_lit ?_
    refine sl hK (by decide) rfl rfl (r_ibin hK rfl rfl rfl) fun a hK => ?_
    refine wpList_nil ?_
    refine wp_seq ?_
    refine wp_cond_split (hK.ev rfl) (fun (hb_38 : (decide (x_19 < (a0.length : Int))) = true) => ?_) (fun (hb_38 : (decide (x_19 < (a0.length : Int))) = false) => ?_)
    · rw [ifb_t hb_38] at H
      refine wp_skip ?_
      refine wp_seq ?_
      refine wp_block ?_
      refine wp_seq ?_
      refine wp_region_lit ?_
      refine sl hK (by decide) rfl rfl (r_move hK rfl) fun a hK => ?_
      refine sl hK (by decide) rfl rfl (r_assign hK rfl) fun a hK => ?_
      refine wpList_nil ?_
      refine wp_seq ?_
      refine wp_region_lit ?_
      refine sl hK (by decide) rfl rfl (r_move hK rfl) fun a hK => ?_
      refine sl hK (by decide) rfl rfl (r_move hK rfl) fun a hK => ?_
      refine sl hK (by decide) rfl rfl (r_move hK rfl) fun a hK => ?_
      obtain ⟨y_39, h_40, H⟩ := bind_some H
      obtain ⟨b_41, o_42, c_43, cs_44, hv_45, hr_46, hc_47, h_400, h_401⟩ := h0_0.ix h_40
      obtain ⟨v_48, v_50, rfl, hs_49, hs_51⟩ := hr_46
      refine sl hK (by decide) rfl rfl (r_indexAddr_R Try.underlying22 Try.sizeOf26 hv_45 h_400 h_401 hK rfl rfl) fun a hK => ?_
      refine sl hK (by decide) rfl rfl (r_loadA (cs := [.string y_39.Name, v_48, v_50]) Try.isAgg26 Try.sizeOf26 rfl hK rfl (fun j v hv => (hS.ra hRA nil_not).cell (hc_47 j v hv))) fun a hK => ?_
      obtain ⟨y_52, h_53, H⟩ := bind_some H
      refine sl_callV Try.call30 hS hK (by decide) rfl rfl rfl (schema_Check_1_cp.calls y_39 a1_0 (lentOf_sub [] _) (hs_49.mono (hS.raLe0 hRA nil_not)) (hs_51.mono (hS.raLe0 hRA nil_not)) (fun j u hu => Hp.cell_le (hS.raLe0 hRA nil_not) (hc1q0 j u hu)) (h1q0_0.mono (hS.raLe0 hRA nil_not)) (h1q0_1.mono (hS.raLe0 hRA nil_not)) h_53) fun a w hS hK => ?_
      refine wpList_nil ?_
      refine wp_cond_split (hK.ev rfl) (fun (hb_54 : y_52 = true) => ?_) (fun (hb_54 : y_52 = false) => ?_)
      · rw [ifb_t hb_54] at H
        refine wp_seq ?_
        refine wp_region_lit ?_
        refine sl hK (by decide) rfl rfl (r_move hK rfl) fun a hK => ?_
        refine sl hK (by decide) rfl rfl (r_assign hK rfl) fun a hK => ?_
        refine wpList_nil ?_
        obtain rfl := Option.some.inj H
        refine wp_ret ?_
        repeat (first | refine ret_then ?_ | refine ret_block ?_ | refine ret_scope ?_)
        exact ret_1 Try.results42 hK (rv_tmp hK rfl) ⟨rfl, hS.bel⟩
      · rw [ifb_f hb_54] at H
        refine wp_skip ?_
        refine wp_region_lit ?_
        refine sl hK (by decide) rfl rfl (r_ibin hK rfl rfl rfl) fun a hK => ?_
        refine sl hK (by decide) rfl rfl (r_move hK rfl) fun a hK => ?_
        refine wpList_nil ?_
        exact ⟨_, Nat.lt_succ_self _, (IntKind.i64.wrap (x_19 + 1)), H, hK.sub (all_cons rfl (all_cons rfl (all_cons rfl (all_cons rfl (all_nil))))), hS⟩
    · rw [ifb_f hb_38] at H
      refine wp_exit ?_
      refine wp_seq ?_
      refine wp_region_lit ?_
      refine sl hK (by decide) rfl rfl (r_assign hK rfl) fun a hK => ?_
      refine wpList_nil ?_
      obtain rfl := Option.some.inj H
      refine wp_ret ?_
      repeat (first | refine ret_then ?_ | refine ret_block ?_ | refine ret_scope ?_)
      exact ret_1 Try.results42 hK (rv_tmp hK rfl) ⟨rfl, hS.bel⟩

/-! ### slices.ContainsFunc[[]catchment/api.Schema,catchment/api.Schema]: function 29 -/
set_option maxHeartbeats 4000000 in
set_option maxRecDepth 100000 in
theorem slices_ContainsFunc_api_Schema_api_Schema_f_schema_Check_1p.calls (a0 : List api_Schema) (a1_0 : api_Schema) {w0 : World} {RA : Hp} {v0_0 : Value} {b1q0 : Nat} {o1q0 : Nat} {v1q0_0 : Value} {v1q0_1 : Value} (hRA : RA.sub w0) (h0_0 : SlR ty_api_Schema RA v0_0 a0) (hc1q0 : ∀ j u, ([.string a1_0.Name, v1q0_0, v1q0_1] : List Value)[j]? = some u → RA.cell b1q0 (o1q0 + j) = some u) (h1q0_0 : SlR ty_api_Col RA v1q0_0 a1_0.Keys) (h1q0_1 : SlR ty_api_Col RA v1q0_1 a1_0.Vals) {r : Bool} (H : slices_ContainsFunc_api_Schema_api_Schema_f_schema_Check_1p a0 a1_0 = some r) : CallsV Try.prog 29 #[v0_0, .func (.func 30) #[] #[.pointer (some ⟨b1q0, o1q0, none⟩)]] w0 (.bool r) := by
  unfold slices_ContainsFunc_api_Schema_api_Schema_f_schema_Check_1p at H
  refine enter (args := [v0_0, .func (.func 30) #[] #[.pointer (some ⟨b1q0, o1q0, none⟩)]]) Try.func29 rfl Try.ntmps29 rfl fun a hK => ?_
  have hS := St.init (R := fun _ => none) (w := w0) (fun _ _ h => by cases h)
  have hRL := RLe.refl (M := []) w0 (fun _ => none)
  refine wp_seq ?_
  refine wp_region_lit ?_
  refine sl hK (by decide) rfl rfl (r_assign hK rfl) fun a hK => ?_
  refine wpList_nil ?_
  refine wp_seq ?_
  refine wp_region_lit ?_
  refine sl hK (by decide) rfl rfl (r_move hK rfl) fun a hK => ?_
  refine sl hK (by decide) rfl rfl (r_move hK rfl) fun a hK => ?_
  obtain ⟨y_1, h_2, H⟩ := bind_some H
  refine sl_callV Try.call42 hS hK (by decide) rfl rfl rfl (slices_IndexFunc_api_Schema_api_Schema_f_schema_Check_1p.calls a0 a1_0 (lentOf_sub [] _) (h0_0.mono (hS.raLe0 hRA nil_not)) (fun j u hu => Hp.cell_le (hS.raLe0 hRA nil_not) (hc1q0 j u hu)) (h1q0_0.mono (hS.raLe0 hRA nil_not)) (h1q0_1.mono (hS.raLe0 hRA nil_not)) h_2) fun a w hS hK => ?_
  refine sl hK (by decide) rfl rfl (r_ibin hK rfl rfl rfl) fun a hK => ?_
  refine sl hK (by decide) rfl rfl (r_assign hK rfl) fun a hK => ?_
  refine wpList_nil ?_
  obtain rfl := Option.some.inj H
  refine wp_ret ?_
  repeat (first | refine ret_then ?_ | refine ret_block ?_ | refine ret_scope ?_)
  exact ret_1 Try.results29 hK (rv_tmp hK rfl) ⟨rfl, hS.bel⟩

/-! ### catchment/schema.Check: function 17 -/
set_option maxHeartbeats 4000000 in
set_option maxRecDepth 100000 in
theorem schema_Check.calls (a0 : List api_Schema) {w0 : World} {R : Hp} {RA : Hp} {v0_0 : Value} (hRA : RA.sub w0) (hR : R.sub w0) (h0_0 : SlR ty_api_Schema R v0_0 a0) (hG : GF RA) {r : Int} (H : schema_Check a0 = some r) : CallsV Try.prog 17 #[v0_0] w0 (.int .i64 r) := by
  unfold schema_Check at H
  refine enter (args := [v0_0]) Try.func17 rfl Try.ntmps17 rfl fun a hK => ?_
  have hS := St.init hR
  have hRL := RLe.refl (M := []) w0 R
  refine wp_seq ?_
  refine wp_region_lit ?_
  refine sl hK (by decide) rfl rfl (r_assign hK rfl) fun a hK => ?_
  refine wpList_nil ?_
  refine wp_seq ?_
  refine wp_seq ?_
  refine wp_mid (fun a w => ∃ (x_2 : Bool), schema_Check.j0 a0 x_2 = some r ∧ Kn 31 a [(0, v0_0), (12, .bool x_2)] ∧ St [] w0 w R []) ?_ ?_
  · refine wp_region_lit ?_
    refine sl hK (by decide) rfl rfl (r_move hK rfl) fun a hK => ?_
    refine sl hK (by decide) rfl rfl (r_len_R Try.underlying22 h0_0 hK rfl) fun a hK => ?_
    refine sl hK (by decide) rfl rfl (r_ibin hK rfl rfl rfl) fun a hK => ?_
    refine sl hK (by decide) rfl rfl (r_move hK rfl) fun a hK => ?_
    rcases or_b (decide ((a0.length : Int) < 1)) with hb_4 | hb_4
    · rw [ifb_t hb_4] at H
      refine sl_skip hK (by decide) (wft hb_4) rfl fun a hK => ?_
      refine sl_skip hK (by decide) (wft hb_4) rfl fun a hK => ?_
      refine sl_skip hK (by decide) (wft hb_4) rfl fun a hK => ?_
      refine sl hK (by decide) rfl rfl (r_pick_t hb_4 hK rfl rfl) fun a hK => ?_
      refine wpList_nil ?_
      exact ⟨true, H, hK.sub (all_cons rfl (all_cons rfl (all_nil))), hS⟩
    · rw [ifb_f hb_4] at H
      refine sl hK (by decide) (wff hb_4) rfl (r_move hK rfl) fun a hK => ?_
      refine sl hK (by decide) (wff hb_4) rfl (r_len_R Try.underlying22 h0_0 hK rfl) fun a hK => ?_
      refine sl hK (by decide) (wff hb_4) rfl (r_ibin hK rfl rfl rfl) fun a hK => ?_
      refine sl hK (by decide) rfl rfl (r_pick_f hb_4 hK rfl rfl) fun a hK => ?_
      refine wpList_nil ?_
      exact ⟨(decide ((a0.length : Int) > 8)), H, hK.sub (all_cons rfl (all_cons rfl (all_nil))), hS⟩
  · rintro a w ⟨x_2, H, hK, hS⟩
    unfold schema_Check.j0 at H
    refine wp_cond_split (hK.ev rfl) (fun (hb_5 : x_2 = true) => ?_) (fun (hb_5 : x_2 = false) => ?_)
    · rw [ifb_t hb_5] at H
      refine wp_seq ?_
      refine wp_region_lit ?_
      refine sl hK (by decide) rfl rfl (r_assign hK rfl) fun a hK => ?_
      refine wpList_nil ?_
      obtain rfl := Option.some.inj H
      refine wp_ret ?_
      repeat (first | refine ret_then ?_ | refine ret_block ?_ | refine ret_scope ?_)
      exact ret_1 Try.results17 hK (rv_tmp hK rfl) ⟨rfl, hS.bel⟩
    · rw [ifb_f hb_5] at H
      refine wp_skip ?_
      refine wp_seq ?_
      refine wp_seq ?_
      refine wp_region_lit ?_
      refine sl hK (by decide) rfl rfl (r_move hK rfl) fun a hK => ?_
      refine sl hK (by decide) rfl rfl (r_len_R Try.underlying22 h0_0 hK rfl) fun a hK => ?_
      refine sl hK (by decide) rfl rfl (r_move hK rfl) fun a hK => ?_
      refine wpList_nil ?_
      refine wp_block ?_
      refine wp_loop_k (fun k_l1 a w => ∃ (x_45 : Int), schema_Check.l1 a0 k_l1 x_45 = some r ∧ Kn 31 a [(0, v0_0), (13, v0_0), (14, .int .i64 (a0.length : Int)), (15, .int .i64 x_45)] ∧ St [] w0 w R []) (((a0.length : Int) - 0).toNat + 1) ?_ ?_
      · exact ⟨0, H, hK.sub (all_cons rfl (all_cons rfl (all_cons rfl (all_cons rfl (all_nil))))), hS⟩
      · rintro k_l1 a w ⟨x_45, H, hK, hS⟩
        cases k_l1 with
        | zero => cases H
        | succ k_l1 =>
        rw [schema_Check.l1.eq_2] at H
        refine wp_seq ?_
        refine wp_region_lit ?_
        refine sl hK (by decide) rfl rfl (r_ibin hK rfl rfl rfl) fun a hK => ?_
        refine wpList_nil ?_
        refine wp_seq ?_
        refine wp_cond_split (hK.ev rfl) (fun (hb_85 : (decide (x_45 < (a0.length : Int))) = true) => ?_) (fun (hb_85 : (decide (x_45 < (a0.length : Int))) = false) => ?_)
        · rw [ifb_t hb_85] at H
          refine wp_skip ?_
          refine wp_seq ?_
          refine wp_block ?_
          refine wp_seq ?_
          refine wp_region_lit ?_
          refine sl hK (by decide) rfl rfl (r_move hK rfl) fun a hK => ?_
          obtain ⟨y_86, h_87, H⟩ := bind_some H
          obtain ⟨b_88, o_89, c_90, cs_91, hv_92, hr_93, hc_94, h_870, h_871⟩ := h0_0.ix h_87
          obtain ⟨v_95, v_97, rfl, hs_96, hs_98⟩ := hr_93
          refine sl hK (by decide) rfl rfl (r_indexAddr_R Try.underlying22 Try.sizeOf26 hv_92 h_870 h_871 hK rfl rfl) fun a hK => ?_
          refine sl hK (by decide) rfl rfl (r_loadA (cs := [.string y_86.Name, v_95, v_97]) Try.isAgg26 Try.sizeOf26 rfl hK rfl (fun j v hv => hS.sub.cell (hc_94 j v hv))) fun a hK => ?_
          refine sl_alloc Try.zeroValue26 hS hK (by decide) rfl rfl fun a w b_99 hS hK => ?_
          refine sl hK (by decide) rfl rfl (r_assign hK rfl) fun a hK => ?_
          refine sl_storeA (vs := [.string y_86.Name, v_95, v_97]) (c' := [.string y_86.Name, v_95, v_97]) Try.sizeOf26 hS hK rfl rfl rfl rfl (all_cons rfl (all_cons hs_96.one (all_cons hs_98.one (all_nil)))) (Nat.le_of_ble_eq_true rfl) rfl fun a w hS hK => ?_
          refine wpList_nil ?_
          refine wp_seq ?_
          refine wp_mid (fun a w => ∃ (x_110 : Bool), schema_Check.j2 (schema_Check.l1 a0 k_l1) a0 x_45 x_110 = some r ∧ Kn 31 a [(0, v0_0), (13, v0_0), (14, .int .i64 (a0.length : Int)), (15, .int .i64 x_45), (29, .bool x_110)] ∧ St [] w0 w R []) ?_ ?_
          · refine wp_region_lit ?_
            refine sl hK (by decide) rfl rfl (r_loadA (cs := [.string y_86.Name, v_95, v_97]) Try.isAgg26 Try.sizeOf26 rfl hK rfl (hS.cells_of (m := 3) (.head _) rfl)) fun a hK => ?_
            obtain ⟨y_112, h_113, H⟩ := bind_some H
            refine sl_callV Try.call28 hS hK (by decide) rfl rfl rfl (schema_one.calls y_86 (lentOf_sub [] _) hS.sub hs_96 hs_98 (GF.mono (hS.raLe0 hRA nil_not) hG) h_113) fun a w hS hK => ?_
            refine sl hK (by decide) rfl rfl (r_un hK rfl (u_not _)) fun a hK => ?_
            refine sl hK (by decide) rfl rfl (r_move hK rfl) fun a hK => ?_
            rcases or_b (!y_112) with hb_114 | hb_114
            · rw [ifb_t hb_114] at H
              refine sl_skip hK (by decide) (wft hb_114) rfl fun a hK => ?_
              refine sl_skip hK (by decide) (wft hb_114) rfl fun a hK => ?_
              refine sl_skip hK (by decide) (wft hb_114) rfl fun a hK => ?_
              refine sl_skip hK (by decide) (wft hb_114) rfl fun a hK => ?_
              refine sl_skip hK (by decide) (wft hb_114) rfl fun a hK => ?_
              refine sl hK (by decide) rfl rfl (r_pick_t hb_114 hK rfl rfl) fun a hK => ?_
              refine wpList_nil ?_
              exact ⟨true, H, hK.sub (all_cons rfl (all_cons rfl (all_cons rfl (all_cons rfl (all_cons rfl (all_nil)))))), hS.trunc 0⟩
            · rw [ifb_f hb_114] at H
              refine sl hK (by decide) (wff hb_114) rfl (r_move hK rfl) fun a hK => ?_
              refine sl hK (by decide) (wff hb_114) rfl (r_move hK rfl) fun a hK => ?_
              obtain ⟨y_115, h_116, H⟩ := bind_some H
              obtain ⟨v_117, hs_118, hr_119⟩ := r_slice_R (x := .tmp 24) (lo := none) (hi := some (.tmp 25)) Try.underlying22 Try.sizeOf26 h0_0 h_116 hK rfl rfl ⟨_, rfl⟩
              refine sl hK (by decide) (wff hb_114) rfl (hr_119 _ _ _ _ _ _ _ hK) fun a hK => ?_
              refine sl hK (by decide) (wff hb_114) rfl (r_func (us := []) (vs := [.pointer (some ⟨b_99, 0, none⟩)]) rfl (hK.evs rfl)) fun a hK => ?_
              obtain ⟨y_120, h_121, H⟩ := bind_some H
              refine sl_callV Try.call29 hS hK (by decide) (wff hb_114) rfl rfl (slices_ContainsFunc_api_Schema_api_Schema_f_schema_Check_1p.calls y_115 y_86 (lentOf_sub [] _) (hs_118.mono hS.rLe0) (hS.lend_box0 (.head _)) (hs_96.mono hS.rLe0) (hs_98.mono hS.rLe0) h_121) fun a w hS hK => ?_
              refine sl hK (by decide) rfl rfl (r_pick_f hb_114 hK rfl rfl) fun a hK => ?_
              refine wpList_nil ?_
              exact ⟨y_120, H, hK.sub (all_cons rfl (all_cons rfl (all_cons rfl (all_cons rfl (all_cons rfl (all_nil)))))), hS.trunc 0⟩
          · rintro a w ⟨x_110, H, hK, hS⟩
            unfold schema_Check.j2 at H
            refine wp_cond_split (hK.ev rfl) (fun (hb_122 : x_110 = true) => ?_) (fun (hb_122 : x_110 = false) => ?_)
            · rw [ifb_t hb_122] at H
              refine wp_seq ?_
              refine wp_region_lit ?_
              refine sl hK (by decide) rfl rfl (r_assign hK rfl) fun a hK => ?_
              refine wpList_nil ?_
              obtain rfl := Option.some.inj H
              refine wp_ret ?_
              repeat (first | refine ret_then ?_ | refine ret_block ?_ | refine ret_scope ?_)
              exact ret_1 Try.results17 hK (rv_tmp hK rfl) ⟨rfl, hS.bel⟩
            · rw [ifb_f hb_122] at H
              refine wp_skip ?_
              refine wp_region_lit ?_
              refine sl hK (by decide) rfl rfl (r_ibin hK rfl rfl rfl) fun a hK => ?_
              refine sl hK (by decide) rfl rfl (r_move hK rfl) fun a hK => ?_
              refine wpList_nil ?_
              exact ⟨_, Nat.lt_succ_self _, (IntKind.i64.wrap (x_45 + 1)), H, hK.sub (all_cons rfl (all_cons rfl (all_cons rfl (all_cons rfl (all_nil))))), hS⟩
        · rw [ifb_f hb_85] at H
          refine wp_exit ?_
          refine wp_seq ?_
          refine wp_region_lit ?_
          refine sl hK (by decide) rfl rfl (r_assign hK rfl) fun a hK => ?_
          refine wpList_nil ?_
          obtain rfl := Option.some.inj H
          refine wp_ret ?_
          repeat (first | refine ret_then ?_ | refine ret_block ?_ | refine ret_scope ?_)
          exact ret_1 Try.results17 hK (rv_tmp hK rfl) ⟨rfl, hS.bel⟩

/-! ### catchment/schema.fit$1: function 44 -/
set_option maxHeartbeats 4000000 in
set_option maxRecDepth 100000 in
theorem schema_fit_1.calls (a0 : api_Value) (a1 : api_Col) {r : Bool} (H : schema_fit_1 a0 a1 = some r) (w0 : World) : CallsV Try.prog 44 #[.agg #[.int .i64 a0.Kind, .int .i64 a0.N, .string a0.S, .int .i64 a0.H.a0, .int .i64 a0.H.a1, .int .i64 a0.H.a2, .int .i64 a0.H.a3, .int .i64 a0.H.a4, .int .i64 a0.H.a5, .int .i64 a0.H.a6, .int .i64 a0.H.a7], .agg #[.string a1.Name, .int .i64 a1.Kind]] w0 (.bool r) := by
  unfold schema_fit_1 at H
  refine enter (args := [.agg #[.int .i64 a0.Kind, .int .i64 a0.N, .string a0.S, .int .i64 a0.H.a0, .int .i64 a0.H.a1, .int .i64 a0.H.a2, .int .i64 a0.H.a3, .int .i64 a0.H.a4, .int .i64 a0.H.a5, .int .i64 a0.H.a6, .int .i64 a0.H.a7], .agg #[.string a1.Name, .int .i64 a1.Kind]]) Try.func44 rfl Try.ntmps44 rfl fun a hK => ?_
  have hS := St.init (R := fun _ => none) (w := w0) (fun _ _ h => by cases h)
  have hRL := RLe.refl (M := []) w0 (fun _ => none)
  refine wp_seq ?_
  refine wp_region_lit ?_
  refine sl_box hS hK (by decide) rfl rfl (c := [.int .i64 a0.Kind, .int .i64 a0.N, .string a0.S, .int .i64 a0.H.a0, .int .i64 a0.H.a1, .int .i64 a0.H.a2, .int .i64 a0.H.a3, .int .i64 a0.H.a4, .int .i64 a0.H.a5, .int .i64 a0.H.a6, .int .i64 a0.H.a7]) rfl fun a w b_1 hS hK => ?_
  refine sl_box hS hK (by decide) rfl rfl (c := [.string a1.Name, .int .i64 a1.Kind]) rfl fun a w b_2 hS hK => ?_
  refine sl hK (by decide) rfl rfl (r_assign hK rfl) fun a hK => ?_
  refine wpList_nil ?_
  refine wp_seq ?_
  refine wp_region_lit ?_
  refine sl hK (by decide) rfl rfl (r_fieldAddr Try.underlying43 rfl Try.sizeOf3 hK rfl) fun a hK => ?_
  refine sl hK (by decide) rfl rfl (r_load Try.isAgg3 hK rfl (hS.cell (.tail _ (.head _)) rfl)) fun a hK => ?_
  refine sl hK (by decide) rfl rfl (r_fieldAddr Try.underlying52 rfl Try.sizeOf3 hK rfl) fun a hK => ?_
  refine sl hK (by decide) rfl rfl (r_load Try.isAgg3 hK rfl (hS.cell (.head _) rfl)) fun a hK => ?_
  refine sl hK (by decide) rfl rfl (r_ibin hK rfl rfl rfl) fun a hK => ?_
  refine sl hK (by decide) rfl rfl (r_move hK rfl) fun a hK => ?_
  rcases or_b (a0.Kind == a1.Kind) with hb_3 | hb_3
  · rw [ifb_t hb_3] at H
    refine sl hK (by decide) (wtt hb_3) rfl (r_loadA (cs := [.int .i64 a0.Kind, .int .i64 a0.N, .string a0.S, .int .i64 a0.H.a0, .int .i64 a0.H.a1, .int .i64 a0.H.a2, .int .i64 a0.H.a3, .int .i64 a0.H.a4, .int .i64 a0.H.a5, .int .i64 a0.H.a6, .int .i64 a0.H.a7]) Try.isAgg43 Try.sizeOf43 rfl hK rfl (hS.cells_of (m := 11) (.tail _ (.head _)) rfl)) fun a hK => ?_
    obtain ⟨y_4, h_5, H⟩ := bind_some H
    refine sl_callV Try.call45 hS hK (by decide) (wtt hb_3) rfl rfl (value_Valid.calls a0 h_5 _) fun a w hS hK => ?_
    refine sl hK (by decide) rfl rfl (r_pick_t hb_3 hK rfl rfl) fun a hK => ?_
    refine sl hK (by decide) rfl rfl (r_assign hK rfl) fun a hK => ?_
    refine wpList_nil ?_
    obtain rfl := Option.some.inj H
    refine wp_ret ?_
    repeat (first | refine ret_then ?_ | refine ret_block ?_ | refine ret_scope ?_)
    exact ret_1 Try.results44 hK (rv_tmp hK rfl) ⟨rfl, hS.bel⟩
  · rw [ifb_f hb_3] at H
    refine sl_skip hK (by decide) (wtf hb_3) rfl fun a hK => ?_
    refine sl_skip hK (by decide) (wtf hb_3) rfl fun a hK => ?_
    refine sl hK (by decide) rfl rfl (r_pick_f hb_3 hK rfl rfl) fun a hK => ?_
    refine sl hK (by decide) rfl rfl (r_assign hK rfl) fun a hK => ?_
    refine wpList_nil ?_
    obtain rfl := Option.some.inj H
    refine wp_ret ?_
    repeat (first | refine ret_then ?_ | refine ret_block ?_ | refine ret_scope ?_)
    exact ret_1 Try.results44 hK (rv_tmp hK rfl) ⟨rfl, hS.bel⟩

/-! ### slices.EqualFunc[[]catchment/api.Value,[]catchment/api.Col,catchment/api.Value,catchment/api.Col]: function 43 -/
set_option maxHeartbeats 4000000 in
set_option maxRecDepth 100000 in
theorem slices_EqualFunc_api_Value_api_Col_api_Value_api_Col_f_schema_fit_1.calls (a0 : List api_Value) (a1 : List api_Col) {w0 : World} {RA : Hp} {v0_0 : Value} {v1_0 : Value} (hRA : RA.sub w0) (h0_0 : SlR ty_api_Value RA v0_0 a0) (h1_0 : SlR ty_api_Col RA v1_0 a1) {r : Bool} (H : slices_EqualFunc_api_Value_api_Col_api_Value_api_Col_f_schema_fit_1 a0 a1 = some r) : CallsV Try.prog 43 #[v0_0, v1_0, .func (.func 44) #[] #[]] w0 (.bool r) := by
  unfold slices_EqualFunc_api_Value_api_Col_api_Value_api_Col_f_schema_fit_1 at H
  refine enter (args := [v0_0, v1_0, .func (.func 44) #[] #[]]) Try.func43 rfl Try.ntmps43 rfl fun a hK => ?_
  have hS := St.init (R := fun _ => none) (w := w0) (fun _ _ h => by cases h)
  have hRL := RLe.refl (M := []) w0 (fun _ => none)
  refine wp_seq ?_
  refine wp_region_lit ?_
  refine sl hK (by decide) rfl rfl (r_assign hK rfl) fun a hK => ?_
  refine wpList_nil ?_
  refine wp_seq ?_
  refine wp_seq ?_
  refine wp_region_lit ?_
  refine sl hK (by decide) rfl rfl (r_move hK rfl) fun a hK => ?_
  refine sl hK (by decide) rfl rfl (r_len_R Try.underlying36 h0_0 hK rfl) fun a hK => ?_
  refine sl hK (by decide) rfl rfl (r_move hK rfl) fun a hK => ?_
  refine sl hK (by decide) rfl rfl (r_len_R Try.underlying24 h1_0 hK rfl) fun a hK => ?_
  refine sl hK (by decide) rfl rfl (r_ibin hK rfl rfl rfl) fun a hK => ?_
  refine wpList_nil ?_
  refine wp_cond_split (hK.ev rfl) (fun (hb_1 : ((a0.length : Int) != (a1.length : Int)) = true) => ?_) (fun (hb_1 : ((a0.length : Int) != (a1.length : Int)) = false) => ?_)
  · rw [ifb_t hb_1] at H
    refine wp_seq ?_
    refine wp_region_lit ?_
    refine sl hK (by decide) rfl rfl (r_assign hK rfl) fun a hK => ?_
    refine wpList_nil ?_
    obtain rfl := Option.some.inj H
    refine wp_ret ?_
    repeat (first | refine ret_then ?_ | refine ret_block ?_ | refine ret_scope ?_)
    exact ret_1 Try.results43 hK (rv_tmp hK rfl) ⟨rfl, hS.bel⟩
  · rw [ifb_f hb_1] at H
    refine wp_skip ?_
    refine wp_seq ?_
    refine wp_seq ?_
    refine wp_region_lit ?_
    refine sl hK (by decide) rfl rfl (r_move hK rfl) fun a hK => ?_
    refine sl hK (by decide) rfl rfl (r_len_R Try.underlying36 h0_0 hK rfl) fun a hK => ?_
    refine sl hK (by decide) rfl rfl (r_move hK rfl) fun a hK => ?_
    refine wpList_nil ?_
    refine wp_block ?_
    refine wp_loop_k (fun k_l0 a w => ∃ (x_27 : Int), slices_EqualFunc_api_Value_api_Col_api_Value_api_Col_f_schema_fit_1.l0 a0 a1 k_l0 x_27 = some r ∧ Kn 32 a [(1, v1_0), (2, .func (.func 44) #[] #[]), (15, v0_0), (16, .int .i64 (a0.length : Int)), (17, .int .i64 x_27)] ∧ St [] w0 w (fun _ => none) []) (((a0.length : Int) - 0).toNat + 1) ?_ ?_
    · exact ⟨0, H, hK.sub (all_cons rfl (all_cons rfl (all_cons rfl (all_cons rfl (all_cons rfl (all_nil)))))), hS⟩
    · rintro k_l0 a w ⟨x_27, H, hK, hS⟩
      cases k_l0 with
      | zero => cases H
      | succ k_l0 =>
      rw [slices_EqualFunc_api_Value_api_Col_api_Value_api_Col_f_schema_fit_1.l0.eq_2] at H
      refine wp_seq ?_
      refine wp_region_lit ?_
      refine sl hK (by decide) rfl rfl (r_ibin hK rfl rfl rfl) fun a hK => ?_
      refine wpList_nil ?_
      refine wp_seq ?_
      refine wp_cond_split (hK.ev rfl) (fun (hb_53 : (decide (x_27 < (a0.length : Int))) = true) => ?_) (fun (hb_53 : (decide (x_27 < (a0.length : Int))) = false) => ?_)
      · rw [ifb_t hb_53] at H
        refine wp_skip ?_
        refine wp_seq ?_
        refine wp_block ?_
        refine wp_seq ?_
        refine wp_region_lit ?_
        refine sl hK (by decide) rfl rfl (r_move hK rfl) fun a hK => ?_
        obtain ⟨y_54, h_55, H⟩ := bind_some H
        obtain ⟨b_56, o_57, c_58, cs_59, hv_60, hr_61, hc_62, h_550, h_551⟩ := h0_0.ix h_55
        subst hr_61
        refine sl hK (by decide) rfl rfl (r_indexAddr_R Try.underlying36 Try.sizeOf43 hv_60 h_550 h_551 hK rfl rfl) fun a hK => ?_
        refine sl hK (by decide) rfl rfl (r_loadA (cs := [.int .i64 y_54.Kind, .int .i64 y_54.N, .string y_54.S, .int .i64 y_54.H.a0, .int .i64 y_54.H.a1, .int .i64 y_54.H.a2, .int .i64 y_54.H.a3, .int .i64 y_54.H.a4, .int .i64 y_54.H.a5, .int .i64 y_54.H.a6, .int .i64 y_54.H.a7]) Try.isAgg43 Try.sizeOf43 rfl hK rfl (fun j v hv => (hS.ra hRA nil_not).cell (hc_62 j v hv))) fun a hK => ?_
        refine sl_alloc Try.zeroValue43 hS hK (by decide) rfl rfl fun a w b_63 hS hK => ?_
        refine sl hK (by decide) rfl rfl (r_assign hK rfl) fun a hK => ?_
        refine sl_storeA (vs := [.int .i64 y_54.Kind, .int .i64 y_54.N, .string y_54.S, .int .i64 y_54.H.a0, .int .i64 y_54.H.a1, .int .i64 y_54.H.a2, .int .i64 y_54.H.a3, .int .i64 y_54.H.a4, .int .i64 y_54.H.a5, .int .i64 y_54.H.a6, .int .i64 y_54.H.a7]) (c' := [.int .i64 y_54.Kind, .int .i64 y_54.N, .string y_54.S, .int .i64 y_54.H.a0, .int .i64 y_54.H.a1, .int .i64 y_54.H.a2, .int .i64 y_54.H.a3, .int .i64 y_54.H.a4, .int .i64 y_54.H.a5, .int .i64 y_54.H.a6, .int .i64 y_54.H.a7]) Try.sizeOf43 hS hK rfl rfl rfl rfl (all_cons rfl (all_cons rfl (all_cons rfl (all_cons rfl (all_cons rfl (all_cons rfl (all_cons rfl (all_cons rfl (all_cons rfl (all_cons rfl (all_cons rfl (all_nil)))))))))))) (Nat.le_of_ble_eq_true rfl) rfl fun a w hS hK => ?_
        refine wpList_nil ?_
        refine wp_seq ?_
        refine wp_region_lit ?_
        refine sl hK (by decide) rfl rfl (r_move hK rfl) fun a hK => ?_
        refine sl hK (by decide) rfl rfl (r_move hK rfl) fun a hK => ?_
        obtain ⟨y_64, h_65, H⟩ := bind_some H
        obtain ⟨b_66, o_67, c_68, cs_69, hv_70, hr_71, hc_72, h_650, h_651⟩ := h1_0.ix h_65
        subst hr_71
        refine sl hK (by decide) rfl rfl (r_indexAddr_R Try.underlying24 Try.sizeOf52 hv_70 h_650 h_651 hK rfl rfl) fun a hK => ?_
        refine sl hK (by decide) rfl rfl (r_loadA (cs := [.string y_64.Name, .int .i64 y_64.Kind]) Try.isAgg52 Try.sizeOf52 rfl hK rfl (fun j v hv => (hS.ra hRA nil_not).cell (hc_72 j v hv))) fun a hK => ?_
        refine sl_alloc Try.zeroValue52 hS hK (by decide) rfl rfl fun a w b_73 hS hK => ?_
        refine sl_storeA (vs := [.string y_64.Name, .int .i64 y_64.Kind]) (c' := [.string y_64.Name, .int .i64 y_64.Kind]) Try.sizeOf52 hS hK rfl rfl rfl rfl (all_cons rfl (all_cons rfl (all_nil))) (Nat.le_of_ble_eq_true rfl) rfl fun a w hS hK => ?_
        refine wpList_nil ?_
        refine wp_seq ?_
        refine wp_region_lit ?_
        refine sl hK (by decide) rfl rfl (r_move hK rfl) fun a hK => ?_
        refine sl hK (by decide) rfl rfl (r_loadA (cs := [.int .i64 y_54.Kind, .int .i64 y_54.N, .string y_54.S, .int .i64 y_54.H.a0, .int .i64 y_54.H.a1, .int .i64 y_54.H.a2, .int .i64 y_54.H.a3, .int .i64 y_54.H.a4, .int .i64 y_54.H.a5, .int .i64 y_54.H.a6, .int .i64 y_54.H.a7]) Try.isAgg43 Try.sizeOf43 rfl hK rfl (hS.cells_of (m := 11) (.tail _ (.head _)) rfl)) fun a hK => ?_
        refine sl hK (by decide) rfl rfl (r_loadA (cs := [.string y_64.Name, .int .i64 y_64.Kind]) Try.isAgg52 Try.sizeOf52 rfl hK rfl (hS.cells_of (m := 2) (.head _) rfl)) fun a hK => ?_
        obtain ⟨y_74, h_75, H⟩ := bind_some H
        refine sl_callV Try.call44 hS hK (by decide) rfl rfl rfl (schema_fit_1.calls y_54 y_64 h_75 _) fun a w hS hK => ?_
        refine sl hK (by decide) rfl rfl (r_un hK rfl (u_not _)) fun a hK => ?_
        refine wpList_nil ?_
        refine wp_cond_split (hK.ev rfl) (fun (hb_76 : (!y_74) = true) => ?_) (fun (hb_76 : (!y_74) = false) => ?_)
        · rw [ifb_t hb_76] at H
          refine wp_seq ?_
          refine wp_region_lit ?_
          refine sl hK (by decide) rfl rfl (r_assign hK rfl) fun a hK => ?_
          refine wpList_nil ?_
          obtain rfl := Option.some.inj H
          refine wp_ret ?_
          repeat (first | refine ret_then ?_ | refine ret_block ?_ | refine ret_scope ?_)
          exact ret_1 Try.results43 hK (rv_tmp hK rfl) ⟨rfl, hS.bel⟩
        · rw [ifb_f hb_76] at H
          refine wp_skip ?_
          refine wp_region_lit ?_
          refine sl hK (by decide) rfl rfl (r_ibin hK rfl rfl rfl) fun a hK => ?_
          refine sl hK (by decide) rfl rfl (r_move hK rfl) fun a hK => ?_
          refine wpList_nil ?_
          exact ⟨_, Nat.lt_succ_self _, (IntKind.i64.wrap (x_27 + 1)), H, hK.sub (all_cons rfl (all_cons rfl (all_cons rfl (all_cons rfl (all_cons rfl (all_nil)))))), hS.trunc 0⟩
      · rw [ifb_f hb_53] at H
        refine wp_exit ?_
        refine wp_seq ?_
        refine wp_region_lit ?_
        refine sl hK (by decide) rfl rfl (r_assign hK rfl) fun a hK => ?_
        refine wpList_nil ?_
        obtain rfl := Option.some.inj H
        refine wp_ret ?_
        repeat (first | refine ret_then ?_ | refine ret_block ?_ | refine ret_scope ?_)
        exact ret_1 Try.results43 hK (rv_tmp hK rfl) ⟨rfl, hS.bel⟩

/-! ### catchment/schema.fit: function 32 -/
set_option maxHeartbeats 4000000 in
set_option maxRecDepth 100000 in
theorem schema_fit.calls (a0 : List api_Value) (a1 : List api_Col) {w0 : World} {RA : Hp} {v0_0 : Value} {v1_0 : Value} (hRA : RA.sub w0) (h0_0 : SlR ty_api_Value RA v0_0 a0) (h1_0 : SlR ty_api_Col RA v1_0 a1) {r : Bool} (H : schema_fit a0 a1 = some r) : CallsV Try.prog 32 #[v0_0, v1_0] w0 (.bool r) := by
  unfold schema_fit at H
  refine enter (args := [v0_0, v1_0]) Try.func32 rfl Try.ntmps32 rfl fun a hK => ?_
  have hS := St.init (R := fun _ => none) (w := w0) (fun _ _ h => by cases h)
  have hRL := RLe.refl (M := []) w0 (fun _ => none)
  refine wp_seq ?_
  refine wp_region_lit ?_
  refine sl hK (by decide) rfl rfl (r_assign hK rfl) fun a hK => ?_
  refine wpList_nil ?_
  refine wp_seq ?_
  refine wp_region_lit ?_
  refine sl hK (by decide) rfl rfl (r_move hK rfl) fun a hK => ?_
  refine sl hK (by decide) rfl rfl (r_move hK rfl) fun a hK => ?_
  obtain ⟨y_1, h_2, H⟩ := bind_some H
  refine sl_callV Try.call43 hS hK (by decide) rfl rfl rfl (slices_EqualFunc_api_Value_api_Col_api_Value_api_Col_f_schema_fit_1.calls a0 a1 (lentOf_sub [] _) (h0_0.mono (hS.raLe0 hRA nil_not)) (h1_0.mono (hS.raLe0 hRA nil_not)) h_2) fun a w hS hK => ?_
  refine sl hK (by decide) rfl rfl (r_assign hK rfl) fun a hK => ?_
  refine wpList_nil ?_
  obtain rfl := Option.some.inj H
  refine wp_ret ?_
  repeat (first | refine ret_then ?_ | refine ret_block ?_ | refine ret_scope ?_)
  exact ret_1 Try.results32 hK (rv_tmp hK rfl) ⟨rfl, hS.bel⟩

/-! ### catchment/schema.Fits: function 19 -/
set_option maxHeartbeats 4000000 in
set_option maxRecDepth 100000 in
theorem schema_Fits.calls (a0 : List api_Schema) (a1 : api_Point) {w0 : World} {R : Hp} {RA : Hp} {v0_0 : Value} {v1_0 : Value} {v1_1 : Value} (hRA : RA.sub w0) (hR : R.sub w0) (h0_0 : SlR ty_api_Schema R v0_0 a0) (h1_0 : SlR ty_api_Value RA v1_0 a1.Keys) (h1_1 : SlR ty_api_Value RA v1_1 a1.Vals) {r : Int} (H : schema_Fits a0 a1 = some r) : CallsV Try.prog 19 #[v0_0, .agg #[.string a1.Schema, v1_0, .int .i64 a1.Time, v1_1]] w0 (.int .i64 r) := by
  unfold schema_Fits at H
  refine enter (args := [v0_0, .agg #[.string a1.Schema, v1_0, .int .i64 a1.Time, v1_1]]) Try.func19 rfl Try.ntmps19 rfl fun a hK => ?_
  have hS := St.init hR
  have hRL := RLe.refl (M := []) w0 R
  refine wp_seq ?_
  refine wp_region_lit ?_
  refine sl_box hS hK (by decide) rfl rfl (c := [.string a1.Schema, v1_0, .int .i64 a1.Time, v1_1]) rfl fun a w b_1 hS hK => ?_
  refine sl hK (by decide) rfl rfl (r_assign hK rfl) fun a hK => ?_
  refine wpList_nil ?_
  refine wp_seq ?_
  refine wp_region_lit ?_
  refine sl hK (by decide) rfl rfl (r_move hK rfl) fun a hK => ?_
  refine sl hK (by decide) rfl rfl (r_fieldAddr Try.underlying38 rfl Try.sizeOf9 hK rfl) fun a hK => ?_
  refine sl hK (by decide) rfl rfl (r_load Try.isAgg9 hK rfl (hS.cell (.head _) rfl)) fun a hK => ?_
  obtain ⟨y_2, h_3, H⟩ := bind_some H
  refine sl_call Try.call9 hK (by decide) rfl rfl rfl (schema_Find.calls a0 a1.Schema hS.sub h0_0 h_3) fun a v_ w hv_ hK => ?_
  obtain ⟨R_4, v_6, v_8, hv_, hr_, hl_5, hs_7, hs_9⟩ := hv_
  have hv_ := hv_.symm
  subst hv_
  obtain ⟨hS, hl_5⟩ := hS.sp0.back hr_ hl_5
  have hS := hS.un0
  have hRL := hRL.trans hl_5
  refine sl hK (by decide) rfl rfl (r_move hK rfl) fun a hK => ?_
  refine sl hK (by decide) rfl rfl (r_extract hK rfl rfl) fun a hK => ?_
  refine sl hK (by decide) rfl rfl (r_extract hK rfl rfl) fun a hK => ?_
  refine sl_alloc Try.zeroValue26 hS hK (by decide) rfl rfl fun a w b_10 hS hK => ?_
  refine sl_storeA (vs := [.string y_2.1.Name, v_6, v_8]) (c' := [.string y_2.1.Name, v_6, v_8]) Try.sizeOf26 hS hK rfl rfl rfl rfl (all_cons rfl (all_cons hs_7.one (all_cons hs_9.one (all_nil)))) (Nat.le_of_ble_eq_true rfl) rfl fun a w hS hK => ?_
  refine sl hK (by decide) rfl rfl (r_assign hK rfl) fun a hK => ?_
  refine wpList_nil ?_
  refine wp_seq ?_
  refine wp_block ?_
  refine wp_seq ?_
  refine wp_region_lit ?_
  refine sl hK (by decide) rfl rfl (r_move hK rfl) fun a hK => ?_
  refine sl hK (by decide) rfl rfl (r_un hK rfl (u_not _)) fun a hK => ?_
  refine sl hK (by decide) rfl rfl (r_assign hK rfl) fun a hK => ?_
  refine wpList_nil ?_
  refine wp_cond_split (hK.ev rfl) (fun (hb_11 : (!y_2.2) = true) => ?_) (fun (hb_11 : (!y_2.2) = false) => ?_)
  · rw [ifb_t hb_11] at H
    refine wp_seq ?_
    refine wp_region_lit ?_
    refine sl hK (by decide) rfl rfl (r_assign hK rfl) fun a hK => ?_
    refine wpList_nil ?_
    obtain rfl := Option.some.inj H
    refine wp_ret ?_
    repeat (first | refine ret_then ?_ | refine ret_block ?_ | refine ret_scope ?_)
    exact ret_1 Try.results19 hK (rv_tmp hK rfl) ⟨rfl, hS.bel⟩
  · rw [ifb_f hb_11] at H
    refine wp_seq ?_
    refine wp_seq ?_
    refine wp_region_lit ?_
    refine sl hK (by decide) rfl rfl (r_fieldAddr Try.underlying38 rfl Try.sizeOf36 hK rfl) fun a hK => ?_
    refine sl hK (by decide) rfl rfl (r_load Try.isAgg36 hK rfl (hS.cell (.tail _ (.head _)) rfl)) fun a hK => ?_
    refine sl hK (by decide) rfl rfl (r_fieldAddr Try.underlying26 rfl Try.sizeOf24 hK rfl) fun a hK => ?_
    refine sl hK (by decide) rfl rfl (r_load Try.isAgg24 hK rfl (hS.cell (.head _) rfl)) fun a hK => ?_
    obtain ⟨y_12, h_13, H⟩ := bind_some H
    refine sl_callV Try.call32 hS hK (by decide) rfl rfl rfl (schema_fit.calls a1.Keys y_2.1.Keys (lentOf_sub [] _) (h1_0.mono (hS.raLe0 hRA nil_not)) (hs_7.mono hS.rLe0) h_13) fun a w hS hK => ?_
    refine sl hK (by decide) rfl rfl (r_un hK rfl (u_not _)) fun a hK => ?_
    refine sl hK (by decide) rfl rfl (r_assign hK rfl) fun a hK => ?_
    refine wpList_nil ?_
    refine wp_mid (fun a w => ∃ (x_29 : Bool), schema_Fits.j0 x_29 = some r ∧ Kn 36 a [(17, .bool x_29)] ∧ St [] w0 w R_4 []) ?_ ?_
    · refine wp_cond_split (hK.ev rfl) (fun (hb_31 : (!y_12) = true) => ?_) (fun (hb_31 : (!y_12) = false) => ?_)
      · rw [ifb_t hb_31] at H
        refine wp_skip ?_
        exact ⟨(!y_12), H, hK.sub (all_cons rfl (all_nil)), hS.trunc 0⟩
      · rw [ifb_f hb_31] at H
        refine wp_seq ?_
        refine wp_region_lit ?_
        refine sl hK (by decide) rfl rfl (r_fieldAddr Try.underlying38 rfl Try.sizeOf36 hK rfl) fun a hK => ?_
        refine sl hK (by decide) rfl rfl (r_load Try.isAgg36 hK rfl (hS.cell (.tail _ (.head _)) rfl)) fun a hK => ?_
        refine sl hK (by decide) rfl rfl (r_fieldAddr Try.underlying26 rfl Try.sizeOf24 hK rfl) fun a hK => ?_
        refine sl hK (by decide) rfl rfl (r_load Try.isAgg24 hK rfl (hS.cell (.head _) rfl)) fun a hK => ?_
        obtain ⟨y_32, h_33, H⟩ := bind_some H
        refine sl_callV Try.call32 hS hK (by decide) rfl rfl rfl (schema_fit.calls a1.Vals y_2.1.Vals (lentOf_sub [] _) (h1_1.mono (hS.raLe0 hRA nil_not)) (hs_9.mono hS.rLe0) h_33) fun a w hS hK => ?_
        refine sl hK (by decide) rfl rfl (r_un hK rfl (u_not _)) fun a hK => ?_
        refine sl hK (by decide) rfl rfl (r_assign hK rfl) fun a hK => ?_
        refine wpList_nil ?_
        refine wp_mid (fun a w => ∃ (x_39 : Bool), schema_Fits.j1 x_39 = some r ∧ Kn 36 a [(17, .bool x_39)] ∧ St [] w0 w R_4 []) ?_ ?_
        · refine wp_cond_split (hK.ev rfl) (fun (hb_41 : (!y_32) = true) => ?_) (fun (hb_41 : (!y_32) = false) => ?_)
          · rw [ifb_t hb_41] at H
            refine wp_skip ?_
            exact ⟨(!y_32), H, hK.sub (all_cons rfl (all_nil)), hS.trunc 0⟩
          · rw [ifb_f hb_41] at H
            refine wp_seq ?_
            refine wp_region_lit ?_
            refine sl hK (by decide) rfl rfl (r_fieldAddr Try.underlying38 rfl Try.sizeOf3 hK rfl) fun a hK => ?_
            refine sl hK (by decide) rfl rfl (r_load Try.isAgg3 hK rfl (hS.cell (.tail _ (.head _)) rfl)) fun a hK => ?_
            refine sl hK (by decide) rfl rfl (r_ibin hK rfl rfl rfl) fun a hK => ?_
            refine sl hK (by decide) rfl rfl (r_assign hK rfl) fun a hK => ?_
            refine wpList_nil ?_
            refine wp_mid (fun a w => ∃ (x_43 : Bool), schema_Fits.j2 x_43 = some r ∧ Kn 36 a [(17, .bool x_43)] ∧ St [] w0 w R_4 []) ?_ ?_
            · refine wp_cond_split (hK.ev rfl) (fun (hb_45 : (decide (a1.Time < 0)) = true) => ?_) (fun (hb_45 : (decide (a1.Time < 0)) = false) => ?_)
              · rw [ifb_t hb_45] at H
                refine wp_skip ?_
                exact ⟨(decide (a1.Time < 0)), H, hK.sub (all_cons rfl (all_nil)), hS.trunc 0⟩
              · rw [ifb_f hb_45] at H
                refine wp_region_lit ?_
                refine sl hK (by decide) rfl rfl (r_fieldAddr Try.underlying38 rfl Try.sizeOf3 hK rfl) fun a hK => ?_
                refine sl hK (by decide) rfl rfl (r_load Try.isAgg3 hK rfl (hS.cell (.tail _ (.head _)) rfl)) fun a hK => ?_
                refine sl hK (by decide) rfl rfl (r_ibin hK rfl rfl rfl) fun a hK => ?_
                refine sl hK (by decide) rfl rfl (r_assign hK rfl) fun a hK => ?_
                refine wpList_nil ?_
                exact ⟨(decide (a1.Time ≥ 1099511627776)), H, hK.sub (all_cons rfl (all_nil)), hS.trunc 0⟩
            · rintro a w ⟨x_43, H, hK, hS⟩
              unfold schema_Fits.j2 at H
              exact ⟨x_43, H, hK.sub (all_cons rfl (all_nil)), hS⟩
        · rintro a w ⟨x_39, H, hK, hS⟩
          unfold schema_Fits.j1 at H
          exact ⟨x_39, H, hK.sub (all_cons rfl (all_nil)), hS⟩
    · rintro a w ⟨x_29, H, hK, hS⟩
      unfold schema_Fits.j0 at H
      refine wp_cond_split (hK.ev rfl) (fun (hb_46 : x_29 = true) => ?_) (fun (hb_46 : x_29 = false) => ?_)
      · rw [ifb_t hb_46] at H
        refine wp_seq ?_
        refine wp_region_lit ?_
        refine sl hK (by decide) rfl rfl (r_assign hK rfl) fun a hK => ?_
        refine wpList_nil ?_
        obtain rfl := Option.some.inj H
        refine wp_ret ?_
        repeat (first | refine ret_then ?_ | refine ret_block ?_ | refine ret_scope ?_)
        exact ret_1 Try.results19 hK (rv_tmp hK rfl) ⟨rfl, hS.bel⟩
      · rw [ifb_f hb_46] at H
        refine wp_skip ?_
        refine wp_seq ?_
        refine wp_region_lit ?_
        refine sl hK (by decide) rfl rfl (r_assign hK rfl) fun a hK => ?_
        refine wpList_nil ?_
        obtain rfl := Option.some.inj H
        refine wp_ret ?_
        repeat (first | refine ret_then ?_ | refine ret_block ?_ | refine ret_scope ?_)
        exact ret_1 Try.results19 hK (rv_tmp hK rfl) ⟨rfl, hS.bel⟩

/-! ### catchment/schema.Cols: function 13 -/
set_option maxHeartbeats 4000000 in
set_option maxRecDepth 100000 in
theorem schema_Cols.calls (a0 : api_Schema) {w0 : World} {R : Hp} {v0_0 : Value} {v0_1 : Value} (hR : R.sub w0) (h0_0 : SlR ty_api_Col R v0_0 a0.Keys) (h0_1 : SlR ty_api_Col R v0_1 a0.Vals) {r : List api_Col} (H : schema_Cols a0 = some r) : Calls Try.prog 13 #[.agg #[.string a0.Name, v0_0, v0_1]] w0 (Rets fun v w' => ∃ (R' : Hp) (u0 : Value) (cu0 : List Value), v = u0 ∧ St [] w0 w' R' [.row 52 2 u0 r.length cu0] ∧ RLe [] w0 R R' ∧ Reps ty_api_Col R' cu0 r) := by
  unfold schema_Cols at H
  refine enter (args := [.agg #[.string a0.Name, v0_0, v0_1]]) Try.func13 rfl Try.ntmps13 rfl fun a hK => ?_
  have hS := St.init hR
  have hRL := RLe.refl (M := []) w0 R
  refine wp_seq ?_
  refine wp_region_lit ?_
  refine sl_box hS hK (by decide) rfl rfl (c := [.string a0.Name, v0_0, v0_1]) rfl fun a w b_1 hS hK => ?_
  refine sl hK (by decide) rfl rfl (r_assign hK rfl) fun a hK => ?_
  refine wpList_nil ?_
  refine wp_seq ?_
  refine wp_region_lit ?_
  refine sl hK (by decide) rfl rfl (r_buildC (ps := [(0, .string (⟨#[116, 105, 109, 101]⟩ : ByteArray)), (1, .int .i64 1)]) (c := [.string (⟨#[116, 105, 109, 101]⟩ : ByteArray), .int .i64 1]) Try.underlying52 Try.zeroValue52 places52 hK rfl (pc_cons rfl (pc_cons rfl pc_nil)) rfl rfl) fun a hK => ?_
  refine sl_buildSliceF (zc := [.string (⟨#[]⟩ : ByteArray), .int .i64 0]) (ps := [(0, .agg #[.string (⟨#[116, 105, 109, 101]⟩ : ByteArray), .int .i64 1])]) (c := [.string (⟨#[116, 105, 109, 101]⟩ : ByteArray), .int .i64 1]) [[.string (⟨#[116, 105, 109, 101]⟩ : ByteArray), .int .i64 1]] Try.underlying24 Try.sizeOf52 Try.zeroValue52 rfl (pc_cons rfl pc_nil) rfl rfl (Nat.le_of_ble_eq_true rfl) rfl (all_cons rfl (all_nil)) rfl hS hK (by decide) rfl fun a w b_2 hS hK => ?_
  refine sl hK (by decide) rfl rfl (r_fieldAddr Try.underlying26 rfl Try.sizeOf24 hK rfl) fun a hK => ?_
  refine sl hK (by decide) rfl rfl (r_load Try.isAgg24 hK rfl (hS.cell (.tail _ (.head _)) rfl)) fun a hK => ?_
  refine sl hK (by decide) rfl rfl (r_fieldAddr Try.underlying26 rfl Try.sizeOf24 hK rfl) fun a hK => ?_
  refine sl hK (by decide) rfl rfl (r_load Try.isAgg24 hK rfl (hS.cell (.tail _ (.head _)) rfl)) fun a hK => ?_
  refine sl_buildSliceF (zc := [.slice none 0 0]) (ps := [(0, .slice (some ⟨b_2, 0, none⟩) 1 1), (1, v0_0), (2, v0_1)]) (c := [.slice (some ⟨b_2, 0, none⟩) 1 1, v0_0, v0_1]) [[.slice (some ⟨b_2, 0, none⟩) 1 1], [v0_0], [v0_1]] Try.underlying61 Try.sizeOf24 Try.zeroValue24 rfl (pc_cons rfl (pc_cons (cells1 h0_0.one) (pc_cons (cells1 h0_1.one) pc_nil))) rfl rfl (Nat.le_of_ble_eq_true rfl) rfl (all_cons rfl (all_cons rfl (all_cons rfl (all_nil)))) rfl hS hK (by decide) rfl fun a w b_3 hS hK => ?_
  have hS := hS.pk1
  obtain ⟨R_4, hS, hl_6, hs_5⟩ := hS.fz_lit (ty := ty_api_Col) (xs := [(⟨(⟨#[116, 105, 109, 101]⟩ : ByteArray), 1⟩ : api_Col)]) (Reps.cons (show Ty.rep ty_api_Col _ [.string (⟨#[116, 105, 109, 101]⟩ : ByteArray), .int .i64 1] (⟨(⟨#[116, 105, 109, 101]⟩ : ByteArray), 1⟩ : api_Col) from rfl) (Reps.nil _ _)) rfl
  have hRL := hRL.trans hl_6
  obtain ⟨y_7, h_8, H⟩ := bind_some H
  refine sl_call Try.call24 hK (by decide) rfl rfl rfl (slices_Concat_api_Col_api_Col.calls [[(⟨(⟨#[116, 105, 109, 101]⟩ : ByteArray), 1⟩ : api_Col)], a0.Keys, a0.Vals] (lentOf_sub [] _) hS.sub (hS.lend_lit0 (ty := (tySl ty_api_Col)) (xs := [[(⟨(⟨#[116, 105, 109, 101]⟩ : ByteArray), 1⟩ : api_Col)], a0.Keys, a0.Vals]) (.head _) (Reps.cons (show Ty.rep (tySl ty_api_Col) _ [(.slice (some ⟨b_2, 0, none⟩) 1 1)] [(⟨(⟨#[116, 105, 109, 101]⟩ : ByteArray), 1⟩ : api_Col)] from ⟨_, rfl, hs_5⟩) (Reps.cons (show Ty.rep (tySl ty_api_Col) _ [v0_0] a0.Keys from ⟨_, rfl, (h0_0.mono hl_6.le)⟩) (Reps.cons (show Ty.rep (tySl ty_api_Col) _ [v0_1] a0.Vals from ⟨_, rfl, (h0_1.mono hl_6.le)⟩) (Reps.nil _ _)))) rfl) h_8) fun a v_ w hv_ hK => ?_
  obtain ⟨R_9, v_12, cs_13, hv_, hr_, hl_10, hq_14⟩ := hv_
  have hv_ := hv_.symm
  subst hv_
  obtain ⟨hS, hl_10⟩ := hS.sp0.back hr_ hl_10
  have hS := hS.un1
  have hRL := hRL.trans hl_10
  refine sl hK (by decide) rfl rfl (r_assign hK rfl) fun a hK => ?_
  refine wpList_nil ?_
  obtain rfl := Option.some.inj H
  refine wp_ret ?_
  repeat (first | refine ret_then ?_ | refine ret_block ?_ | refine ret_scope ?_)
  exact ret_1 Try.results13 hK (rv_tmp hK rfl) ⟨_, rfl, _, _, _, rfl, (hS.trunc 1), hRL, hq_14⟩

/-! ### catchment/catchmentlaw05.shown: function 8 -/
set_option maxHeartbeats 4000000 in
set_option maxRecDepth 100000 in
theorem law05_shown.calls {w0 : World} {RA : Hp} (hRA : RA.sub w0) (hG : GF RA) {r : Bool} (H : law05_shown  = some r) : CallsV Try.prog 8 #[] w0 (.bool r) := by
  unfold law05_shown at H
  refine enter (args := []) Try.func8 rfl Try.ntmps8 rfl fun a hK => ?_
  have hS := St.init (R := fun _ => none) (w := w0) (fun _ _ h => by cases h)
  have hRL := RLe.refl (M := []) w0 (fun _ => none)
  refine wp_seq ?_
  refine wp_region_lit ?_
  refine sl hK (by decide) rfl rfl (r_assign hK rfl) fun a hK => ?_
  refine wpList_nil ?_
  refine wp_seq ?_
  refine wp_region_lit ?_
  obtain ⟨y_1, h_2, H⟩ := bind_some H
  refine sl_call Try.call22 hK (by decide) rfl rfl rfl (law05_load.calls hS.sub h_2) fun a v_ w hv_ hK => ?_
  obtain ⟨R_3, v_6, cs_7, v_10, cs_11, hv_, hr_, hl_4, hq_8, hq_12⟩ := hv_
  have hv_ := hv_.symm
  subst hv_
  obtain ⟨hS, hl_4⟩ := hS.sp0.back hr_ hl_4
  have hS := hS.un2
  have hRL := hRL.trans hl_4
  refine sl_buildSliceF (zc := [.string (⟨#[]⟩ : ByteArray), .slice none 0 0, .slice none 0 0]) (ps := [(0, .agg #[.string y_1.Name, v_6, v_10])]) (c := [.string y_1.Name, v_6, v_10]) [[.string y_1.Name, v_6, v_10]] Try.underlying22 Try.sizeOf26 Try.zeroValue26 rfl (pc_cons rfl pc_nil) rfl rfl (Nat.le_of_ble_eq_true rfl) rfl (all_cons rfl (all_nil)) rfl hS hK (by decide) rfl fun a w b_13 hS hK => ?_
  refine sl hK (by decide) rfl rfl (r_assign hK rfl) fun a hK => ?_
  refine wpList_nil ?_
  refine wp_seq ?_
  refine wp_region_lit ?_
  obtain ⟨y_14, h_15, H⟩ := bind_some H
  refine sl_call Try.call23 hK (by decide) rfl rfl rfl (law05_point.calls 5 hS.sub h_15) fun a v_ w hv_ hK => ?_
  obtain ⟨R_16, v_19, cs_20, v_23, cs_24, hv_, hr_, hl_17, hq_21, hq_25⟩ := hv_
  have hv_ := hv_.symm
  subst hv_
  obtain ⟨hS, hl_17⟩ := hS.sp0.back hr_ hl_17
  have hS := hS.un2
  have hRL := hRL.trans hl_17
  refine sl_alloc Try.zeroValue38 hS hK (by decide) rfl rfl fun a w b_26 hS hK => ?_
  refine sl_storeA (vs := [.string y_14.Schema, v_19, .int .i64 y_14.Time, v_23]) (c' := [.string y_14.Schema, v_19, .int .i64 y_14.Time, v_23]) Try.sizeOf38 hS hK rfl rfl rfl rfl (all_cons rfl (all_cons (hS.row_one (.tail _ (.head _))) (all_cons rfl (all_cons (hS.row_one (.tail _ (.tail _ (.head _)))) (all_nil))))) (Nat.le_of_ble_eq_true rfl) rfl fun a w hS hK => ?_
  refine wpList_nil ?_
  refine wp_seq ?_
  refine wp_region_lit ?_
  refine sl hK (by decide) rfl rfl (r_fieldAddr Try.underlying38 rfl Try.sizeOf9 hK rfl) fun a hK => ?_
  refine sl_store1 (c' := [.string (⟨#[108, 111, 97, 100, 115]⟩ : ByteArray), v_19, .int .i64 y_14.Time, v_23]) Try.sizeOf9 hS hK rfl rfl rfl rfl (Nat.le_of_ble_eq_true rfl) rfl fun a w hS hK => ?_
  refine wpList_nil ?_
  refine wp_seq ?_
  refine wp_region_lit ?_
  refine sl hK (by decide) rfl rfl (r_move hK rfl) fun a hK => ?_
  have hS := hS.pk4
  obtain ⟨R_27, hS, hl_29, hs_28⟩ := hS.fz_row (hq_8.mono hl_17.le) rfl rfl
  have hRL := hRL.trans hl_29
  have hS := hS.pk4
  obtain ⟨R_30, hS, hl_32, hs_31⟩ := hS.fz_row (hq_12.mono (hl_17.le.trans hl_29.le)) rfl rfl
  have hRL := hRL.trans hl_32
  have hS := hS.pk3
  obtain ⟨R_33, hS, hl_35, hs_34⟩ := hS.fz_lit (ty := ty_api_Schema) (xs := [y_1]) (Reps.cons (show Ty.rep ty_api_Schema _ [.string y_1.Name, v_6, v_10] y_1 from ⟨_, _, rfl, (hs_28.mono hl_32.le), hs_31⟩) (Reps.nil _ _)) rfl
  have hRL := hRL.trans hl_35
  obtain ⟨y_36, h_37, H⟩ := bind_some H
  refine sl_call Try.call9 hK (by decide) rfl rfl rfl (schema_Find.calls [y_1] (⟨#[108, 111, 97, 100]⟩ : ByteArray) hS.sub hs_34 h_37) fun a v_ w hv_ hK => ?_
  obtain ⟨R_38, v_40, v_42, hv_, hr_, hl_39, hs_41, hs_43⟩ := hv_
  have hv_ := hv_.symm
  subst hv_
  obtain ⟨hS, hl_39⟩ := hS.sp0.back hr_ hl_39
  have hS := hS.un0
  have hRL := hRL.trans hl_39
  refine sl hK (by decide) rfl rfl (r_move hK rfl) fun a hK => ?_
  refine sl hK (by decide) rfl rfl (r_extract hK rfl rfl) fun a hK => ?_
  refine sl hK (by decide) rfl rfl (r_extract hK rfl rfl) fun a hK => ?_
  refine sl_alloc Try.zeroValue26 hS hK (by decide) rfl rfl fun a w b_44 hS hK => ?_
  refine sl_storeA (vs := [.string y_36.1.Name, v_40, v_42]) (c' := [.string y_36.1.Name, v_40, v_42]) Try.sizeOf26 hS hK rfl rfl rfl rfl (all_cons rfl (all_cons hs_41.one (all_cons hs_43.one (all_nil)))) (Nat.le_of_ble_eq_true rfl) rfl fun a w hS hK => ?_
  refine sl hK (by decide) rfl rfl (r_assign hK rfl) fun a hK => ?_
  refine wpList_nil ?_
  refine wp_seq ?_
  refine wp_region_lit ?_
  refine sl hK (by decide) rfl rfl (r_move hK rfl) fun a hK => ?_
  obtain ⟨y_45, h_46, H⟩ := bind_some H
  refine sl_call Try.call9 hK (by decide) rfl rfl rfl (schema_Find.calls [y_1] (⟨#[108, 111, 97, 100, 115]⟩ : ByteArray) hS.sub (hs_34.mono hl_39.le) h_46) fun a v_ w hv_ hK => ?_
  obtain ⟨R_47, v_49, v_51, hv_, hr_, hl_48, hs_50, hs_52⟩ := hv_
  have hv_ := hv_.symm
  subst hv_
  obtain ⟨hS, hl_48⟩ := hS.sp0.back hr_ hl_48
  have hS := hS.un0
  have hRL := hRL.trans hl_48
  refine sl hK (by decide) rfl rfl (r_move hK rfl) fun a hK => ?_
  refine sl hK (by decide) rfl rfl (r_extract hK rfl rfl) fun a hK => ?_
  refine sl hK (by decide) rfl rfl (r_extract hK rfl rfl) fun a hK => ?_
  refine sl_alloc Try.zeroValue26 hS hK (by decide) rfl rfl fun a w b_53 hS hK => ?_
  refine sl_storeA (vs := [.string y_45.1.Name, v_49, v_51]) (c' := [.string y_45.1.Name, v_49, v_51]) Try.sizeOf26 hS hK rfl rfl rfl rfl (all_cons rfl (all_cons hs_50.one (all_cons hs_52.one (all_nil)))) (Nat.le_of_ble_eq_true rfl) rfl fun a w hS hK => ?_
  refine sl hK (by decide) rfl rfl (r_assign hK rfl) fun a hK => ?_
  refine wpList_nil ?_
  refine wp_seq ?_
  refine wp_region_lit ?_
  obtain ⟨y_54, h_55, H⟩ := bind_some H
  refine sl_callV Try.call15 hS hK (by decide) rfl rfl rfl (schema_Word.calls (⟨#[104, 111, 115, 116]⟩ : ByteArray) (lentOf_sub [] _) (GF.mono (hS.raLe0 hRA nil_not) hG) h_55) fun a w hS hK => ?_
  refine sl hK (by decide) rfl rfl (r_move hK rfl) fun a hK => ?_
  rcases or_b y_54 with hb_56 | hb_56
  · rw [ifb_t hb_56] at H
    obtain ⟨y_57, h_58, H⟩ := bind_some H
    refine sl_callV Try.call15 hS hK (by decide) (wtt hb_56) rfl rfl (schema_Word.calls (⟨#[116, 105, 109, 101]⟩ : ByteArray) (lentOf_sub [] _) (GF.mono (hS.raLe0 hRA nil_not) hG) h_58) fun a w hS hK => ?_
    refine sl hK (by decide) (wtt hb_56) rfl (r_un hK rfl (u_not _)) fun a hK => ?_
    refine sl hK (by decide) rfl rfl (r_pick_t hb_56 hK rfl rfl) fun a hK => ?_
    refine sl hK (by decide) rfl rfl (r_move hK rfl) fun a hK => ?_
    rcases or_b (!y_57) with hb_59 | hb_59
    · rw [ifb_t hb_59] at H
      obtain ⟨y_60, h_61, H⟩ := bind_some H
      refine sl_callV Try.call15 hS hK (by decide) (wtt hb_59) rfl rfl (schema_Word.calls (⟨#[97, 35]⟩ : ByteArray) (lentOf_sub [] _) (GF.mono (hS.raLe0 hRA nil_not) hG) h_61) fun a w hS hK => ?_
      refine sl hK (by decide) (wtt hb_59) rfl (r_un hK rfl (u_not _)) fun a hK => ?_
      refine sl hK (by decide) rfl rfl (r_pick_t hb_59 hK rfl rfl) fun a hK => ?_
      refine sl hK (by decide) rfl rfl (r_move hK rfl) fun a hK => ?_
      rcases or_b (!y_60) with hb_62 | hb_62
      · rw [ifb_t hb_62] at H
        refine sl hK (by decide) (wtt hb_62) rfl (r_move hK rfl) fun a hK => ?_
        obtain ⟨y_63, h_64, H⟩ := bind_some H
        refine sl_callV Try.call17 hS hK (by decide) (wtt hb_62) rfl rfl (schema_Check.calls [y_1] (lentOf_sub [] _) hS.sub (hs_34.mono (hl_39.le.trans hl_48.le)) (GF.mono (hS.raLe0 hRA nil_not) hG) h_64) fun a w hS hK => ?_
        refine sl hK (by decide) (wtt hb_62) rfl (r_ibin hK rfl rfl rfl) fun a hK => ?_
        refine sl hK (by decide) rfl rfl (r_pick_t hb_62 hK rfl rfl) fun a hK => ?_
        refine sl hK (by decide) rfl rfl (r_move hK rfl) fun a hK => ?_
        rcases or_b (y_63 == 0) with hb_65 | hb_65
        · rw [ifb_t hb_65] at H
          refine sl hK (by decide) (wtt hb_65) rfl (r_move hK rfl) fun a hK => ?_
          obtain ⟨y_66, h_67, H⟩ := bind_some H
          refine sl_call Try.call22 hK (by decide) (wtt hb_65) rfl rfl (law05_load.calls hS.sub h_67) fun a v_ w hv_ hK => ?_
          obtain ⟨R_68, v_71, cs_72, v_75, cs_76, hv_, hr_, hl_69, hq_73, hq_77⟩ := hv_
          have hv_ := hv_.symm
          subst hv_
          obtain ⟨hS, hl_69⟩ := hS.sp0.back hr_ hl_69
          have hS := hS.un2
          have hRL := hRL.trans hl_69
          refine sl_buildSliceF (zc := [.string (⟨#[]⟩ : ByteArray), .slice none 0 0, .slice none 0 0]) (ps := [(0, .agg #[.string y_66.Name, v_71, v_75])]) (c := [.string y_66.Name, v_71, v_75]) [[.string y_66.Name, v_71, v_75]] Try.underlying22 Try.sizeOf26 Try.zeroValue26 rfl (pc_cons rfl pc_nil) rfl rfl (Nat.le_of_ble_eq_true rfl) rfl (all_cons rfl (all_nil)) rfl hS hK (by decide) (wtt hb_65) fun a w b_78 hS hK => ?_
          have hS := hS.pk1
          obtain ⟨R_79, hS, hl_81, hs_80⟩ := hS.fz_row hq_73 rfl rfl
          have hRL := hRL.trans hl_81
          have hS := hS.pk1
          obtain ⟨R_82, hS, hl_84, hs_83⟩ := hS.fz_row (hq_77.mono hl_81.le) rfl rfl
          have hRL := hRL.trans hl_84
          obtain ⟨y_85, h_86, H⟩ := bind_some H
          refine sl_append_FL (ty := ty_api_Schema) (xs := [y_1]) (ys := [y_66]) elT22 (by decide) rfl (hs_34.mono (hl_39.le.trans (hl_48.le.trans (hl_69.le.trans (hl_81.le.trans hl_84.le))))) (Reps.cons (show Ty.rep ty_api_Schema _ [.string y_66.Name, v_71, v_75] y_66 from ⟨_, _, rfl, (hs_80.mono hl_84.le), hs_83⟩) (Reps.nil _ _)) rfl (Nat.le_of_ble_eq_true rfl) h_86 hS hK (by decide) (wtt hb_65) rfl rfl fun a w v_87 cs_88 hq_89 hS hK => ?_
          obtain ⟨R_91, hS, hl_93, hs_92⟩ := hS.fz_row hq_89 rfl rfl
          have hRL := hRL.trans hl_93
          obtain ⟨y_94, h_95, H⟩ := bind_some H
          refine sl_callV Try.call17 hS hK (by decide) (wtt hb_65) rfl rfl (schema_Check.calls y_85 (lentOf_sub [] _) hS.sub hs_92 (GF.mono (hS.raLe0 hRA nil_not) hG) h_95) fun a w hS hK => ?_
          refine sl hK (by decide) (wtt hb_65) rfl (r_ibin hK rfl rfl rfl) fun a hK => ?_
          refine sl hK (by decide) rfl rfl (r_pick_t hb_65 hK rfl rfl) fun a hK => ?_
          refine sl hK (by decide) rfl rfl (r_move hK rfl) fun a hK => ?_
          rcases or_b (y_94 == 50) with hb_96 | hb_96
          · rw [ifb_t hb_96] at H
            obtain ⟨y_97, h_98, H⟩ := bind_some H
            refine sl_callV Try.call17 hS hK (by decide) (wtt hb_96) rfl rfl (schema_Check.calls ([] : List api_Schema) (lentOf_sub [] _) hS.sub (SlR.nil ty_api_Schema _) (GF.mono (hS.raLe0 hRA nil_not) hG) h_98) fun a w hS hK => ?_
            refine sl hK (by decide) (wtt hb_96) rfl (r_ibin hK rfl rfl rfl) fun a hK => ?_
            refine sl hK (by decide) rfl rfl (r_pick_t hb_96 hK rfl rfl) fun a hK => ?_
            refine sl hK (by decide) rfl rfl (r_move hK rfl) fun a hK => ?_
            rcases or_b (y_97 == 50) with hb_99 | hb_99
            · rw [ifb_t hb_99] at H
              refine sl hK (by decide) (wtt hb_99) rfl (r_move hK rfl) fun a hK => ?_
              obtain ⟨y_100, h_101, H⟩ := bind_some H
              refine sl_call Try.call23 hK (by decide) (wtt hb_99) rfl rfl (law05_point.calls 5 hS.sub h_101) fun a v_ w hv_ hK => ?_
              obtain ⟨R_102, v_105, cs_106, v_109, cs_110, hv_, hr_, hl_103, hq_107, hq_111⟩ := hv_
              have hv_ := hv_.symm
              subst hv_
              obtain ⟨hS, hl_103⟩ := hS.sp0.back hr_ hl_103
              have hS := hS.un2
              have hRL := hRL.trans hl_103
              obtain ⟨y_112, h_113, H⟩ := bind_some H
              refine sl_callV Try.call19 hS hK (by decide) (wtt hb_99) rfl rfl (schema_Fits.calls [y_1] y_100 (lentOf_sub [] _) hS.sub (hs_34.mono (hl_39.le.trans (hl_48.le.trans (hl_69.le.trans (hl_81.le.trans (hl_84.le.trans (hl_93.le.trans hl_103.le))))))) (hS.lend_row0 (.head _) hq_107 rfl rfl) (hS.lend_row0 (.tail _ (.head _)) hq_111 rfl rfl) h_113) fun a w hS hK => ?_
              refine sl hK (by decide) (wtt hb_99) rfl (r_ibin hK rfl rfl rfl) fun a hK => ?_
              refine sl hK (by decide) rfl rfl (r_pick_t hb_99 hK rfl rfl) fun a hK => ?_
              refine sl hK (by decide) rfl rfl (r_move hK rfl) fun a hK => ?_
              rcases or_b (y_112 == 0) with hb_114 | hb_114
              · rw [ifb_t hb_114] at H
                refine sl hK (by decide) (wtt hb_114) rfl (r_move hK rfl) fun a hK => ?_
                obtain ⟨y_115, h_116, H⟩ := bind_some H
                refine sl_call Try.call23 hK (by decide) (wtt hb_114) rfl rfl (law05_point.calls (-1) hS.sub h_116) fun a v_ w hv_ hK => ?_
                obtain ⟨R_117, v_120, cs_121, v_124, cs_125, hv_, hr_, hl_118, hq_122, hq_126⟩ := hv_
                have hv_ := hv_.symm
                subst hv_
                obtain ⟨hS, hl_118⟩ := hS.sp0.back hr_ hl_118
                have hS := hS.un2
                have hRL := hRL.trans hl_118
                obtain ⟨y_127, h_128, H⟩ := bind_some H
                refine sl_callV Try.call19 hS hK (by decide) (wtt hb_114) rfl rfl (schema_Fits.calls [y_1] y_115 (lentOf_sub [] _) hS.sub (hs_34.mono (hl_39.le.trans (hl_48.le.trans (hl_69.le.trans (hl_81.le.trans (hl_84.le.trans (hl_93.le.trans (hl_103.le.trans hl_118.le)))))))) (hS.lend_row0 (.head _) hq_122 rfl rfl) (hS.lend_row0 (.tail _ (.head _)) hq_126 rfl rfl) h_128) fun a w hS hK => ?_
                refine sl hK (by decide) (wtt hb_114) rfl (r_ibin hK rfl rfl rfl) fun a hK => ?_
                refine sl hK (by decide) rfl rfl (r_pick_t hb_114 hK rfl rfl) fun a hK => ?_
                refine sl hK (by decide) rfl rfl (r_move hK rfl) fun a hK => ?_
                rcases or_b (y_127 == 51) with hb_129 | hb_129
                · rw [ifb_t hb_129] at H
                  refine sl hK (by decide) (wtt hb_129) rfl (r_move hK rfl) fun a hK => ?_
                  refine sl hK (by decide) (wtt hb_129) rfl (r_loadA (cs := [.string (⟨#[108, 111, 97, 100, 115]⟩ : ByteArray), v_19, .int .i64 y_14.Time, v_23]) Try.isAgg38 Try.sizeOf38 rfl hK rfl (hS.cells_of (m := 4) (.tail _ (.tail _ (.tail _ (.tail _ (.tail _ (.tail _ (.head _))))))) rfl)) fun a hK => ?_
                  obtain ⟨y_130, h_131, H⟩ := bind_some H
                  refine sl_callV Try.call19 hS hK (by decide) (wtt hb_129) rfl rfl (schema_Fits.calls [y_1] (⟨(⟨#[108, 111, 97, 100, 115]⟩ : ByteArray), y_14.Keys, y_14.Time, y_14.Vals⟩ : api_Point) (lentOf_sub [] _) hS.sub (hs_34.mono (hl_39.le.trans (hl_48.le.trans (hl_69.le.trans (hl_81.le.trans (hl_84.le.trans (hl_93.le.trans (hl_103.le.trans hl_118.le)))))))) (hS.lend_row0 (.tail _ (.tail _ (.tail _ (.tail _ (.tail _ (.tail _ (.tail _ (.head _)))))))) (hq_21.mono (hl_29.le.trans (hl_32.le.trans (hl_35.le.trans (hl_39.le.trans (hl_48.le.trans (hl_69.le.trans (hl_81.le.trans (hl_84.le.trans (hl_93.le.trans (hl_103.le.trans hl_118.le))))))))))) rfl rfl) (hS.lend_row0 (.tail _ (.tail _ (.tail _ (.tail _ (.tail _ (.tail _ (.tail _ (.tail _ (.head _))))))))) (hq_25.mono (hl_29.le.trans (hl_32.le.trans (hl_35.le.trans (hl_39.le.trans (hl_48.le.trans (hl_69.le.trans (hl_81.le.trans (hl_84.le.trans (hl_93.le.trans (hl_103.le.trans hl_118.le))))))))))) rfl rfl) h_131) fun a w hS hK => ?_
                  refine sl hK (by decide) (wtt hb_129) rfl (r_ibin hK rfl rfl rfl) fun a hK => ?_
                  refine sl hK (by decide) rfl rfl (r_pick_t hb_129 hK rfl rfl) fun a hK => ?_
                  refine sl hK (by decide) rfl rfl (r_move hK rfl) fun a hK => ?_
                  rcases or_b (y_130 == 50) with hb_132 | hb_132
                  · rw [ifb_t hb_132] at H
                    refine sl hK (by decide) (wtt hb_132) rfl (r_move hK rfl) fun a hK => ?_
                    refine sl hK (by decide) rfl rfl (r_pick_t hb_132 hK rfl rfl) fun a hK => ?_
                    refine sl hK (by decide) rfl rfl (r_move hK rfl) fun a hK => ?_
                    rcases or_b y_36.2 with hb_133 | hb_133
                    · rw [ifb_t hb_133] at H
                      refine sl hK (by decide) (wtt hb_133) rfl (r_move hK rfl) fun a hK => ?_
                      refine sl hK (by decide) (wtt hb_133) rfl (r_un hK rfl (u_not _)) fun a hK => ?_
                      refine sl hK (by decide) rfl rfl (r_pick_t hb_133 hK rfl rfl) fun a hK => ?_
                      refine sl hK (by decide) rfl rfl (r_move hK rfl) fun a hK => ?_
                      rcases or_b (!y_45.2) with hb_134 | hb_134
                      · rw [ifb_t hb_134] at H
                        obtain ⟨y_135, h_136, H⟩ := bind_some H
                        refine sl_call Try.call22 hK (by decide) (wtt hb_134) rfl rfl (law05_load.calls hS.sub h_136) fun a v_ w hv_ hK => ?_
                        obtain ⟨R_137, v_140, cs_141, v_144, cs_145, hv_, hr_, hl_138, hq_142, hq_146⟩ := hv_
                        have hv_ := hv_.symm
                        subst hv_
                        obtain ⟨hS, hl_138⟩ := hS.sp0.back hr_ hl_138
                        have hS := hS.un2
                        have hRL := hRL.trans hl_138
                        obtain ⟨R_147, hS, hl_149, hs_148⟩ := hS.fz_row hq_142 rfl rfl
                        have hRL := hRL.trans hl_149
                        obtain ⟨R_150, hS, hl_152, hs_151⟩ := hS.fz_row (hq_146.mono hl_149.le) rfl rfl
                        have hRL := hRL.trans hl_152
                        obtain ⟨y_153, h_154, H⟩ := bind_some H
                        refine sl_call Try.call13 hK (by decide) (wtt hb_134) rfl rfl (schema_Cols.calls y_135 hS.sub (hs_148.mono hl_152.le) hs_151 h_154) fun a v_ w hv_ hK => ?_
                        obtain ⟨R_155, v_158, cs_159, hv_, hr_, hl_156, hq_160⟩ := hv_
                        have hv_ := hv_.symm
                        subst hv_
                        obtain ⟨hS, hl_156⟩ := hS.sp0.back hr_ hl_156
                        have hS := hS.un1
                        have hRL := hRL.trans hl_156
                        refine sl hK (by decide) (wtt hb_134) rfl (r_len_O Try.underlying24 hS (.head _) hK rfl) fun a hK => ?_
                        refine sl hK (by decide) (wtt hb_134) rfl (r_ibin hK rfl rfl rfl) fun a hK => ?_
                        refine sl hK (by decide) rfl rfl (r_pick_t hb_134 hK rfl rfl) fun a hK => ?_
                        refine sl hK (by decide) rfl rfl (r_assign hK rfl) fun a hK => ?_
                        refine wpList_nil ?_
                        obtain rfl := Option.some.inj H
                        refine wp_ret ?_
                        repeat (first | refine ret_then ?_ | refine ret_block ?_ | refine ret_scope ?_)
                        exact ret_1 Try.results8 hK (rv_tmp hK rfl) ⟨rfl, hS.bel⟩
                      · rw [ifb_f hb_134] at H
                        refine sl_skip hK (by decide) (wtf hb_134) rfl fun a hK => ?_
                        refine sl_skip hK (by decide) (wtf hb_134) rfl fun a hK => ?_
                        refine sl_skip hK (by decide) (wtf hb_134) rfl fun a hK => ?_
                        refine sl_skip hK (by decide) (wtf hb_134) rfl fun a hK => ?_
                        refine sl hK (by decide) rfl rfl (r_pick_f hb_134 hK rfl rfl) fun a hK => ?_
                        refine sl hK (by decide) rfl rfl (r_assign hK rfl) fun a hK => ?_
                        refine wpList_nil ?_
                        obtain rfl := Option.some.inj H
                        refine wp_ret ?_
                        repeat (first | refine ret_then ?_ | refine ret_block ?_ | refine ret_scope ?_)
                        exact ret_1 Try.results8 hK (rv_tmp hK rfl) ⟨rfl, hS.bel⟩
                    · rw [ifb_f hb_133] at H
                      refine sl_skip hK (by decide) (wtf hb_133) rfl fun a hK => ?_
                      refine sl_skip hK (by decide) (wtf hb_133) rfl fun a hK => ?_
                      refine sl hK (by decide) rfl rfl (r_pick_f hb_133 hK rfl rfl) fun a hK => ?_
                      refine sl hK (by decide) rfl rfl (r_move hK rfl) fun a hK => ?_
                      refine sl_skip hK (by decide) rfl rfl fun a hK => ?_
                      refine sl_skip hK (by decide) rfl rfl fun a hK => ?_
                      refine sl_skip hK (by decide) rfl rfl fun a hK => ?_
                      refine sl_skip hK (by decide) rfl rfl fun a hK => ?_
                      refine sl hK (by decide) rfl rfl (r_pick hK rfl rfl rfl) fun a hK => ?_
                      refine sl hK (by decide) rfl rfl (r_assign hK rfl) fun a hK => ?_
                      refine wpList_nil ?_
                      obtain rfl := Option.some.inj H
                      refine wp_ret ?_
                      repeat (first | refine ret_then ?_ | refine ret_block ?_ | refine ret_scope ?_)
                      exact ret_1 Try.results8 hK (rv_tmp hK rfl) ⟨rfl, hS.bel⟩
                  · rw [ifb_f hb_132] at H
                    refine sl_skip hK (by decide) (wtf hb_132) rfl fun a hK => ?_
                    refine sl hK (by decide) rfl rfl (r_pick_f hb_132 hK rfl rfl) fun a hK => ?_
                    refine sl hK (by decide) rfl rfl (r_move hK rfl) fun a hK => ?_
                    refine sl_skip hK (by decide) rfl rfl fun a hK => ?_
                    refine sl_skip hK (by decide) rfl rfl fun a hK => ?_
                    refine sl hK (by decide) rfl rfl (r_pick hK rfl rfl rfl) fun a hK => ?_
                    refine sl hK (by decide) rfl rfl (r_move hK rfl) fun a hK => ?_
                    refine sl_skip hK (by decide) rfl rfl fun a hK => ?_
                    refine sl_skip hK (by decide) rfl rfl fun a hK => ?_
                    refine sl_skip hK (by decide) rfl rfl fun a hK => ?_
                    refine sl_skip hK (by decide) rfl rfl fun a hK => ?_
                    refine sl hK (by decide) rfl rfl (r_pick hK rfl rfl rfl) fun a hK => ?_
                    refine sl hK (by decide) rfl rfl (r_assign hK rfl) fun a hK => ?_
                    refine wpList_nil ?_
                    obtain rfl := Option.some.inj H
                    refine wp_ret ?_
                    repeat (first | refine ret_then ?_ | refine ret_block ?_ | refine ret_scope ?_)
                    exact ret_1 Try.results8 hK (rv_tmp hK rfl) ⟨rfl, hS.bel⟩
                · rw [ifb_f hb_129] at H
                  refine sl_skip hK (by decide) (wtf hb_129) rfl fun a hK => ?_
                  refine sl_skip hK (by decide) (wtf hb_129) rfl fun a hK => ?_
                  refine sl_skip hK (by decide) (wtf hb_129) rfl fun a hK => ?_
                  refine sl_skip hK (by decide) (wtf hb_129) rfl fun a hK => ?_
                  refine sl hK (by decide) rfl rfl (r_pick_f hb_129 hK rfl rfl) fun a hK => ?_
                  refine sl hK (by decide) rfl rfl (r_move hK rfl) fun a hK => ?_
                  refine sl_skip hK (by decide) rfl rfl fun a hK => ?_
                  refine sl hK (by decide) rfl rfl (r_pick hK rfl rfl rfl) fun a hK => ?_
                  refine sl hK (by decide) rfl rfl (r_move hK rfl) fun a hK => ?_
                  refine sl_skip hK (by decide) rfl rfl fun a hK => ?_
                  refine sl_skip hK (by decide) rfl rfl fun a hK => ?_
                  refine sl hK (by decide) rfl rfl (r_pick hK rfl rfl rfl) fun a hK => ?_
                  refine sl hK (by decide) rfl rfl (r_move hK rfl) fun a hK => ?_
                  refine sl_skip hK (by decide) rfl rfl fun a hK => ?_
                  refine sl_skip hK (by decide) rfl rfl fun a hK => ?_
                  refine sl_skip hK (by decide) rfl rfl fun a hK => ?_
                  refine sl_skip hK (by decide) rfl rfl fun a hK => ?_
                  refine sl hK (by decide) rfl rfl (r_pick hK rfl rfl rfl) fun a hK => ?_
                  refine sl hK (by decide) rfl rfl (r_assign hK rfl) fun a hK => ?_
                  refine wpList_nil ?_
                  obtain rfl := Option.some.inj H
                  refine wp_ret ?_
                  repeat (first | refine ret_then ?_ | refine ret_block ?_ | refine ret_scope ?_)
                  exact ret_1 Try.results8 hK (rv_tmp hK rfl) ⟨rfl, hS.bel⟩
              · rw [ifb_f hb_114] at H
                refine sl_skip hK (by decide) (wtf hb_114) rfl fun a hK => ?_
                refine sl_skip hK (by decide) (wtf hb_114) rfl fun a hK => ?_
                refine sl_skip hK (by decide) (wtf hb_114) rfl fun a hK => ?_
                refine sl_skip hK (by decide) (wtf hb_114) rfl fun a hK => ?_
                refine sl hK (by decide) rfl rfl (r_pick_f hb_114 hK rfl rfl) fun a hK => ?_
                refine sl hK (by decide) rfl rfl (r_move hK rfl) fun a hK => ?_
                refine sl_skip hK (by decide) rfl rfl fun a hK => ?_
                refine sl_skip hK (by decide) rfl rfl fun a hK => ?_
                refine sl_skip hK (by decide) rfl rfl fun a hK => ?_
                refine sl_skip hK (by decide) rfl rfl fun a hK => ?_
                refine sl hK (by decide) rfl rfl (r_pick hK rfl rfl rfl) fun a hK => ?_
                refine sl hK (by decide) rfl rfl (r_move hK rfl) fun a hK => ?_
                refine sl_skip hK (by decide) rfl rfl fun a hK => ?_
                refine sl hK (by decide) rfl rfl (r_pick hK rfl rfl rfl) fun a hK => ?_
                refine sl hK (by decide) rfl rfl (r_move hK rfl) fun a hK => ?_
                refine sl_skip hK (by decide) rfl rfl fun a hK => ?_
                refine sl_skip hK (by decide) rfl rfl fun a hK => ?_
                refine sl hK (by decide) rfl rfl (r_pick hK rfl rfl rfl) fun a hK => ?_
                refine sl hK (by decide) rfl rfl (r_move hK rfl) fun a hK => ?_
                refine sl_skip hK (by decide) rfl rfl fun a hK => ?_
                refine sl_skip hK (by decide) rfl rfl fun a hK => ?_
                refine sl_skip hK (by decide) rfl rfl fun a hK => ?_
                refine sl_skip hK (by decide) rfl rfl fun a hK => ?_
                refine sl hK (by decide) rfl rfl (r_pick hK rfl rfl rfl) fun a hK => ?_
                refine sl hK (by decide) rfl rfl (r_assign hK rfl) fun a hK => ?_
                refine wpList_nil ?_
                obtain rfl := Option.some.inj H
                refine wp_ret ?_
                repeat (first | refine ret_then ?_ | refine ret_block ?_ | refine ret_scope ?_)
                exact ret_1 Try.results8 hK (rv_tmp hK rfl) ⟨rfl, hS.bel⟩
            · rw [ifb_f hb_99] at H
              refine sl_skip hK (by decide) (wtf hb_99) rfl fun a hK => ?_
              refine sl_skip hK (by decide) (wtf hb_99) rfl fun a hK => ?_
              refine sl_skip hK (by decide) (wtf hb_99) rfl fun a hK => ?_
              refine sl_skip hK (by decide) (wtf hb_99) rfl fun a hK => ?_
              refine sl hK (by decide) rfl rfl (r_pick_f hb_99 hK rfl rfl) fun a hK => ?_
              refine sl hK (by decide) rfl rfl (r_move hK rfl) fun a hK => ?_
              refine sl_skip hK (by decide) rfl rfl fun a hK => ?_
              refine sl_skip hK (by decide) rfl rfl fun a hK => ?_
              refine sl_skip hK (by decide) rfl rfl fun a hK => ?_
              refine sl_skip hK (by decide) rfl rfl fun a hK => ?_
              refine sl hK (by decide) rfl rfl (r_pick hK rfl rfl rfl) fun a hK => ?_
              refine sl hK (by decide) rfl rfl (r_move hK rfl) fun a hK => ?_
              refine sl_skip hK (by decide) rfl rfl fun a hK => ?_
              refine sl_skip hK (by decide) rfl rfl fun a hK => ?_
              refine sl_skip hK (by decide) rfl rfl fun a hK => ?_
              refine sl_skip hK (by decide) rfl rfl fun a hK => ?_
              refine sl hK (by decide) rfl rfl (r_pick hK rfl rfl rfl) fun a hK => ?_
              refine sl hK (by decide) rfl rfl (r_move hK rfl) fun a hK => ?_
              refine sl_skip hK (by decide) rfl rfl fun a hK => ?_
              refine sl hK (by decide) rfl rfl (r_pick hK rfl rfl rfl) fun a hK => ?_
              refine sl hK (by decide) rfl rfl (r_move hK rfl) fun a hK => ?_
              refine sl_skip hK (by decide) rfl rfl fun a hK => ?_
              refine sl_skip hK (by decide) rfl rfl fun a hK => ?_
              refine sl hK (by decide) rfl rfl (r_pick hK rfl rfl rfl) fun a hK => ?_
              refine sl hK (by decide) rfl rfl (r_move hK rfl) fun a hK => ?_
              refine sl_skip hK (by decide) rfl rfl fun a hK => ?_
              refine sl_skip hK (by decide) rfl rfl fun a hK => ?_
              refine sl_skip hK (by decide) rfl rfl fun a hK => ?_
              refine sl_skip hK (by decide) rfl rfl fun a hK => ?_
              refine sl hK (by decide) rfl rfl (r_pick hK rfl rfl rfl) fun a hK => ?_
              refine sl hK (by decide) rfl rfl (r_assign hK rfl) fun a hK => ?_
              refine wpList_nil ?_
              obtain rfl := Option.some.inj H
              refine wp_ret ?_
              repeat (first | refine ret_then ?_ | refine ret_block ?_ | refine ret_scope ?_)
              exact ret_1 Try.results8 hK (rv_tmp hK rfl) ⟨rfl, hS.bel⟩
          · rw [ifb_f hb_96] at H
            refine sl_skip hK (by decide) (wtf hb_96) rfl fun a hK => ?_
            refine sl_skip hK (by decide) (wtf hb_96) rfl fun a hK => ?_
            refine sl hK (by decide) rfl rfl (r_pick_f hb_96 hK rfl rfl) fun a hK => ?_
            refine sl hK (by decide) rfl rfl (r_move hK rfl) fun a hK => ?_
            refine sl_skip hK (by decide) rfl rfl fun a hK => ?_
            refine sl_skip hK (by decide) rfl rfl fun a hK => ?_
            refine sl_skip hK (by decide) rfl rfl fun a hK => ?_
            refine sl_skip hK (by decide) rfl rfl fun a hK => ?_
            refine sl hK (by decide) rfl rfl (r_pick hK rfl rfl rfl) fun a hK => ?_
            refine sl hK (by decide) rfl rfl (r_move hK rfl) fun a hK => ?_
            refine sl_skip hK (by decide) rfl rfl fun a hK => ?_
            refine sl_skip hK (by decide) rfl rfl fun a hK => ?_
            refine sl_skip hK (by decide) rfl rfl fun a hK => ?_
            refine sl_skip hK (by decide) rfl rfl fun a hK => ?_
            refine sl hK (by decide) rfl rfl (r_pick hK rfl rfl rfl) fun a hK => ?_
            refine sl hK (by decide) rfl rfl (r_move hK rfl) fun a hK => ?_
            refine sl_skip hK (by decide) rfl rfl fun a hK => ?_
            refine sl_skip hK (by decide) rfl rfl fun a hK => ?_
            refine sl_skip hK (by decide) rfl rfl fun a hK => ?_
            refine sl_skip hK (by decide) rfl rfl fun a hK => ?_
            refine sl hK (by decide) rfl rfl (r_pick hK rfl rfl rfl) fun a hK => ?_
            refine sl hK (by decide) rfl rfl (r_move hK rfl) fun a hK => ?_
            refine sl_skip hK (by decide) rfl rfl fun a hK => ?_
            refine sl hK (by decide) rfl rfl (r_pick hK rfl rfl rfl) fun a hK => ?_
            refine sl hK (by decide) rfl rfl (r_move hK rfl) fun a hK => ?_
            refine sl_skip hK (by decide) rfl rfl fun a hK => ?_
            refine sl_skip hK (by decide) rfl rfl fun a hK => ?_
            refine sl hK (by decide) rfl rfl (r_pick hK rfl rfl rfl) fun a hK => ?_
            refine sl hK (by decide) rfl rfl (r_move hK rfl) fun a hK => ?_
            refine sl_skip hK (by decide) rfl rfl fun a hK => ?_
            refine sl_skip hK (by decide) rfl rfl fun a hK => ?_
            refine sl_skip hK (by decide) rfl rfl fun a hK => ?_
            refine sl_skip hK (by decide) rfl rfl fun a hK => ?_
            refine sl hK (by decide) rfl rfl (r_pick hK rfl rfl rfl) fun a hK => ?_
            refine sl hK (by decide) rfl rfl (r_assign hK rfl) fun a hK => ?_
            refine wpList_nil ?_
            obtain rfl := Option.some.inj H
            refine wp_ret ?_
            repeat (first | refine ret_then ?_ | refine ret_block ?_ | refine ret_scope ?_)
            exact ret_1 Try.results8 hK (rv_tmp hK rfl) ⟨rfl, hS.bel⟩
        · rw [ifb_f hb_65] at H
          refine sl_skip hK (by decide) (wtf hb_65) rfl fun a hK => ?_
          refine sl_skip hK (by decide) (wtf hb_65) rfl fun a hK => ?_
          refine sl_skip hK (by decide) (wtf hb_65) rfl fun a hK => ?_
          refine sl_skip hK (by decide) (wtf hb_65) rfl fun a hK => ?_
          refine sl_skip hK (by decide) (wtf hb_65) rfl fun a hK => ?_
          refine sl_skip hK (by decide) (wtf hb_65) rfl fun a hK => ?_
          refine sl hK (by decide) rfl rfl (r_pick_f hb_65 hK rfl rfl) fun a hK => ?_
          refine sl hK (by decide) rfl rfl (r_move hK rfl) fun a hK => ?_
          refine sl_skip hK (by decide) rfl rfl fun a hK => ?_
          refine sl_skip hK (by decide) rfl rfl fun a hK => ?_
          refine sl hK (by decide) rfl rfl (r_pick hK rfl rfl rfl) fun a hK => ?_
          refine sl hK (by decide) rfl rfl (r_move hK rfl) fun a hK => ?_
          refine sl_skip hK (by decide) rfl rfl fun a hK => ?_
          refine sl_skip hK (by decide) rfl rfl fun a hK => ?_
          refine sl_skip hK (by decide) rfl rfl fun a hK => ?_
          refine sl_skip hK (by decide) rfl rfl fun a hK => ?_
          refine sl hK (by decide) rfl rfl (r_pick hK rfl rfl rfl) fun a hK => ?_
          refine sl hK (by decide) rfl rfl (r_move hK rfl) fun a hK => ?_
          refine sl_skip hK (by decide) rfl rfl fun a hK => ?_
          refine sl_skip hK (by decide) rfl rfl fun a hK => ?_
          refine sl_skip hK (by decide) rfl rfl fun a hK => ?_
          refine sl_skip hK (by decide) rfl rfl fun a hK => ?_
          refine sl hK (by decide) rfl rfl (r_pick hK rfl rfl rfl) fun a hK => ?_
          refine sl hK (by decide) rfl rfl (r_move hK rfl) fun a hK => ?_
          refine sl_skip hK (by decide) rfl rfl fun a hK => ?_
          refine sl_skip hK (by decide) rfl rfl fun a hK => ?_
          refine sl_skip hK (by decide) rfl rfl fun a hK => ?_
          refine sl_skip hK (by decide) rfl rfl fun a hK => ?_
          refine sl hK (by decide) rfl rfl (r_pick hK rfl rfl rfl) fun a hK => ?_
          refine sl hK (by decide) rfl rfl (r_move hK rfl) fun a hK => ?_
          refine sl_skip hK (by decide) rfl rfl fun a hK => ?_
          refine sl hK (by decide) rfl rfl (r_pick hK rfl rfl rfl) fun a hK => ?_
          refine sl hK (by decide) rfl rfl (r_move hK rfl) fun a hK => ?_
          refine sl_skip hK (by decide) rfl rfl fun a hK => ?_
          refine sl_skip hK (by decide) rfl rfl fun a hK => ?_
          refine sl hK (by decide) rfl rfl (r_pick hK rfl rfl rfl) fun a hK => ?_
          refine sl hK (by decide) rfl rfl (r_move hK rfl) fun a hK => ?_
          refine sl_skip hK (by decide) rfl rfl fun a hK => ?_
          refine sl_skip hK (by decide) rfl rfl fun a hK => ?_
          refine sl_skip hK (by decide) rfl rfl fun a hK => ?_
          refine sl_skip hK (by decide) rfl rfl fun a hK => ?_
          refine sl hK (by decide) rfl rfl (r_pick hK rfl rfl rfl) fun a hK => ?_
          refine sl hK (by decide) rfl rfl (r_assign hK rfl) fun a hK => ?_
          refine wpList_nil ?_
          obtain rfl := Option.some.inj H
          refine wp_ret ?_
          repeat (first | refine ret_then ?_ | refine ret_block ?_ | refine ret_scope ?_)
          exact ret_1 Try.results8 hK (rv_tmp hK rfl) ⟨rfl, hS.bel⟩
      · rw [ifb_f hb_62] at H
        refine sl_skip hK (by decide) (wtf hb_62) rfl fun a hK => ?_
        refine sl_skip hK (by decide) (wtf hb_62) rfl fun a hK => ?_
        refine sl_skip hK (by decide) (wtf hb_62) rfl fun a hK => ?_
        refine sl hK (by decide) rfl rfl (r_pick_f hb_62 hK rfl rfl) fun a hK => ?_
        refine sl hK (by decide) rfl rfl (r_move hK rfl) fun a hK => ?_
        refine sl_skip hK (by decide) rfl rfl fun a hK => ?_
        refine sl_skip hK (by decide) rfl rfl fun a hK => ?_
        refine sl_skip hK (by decide) rfl rfl fun a hK => ?_
        refine sl_skip hK (by decide) rfl rfl fun a hK => ?_
        refine sl_skip hK (by decide) rfl rfl fun a hK => ?_
        refine sl_skip hK (by decide) rfl rfl fun a hK => ?_
        refine sl hK (by decide) rfl rfl (r_pick hK rfl rfl rfl) fun a hK => ?_
        refine sl hK (by decide) rfl rfl (r_move hK rfl) fun a hK => ?_
        refine sl_skip hK (by decide) rfl rfl fun a hK => ?_
        refine sl_skip hK (by decide) rfl rfl fun a hK => ?_
        refine sl hK (by decide) rfl rfl (r_pick hK rfl rfl rfl) fun a hK => ?_
        refine sl hK (by decide) rfl rfl (r_move hK rfl) fun a hK => ?_
        refine sl_skip hK (by decide) rfl rfl fun a hK => ?_
        refine sl_skip hK (by decide) rfl rfl fun a hK => ?_
        refine sl_skip hK (by decide) rfl rfl fun a hK => ?_
        refine sl_skip hK (by decide) rfl rfl fun a hK => ?_
        refine sl hK (by decide) rfl rfl (r_pick hK rfl rfl rfl) fun a hK => ?_
        refine sl hK (by decide) rfl rfl (r_move hK rfl) fun a hK => ?_
        refine sl_skip hK (by decide) rfl rfl fun a hK => ?_
        refine sl_skip hK (by decide) rfl rfl fun a hK => ?_
        refine sl_skip hK (by decide) rfl rfl fun a hK => ?_
        refine sl_skip hK (by decide) rfl rfl fun a hK => ?_
        refine sl hK (by decide) rfl rfl (r_pick hK rfl rfl rfl) fun a hK => ?_
        refine sl hK (by decide) rfl rfl (r_move hK rfl) fun a hK => ?_
        refine sl_skip hK (by decide) rfl rfl fun a hK => ?_
        refine sl_skip hK (by decide) rfl rfl fun a hK => ?_
        refine sl_skip hK (by decide) rfl rfl fun a hK => ?_
        refine sl_skip hK (by decide) rfl rfl fun a hK => ?_
        refine sl hK (by decide) rfl rfl (r_pick hK rfl rfl rfl) fun a hK => ?_
        refine sl hK (by decide) rfl rfl (r_move hK rfl) fun a hK => ?_
        refine sl_skip hK (by decide) rfl rfl fun a hK => ?_
        refine sl hK (by decide) rfl rfl (r_pick hK rfl rfl rfl) fun a hK => ?_
        refine sl hK (by decide) rfl rfl (r_move hK rfl) fun a hK => ?_
        refine sl_skip hK (by decide) rfl rfl fun a hK => ?_
        refine sl_skip hK (by decide) rfl rfl fun a hK => ?_
        refine sl hK (by decide) rfl rfl (r_pick hK rfl rfl rfl) fun a hK => ?_
        refine sl hK (by decide) rfl rfl (r_move hK rfl) fun a hK => ?_
        refine sl_skip hK (by decide) rfl rfl fun a hK => ?_
        refine sl_skip hK (by decide) rfl rfl fun a hK => ?_
        refine sl_skip hK (by decide) rfl rfl fun a hK => ?_
        refine sl_skip hK (by decide) rfl rfl fun a hK => ?_
        refine sl hK (by decide) rfl rfl (r_pick hK rfl rfl rfl) fun a hK => ?_
        refine sl hK (by decide) rfl rfl (r_assign hK rfl) fun a hK => ?_
        refine wpList_nil ?_
        obtain rfl := Option.some.inj H
        refine wp_ret ?_
        repeat (first | refine ret_then ?_ | refine ret_block ?_ | refine ret_scope ?_)
        exact ret_1 Try.results8 hK (rv_tmp hK rfl) ⟨rfl, hS.bel⟩
    · rw [ifb_f hb_59] at H
      refine sl_skip hK (by decide) (wtf hb_59) rfl fun a hK => ?_
      refine sl_skip hK (by decide) (wtf hb_59) rfl fun a hK => ?_
      refine sl hK (by decide) rfl rfl (r_pick_f hb_59 hK rfl rfl) fun a hK => ?_
      refine sl hK (by decide) rfl rfl (r_move hK rfl) fun a hK => ?_
      refine sl_skip hK (by decide) rfl rfl fun a hK => ?_
      refine sl_skip hK (by decide) rfl rfl fun a hK => ?_
      refine sl_skip hK (by decide) rfl rfl fun a hK => ?_
      refine sl hK (by decide) rfl rfl (r_pick hK rfl rfl rfl) fun a hK => ?_
      refine sl hK (by decide) rfl rfl (r_move hK rfl) fun a hK => ?_
      refine sl_skip hK (by decide) rfl rfl fun a hK => ?_
      refine sl_skip hK (by decide) rfl rfl fun a hK => ?_
      refine sl_skip hK (by decide) rfl rfl fun a hK => ?_
      refine sl_skip hK (by decide) rfl rfl fun a hK => ?_
      refine sl_skip hK (by decide) rfl rfl fun a hK => ?_
      refine sl_skip hK (by decide) rfl rfl fun a hK => ?_
      refine sl hK (by decide) rfl rfl (r_pick hK rfl rfl rfl) fun a hK => ?_
      refine sl hK (by decide) rfl rfl (r_move hK rfl) fun a hK => ?_
      refine sl_skip hK (by decide) rfl rfl fun a hK => ?_
      refine sl_skip hK (by decide) rfl rfl fun a hK => ?_
      refine sl hK (by decide) rfl rfl (r_pick hK rfl rfl rfl) fun a hK => ?_
      refine sl hK (by decide) rfl rfl (r_move hK rfl) fun a hK => ?_
      refine sl_skip hK (by decide) rfl rfl fun a hK => ?_
      refine sl_skip hK (by decide) rfl rfl fun a hK => ?_
      refine sl_skip hK (by decide) rfl rfl fun a hK => ?_
      refine sl_skip hK (by decide) rfl rfl fun a hK => ?_
      refine sl hK (by decide) rfl rfl (r_pick hK rfl rfl rfl) fun a hK => ?_
      refine sl hK (by decide) rfl rfl (r_move hK rfl) fun a hK => ?_
      refine sl_skip hK (by decide) rfl rfl fun a hK => ?_
      refine sl_skip hK (by decide) rfl rfl fun a hK => ?_
      refine sl_skip hK (by decide) rfl rfl fun a hK => ?_
      refine sl_skip hK (by decide) rfl rfl fun a hK => ?_
      refine sl hK (by decide) rfl rfl (r_pick hK rfl rfl rfl) fun a hK => ?_
      refine sl hK (by decide) rfl rfl (r_move hK rfl) fun a hK => ?_
      refine sl_skip hK (by decide) rfl rfl fun a hK => ?_
      refine sl_skip hK (by decide) rfl rfl fun a hK => ?_
      refine sl_skip hK (by decide) rfl rfl fun a hK => ?_
      refine sl_skip hK (by decide) rfl rfl fun a hK => ?_
      refine sl hK (by decide) rfl rfl (r_pick hK rfl rfl rfl) fun a hK => ?_
      refine sl hK (by decide) rfl rfl (r_move hK rfl) fun a hK => ?_
      refine sl_skip hK (by decide) rfl rfl fun a hK => ?_
      refine sl hK (by decide) rfl rfl (r_pick hK rfl rfl rfl) fun a hK => ?_
      refine sl hK (by decide) rfl rfl (r_move hK rfl) fun a hK => ?_
      refine sl_skip hK (by decide) rfl rfl fun a hK => ?_
      refine sl_skip hK (by decide) rfl rfl fun a hK => ?_
      refine sl hK (by decide) rfl rfl (r_pick hK rfl rfl rfl) fun a hK => ?_
      refine sl hK (by decide) rfl rfl (r_move hK rfl) fun a hK => ?_
      refine sl_skip hK (by decide) rfl rfl fun a hK => ?_
      refine sl_skip hK (by decide) rfl rfl fun a hK => ?_
      refine sl_skip hK (by decide) rfl rfl fun a hK => ?_
      refine sl_skip hK (by decide) rfl rfl fun a hK => ?_
      refine sl hK (by decide) rfl rfl (r_pick hK rfl rfl rfl) fun a hK => ?_
      refine sl hK (by decide) rfl rfl (r_assign hK rfl) fun a hK => ?_
      refine wpList_nil ?_
      obtain rfl := Option.some.inj H
      refine wp_ret ?_
      repeat (first | refine ret_then ?_ | refine ret_block ?_ | refine ret_scope ?_)
      exact ret_1 Try.results8 hK (rv_tmp hK rfl) ⟨rfl, hS.bel⟩
  · rw [ifb_f hb_56] at H
    refine sl_skip hK (by decide) (wtf hb_56) rfl fun a hK => ?_
    refine sl_skip hK (by decide) (wtf hb_56) rfl fun a hK => ?_
    refine sl hK (by decide) rfl rfl (r_pick_f hb_56 hK rfl rfl) fun a hK => ?_
    refine sl hK (by decide) rfl rfl (r_move hK rfl) fun a hK => ?_
    refine sl_skip hK (by decide) rfl rfl fun a hK => ?_
    refine sl_skip hK (by decide) rfl rfl fun a hK => ?_
    refine sl hK (by decide) rfl rfl (r_pick hK rfl rfl rfl) fun a hK => ?_
    refine sl hK (by decide) rfl rfl (r_move hK rfl) fun a hK => ?_
    refine sl_skip hK (by decide) rfl rfl fun a hK => ?_
    refine sl_skip hK (by decide) rfl rfl fun a hK => ?_
    refine sl_skip hK (by decide) rfl rfl fun a hK => ?_
    refine sl hK (by decide) rfl rfl (r_pick hK rfl rfl rfl) fun a hK => ?_
    refine sl hK (by decide) rfl rfl (r_move hK rfl) fun a hK => ?_
    refine sl_skip hK (by decide) rfl rfl fun a hK => ?_
    refine sl_skip hK (by decide) rfl rfl fun a hK => ?_
    refine sl_skip hK (by decide) rfl rfl fun a hK => ?_
    refine sl_skip hK (by decide) rfl rfl fun a hK => ?_
    refine sl_skip hK (by decide) rfl rfl fun a hK => ?_
    refine sl_skip hK (by decide) rfl rfl fun a hK => ?_
    refine sl hK (by decide) rfl rfl (r_pick hK rfl rfl rfl) fun a hK => ?_
    refine sl hK (by decide) rfl rfl (r_move hK rfl) fun a hK => ?_
    refine sl_skip hK (by decide) rfl rfl fun a hK => ?_
    refine sl_skip hK (by decide) rfl rfl fun a hK => ?_
    refine sl hK (by decide) rfl rfl (r_pick hK rfl rfl rfl) fun a hK => ?_
    refine sl hK (by decide) rfl rfl (r_move hK rfl) fun a hK => ?_
    refine sl_skip hK (by decide) rfl rfl fun a hK => ?_
    refine sl_skip hK (by decide) rfl rfl fun a hK => ?_
    refine sl_skip hK (by decide) rfl rfl fun a hK => ?_
    refine sl_skip hK (by decide) rfl rfl fun a hK => ?_
    refine sl hK (by decide) rfl rfl (r_pick hK rfl rfl rfl) fun a hK => ?_
    refine sl hK (by decide) rfl rfl (r_move hK rfl) fun a hK => ?_
    refine sl_skip hK (by decide) rfl rfl fun a hK => ?_
    refine sl_skip hK (by decide) rfl rfl fun a hK => ?_
    refine sl_skip hK (by decide) rfl rfl fun a hK => ?_
    refine sl_skip hK (by decide) rfl rfl fun a hK => ?_
    refine sl hK (by decide) rfl rfl (r_pick hK rfl rfl rfl) fun a hK => ?_
    refine sl hK (by decide) rfl rfl (r_move hK rfl) fun a hK => ?_
    refine sl_skip hK (by decide) rfl rfl fun a hK => ?_
    refine sl_skip hK (by decide) rfl rfl fun a hK => ?_
    refine sl_skip hK (by decide) rfl rfl fun a hK => ?_
    refine sl_skip hK (by decide) rfl rfl fun a hK => ?_
    refine sl hK (by decide) rfl rfl (r_pick hK rfl rfl rfl) fun a hK => ?_
    refine sl hK (by decide) rfl rfl (r_move hK rfl) fun a hK => ?_
    refine sl_skip hK (by decide) rfl rfl fun a hK => ?_
    refine sl hK (by decide) rfl rfl (r_pick hK rfl rfl rfl) fun a hK => ?_
    refine sl hK (by decide) rfl rfl (r_move hK rfl) fun a hK => ?_
    refine sl_skip hK (by decide) rfl rfl fun a hK => ?_
    refine sl_skip hK (by decide) rfl rfl fun a hK => ?_
    refine sl hK (by decide) rfl rfl (r_pick hK rfl rfl rfl) fun a hK => ?_
    refine sl hK (by decide) rfl rfl (r_move hK rfl) fun a hK => ?_
    refine sl_skip hK (by decide) rfl rfl fun a hK => ?_
    refine sl_skip hK (by decide) rfl rfl fun a hK => ?_
    refine sl_skip hK (by decide) rfl rfl fun a hK => ?_
    refine sl_skip hK (by decide) rfl rfl fun a hK => ?_
    refine sl hK (by decide) rfl rfl (r_pick hK rfl rfl rfl) fun a hK => ?_
    refine sl hK (by decide) rfl rfl (r_assign hK rfl) fun a hK => ?_
    refine wpList_nil ?_
    obtain rfl := Option.some.inj H
    refine wp_ret ?_
    repeat (first | refine ret_then ?_ | refine ret_block ?_ | refine ret_scope ?_)
    exact ret_1 Try.results8 hK (rv_tmp hK rfl) ⟨rfl, hS.bel⟩

/-! ### catchment/catchmentref05.Find: function 10 -/
set_option maxHeartbeats 4000000 in
set_option maxRecDepth 100000 in
theorem ref05_Find.calls (a0 : List api_Schema) (a1 : ByteArray) {w0 : World} {R : Hp} {v0_0 : Value} (hR : R.sub w0) (h0_0 : SlR ty_api_Schema R v0_0 a0) {r : api_Schema × Bool} (H : ref05_Find a0 a1 = some r) : Calls Try.prog 10 #[v0_0, .string a1] w0 (Rets fun v w' => ∃ (R' : Hp) (u0 : Value) (u1 : Value), v = .tuple #[.agg #[.string r.1.Name, u0, u1], .bool r.2] ∧ St [] w0 w' R' [] ∧ RLe [] w0 R R' ∧ SlR ty_api_Col R' u0 r.1.Keys ∧ SlR ty_api_Col R' u1 r.1.Vals) := by
  unfold ref05_Find at H
  refine enter (args := [v0_0, .string a1]) Try.func10 rfl Try.ntmps10 rfl fun a hK => ?_
  have hS := St.init hR
  have hRL := RLe.refl (M := []) w0 R
  refine wp_seq ?_
  refine wp_region_lit ?_
  refine sl_alloc Try.zeroValue26 hS hK (by decide) rfl rfl fun a w b_1 hS hK => ?_
  refine sl hK (by decide) rfl rfl (r_assign hK rfl) fun a hK => ?_
  refine wpList_nil ?_
  refine wp_seq ?_
  refine wp_seq ?_
  refine wp_region_lit ?_
  refine sl hK (by decide) rfl rfl (r_assign hK rfl) fun a hK => ?_
  refine wpList_nil ?_
  refine wp_block ?_
  refine wp_loop_k (fun k_l0 a w => ∃ (x_31 : Int), ref05_Find.l0 a0 a1 k_l0 x_31 = some r ∧ Kn 25 a [(0, v0_0), (1, .string a1), (4, .pointer (some ⟨b_1, 0, none⟩)), (6, .int .i64 x_31)] ∧ St [] w0 w R [.cells b_1 [.string (⟨#[]⟩ : ByteArray), .slice none 0 0, .slice none 0 0] 26]) (((a0.length : Int) - 0).toNat + 1) ?_ ?_
  · exact ⟨0, H, hK.sub (all_cons rfl (all_cons rfl (all_cons rfl (all_cons rfl (all_nil))))), hS⟩
  · rintro k_l0 a w ⟨x_31, H, hK, hS⟩
    cases k_l0 with
    | zero => cases H
    | succ k_l0 =>
    rw [ref05_Find.l0.eq_2] at H
    refine wp_seq ?_
    refine wp_seq ?_
    refine wp_region_lit ?_
    refine sl hK (by decide) rfl rfl (r_move hK rfl) fun a hK => ?_
    refine sl hK (by decide) rfl rfl (r_move hK rfl) fun a hK => ?_
    refine sl hK (by decide) rfl rfl (r_len_R Try.underlying22 h0_0 hK rfl) fun a hK => ?_
    refine sl hK (by decide) rfl rfl (r_ibin hK rfl rfl rfl) fun a hK => ?_
    refine wpList_nil ?_
    refine wp_cond_split (hK.ev rfl) (fun (hb_61 : (decide (x_31 < (a0.length : Int))) = true) => ?_) (fun (hb_61 : (decide (x_31 < (a0.length : Int))) = false) => ?_)
    · rw [ifb_t hb_61] at H
      refine wp_skip ?_
      refine wp_seq ?_
      refine wp_block ?_
      refine wp_seq ?_
      refine wp_region_lit ?_
      refine sl hK (by decide) rfl rfl (r_move hK rfl) fun a hK => ?_
      refine sl hK (by decide) rfl rfl (r_move hK rfl) fun a hK => ?_
      obtain ⟨y_62, h_63, H⟩ := bind_some H
      obtain ⟨b_64, o_65, c_66, cs_67, hv_68, hr_69, hc_70, h_630, h_631⟩ := h0_0.ix h_63
      obtain ⟨v_71, v_73, rfl, hs_72, hs_74⟩ := hr_69
      refine sl hK (by decide) rfl rfl (r_indexAddr_R Try.underlying22 Try.sizeOf26 hv_68 h_630 h_631 hK rfl rfl) fun a hK => ?_
      refine sl hK (by decide) rfl rfl (r_fieldAddr Try.underlying26 rfl Try.sizeOf9 hK rfl) fun a hK => ?_
      refine sl hK (by decide) rfl rfl (r_load Try.isAgg9 hK rfl (hS.sub.cell (hc_70 0 _ rfl))) fun a hK => ?_
      refine sl hK (by decide) rfl rfl (r_move hK rfl) fun a hK => ?_
      refine sl hK (by decide) rfl rfl (r_sbin hK rfl rfl rfl) fun a hK => ?_
      refine wpList_nil ?_
      refine wp_cond_split (hK.ev rfl) (fun (hb_75 : (y_62.Name.toList == a1.toList) = true) => ?_) (fun (hb_75 : (y_62.Name.toList == a1.toList) = false) => ?_)
      · rw [ifb_t hb_75] at H
        refine wp_seq ?_
        refine wp_region_lit ?_
        refine sl hK (by decide) rfl rfl (r_move hK rfl) fun a hK => ?_
        refine sl hK (by decide) rfl rfl (r_move hK rfl) fun a hK => ?_
        obtain ⟨y_76, h_77, H⟩ := bind_some H
        obtain ⟨b_78, o_79, c_80, cs_81, hv_82, hr_83, hc_84, h_770, h_771⟩ := h0_0.ix h_77
        obtain ⟨v_85, v_87, rfl, hs_86, hs_88⟩ := hr_83
        refine sl hK (by decide) rfl rfl (r_indexAddr_R Try.underlying22 Try.sizeOf26 hv_82 h_770 h_771 hK rfl rfl) fun a hK => ?_
        refine sl hK (by decide) rfl rfl (r_loadA (cs := [.string y_76.Name, v_85, v_87]) Try.isAgg26 Try.sizeOf26 rfl hK rfl (fun j v hv => hS.sub.cell (hc_84 j v hv))) fun a hK => ?_
        refine sl_storeA (vs := [.string y_76.Name, v_85, v_87]) (c' := [.string y_76.Name, v_85, v_87]) Try.sizeOf26 hS hK rfl rfl rfl rfl (all_cons rfl (all_cons hs_86.one (all_cons hs_88.one (all_nil)))) (Nat.le_of_ble_eq_true rfl) rfl fun a w hS hK => ?_
        refine sl hK (by decide) rfl rfl (r_assign hK rfl) fun a hK => ?_
        refine wpList_nil ?_
        obtain rfl := Option.some.inj H
        refine wp_ret ?_
        repeat (first | refine ret_then ?_ | refine ret_block ?_ | refine ret_scope ?_)
        exact ret_2 Try.results10 hK (rv_cell (c := [.string y_76.Name, v_85, v_87]) Try.isAgg26 Try.sizeOf26 hS (.head _) rfl hK rfl) (rv_tmp hK rfl) ⟨_, rfl, _, _, _, rfl, (hS.trunc 0), hRL, hs_86, hs_88⟩
      · rw [ifb_f hb_75] at H
        refine wp_skip ?_
        refine wp_region_lit ?_
        refine sl hK (by decide) rfl rfl (r_move hK rfl) fun a hK => ?_
        refine sl hK (by decide) rfl rfl (r_ibin hK rfl rfl rfl) fun a hK => ?_
        refine sl hK (by decide) rfl rfl (r_assign hK rfl) fun a hK => ?_
        refine wpList_nil ?_
        exact ⟨_, Nat.lt_succ_self _, (IntKind.i64.wrap (x_31 + 1)), H, hK.sub (all_cons rfl (all_cons rfl (all_cons rfl (all_cons rfl (all_nil))))), hS⟩
    · rw [ifb_f hb_61] at H
      refine wp_exit ?_
      refine wp_seq ?_
      refine wp_region_lit ?_
      refine sl hK (by decide) rfl rfl (r_buildC (ps := []) (c := [.string (⟨#[]⟩ : ByteArray), .slice none 0 0, .slice none 0 0]) Try.underlying26 Try.zeroValue26 places26 hK rfl pc_nil rfl rfl) fun a hK => ?_
      refine sl_storeA (vs := [.string (⟨#[]⟩ : ByteArray), .slice none 0 0, .slice none 0 0]) (c' := [.string (⟨#[]⟩ : ByteArray), .slice none 0 0, .slice none 0 0]) Try.sizeOf26 hS hK rfl rfl rfl rfl (all_cons rfl (all_cons rfl (all_cons rfl (all_nil)))) (Nat.le_of_ble_eq_true rfl) rfl fun a w hS hK => ?_
      refine sl hK (by decide) rfl rfl (r_assign hK rfl) fun a hK => ?_
      refine wpList_nil ?_
      obtain rfl := Option.some.inj H
      refine wp_ret ?_
      repeat (first | refine ret_then ?_ | refine ret_block ?_ | refine ret_scope ?_)
      exact ret_2 Try.results10 hK (rv_cell (c := [.string (⟨#[]⟩ : ByteArray), .slice none 0 0, .slice none 0 0]) Try.isAgg26 Try.sizeOf26 hS (.head _) rfl hK rfl) (rv_tmp hK rfl) ⟨_, rfl, _, _, _, rfl, (hS.trunc 0), hRL, SlR.nil _ _, SlR.nil _ _⟩

/-! ### catchment/catchmentref02.SameCols: function 12 -/
set_option maxHeartbeats 4000000 in
set_option maxRecDepth 100000 in
theorem ref02_SameCols.calls (a0 : List api_Col) (a1 : List api_Col) {w0 : World} {RA : Hp} {v0_0 : Value} {v1_0 : Value} (hRA : RA.sub w0) (h0_0 : SlR ty_api_Col RA v0_0 a0) (h1_0 : SlR ty_api_Col RA v1_0 a1) {r : Bool} (H : ref02_SameCols a0 a1 = some r) : CallsV Try.prog 12 #[v0_0, v1_0] w0 (.bool r) := by
  unfold ref02_SameCols at H
  refine enter (args := [v0_0, v1_0]) Try.func12 rfl Try.ntmps12 rfl fun a hK => ?_
  have hS := St.init (R := fun _ => none) (w := w0) (fun _ _ h => by cases h)
  have hRL := RLe.refl (M := []) w0 (fun _ => none)
  refine wp_seq ?_
  refine wp_region_lit ?_
  refine sl hK (by decide) rfl rfl (r_assign hK rfl) fun a hK => ?_
  refine wpList_nil ?_
  refine wp_seq ?_
  refine wp_seq ?_
  refine wp_region_lit ?_
  refine sl hK (by decide) rfl rfl (r_move hK rfl) fun a hK => ?_
  refine sl hK (by decide) rfl rfl (r_len_R Try.underlying24 h0_0 hK rfl) fun a hK => ?_
  refine sl hK (by decide) rfl rfl (r_move hK rfl) fun a hK => ?_
  refine sl hK (by decide) rfl rfl (r_len_R Try.underlying24 h1_0 hK rfl) fun a hK => ?_
  refine sl hK (by decide) rfl rfl (r_ibin hK rfl rfl rfl) fun a hK => ?_
  refine wpList_nil ?_
  refine wp_cond_split (hK.ev rfl) (fun (hb_1 : ((a0.length : Int) != (a1.length : Int)) = true) => ?_) (fun (hb_1 : ((a0.length : Int) != (a1.length : Int)) = false) => ?_)
  · rw [ifb_t hb_1] at H
    refine wp_seq ?_
    refine wp_region_lit ?_
    refine sl hK (by decide) rfl rfl (r_assign hK rfl) fun a hK => ?_
    refine wpList_nil ?_
    obtain rfl := Option.some.inj H
    refine wp_ret ?_
    repeat (first | refine ret_then ?_ | refine ret_block ?_ | refine ret_scope ?_)
    exact ret_1 Try.results12 hK (rv_tmp hK rfl) ⟨rfl, hS.bel⟩
  · rw [ifb_f hb_1] at H
    refine wp_skip ?_
    refine wp_seq ?_
    refine wp_seq ?_
    refine wp_region_lit ?_
    refine sl hK (by decide) rfl rfl (r_assign hK rfl) fun a hK => ?_
    refine wpList_nil ?_
    refine wp_block ?_
    refine wp_loop_k (fun k_l0 a w => ∃ (x_41 : Int), ref02_SameCols.l0 a0 a1 k_l0 x_41 = some r ∧ Kn 26 a [(0, v0_0), (1, v1_0), (5, .int .i64 x_41)] ∧ St [] w0 w (fun _ => none) []) (((a0.length : Int) - 0).toNat + 1) ?_ ?_
    · exact ⟨0, H, hK.sub (all_cons rfl (all_cons rfl (all_cons rfl (all_nil)))), hS⟩
    · rintro k_l0 a w ⟨x_41, H, hK, hS⟩
      cases k_l0 with
      | zero => cases H
      | succ k_l0 =>
      rw [ref02_SameCols.l0.eq_2] at H
      refine wp_seq ?_
      refine wp_seq ?_
      refine wp_region_lit ?_
      refine sl hK (by decide) rfl rfl (r_move hK rfl) fun a hK => ?_
      refine sl hK (by decide) rfl rfl (r_move hK rfl) fun a hK => ?_
      refine sl hK (by decide) rfl rfl (r_len_R Try.underlying24 h0_0 hK rfl) fun a hK => ?_
      refine sl hK (by decide) rfl rfl (r_ibin hK rfl rfl rfl) fun a hK => ?_
      refine wpList_nil ?_
      refine wp_cond_split (hK.ev rfl) (fun (hb_81 : (decide (x_41 < (a0.length : Int))) = true) => ?_) (fun (hb_81 : (decide (x_41 < (a0.length : Int))) = false) => ?_)
      · rw [ifb_t hb_81] at H
        refine wp_skip ?_
        refine wp_seq ?_
        refine wp_block ?_
        refine wp_seq ?_
        refine par_region (C := fun w => St [] w0 w (fun _ => none) []) [(0, true), (1, true), (2, true), (3, true), (4, true), (5, true), (6, true), (7, true), (8, true)] mixed (by kernel_rfl) hS (fun w hS => hS) fun w hS => ?_
        refine sp (k := 0) rfl hK (by decide) rfl rfl (fun w hS => r_move hK rfl) fun a hK => ?_
        refine sp (k := 1) rfl hK (by decide) rfl rfl (fun w hS => r_move hK rfl) fun a hK => ?_
        obtain ⟨y_100, h_101, H⟩ := bind_some H
        obtain ⟨b_102, o_103, c_104, cs_105, hv_106, hr_107, hc_108, h_1010, h_1011⟩ := h0_0.ix h_101
        subst hr_107
        refine sp (k := 2) rfl hK (by decide) rfl rfl (fun w hS => r_indexAddr_R Try.underlying24 Try.sizeOf52 hv_106 h_1010 h_1011 hK rfl rfl) fun a hK => ?_
        refine sp (k := 3) rfl hK (by decide) rfl rfl (fun w hS => r_loadA (cs := [.string y_100.Name, .int .i64 y_100.Kind]) Try.isAgg52 Try.sizeOf52 rfl hK rfl (fun j v hv => (hS.ra hRA nil_not).cell (hc_108 j v hv))) fun a hK => ?_
        refine sp (k := 4) rfl hK (by decide) rfl rfl (fun w hS => r_move hK rfl) fun a hK => ?_
        refine sp (k := 5) rfl hK (by decide) rfl rfl (fun w hS => r_move hK rfl) fun a hK => ?_
        obtain ⟨y_109, h_110, H⟩ := bind_some H
        obtain ⟨b_111, o_112, c_113, cs_114, hv_115, hr_116, hc_117, h_1100, h_1101⟩ := h1_0.ix h_110
        subst hr_116
        refine sp (k := 6) rfl hK (by decide) rfl rfl (fun w hS => r_indexAddr_R Try.underlying24 Try.sizeOf52 hv_115 h_1100 h_1101 hK rfl rfl) fun a hK => ?_
        refine sp (k := 7) rfl hK (by decide) rfl rfl (fun w hS => r_loadA (cs := [.string y_109.Name, .int .i64 y_109.Kind]) Try.isAgg52 Try.sizeOf52 rfl hK rfl (fun j v hv => (hS.ra hRA nil_not).cell (hc_117 j v hv))) fun a hK => ?_
        refine sp (k := 8) rfl hK (by decide) rfl rfl (fun w hS => r_sne (by kernel_rfl) (eqs52 y_100 y_109) hK rfl rfl) fun a hK => ?_
        refine wpPar_nil (NoP_nil ?_)
        refine wp_cond_split (hK.ev rfl) (fun (hb_118 : (!decide (y_100 = y_109)) = true) => ?_) (fun (hb_118 : (!decide (y_100 = y_109)) = false) => ?_)
        · rw [ifb_t hb_118] at H
          refine wp_seq ?_
          refine wp_region_lit ?_
          refine sl hK (by decide) rfl rfl (r_assign hK rfl) fun a hK => ?_
          refine wpList_nil ?_
          obtain rfl := Option.some.inj H
          refine wp_ret ?_
          repeat (first | refine ret_then ?_ | refine ret_block ?_ | refine ret_scope ?_)
          exact ret_1 Try.results12 hK (rv_tmp hK rfl) ⟨rfl, hS.bel⟩
        · rw [ifb_f hb_118] at H
          refine wp_skip ?_
          refine wp_region_lit ?_
          refine sl hK (by decide) rfl rfl (r_move hK rfl) fun a hK => ?_
          refine sl hK (by decide) rfl rfl (r_ibin hK rfl rfl rfl) fun a hK => ?_
          refine sl hK (by decide) rfl rfl (r_assign hK rfl) fun a hK => ?_
          refine wpList_nil ?_
          exact ⟨_, Nat.lt_succ_self _, (IntKind.i64.wrap (x_41 + 1)), H, hK.sub (all_cons rfl (all_cons rfl (all_cons rfl (all_nil)))), hS⟩
      · rw [ifb_f hb_81] at H
        refine wp_exit ?_
        refine wp_seq ?_
        refine wp_region_lit ?_
        refine sl hK (by decide) rfl rfl (r_assign hK rfl) fun a hK => ?_
        refine wpList_nil ?_
        obtain rfl := Option.some.inj H
        refine wp_ret ?_
        repeat (first | refine ret_then ?_ | refine ret_block ?_ | refine ret_scope ?_)
        exact ret_1 Try.results12 hK (rv_tmp hK rfl) ⟨rfl, hS.bel⟩

/-! ### catchment/catchmentlaw05.same: function 11 -/
set_option maxHeartbeats 4000000 in
set_option maxRecDepth 100000 in
theorem law05_same.calls (a0 : api_Schema) (a1 : api_Schema) {w0 : World} {RA : Hp} {v0_0 : Value} {v0_1 : Value} {v1_0 : Value} {v1_1 : Value} (hRA : RA.sub w0) (h0_0 : SlR ty_api_Col RA v0_0 a0.Keys) (h0_1 : SlR ty_api_Col RA v0_1 a0.Vals) (h1_0 : SlR ty_api_Col RA v1_0 a1.Keys) (h1_1 : SlR ty_api_Col RA v1_1 a1.Vals) {r : Bool} (H : law05_same a0 a1 = some r) : CallsV Try.prog 11 #[.agg #[.string a0.Name, v0_0, v0_1], .agg #[.string a1.Name, v1_0, v1_1]] w0 (.bool r) := by
  unfold law05_same at H
  refine enter (args := [.agg #[.string a0.Name, v0_0, v0_1], .agg #[.string a1.Name, v1_0, v1_1]]) Try.func11 rfl Try.ntmps11 rfl fun a hK => ?_
  have hS := St.init (R := fun _ => none) (w := w0) (fun _ _ h => by cases h)
  have hRL := RLe.refl (M := []) w0 (fun _ => none)
  refine wp_seq ?_
  refine wp_region_lit ?_
  refine sl_box hS hK (by decide) rfl rfl (c := [.string a0.Name, v0_0, v0_1]) rfl fun a w b_1 hS hK => ?_
  refine sl_box hS hK (by decide) rfl rfl (c := [.string a1.Name, v1_0, v1_1]) rfl fun a w b_2 hS hK => ?_
  refine sl hK (by decide) rfl rfl (r_assign hK rfl) fun a hK => ?_
  refine wpList_nil ?_
  refine wp_seq ?_
  refine wp_region_lit ?_
  refine sl hK (by decide) rfl rfl (r_fieldAddr Try.underlying26 rfl Try.sizeOf9 hK rfl) fun a hK => ?_
  refine sl hK (by decide) rfl rfl (r_load Try.isAgg9 hK rfl (hS.cell (.tail _ (.head _)) rfl)) fun a hK => ?_
  refine sl hK (by decide) rfl rfl (r_fieldAddr Try.underlying26 rfl Try.sizeOf9 hK rfl) fun a hK => ?_
  refine sl hK (by decide) rfl rfl (r_load Try.isAgg9 hK rfl (hS.cell (.head _) rfl)) fun a hK => ?_
  refine sl hK (by decide) rfl rfl (r_sbin hK rfl rfl rfl) fun a hK => ?_
  refine sl hK (by decide) rfl rfl (r_move hK rfl) fun a hK => ?_
  rcases or_b (a0.Name.toList == a1.Name.toList) with hb_3 | hb_3
  · rw [ifb_t hb_3] at H
    refine sl hK (by decide) (wtt hb_3) rfl (r_fieldAddr Try.underlying26 rfl Try.sizeOf24 hK rfl) fun a hK => ?_
    refine sl hK (by decide) (wtt hb_3) rfl (r_load Try.isAgg24 hK rfl (hS.cell (.tail _ (.head _)) rfl)) fun a hK => ?_
    refine sl hK (by decide) (wtt hb_3) rfl (r_fieldAddr Try.underlying26 rfl Try.sizeOf24 hK rfl) fun a hK => ?_
    refine sl hK (by decide) (wtt hb_3) rfl (r_load Try.isAgg24 hK rfl (hS.cell (.head _) rfl)) fun a hK => ?_
    obtain ⟨y_4, h_5, H⟩ := bind_some H
    refine sl_callV Try.call12 hS hK (by decide) (wtt hb_3) rfl rfl (ref02_SameCols.calls a0.Keys a1.Keys (lentOf_sub [] _) (h0_0.mono (hS.raLe0 hRA nil_not)) (h1_0.mono (hS.raLe0 hRA nil_not)) h_5) fun a w hS hK => ?_
    refine sl hK (by decide) rfl rfl (r_pick_t hb_3 hK rfl rfl) fun a hK => ?_
    refine sl hK (by decide) rfl rfl (r_move hK rfl) fun a hK => ?_
    rcases or_b y_4 with hb_6 | hb_6
    · rw [ifb_t hb_6] at H
      refine sl hK (by decide) (wtt hb_6) rfl (r_fieldAddr Try.underlying26 rfl Try.sizeOf24 hK rfl) fun a hK => ?_
      refine sl hK (by decide) (wtt hb_6) rfl (r_load Try.isAgg24 hK rfl (hS.cell (.tail _ (.head _)) rfl)) fun a hK => ?_
      refine sl hK (by decide) (wtt hb_6) rfl (r_fieldAddr Try.underlying26 rfl Try.sizeOf24 hK rfl) fun a hK => ?_
      refine sl hK (by decide) (wtt hb_6) rfl (r_load Try.isAgg24 hK rfl (hS.cell (.head _) rfl)) fun a hK => ?_
      obtain ⟨y_7, h_8, H⟩ := bind_some H
      refine sl_callV Try.call12 hS hK (by decide) (wtt hb_6) rfl rfl (ref02_SameCols.calls a0.Vals a1.Vals (lentOf_sub [] _) (h0_1.mono (hS.raLe0 hRA nil_not)) (h1_1.mono (hS.raLe0 hRA nil_not)) h_8) fun a w hS hK => ?_
      refine sl hK (by decide) rfl rfl (r_pick_t hb_6 hK rfl rfl) fun a hK => ?_
      refine sl hK (by decide) rfl rfl (r_assign hK rfl) fun a hK => ?_
      refine wpList_nil ?_
      obtain rfl := Option.some.inj H
      refine wp_ret ?_
      repeat (first | refine ret_then ?_ | refine ret_block ?_ | refine ret_scope ?_)
      exact ret_1 Try.results11 hK (rv_tmp hK rfl) ⟨rfl, hS.bel⟩
    · rw [ifb_f hb_6] at H
      refine sl_skip hK (by decide) (wtf hb_6) rfl fun a hK => ?_
      refine sl_skip hK (by decide) (wtf hb_6) rfl fun a hK => ?_
      refine sl_skip hK (by decide) (wtf hb_6) rfl fun a hK => ?_
      refine sl_skip hK (by decide) (wtf hb_6) rfl fun a hK => ?_
      refine sl_skip hK (by decide) (wtf hb_6) rfl fun a hK => ?_
      refine sl hK (by decide) rfl rfl (r_pick_f hb_6 hK rfl rfl) fun a hK => ?_
      refine sl hK (by decide) rfl rfl (r_assign hK rfl) fun a hK => ?_
      refine wpList_nil ?_
      obtain rfl := Option.some.inj H
      refine wp_ret ?_
      repeat (first | refine ret_then ?_ | refine ret_block ?_ | refine ret_scope ?_)
      exact ret_1 Try.results11 hK (rv_tmp hK rfl) ⟨rfl, hS.bel⟩
  · rw [ifb_f hb_3] at H
    refine sl_skip hK (by decide) (wtf hb_3) rfl fun a hK => ?_
    refine sl_skip hK (by decide) (wtf hb_3) rfl fun a hK => ?_
    refine sl_skip hK (by decide) (wtf hb_3) rfl fun a hK => ?_
    refine sl_skip hK (by decide) (wtf hb_3) rfl fun a hK => ?_
    refine sl_skip hK (by decide) (wtf hb_3) rfl fun a hK => ?_
    refine sl hK (by decide) rfl rfl (r_pick_f hb_3 hK rfl rfl) fun a hK => ?_
    refine sl hK (by decide) rfl rfl (r_move hK rfl) fun a hK => ?_
    refine sl_skip hK (by decide) rfl rfl fun a hK => ?_
    refine sl_skip hK (by decide) rfl rfl fun a hK => ?_
    refine sl_skip hK (by decide) rfl rfl fun a hK => ?_
    refine sl_skip hK (by decide) rfl rfl fun a hK => ?_
    refine sl_skip hK (by decide) rfl rfl fun a hK => ?_
    refine sl hK (by decide) rfl rfl (r_pick hK rfl rfl rfl) fun a hK => ?_
    refine sl hK (by decide) rfl rfl (r_assign hK rfl) fun a hK => ?_
    refine wpList_nil ?_
    obtain rfl := Option.some.inj H
    refine wp_ret ?_
    repeat (first | refine ret_then ?_ | refine ret_block ?_ | refine ret_scope ?_)
    exact ret_1 Try.results11 hK (rv_tmp hK rfl) ⟨rfl, hS.bel⟩

end Go.Proofs.Ytiegghohcghmkaa.M
