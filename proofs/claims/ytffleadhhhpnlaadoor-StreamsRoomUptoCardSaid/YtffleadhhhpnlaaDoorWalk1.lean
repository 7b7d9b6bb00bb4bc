/- Each Go function of the laws answers as its plain Lean function tells, wherever that tells something. Printed by wip/eng/gen.py. -/
import Derived.Test.YtffleadhhhpnlaaDoorPure
import Derived.Test.YtffleadhhhpnlaaDoorProg
import Derived.Shelf.Strconv.Itoa3
namespace Go.Proofs.YtffleadhhhpnlaaDoor.M
open Go Go.Eng Go.Proofs Go.RowKit
set_option linter.unusedVariables false
set_option linter.unusedSimpArgs false

theorem mixed : Tryd.prog.follows .mixedOrders = true := by kernel_rfl
def GF (RA : Hp) : Prop := (∀ w, RA.sub w → Lib.TabIs Tryd.prog w "internal/strconv.uint64pow10" .u64 Lib.pow10Tab)
theorem GF.mono {R R' : Hp} (h : R.le R') (g : GF R) : GF R' := fun w hw => g w (fun k u hk => hw k u (h k u hk))
theorem GF_pow10 {RA : Hp} {w : World} (g : GF RA) (h : RA.sub w) : Lib.TabIs Tryd.prog w "internal/strconv.uint64pow10" .u64 Lib.pow10Tab := g w h
set_option maxRecDepth 100000 in
theorem elT66 : ElT Tryd.prog 66 5 1 1 := ⟨Tryd.underlying66, ⟨Tryd.t5, _, Tryd.type5, rfl, rfl, rfl, rfl⟩, by decide⟩
set_option maxRecDepth 100000 in
theorem elT30 : ElT Tryd.prog 30 50 11 96 := ⟨Tryd.underlying30, ⟨Tryd.t50, _, Tryd.type50, rfl, rfl, rfl, rfl⟩, by decide⟩
set_option maxRecDepth 100000 in
theorem elT54 : ElT Tryd.prog 54 60 2 40 := ⟨Tryd.underlying54, ⟨Tryd.t60, _, Tryd.type60, rfl, rfl, rfl, rfl⟩, by decide⟩
set_option maxRecDepth 100000 in
theorem elT26 : ElT Tryd.prog 26 3 1 8 := ⟨Tryd.underlying26, ⟨Tryd.t3, _, Tryd.type3, rfl, rfl, rfl, rfl⟩, by decide⟩
set_option maxRecDepth 100000 in
theorem elT37 : ElT Tryd.prog 37 9 1 16 := ⟨Tryd.underlying37, ⟨Tryd.t9, _, Tryd.type9, rfl, rfl, rfl, rfl⟩, by decide⟩
set_option maxRecDepth 100000 in
theorem elT44 : ElT Tryd.prog 44 51 2 40 := ⟨Tryd.underlying44, ⟨Tryd.t51, _, Tryd.type51, rfl, rfl, rfl, rfl⟩, by decide⟩
theorem places56 (w : World) : (placesOf Tryd.prog 56).run Tryd.prog w = .ok #[(0, 1), (1, 1), (2, 1)] w := by
  unfold placesOf
  rw [Tryd.underlying56]
  simp [Tryd.sizeOf3, Tryd.sizeOf53, Tryd.sizeOf54]
theorem places50 (w : World) : (placesOf Tryd.prog 50).run Tryd.prog w = .ok #[(0, 1), (1, 1), (2, 1), (3, 8)] w := by
  unfold placesOf
  rw [Tryd.underlying50]
  simp [Tryd.sizeOf3, Tryd.sizeOf48, Tryd.sizeOf9]
def itoL27_ren : Go.Shelf.Ren := ⟨fun | 171 => 27 | 243 => 31 | 246 => 34 | 283 => 36 | 284 => 37 | 285 => 38 | 286 => 39 | 129 => 41 | 317 => 40 | 318 => 42 | 319 => 43 | 320 => 44 | 337 => 45 | 338 => 46 | n => n, fun | 3 => 3 | 9 => 9 | 2 => 2 | 4 => 4 | 171 => 76 | 0 => 0 | 53 => 77 | 37 => 66 | 5 => 5 | 173 => 80 | 212 => 84 | 51 => 85 | 20 => 20 | 213 => 86 | 46 => 88 | 232 => 91 | 233 => 92 | n => n, fun | 17 => 0 | 18 => 1 | 19 => 2 | n => n⟩
theorem itoL27 : Go.Proofs.LaysM.n171 Tryd.prog itoL27_ren := {
  mixed := by kernel_rfl
  f129 := Tryd.func41.trans (congrArg some (by kernel_rfl))
  f171 := Tryd.func27.trans (congrArg some (by kernel_rfl))
  f243 := Tryd.func31.trans (congrArg some (by kernel_rfl))
  f246 := Tryd.func34.trans (congrArg some (by kernel_rfl))
  f283 := Tryd.func36.trans (congrArg some (by kernel_rfl))
  f284 := Tryd.func37.trans (congrArg some (by kernel_rfl))
  f285 := Tryd.func38.trans (congrArg some (by kernel_rfl))
  f286 := Tryd.func39.trans (congrArg some (by kernel_rfl))
  f317 := Tryd.func40.trans (congrArg some (by kernel_rfl))
  f318 := Tryd.func42.trans (congrArg some (by kernel_rfl))
  f319 := Tryd.func43.trans (congrArg some (by kernel_rfl))
  f320 := Tryd.func44.trans (congrArg some (by kernel_rfl))
  f337 := Tryd.func45.trans (congrArg some (by kernel_rfl))
  f338 := Tryd.func46.trans (congrArg some (by kernel_rfl))
  t0 := Tryd.underlying0
  a0 := Tryd.isAgg0
  z0 := Tryd.sizeOf0
  v0 := Tryd.zeroValue0
  t2 := Tryd.underlying2
  a2 := Tryd.isAgg2
  z2 := Tryd.sizeOf2
  v2 := Tryd.zeroValue2
  t3 := Tryd.underlying3
  a3 := Tryd.isAgg3
  z3 := Tryd.sizeOf3
  v3 := Tryd.zeroValue3
  t4 := Tryd.underlying4
  a4 := Tryd.isAgg4
  z4 := Tryd.sizeOf4
  v4 := Tryd.zeroValue4
  t5 := Tryd.underlying5
  a5 := Tryd.isAgg5
  z5 := Tryd.sizeOf5
  v5 := Tryd.zeroValue5
  t9 := Tryd.underlying9
  a9 := Tryd.isAgg9
  z9 := Tryd.sizeOf9
  v9 := Tryd.zeroValue9
  t20 := Tryd.underlying20
  a20 := Tryd.isAgg20
  z20 := Tryd.sizeOf20
  v20 := Tryd.zeroValue20
  t37 := Tryd.underlying66
  a37 := Tryd.isAgg66
  z37 := Tryd.sizeOf66
  v37 := Tryd.zeroValue66
  t46 := Tryd.underlying88
  a46 := Tryd.isAgg88
  z46 := Tryd.sizeOf88
  v46 := Tryd.zeroValue88
  t51 := Tryd.underlying85
  a51 := Tryd.isAgg85
  z51 := Tryd.sizeOf85
  v51 := Tryd.zeroValue85
  t53 := Tryd.underlying77
  a53 := Tryd.isAgg77
  z53 := Tryd.sizeOf77
  v53 := Tryd.zeroValue77
  t171 := Tryd.underlying76
  a171 := Tryd.isAgg76
  z171 := Tryd.sizeOf76
  v171 := Tryd.zeroValue76
  t173 := Tryd.underlying80
  a173 := Tryd.isAgg80
  z173 := Tryd.sizeOf80
  v173 := Tryd.zeroValue80
  t212 := Tryd.underlying84
  a212 := Tryd.isAgg84
  z212 := Tryd.sizeOf84
  v212 := Tryd.zeroValue84
  t213 := Tryd.underlying86
  a213 := Tryd.isAgg86
  z213 := Tryd.sizeOf86
  t232 := Tryd.underlying91
  a232 := Tryd.isAgg91
  z232 := Tryd.sizeOf91
  v232 := Tryd.zeroValue91
  t233 := Tryd.underlying92
  a233 := Tryd.isAgg92
  z233 := Tryd.sizeOf92
  v233 := Tryd.zeroValue92
  g17 := by kernel_rfl
  g18 := by kernel_rfl
  g19 := by kernel_rfl
  i0 := by kernel_rfl
  i2 := by kernel_rfl
  i3 := by kernel_rfl
  i4 := by kernel_rfl
  i5 := by kernel_rfl
  i9 := by kernel_rfl
  i20 := by kernel_rfl
  i37 := by kernel_rfl
  i46 := by kernel_rfl
  i51 := by kernel_rfl
  i53 := by kernel_rfl
  i171 := by kernel_rfl
  i173 := by kernel_rfl
  i212 := by kernel_rfl
  i232 := by kernel_rfl
  i233 := by kernel_rfl
  m17 := by kernel_rfl
  m18 := by kernel_rfl
  m19 := by kernel_rfl }
theorem eqs50 (x y : api_Value) : EqS Tryd.prog 50 #[.int .i64 x.Kind, .int .i64 x.N, .string x.S, .int .i64 x.H.a0, .int .i64 x.H.a1, .int .i64 x.H.a2, .int .i64 x.H.a3, .int .i64 x.H.a4, .int .i64 x.H.a5, .int .i64 x.H.a6, .int .i64 x.H.a7] #[.int .i64 y.Kind, .int .i64 y.N, .string y.S, .int .i64 y.H.a0, .int .i64 y.H.a1, .int .i64 y.H.a2, .int .i64 y.H.a3, .int .i64 y.H.a4, .int .i64 y.H.a5, .int .i64 y.H.a6, .int .i64 y.H.a7] (decide (x = y)) := by
  refine eqS_of (by kernel_rfl) (by kernel_rfl) (fun w => by
    simp only [Program.fieldsOf, Tryd.underlying50]
    exact eqF_cons (by decide) (run_part1 Tryd.isAgg3 rfl) (run_part1 Tryd.isAgg3 rfl) (run_equalIn_int w _ _ _ _ _ _ Tryd.underlying3) (eqF_cons (by decide) (run_part1 Tryd.isAgg3 rfl) (run_part1 Tryd.isAgg3 rfl) (run_equalIn_int w _ _ _ _ _ _ Tryd.underlying3) (eqF_cons (by decide) (run_part1 Tryd.isAgg9 rfl) (run_part1 Tryd.isAgg9 rfl) (run_equalIn_string w _ _ _ _ Tryd.underlying9) (eqF_cons (by decide) (run_partA (ys := (x.H.list.map (Value.int .i64)).toArray) Tryd.isAgg48 Tryd.sizeOf48 rfl) (run_partA (ys := (y.H.list.map (Value.int .i64)).toArray) Tryd.isAgg48 Tryd.sizeOf48 rfl) (eq_arr' (q := 9998) Tryd.underlying48 (fun a b w => run_equalIn_int w 9997 _ _ _ a b Tryd.underlying3) Tryd.isAgg3 Tryd.sizeOf3 x.H.list y.H.list rfl rfl w) (eqF_nil))))) ?_
  simp only [beq_bytes, Arr8.list_inj, Arr2.list_inj, Bool.and_true]
  cases x; cases y; simp <;> rfl
theorem places60 (w : World) : (placesOf Tryd.prog 60).run Tryd.prog w = .ok #[(0, 1), (1, 1)] w := by
  unfold placesOf
  rw [Tryd.underlying60]
  simp [Tryd.sizeOf30, Tryd.sizeOf9]
theorem places46 (w : World) : (placesOf Tryd.prog 46).run Tryd.prog w = .ok #[(0, 1), (1, 1)] w := by
  unfold placesOf
  rw [Tryd.underlying46]
  simp [Tryd.sizeOf3, Tryd.sizeOf44]
theorem eqs48 (x y : Arr8) : EqS Tryd.prog 48 (x.list.map (Value.int .i64)).toArray (y.list.map (Value.int .i64)).toArray (decide (x = y)) := eqA_of Tryd.underlying48 Tryd.underlying3 Tryd.isAgg3 Tryd.sizeOf3 rfl rfl rfl rfl Arr8.list_inj
theorem places51 (w : World) : (placesOf Tryd.prog 51).run Tryd.prog w = .ok #[(0, 1), (1, 1)] w := by
  unfold placesOf
  rw [Tryd.underlying51]
  simp [Tryd.sizeOf30, Tryd.sizeOf9]

/-! ### catchment/streams.New: function 7 -/
set_option maxHeartbeats 4000000 in
set_option maxRecDepth 100000 in
theorem streams_New.calls (a0 : Int) {w0 : World} {R : Hp} (hR : R.sub w0) {r : streams_Dict} (H : streams_New a0 = some r) : Calls Tryd.prog 7 #[.int .i64 a0] w0 (Rets fun v w' => ∃ (R' : Hp) (B0 : Nat) (u1 : Value) (cu1 : List Value) (B2 : Nat), v = .pointer (some ⟨B0, 0, none⟩) ∧ St [] w0 w' R' [.cells B0 [.int .i64 r.most, u1, .map (some B2)] 56, .row 60 2 u1 r.l.length cu1, .mp B2 (kvs Value.string (Value.int .i64) r.ids)] ∧ RLe [] w0 R R' ∧ Reps ty_streams_stream R' cu1 r.l) := by
  unfold streams_New at H
  refine enter (args := [.int .i64 a0]) Tryd.func7 rfl Tryd.ntmps7 rfl fun a hK => ?_
  have hS := St.init hR
  have hRL := RLe.refl (M := []) w0 R
  refine wp_seq ?_
  refine wp_region_lit ?_
  refine sl hK (by decide) rfl rfl (r_assign hK rfl) fun a hK => ?_
  refine wpList_nil ?_
  refine wp_seq ?_
  refine wp_region_lit ?_
  refine sl hK (by decide) rfl rfl (r_move hK rfl) fun a hK => ?_
  have hS := hS
  refine sl_makeMap hS hK (by decide) rfl fun a w b_1 hS hK => ?_
  refine sl hK (by decide) rfl rfl (r_buildC (ps := [(0, .int .i64 a0), (2, .map (some b_1))]) (c := [.int .i64 a0, .slice none 0 0, .map (some b_1)]) Tryd.underlying56 Tryd.zeroValue56 places56 hK rfl (pc_cons rfl (pc_cons rfl pc_nil)) rfl rfl) fun a hK => ?_
  refine sl_box hS hK (by decide) rfl rfl (c := [.int .i64 a0, .slice none 0 0, .map (some b_1)]) rfl fun a w b_2 hS hK => ?_
  refine sl hK (by decide) rfl rfl (r_assign hK rfl) fun a hK => ?_
  refine wpList_nil ?_
  have hS := hS.row_nil 60 2
  have hq_4 : Reps ty_streams_stream R [] ([] : List streams_stream) := Reps.nil _ _
  obtain rfl := Option.some.inj H
  refine wp_ret ?_
  repeat (first | refine ret_then ?_ | refine ret_block ?_ | refine ret_scope ?_)
  exact ret_1 Tryd.results7 hK (rv_tmp hK rfl) ⟨_, rfl, _, _, _, _, _, rfl, hS.pk2.pk1.pk2, hRL, hq_4⟩

/-! ### catchment/catchmentlaw06.one: function 18 -/
set_option maxHeartbeats 4000000 in
set_option maxRecDepth 100000 in
theorem law06_one.calls (a0 : Int) {w0 : World} {R : Hp} (hR : R.sub w0) {r : List api_Value} (H : law06_one a0 = some r) : Calls Tryd.prog 18 #[.int .i64 a0] w0 (Rets fun v w' => ∃ (R' : Hp) (u0 : Value) (cu0 : List Value), v = u0 ∧ St [] w0 w' R' [.row 50 11 u0 r.length cu0] ∧ RLe [] w0 R R' ∧ Reps ty_api_Value R' cu0 r) := by
  unfold law06_one at H
  refine enter (args := [.int .i64 a0]) Tryd.func18 rfl Tryd.ntmps18 rfl fun a hK => ?_
  have hS := St.init hR
  have hRL := RLe.refl (M := []) w0 R
  refine wp_seq ?_
  refine wp_region_lit ?_
  refine sl hK (by decide) rfl rfl (r_assign hK rfl) fun a hK => ?_
  refine wpList_nil ?_
  refine wp_seq ?_
  refine wp_region_lit ?_
  refine sl hK (by decide) rfl rfl (r_move hK rfl) fun a hK => ?_
  refine sl hK (by decide) rfl rfl (r_buildC (ps := [(0, .int .i64 1), (1, .int .i64 a0)]) (c := [.int .i64 1, .int .i64 a0, .string (⟨#[]⟩ : ByteArray), .int .i64 0, .int .i64 0, .int .i64 0, .int .i64 0, .int .i64 0, .int .i64 0, .int .i64 0, .int .i64 0]) Tryd.underlying50 Tryd.zeroValue50 places50 hK rfl (pc_cons rfl (pc_cons rfl pc_nil)) rfl rfl) fun a hK => ?_
  refine sl_buildSliceF (zc := [.int .i64 0, .int .i64 0, .string (⟨#[]⟩ : ByteArray), .int .i64 0, .int .i64 0, .int .i64 0, .int .i64 0, .int .i64 0, .int .i64 0, .int .i64 0, .int .i64 0]) (ps := [(0, .agg #[.int .i64 1, .int .i64 a0, .string (⟨#[]⟩ : ByteArray), .int .i64 0, .int .i64 0, .int .i64 0, .int .i64 0, .int .i64 0, .int .i64 0, .int .i64 0, .int .i64 0])]) (c := [.int .i64 1, .int .i64 a0, .string (⟨#[]⟩ : ByteArray), .int .i64 0, .int .i64 0, .int .i64 0, .int .i64 0, .int .i64 0, .int .i64 0, .int .i64 0, .int .i64 0]) [[.int .i64 1, .int .i64 a0, .string (⟨#[]⟩ : ByteArray), .int .i64 0, .int .i64 0, .int .i64 0, .int .i64 0, .int .i64 0, .int .i64 0, .int .i64 0, .int .i64 0]] Tryd.underlying30 Tryd.sizeOf50 Tryd.zeroValue50 rfl (pc_cons rfl pc_nil) rfl rfl (Nat.le_of_ble_eq_true rfl) rfl (all_cons rfl (all_nil)) rfl hS hK (by decide) rfl fun a w b_1 hS hK => ?_
  refine sl hK (by decide) rfl rfl (r_assign hK rfl) fun a hK => ?_
  refine wpList_nil ?_
  have hS := hS.row_lit (size := 11) (m := 1) rfl (by decide)
  have hq_3 : Reps ty_api_Value R [.int .i64 1, .int .i64 a0, .string (⟨#[]⟩ : ByteArray), .int .i64 0, .int .i64 0, .int .i64 0, .int .i64 0, .int .i64 0, .int .i64 0, .int .i64 0, .int .i64 0] [(⟨1, a0, (⟨#[]⟩ : ByteArray), (⟨0, 0, 0, 0, 0, 0, 0, 0⟩ : Arr8)⟩ : api_Value)] := (Reps.cons (show Ty.rep ty_api_Value _ [.int .i64 1, .int .i64 a0, .string (⟨#[]⟩ : ByteArray), .int .i64 0, .int .i64 0, .int .i64 0, .int .i64 0, .int .i64 0, .int .i64 0, .int .i64 0, .int .i64 0] (⟨1, a0, (⟨#[]⟩ : ByteArray), (⟨0, 0, 0, 0, 0, 0, 0, 0⟩ : Arr8)⟩ : api_Value) from rfl) (Reps.nil _ _))
  obtain rfl := Option.some.inj H
  refine wp_ret ?_
  repeat (first | refine ret_then ?_ | refine ret_block ?_ | refine ret_scope ?_)
  exact ret_1 Tryd.results18 hK (rv_tmp hK rfl) ⟨_, rfl, _, _, _, rfl, hS, hRL, hq_3⟩

/-! ### strconv.Itoa: function 27 -/
set_option maxHeartbeats 4000000 in
set_option maxRecDepth 100000 in
theorem strconv_Itoa.calls (a0 : Int) {w0 : World} {RA : Hp} (hRA : RA.sub w0) (hG : GF RA) {r : ByteArray} (H : strconv_Itoa a0 = some r) : CallsV Tryd.prog 27 #[.int .i64 a0] w0 (.string r) := by
  unfold strconv_Itoa at H
  split at H
  · rename_i hs
    obtain rfl := Option.some.inj H
    exact (Any.strconv_Itoa itoL27 a0 hs.1 hs.2 w0 (GF_pow10 hG hRA)).mono fun e w' ⟨he, k, os, hw⟩ => ⟨he, by subst hw; exact Bel.of_grow _ _ _⟩
  · cases H

/-! ### catchment/value.Valid: function 22 -/
set_option maxHeartbeats 4000000 in
set_option maxRecDepth 100000 in
theorem value_Valid.calls (a0 : api_Value) {r : Bool} (H : value_Valid a0 = some r) (w0 : World) : CallsV Tryd.prog 22 #[.agg #[.int .i64 a0.Kind, .int .i64 a0.N, .string a0.S, .int .i64 a0.H.a0, .int .i64 a0.H.a1, .int .i64 a0.H.a2, .int .i64 a0.H.a3, .int .i64 a0.H.a4, .int .i64 a0.H.a5, .int .i64 a0.H.a6, .int .i64 a0.H.a7]] w0 (.bool r) := by
  unfold value_Valid at H
  refine enter (args := [.agg #[.int .i64 a0.Kind, .int .i64 a0.N, .string a0.S, .int .i64 a0.H.a0, .int .i64 a0.H.a1, .int .i64 a0.H.a2, .int .i64 a0.H.a3, .int .i64 a0.H.a4, .int .i64 a0.H.a5, .int .i64 a0.H.a6, .int .i64 a0.H.a7]]) Tryd.func22 rfl Tryd.ntmps22 rfl fun a hK => ?_
  have hS := St.init (R := fun _ => none) (w := w0) (fun _ _ h => by cases h)
  have hRL := RLe.refl (M := []) w0 (fun _ => none)
  refine wp_seq ?_
  refine wp_region_lit ?_
  refine sl_box hS hK (by decide) rfl rfl (c := [.int .i64 a0.Kind, .int .i64 a0.N, .string a0.S, .int .i64 a0.H.a0, .int .i64 a0.H.a1, .int .i64 a0.H.a2, .int .i64 a0.H.a3, .int .i64 a0.H.a4, .int .i64 a0.H.a5, .int .i64 a0.H.a6, .int .i64 a0.H.a7]) rfl fun a w b_1 hS hK => ?_
  refine sl hK (by decide) rfl rfl (r_assign hK rfl) fun a hK => ?_
  refine wpList_nil ?_
  refine wp_seq ?_
  refine wp_region_lit ?_
  refine sl hK (by decide) rfl rfl (r_loadA (cs := [.int .i64 a0.Kind, .int .i64 a0.N, .string a0.S, .int .i64 a0.H.a0, .int .i64 a0.H.a1, .int .i64 a0.H.a2, .int .i64 a0.H.a3, .int .i64 a0.H.a4, .int .i64 a0.H.a5, .int .i64 a0.H.a6, .int .i64 a0.H.a7]) Tryd.isAgg50 Tryd.sizeOf50 rfl hK rfl (hS.cells_of (m := 11) (.head _) rfl)) fun a hK => ?_
  refine sl_alloc Tryd.zeroValue50 hS hK (by decide) rfl rfl fun a w b_2 hS hK => ?_
  refine sl_storeA (vs := [.int .i64 a0.Kind, .int .i64 a0.N, .string a0.S, .int .i64 a0.H.a0, .int .i64 a0.H.a1, .int .i64 a0.H.a2, .int .i64 a0.H.a3, .int .i64 a0.H.a4, .int .i64 a0.H.a5, .int .i64 a0.H.a6, .int .i64 a0.H.a7]) (c' := [.int .i64 a0.Kind, .int .i64 a0.N, .string a0.S, .int .i64 a0.H.a0, .int .i64 a0.H.a1, .int .i64 a0.H.a2, .int .i64 a0.H.a3, .int .i64 a0.H.a4, .int .i64 a0.H.a5, .int .i64 a0.H.a6, .int .i64 a0.H.a7]) Tryd.sizeOf50 hS hK rfl rfl rfl rfl (all_cons rfl (all_cons rfl (all_cons rfl (all_cons rfl (all_cons rfl (all_cons rfl (all_cons rfl (all_cons rfl (all_cons rfl (all_cons rfl (all_cons rfl (all_nil)))))))))))) (Nat.le_of_ble_eq_true rfl) rfl fun a w hS hK => ?_
  refine wpList_nil ?_
  refine wp_seq ?_
  refine wp_region_lit ?_
  refine sl hK (by decide) rfl rfl (r_fieldAddr Tryd.underlying50 rfl Tryd.sizeOf3 hK rfl) fun a hK => ?_
  refine sl_store1 (c' := [.int .i64 0, .int .i64 a0.N, .string a0.S, .int .i64 a0.H.a0, .int .i64 a0.H.a1, .int .i64 a0.H.a2, .int .i64 a0.H.a3, .int .i64 a0.H.a4, .int .i64 a0.H.a5, .int .i64 a0.H.a6, .int .i64 a0.H.a7]) Tryd.sizeOf3 hS hK rfl rfl rfl rfl (Nat.le_of_ble_eq_true rfl) rfl fun a w hS hK => ?_
  refine wpList_nil ?_
  refine wp_seq ?_
  refine wp_region_lit ?_
  refine sl hK (by decide) rfl rfl (r_assign hK rfl) fun a hK => ?_
  refine wpList_nil ?_
  refine wp_seq ?_
  refine wp_seq ?_
  refine wp_region_lit ?_
  refine sl hK (by decide) rfl rfl (r_fieldAddr Tryd.underlying50 rfl Tryd.sizeOf3 hK rfl) fun a hK => ?_
  refine sl hK (by decide) rfl rfl (r_load Tryd.isAgg3 hK rfl (hS.cell (.tail _ (.head _)) rfl)) fun a hK => ?_
  refine wpList_nil ?_
  refine wp_block ?_
  refine wp_seq ?_
  refine wp_region_lit ?_
  refine sl hK (by decide) rfl rfl (r_ibin hK rfl rfl rfl) fun a hK => ?_
  refine sl hK (by decide) rfl rfl (r_assign hK rfl) fun a hK => ?_
  refine wpList_nil ?_
  refine wp_mid (fun a w => ∃ (x_59 : Int) (x_60 : ByteArray) (x_61 : Arr8) (x_62 : Bool), value_Valid.j0 x_59 x_60 x_61 x_62 = some r ∧ Kn 40 a [(3, .pointer (some ⟨b_2, 0, none⟩)), (4, .bool x_62)] ∧ St [] w0 w (fun _ => none) [.cells b_2 [.int .i64 0, .int .i64 x_59, .string x_60, .int .i64 x_61.a0, .int .i64 x_61.a1, .int .i64 x_61.a2, .int .i64 x_61.a3, .int .i64 x_61.a4, .int .i64 x_61.a5, .int .i64 x_61.a6, .int .i64 x_61.a7] 50]) ?_ ?_
  · refine wp_cond_split (hK.ev rfl) (fun (hb_64 : (a0.Kind == 1) = true) => ?_) (fun (hb_64 : (a0.Kind == 1) = false) => ?_)
    · rw [ifb_t hb_64] at H
      refine wp_region_lit ?_
      refine sl hK (by decide) rfl rfl (r_fieldAddr Tryd.underlying50 rfl Tryd.sizeOf3 hK rfl) fun a hK => ?_
      refine sl_store1 (c' := [.int .i64 0, .int .i64 0, .string a0.S, .int .i64 a0.H.a0, .int .i64 a0.H.a1, .int .i64 a0.H.a2, .int .i64 a0.H.a3, .int .i64 a0.H.a4, .int .i64 a0.H.a5, .int .i64 a0.H.a6, .int .i64 a0.H.a7]) Tryd.sizeOf3 hS hK rfl rfl rfl rfl (Nat.le_of_ble_eq_true rfl) rfl fun a w hS hK => ?_
      refine wpList_nil ?_
      exact ⟨0, a0.S, a0.H, true, H, hK.sub (all_cons rfl (all_cons rfl (all_nil))), hS.trunc 1⟩
    · rw [ifb_f hb_64] at H
      refine wp_seq ?_
      refine wp_region_lit ?_
      refine sl hK (by decide) rfl rfl (r_ibin hK rfl rfl rfl) fun a hK => ?_
      refine sl hK (by decide) rfl rfl (r_assign hK rfl) fun a hK => ?_
      refine wpList_nil ?_
      refine wp_mid (fun a w => ∃ (x_90 : Int) (x_91 : ByteArray) (x_92 : Arr8) (x_93 : Bool), value_Valid.j1 x_90 x_91 x_92 x_93 = some r ∧ Kn 40 a [(3, .pointer (some ⟨b_2, 0, none⟩)), (4, .bool x_93)] ∧ St [] w0 w (fun _ => none) [.cells b_2 [.int .i64 0, .int .i64 x_90, .string x_91, .int .i64 x_92.a0, .int .i64 x_92.a1, .int .i64 x_92.a2, .int .i64 x_92.a3, .int .i64 x_92.a4, .int .i64 x_92.a5, .int .i64 x_92.a6, .int .i64 x_92.a7] 50]) ?_ ?_
      · refine wp_cond_split (hK.ev rfl) (fun (hb_95 : (a0.Kind == 2) = true) => ?_) (fun (hb_95 : (a0.Kind == 2) = false) => ?_)
        · rw [ifb_t hb_95] at H
          refine wp_seq ?_
          refine wp_region_lit ?_
          refine sl hK (by decide) rfl rfl (r_fieldAddr Tryd.underlying50 rfl Tryd.sizeOf9 hK rfl) fun a hK => ?_
          refine sl_store1 (c' := [.int .i64 0, .int .i64 a0.N, .string (⟨#[]⟩ : ByteArray), .int .i64 a0.H.a0, .int .i64 a0.H.a1, .int .i64 a0.H.a2, .int .i64 a0.H.a3, .int .i64 a0.H.a4, .int .i64 a0.H.a5, .int .i64 a0.H.a6, .int .i64 a0.H.a7]) Tryd.sizeOf9 hS hK rfl rfl rfl rfl (Nat.le_of_ble_eq_true rfl) rfl fun a w hS hK => ?_
          refine wpList_nil ?_
          refine wp_region_lit ?_
          refine sl hK (by decide) rfl rfl (r_fieldAddr Tryd.underlying50 rfl Tryd.sizeOf9 hK rfl) fun a hK => ?_
          refine sl hK (by decide) rfl rfl (r_load Tryd.isAgg9 hK rfl (hS.cell (.tail _ (.head _)) rfl)) fun a hK => ?_
          refine sl hK (by decide) rfl rfl (r_len_str Tryd.underlying9 hK rfl) fun a hK => ?_
          refine sl hK (by decide) rfl rfl (r_ibin hK rfl rfl rfl) fun a hK => ?_
          refine sl hK (by decide) rfl rfl (r_assign hK rfl) fun a hK => ?_
          refine wpList_nil ?_
          exact ⟨a0.N, (⟨#[]⟩ : ByteArray), a0.H, (decide ((a0.S.size : Int) ≤ 64)), H, hK.sub (all_cons rfl (all_cons rfl (all_nil))), hS.trunc 1⟩
        · rw [ifb_f hb_95] at H
          refine wp_seq ?_
          refine wp_region_lit ?_
          refine sl hK (by decide) rfl rfl (r_ibin hK rfl rfl rfl) fun a hK => ?_
          refine sl hK (by decide) rfl rfl (r_assign hK rfl) fun a hK => ?_
          refine wpList_nil ?_
          refine wp_mid (fun a w => ∃ (x_106 : Int) (x_107 : Arr8) (x_108 : Bool), value_Valid.j2 a0 x_106 x_107 x_108 = some r ∧ Kn 40 a [(3, .pointer (some ⟨b_2, 0, none⟩)), (4, .bool x_108)] ∧ St [] w0 w (fun _ => none) [.cells b_2 [.int .i64 0, .int .i64 x_106, .string a0.S, .int .i64 x_107.a0, .int .i64 x_107.a1, .int .i64 x_107.a2, .int .i64 x_107.a3, .int .i64 x_107.a4, .int .i64 x_107.a5, .int .i64 x_107.a6, .int .i64 x_107.a7] 50]) ?_ ?_
          · refine wp_cond_split (hK.ev rfl) (fun (hb_110 : (a0.Kind == 3) = true) => ?_) (fun (hb_110 : (a0.Kind == 3) = false) => ?_)
            · rw [ifb_t hb_110] at H
              refine wp_seq ?_
              refine wp_region_lit ?_
              refine sl hK (by decide) rfl rfl (r_fieldAddr Tryd.underlying50 rfl Tryd.sizeOf3 hK rfl) fun a hK => ?_
              refine sl_store1 (c' := [.int .i64 0, .int .i64 0, .string a0.S, .int .i64 a0.H.a0, .int .i64 a0.H.a1, .int .i64 a0.H.a2, .int .i64 a0.H.a3, .int .i64 a0.H.a4, .int .i64 a0.H.a5, .int .i64 a0.H.a6, .int .i64 a0.H.a7]) Tryd.sizeOf3 hS hK rfl rfl rfl rfl (Nat.le_of_ble_eq_true rfl) rfl fun a w hS hK => ?_
              refine wpList_nil ?_
              refine wp_mid (fun a w => ∃ (x_112 : Bool), value_Valid.j3 a0 x_112 = some r ∧ Kn 40 a [(3, .pointer (some ⟨b_2, 0, none⟩)), (4, .bool x_112)] ∧ St [] w0 w (fun _ => none) [.cells b_2 [.int .i64 0, .int .i64 0, .string a0.S, .int .i64 a0.H.a0, .int .i64 a0.H.a1, .int .i64 a0.H.a2, .int .i64 a0.H.a3, .int .i64 a0.H.a4, .int .i64 a0.H.a5, .int .i64 a0.H.a6, .int .i64 a0.H.a7] 50]) ?_ ?_
              · refine wp_region_lit ?_
                refine sl hK (by decide) rfl rfl (r_fieldAddr Tryd.underlying50 rfl Tryd.sizeOf3 hK rfl) fun a hK => ?_
                refine sl hK (by decide) rfl rfl (r_load Tryd.isAgg3 hK rfl (hS.cell (.tail _ (.head _)) rfl)) fun a hK => ?_
                refine sl hK (by decide) rfl rfl (r_ibin hK rfl rfl rfl) fun a hK => ?_
                refine sl hK (by decide) rfl rfl (r_move hK rfl) fun a hK => ?_
                rcases or_b (a0.N == 0) with hb_114 | hb_114
                · rw [ifb_t hb_114] at H
                  refine sl_skip hK (by decide) (wft hb_114) rfl fun a hK => ?_
                  refine sl_skip hK (by decide) (wft hb_114) rfl fun a hK => ?_
                  refine sl_skip hK (by decide) (wft hb_114) rfl fun a hK => ?_
                  refine sl hK (by decide) rfl rfl (r_pick_t hb_114 hK rfl rfl) fun a hK => ?_
                  refine sl hK (by decide) rfl rfl (r_assign hK rfl) fun a hK => ?_
                  refine wpList_nil ?_
                  exact ⟨true, H, hK.sub (all_cons rfl (all_cons rfl (all_nil))), hS.trunc 1⟩
                · rw [ifb_f hb_114] at H
                  refine sl hK (by decide) (wff hb_114) rfl (r_fieldAddr Tryd.underlying50 rfl Tryd.sizeOf3 hK rfl) fun a hK => ?_
                  refine sl hK (by decide) (wff hb_114) rfl (r_load Tryd.isAgg3 hK rfl (hS.cell (.tail _ (.head _)) rfl)) fun a hK => ?_
                  refine sl hK (by decide) (wff hb_114) rfl (r_ibin hK rfl rfl rfl) fun a hK => ?_
                  refine sl hK (by decide) rfl rfl (r_pick_f hb_114 hK rfl rfl) fun a hK => ?_
                  refine sl hK (by decide) rfl rfl (r_assign hK rfl) fun a hK => ?_
                  refine wpList_nil ?_
                  exact ⟨(a0.N == 1), H, hK.sub (all_cons rfl (all_cons rfl (all_nil))), hS.trunc 1⟩
              · rintro a w ⟨x_112, H, hK, hS⟩
                unfold value_Valid.j3 at H
                exact ⟨0, a0.H, x_112, H, hK.sub (all_cons rfl (all_cons rfl (all_nil))), hS⟩
            · rw [ifb_f hb_110] at H
              refine wp_seq ?_
              refine wp_region_lit ?_
              refine sl hK (by decide) rfl rfl (r_ibin hK rfl rfl rfl) fun a hK => ?_
              refine sl hK (by decide) rfl rfl (r_assign hK rfl) fun a hK => ?_
              refine wpList_nil ?_
              refine wp_mid (fun a w => ∃ (x_116 : Arr8) (x_117 : Bool), value_Valid.j4 a0 x_116 x_117 = some r ∧ Kn 40 a [(3, .pointer (some ⟨b_2, 0, none⟩)), (4, .bool x_117)] ∧ St [] w0 w (fun _ => none) [.cells b_2 [.int .i64 0, .int .i64 a0.N, .string a0.S, .int .i64 x_116.a0, .int .i64 x_116.a1, .int .i64 x_116.a2, .int .i64 x_116.a3, .int .i64 x_116.a4, .int .i64 x_116.a5, .int .i64 x_116.a6, .int .i64 x_116.a7] 50]) ?_ ?_
              · refine wp_cond_split (hK.ev rfl) (fun (hb_119 : (a0.Kind == 4) = true) => ?_) (fun (hb_119 : (a0.Kind == 4) = false) => ?_)
                · rw [ifb_t hb_119] at H
                  refine wp_region_lit ?_
                  refine sl hK (by decide) rfl rfl (r_buildAC (ps := []) (c := [.int .i64 0, .int .i64 0, .int .i64 0, .int .i64 0, .int .i64 0, .int .i64 0, .int .i64 0, .int .i64 0]) Tryd.underlying48 Tryd.zeroValue48 Tryd.sizeOf3 hK rfl pc_nil rfl rfl) fun a hK => ?_
                  refine sl hK (by decide) rfl rfl (r_fieldAddr Tryd.underlying50 rfl Tryd.sizeOf48 hK rfl) fun a hK => ?_
                  refine sl_storeA (vs := [.int .i64 0, .int .i64 0, .int .i64 0, .int .i64 0, .int .i64 0, .int .i64 0, .int .i64 0, .int .i64 0]) (c' := [.int .i64 0, .int .i64 a0.N, .string a0.S, .int .i64 0, .int .i64 0, .int .i64 0, .int .i64 0, .int .i64 0, .int .i64 0, .int .i64 0, .int .i64 0]) Tryd.sizeOf48 hS hK rfl rfl rfl rfl (all_cons rfl (all_cons rfl (all_cons rfl (all_cons rfl (all_cons rfl (all_cons rfl (all_cons rfl (all_cons rfl (all_nil))))))))) (Nat.le_of_ble_eq_true rfl) rfl fun a w hS hK => ?_
                  refine wpList_nil ?_
                  exact ⟨(⟨0, 0, 0, 0, 0, 0, 0, 0⟩ : Arr8), true, H, hK.sub (all_cons rfl (all_cons rfl (all_nil))), hS.trunc 1⟩
                · rw [ifb_f hb_119] at H
                  refine wp_region_lit ?_
                  refine sl hK (by decide) rfl rfl (r_assign hK rfl) fun a hK => ?_
                  refine wpList_nil ?_
                  exact ⟨a0.H, false, H, hK.sub (all_cons rfl (all_cons rfl (all_nil))), hS.trunc 1⟩
              · rintro a w ⟨x_116, x_117, H, hK, hS⟩
                unfold value_Valid.j4 at H
                exact ⟨a0.N, x_116, x_117, H, hK.sub (all_cons rfl (all_cons rfl (all_nil))), hS⟩
          · rintro a w ⟨x_106, x_107, x_108, H, hK, hS⟩
            unfold value_Valid.j2 at H
            exact ⟨x_106, a0.S, x_107, x_108, H, hK.sub (all_cons rfl (all_cons rfl (all_nil))), hS⟩
      · rintro a w ⟨x_90, x_91, x_92, x_93, H, hK, hS⟩
        unfold value_Valid.j1 at H
        exact ⟨x_90, x_91, x_92, x_93, H, hK.sub (all_cons rfl (all_cons rfl (all_nil))), hS⟩
  · rintro a w ⟨x_59, x_60, x_61, x_62, H, hK, hS⟩
    unfold value_Valid.j0 at H
    refine wp_seq ?_
    refine wp_region_lit ?_
    refine sl hK (by decide) rfl rfl (r_move hK rfl) fun a hK => ?_
    refine sl hK (by decide) rfl rfl (r_move hK rfl) fun a hK => ?_
    rcases or_b x_62 with hb_120 | hb_120
    · rw [ifb_t hb_120] at H
      refine sl hK (by decide) (wtt hb_120) rfl (r_loadA (cs := [.int .i64 0, .int .i64 x_59, .string x_60, .int .i64 x_61.a0, .int .i64 x_61.a1, .int .i64 x_61.a2, .int .i64 x_61.a3, .int .i64 x_61.a4, .int .i64 x_61.a5, .int .i64 x_61.a6, .int .i64 x_61.a7]) Tryd.isAgg50 Tryd.sizeOf50 rfl hK rfl (hS.cells_of (m := 11) (.head _) rfl)) fun a hK => ?_
      refine sl hK (by decide) (wtt hb_120) rfl (r_buildC (ps := []) (c := [.int .i64 0, .int .i64 0, .string (⟨#[]⟩ : ByteArray), .int .i64 0, .int .i64 0, .int .i64 0, .int .i64 0, .int .i64 0, .int .i64 0, .int .i64 0, .int .i64 0]) Tryd.underlying50 Tryd.zeroValue50 places50 hK rfl pc_nil rfl rfl) fun a hK => ?_
      refine sl hK (by decide) (wtt hb_120) rfl (r_seq (by kernel_rfl) (eqs50 (⟨0, x_59, x_60, x_61⟩ : api_Value) (⟨0, 0, (⟨#[]⟩ : ByteArray), (⟨0, 0, 0, 0, 0, 0, 0, 0⟩ : Arr8)⟩ : api_Value)) hK rfl rfl) fun a hK => ?_
      refine sl hK (by decide) rfl rfl (r_pick_t hb_120 hK rfl rfl) fun a hK => ?_
      refine sl hK (by decide) rfl rfl (r_assign hK rfl) fun a hK => ?_
      refine wpList_nil ?_
      obtain rfl := Option.some.inj H
      refine wp_ret ?_
      repeat (first | refine ret_then ?_ | refine ret_block ?_ | refine ret_scope ?_)
      exact ret_1 Tryd.results22 hK (rv_tmp hK rfl) ⟨rfl, hS.bel⟩
    · rw [ifb_f hb_120] at H
      refine sl_skip hK (by decide) (wtf hb_120) rfl fun a hK => ?_
      refine sl_skip hK (by decide) (wtf hb_120) rfl fun a hK => ?_
      refine sl_skip hK (by decide) (wtf hb_120) rfl fun a hK => ?_
      refine sl hK (by decide) rfl rfl (r_pick_f hb_120 hK rfl rfl) fun a hK => ?_
      refine sl hK (by decide) rfl rfl (r_assign hK rfl) fun a hK => ?_
      refine wpList_nil ?_
      obtain rfl := Option.some.inj H
      refine wp_ret ?_
      repeat (first | refine ret_then ?_ | refine ret_block ?_ | refine ret_scope ?_)
      exact ret_1 Tryd.results22 hK (rv_tmp hK rfl) ⟨rfl, hS.bel⟩

/-! ### slices.Clone[[]byte,byte]: function 33 -/
set_option maxHeartbeats 4000000 in
set_option maxRecDepth 100000 in
theorem slices_Clone_byte_byte.calls (a0 : List Int) {w0 : World} {R : Hp} {RA : Hp} {v0_0 : Value} (hRA : RA.sub w0) (hR : R.sub w0) (h0_0 : SlR (tyInt .u8) RA v0_0 a0) {r : List Int} (H : slices_Clone_byte_byte a0 = some r) : Calls Tryd.prog 33 #[v0_0] w0 (Rets fun v w' => ∃ (R' : Hp) (u0 : Value) (cu0 : List Value), v = u0 ∧ St [] w0 w' R' [.row 5 1 u0 r.length cu0] ∧ RLe [] w0 R R' ∧ Reps (tyInt .u8) R' cu0 r) := by
  unfold slices_Clone_byte_byte at H
  rcases SlR.nilcase h0_0 with ⟨hn, hx⟩ | ⟨ad_, m_, c_, hn⟩
  · subst hx
    have H : some ([] : List Int) = some r := by simpa [apd] using H
    refine enter (args := [v0_0]) Tryd.func33 rfl Tryd.ntmps33 rfl fun a hK => ?_
    have hS := St.init hR
    have hRL := RLe.refl (M := []) w0 R
    refine wp_seq ?_
    refine wp_region_lit ?_
    refine sl hK (by decide) rfl rfl (r_assign hK rfl) fun a hK => ?_
    refine wpList_nil ?_
    refine wp_seq ?_
    refine wp_seq ?_
    refine wp_region_lit ?_
    refine sl hK (by decide) rfl rfl (r_move hK rfl) fun a hK => ?_
    refine sl hK (by decide) rfl rfl (r_sleqN Tryd.underlying66 hn hK rfl rfl) fun a hK => ?_
    refine wpList_nil ?_
    refine wp_cond_true (hK.ev rfl) ?_
    refine wp_seq ?_
    refine wp_region_lit ?_
    refine sl hK (by decide) rfl rfl (r_assign hK rfl) fun a hK => ?_
    refine wpList_nil ?_
    have hS := hS.row_nil 5 1
    have hq_11 : Reps (tyInt .u8) R [] ([] : List Int) := Reps.nil _ _
    obtain rfl := Option.some.inj H
    refine wp_ret ?_
    repeat (first | refine ret_then ?_ | refine ret_block ?_ | refine ret_scope ?_)
    exact ret_1 Tryd.results33 hK (rv_tmp hK rfl) ⟨_, rfl, _, _, _, rfl, hS, hRL, hq_11⟩
  · refine enter (args := [v0_0]) Tryd.func33 rfl Tryd.ntmps33 rfl fun a hK => ?_
    have hS := St.init hR
    have hRL := RLe.refl (M := []) w0 R
    refine wp_seq ?_
    refine wp_region_lit ?_
    refine sl hK (by decide) rfl rfl (r_assign hK rfl) fun a hK => ?_
    refine wpList_nil ?_
    refine wp_seq ?_
    refine wp_seq ?_
    refine wp_region_lit ?_
    refine sl hK (by decide) rfl rfl (r_move hK rfl) fun a hK => ?_
    refine sl hK (by decide) rfl rfl (r_sleqS Tryd.underlying66 hn hK rfl rfl) fun a hK => ?_
    refine wpList_nil ?_
    refine wp_cond_false (hK.ev rfl) ?_
    refine wp_skip ?_
    refine wp_seq ?_
    refine wp_region_lit ?_
    refine sl_buildSliceC (zc := [.int .u8 0]) (zs := []) (ps := []) (c := []) Tryd.underlying66 Tryd.sizeOf5 Tryd.zeroValue5 rfl pc_nil rfl rfl (by decide) (by kernel_rfl) rfl hS hK (by decide) rfl fun a w b_1 hS hK => ?_
    refine sl hK (by decide) rfl rfl (r_move hK rfl) fun a hK => ?_
    obtain ⟨y_4, h_5, H⟩ := bind_some H
    have hS := hS.row_lit (size := 1) (m := 0) rfl (by decide)
    have hq_3 : Reps (tyInt .u8) R [] ([] : List Int) := (Reps.nil _ _)
    refine sl_append_A elT66 (by decide) rfl (fun _ _ _ _ h => h) (hS.ra hRA nil_not) hq_3 rfl h0_0 h_5 hS hK (by decide) rfl rfl rfl fun a w v_6 cs_7 hq_8 hS hK => ?_
    refine sl hK (by decide) rfl rfl (r_assign hK rfl) fun a hK => ?_
    refine wpList_nil ?_
    obtain rfl := Option.some.inj H
    refine wp_ret ?_
    repeat (first | refine ret_then ?_ | refine ret_block ?_ | refine ret_scope ?_)
    exact ret_1 Tryd.results33 hK (rv_tmp hK rfl) ⟨_, rfl, _, _, _, rfl, hS, hRL, hq_8⟩

/-! ### catchment/wire.big: function 35 -/
set_option maxHeartbeats 4000000 in
set_option maxRecDepth 100000 in
theorem wire_big.calls (a0 : List Int) (a1 : Int) (a2 : Int) {w0 : World} {R : Hp} {M : List Own} {v0_0 : Value} {cs0_0 : List Value} (hS0 : St M w0 w0 R [.row 5 1 v0_0 a0.length cs0_0]) (h0_0 : Reps (tyInt .u8) R cs0_0 a0) {r : List Int} (H : wire_big a0 a1 a2 = some r) : Calls Tryd.prog 35 #[v0_0, .int .i64 a1, .int .i64 a2] w0 (Rets fun v w' => ∃ (R' : Hp) (u0 : Value) (cu0 : List Value), v = u0 ∧ St M w0 w' R' [.row 5 1 u0 r.length cu0] ∧ RLe M w0 R R' ∧ Reps (tyInt .u8) R' cu0 r) := by
  unfold wire_big at H
  refine enter (args := [v0_0, .int .i64 a1, .int .i64 a2]) Tryd.func35 rfl Tryd.ntmps35 rfl fun a hK => ?_
  have hS := hS0
  have hRL := RLe.refl (M := M) w0 R
  refine wp_seq ?_
  refine wp_region_lit ?_
  refine sl hK (by decide) rfl rfl (r_assign hK rfl) fun a hK => ?_
  refine wpList_nil ?_
  refine wp_seq ?_
  refine wp_seq ?_
  refine wp_region_lit ?_
  refine sl hK (by decide) rfl rfl (r_move hK rfl) fun a hK => ?_
  refine sl hK (by decide) rfl rfl (r_ibin hK rfl rfl rfl) fun a hK => ?_
  refine sl hK (by decide) rfl rfl (r_assign hK rfl) fun a hK => ?_
  refine wpList_nil ?_
  refine wp_block ?_
  refine wp_loop_k (fun k_l0 a w => ∃ (x_12 : List Int) (x_16 : Int) (v_13 : Value) (cs_14 : List Value), wire_big.l0 a1 a2 k_l0 x_12 x_16 = some r ∧ Reps (tyInt .u8) R cs_14 x_12 ∧ Kn 23 a [(0, v_13), (1, .int .i64 a1), (7, .int .i64 x_16)] ∧ St M w0 w R [.row 5 1 v_13 x_12.length cs_14]) (((IntKind.i64.wrap (a2 - 1)) - 0).toNat + 2) ?_ ?_
  · exact ⟨a0, (IntKind.i64.wrap (a2 - 1)), _, _, H, h0_0, hK.sub (all_cons rfl (all_cons rfl (all_cons rfl (all_nil)))), hS⟩
  · rintro k_l0 a w ⟨x_12, x_16, v_13, cs_14, H, hq_15, hK, hS⟩
    cases k_l0 with
    | zero => cases H
    | succ k_l0 =>
    rw [wire_big.l0.eq_2] at H
    refine wp_seq ?_
    refine wp_seq ?_
    refine wp_region_lit ?_
    refine sl hK (by decide) rfl rfl (r_move hK rfl) fun a hK => ?_
    refine sl hK (by decide) rfl rfl (r_ibin hK rfl rfl rfl) fun a hK => ?_
    refine wpList_nil ?_
    refine wp_cond_split (hK.ev rfl) (fun (hb_27 : (decide (x_16 ≥ 0)) = true) => ?_) (fun (hb_27 : (decide (x_16 ≥ 0)) = false) => ?_)
    · rw [ifb_t hb_27] at H
      refine wp_skip ?_
      refine wp_seq ?_
      refine wp_block ?_
      refine wp_region_lit ?_
      refine sl hK (by decide) rfl rfl (r_move hK rfl) fun a hK => ?_
      refine sl hK (by decide) rfl rfl (r_move hK rfl) fun a hK => ?_
      refine sl hK (by decide) rfl rfl (r_move hK rfl) fun a hK => ?_
      refine sl hK (by decide) rfl rfl (r_ibin hK rfl rfl rfl) fun a hK => ?_
      rcases or_b (decide (0 ≤ (IntKind.i64.wrap (8 * x_16)))) with hn_28 | hn_28
      · rw [ifb_t hn_28] at H
        refine sl hK (by decide) rfl rfl (r_shr hK rfl rfl (of_decide_eq_true hn_28)) fun a hK => ?_
        refine sl hK (by decide) rfl rfl (r_conv Tryd.underlying3 Tryd.underlying5 hK rfl) fun a hK => ?_
        refine sl_buildSliceF (zc := [.int .u8 0]) (ps := [(0, .int .u8 (IntKind.u8.wrap (a1.fdiv (2 ^ (min (IntKind.i64.wrap (8 * x_16)).toNat 64)))))]) (c := [.int .u8 (IntKind.u8.wrap (a1.fdiv (2 ^ (min (IntKind.i64.wrap (8 * x_16)).toNat 64))))]) [[.int .u8 (IntKind.u8.wrap (a1.fdiv (2 ^ (min (IntKind.i64.wrap (8 * x_16)).toNat 64))))]] Tryd.underlying66 Tryd.sizeOf5 Tryd.zeroValue5 rfl (pc_cons rfl pc_nil) rfl rfl (Nat.le_of_ble_eq_true rfl) rfl (all_cons rfl (all_nil)) rfl hS hK (by decide) rfl fun a w b_29 hS hK => ?_
        obtain ⟨y_30, h_31, H⟩ := bind_some H
        have hS := hS.pk1
        refine sl_append_L (ty := (tyInt .u8)) (ys := [IntKind.u8.wrap (a1.fdiv (2 ^ (min (IntKind.i64.wrap (8 * x_16)).toNat 64)))]) elT66 (by decide) rfl hq_15 rfl (Reps.cons (show Ty.rep (tyInt .u8) _ [.int .u8 (IntKind.u8.wrap (a1.fdiv (2 ^ (min (IntKind.i64.wrap (8 * x_16)).toNat 64))))] (IntKind.u8.wrap (a1.fdiv (2 ^ (min (IntKind.i64.wrap (8 * x_16)).toNat 64)))) from rfl) (Reps.nil _ _)) rfl h_31 hS hK (by decide) rfl rfl rfl fun a w v_32 cs_33 hq_34 hS hK => ?_
        refine sl hK (by decide) rfl rfl (r_assign hK rfl) fun a hK => ?_
        refine wpList_nil ?_
        refine wp_region_lit ?_
        refine sl hK (by decide) rfl rfl (r_move hK rfl) fun a hK => ?_
        refine sl hK (by decide) rfl rfl (r_ibin hK rfl rfl rfl) fun a hK => ?_
        refine sl hK (by decide) rfl rfl (r_assign hK rfl) fun a hK => ?_
        refine wpList_nil ?_
        exact ⟨_, Nat.lt_succ_self _, y_30, (IntKind.i64.wrap (x_16 - 1)), _, _, H, hq_34, hK.sub (all_cons rfl (all_cons rfl (all_cons rfl (all_nil)))), hS⟩
      · rw [ifb_f hn_28] at H
        cases H
    · rw [ifb_f hb_27] at H
      refine wp_exit ?_
      refine wp_seq ?_
      refine wp_region_lit ?_
      refine sl hK (by decide) rfl rfl (r_move hK rfl) fun a hK => ?_
      refine sl hK (by decide) rfl rfl (r_assign hK rfl) fun a hK => ?_
      refine wpList_nil ?_
      obtain rfl := Option.some.inj H
      refine wp_ret ?_
      repeat (first | refine ret_then ?_ | refine ret_block ?_ | refine ret_scope ?_)
      exact ret_1 Tryd.results35 hK (rv_tmp hK rfl) ⟨_, rfl, _, _, _, rfl, hS, hRL, hq_15⟩

/-! ### catchment/wire.put: function 32 -/
set_option maxHeartbeats 4000000 in
set_option maxRecDepth 100000 in
theorem wire_put.calls (a0 : List Int) (a1 : api_Value) {w0 : World} {R : Hp} {M : List Own} {v0_0 : Value} {cs0_0 : List Value} (hS0 : St M w0 w0 R [.row 5 1 v0_0 a0.length cs0_0]) (h0_0 : Reps (tyInt .u8) R cs0_0 a0) {r : List Int} (H : wire_put a0 a1 = some r) : Calls Tryd.prog 32 #[v0_0, .agg #[.int .i64 a1.Kind, .int .i64 a1.N, .string a1.S, .int .i64 a1.H.a0, .int .i64 a1.H.a1, .int .i64 a1.H.a2, .int .i64 a1.H.a3, .int .i64 a1.H.a4, .int .i64 a1.H.a5, .int .i64 a1.H.a6, .int .i64 a1.H.a7]] w0 (Rets fun v w' => ∃ (R' : Hp) (u0 : Value) (cu0 : List Value), v = u0 ∧ St M w0 w' R' [.row 5 1 u0 r.length cu0] ∧ RLe M w0 R R' ∧ Reps (tyInt .u8) R' cu0 r) := by
  unfold wire_put at H
  refine enter (args := [v0_0, .agg #[.int .i64 a1.Kind, .int .i64 a1.N, .string a1.S, .int .i64 a1.H.a0, .int .i64 a1.H.a1, .int .i64 a1.H.a2, .int .i64 a1.H.a3, .int .i64 a1.H.a4, .int .i64 a1.H.a5, .int .i64 a1.H.a6, .int .i64 a1.H.a7]]) Tryd.func32 rfl Tryd.ntmps32 rfl fun a hK => ?_
  have hS := hS0
  have hRL := RLe.refl (M := M) w0 R
  refine wp_seq ?_
  refine wp_region_lit ?_
  refine sl_box hS hK (by decide) rfl rfl (c := [.int .i64 a1.Kind, .int .i64 a1.N, .string a1.S, .int .i64 a1.H.a0, .int .i64 a1.H.a1, .int .i64 a1.H.a2, .int .i64 a1.H.a3, .int .i64 a1.H.a4, .int .i64 a1.H.a5, .int .i64 a1.H.a6, .int .i64 a1.H.a7]) rfl fun a w b_1 hS hK => ?_
  refine sl hK (by decide) rfl rfl (r_assign hK rfl) fun a hK => ?_
  refine wpList_nil ?_
  refine wp_seq ?_
  refine wp_seq ?_
  refine wp_region_lit ?_
  refine sl hK (by decide) rfl rfl (r_fieldAddr Tryd.underlying50 rfl Tryd.sizeOf3 hK rfl) fun a hK => ?_
  refine sl hK (by decide) rfl rfl (r_load Tryd.isAgg3 hK rfl (hS.cell (.head _) rfl)) fun a hK => ?_
  refine wpList_nil ?_
  refine wp_block ?_
  refine wp_seq ?_
  refine wp_region_lit ?_
  refine sl hK (by decide) rfl rfl (r_ibin hK rfl rfl rfl) fun a hK => ?_
  refine sl hK (by decide) rfl rfl (r_assign hK rfl) fun a hK => ?_
  refine wpList_nil ?_
  refine wp_cond_split (hK.ev rfl) (fun (hb_2 : (a1.Kind == 1) = true) => ?_) (fun (hb_2 : (a1.Kind == 1) = false) => ?_)
  · rw [ifb_t hb_2] at H
    refine wp_seq ?_
    refine wp_region_lit ?_
    refine sl hK (by decide) rfl rfl (r_move hK rfl) fun a hK => ?_
    refine sl hK (by decide) rfl rfl (r_fieldAddr Tryd.underlying50 rfl Tryd.sizeOf3 hK rfl) fun a hK => ?_
    refine sl hK (by decide) rfl rfl (r_load Tryd.isAgg3 hK rfl (hS.cell (.head _) rfl)) fun a hK => ?_
    obtain ⟨y_3, h_4, H⟩ := bind_some H
    have hS := hS.pk1
    have hS1 := hS.sp1
    refine sl_call Tryd.call35 hK (by decide) rfl rfl rfl (wire_big.calls a0 a1.N 8 hS1.lend h0_0 h_4) fun a v_ w hv_ hK => ?_
    obtain ⟨R_5, v_8, cs_9, hv_, hr_, hl_6, hq_10⟩ := hv_
    have hv_ := hv_.symm
    subst hv_
    obtain ⟨hS, hl_6⟩ := hS1.back hr_ hl_6
    have hS := hS.un1
    have hRL := hRL.trans hl_6
    refine sl hK (by decide) rfl rfl (r_assign hK rfl) fun a hK => ?_
    refine wpList_nil ?_
    obtain rfl := Option.some.inj H
    refine wp_ret ?_
    repeat (first | refine ret_then ?_ | refine ret_block ?_ | refine ret_scope ?_)
    exact ret_1 Tryd.results32 hK (rv_tmp hK rfl) ⟨_, rfl, _, _, _, rfl, (hS.trunc 1), hRL, hq_10⟩
  · rw [ifb_f hb_2] at H
    refine wp_seq ?_
    refine wp_region_lit ?_
    refine sl hK (by decide) rfl rfl (r_ibin hK rfl rfl rfl) fun a hK => ?_
    refine sl hK (by decide) rfl rfl (r_assign hK rfl) fun a hK => ?_
    refine wpList_nil ?_
    refine wp_cond_split (hK.ev rfl) (fun (hb_11 : (a1.Kind == 2) = true) => ?_) (fun (hb_11 : (a1.Kind == 2) = false) => ?_)
    · rw [ifb_t hb_11] at H
      refine wp_seq ?_
      refine parT_region (C := fun w => St M w0 w R [.cells b_1 [.int .i64 a1.Kind, .int .i64 a1.N, .string a1.S, .int .i64 a1.H.a0, .int .i64 a1.H.a1, .int .i64 a1.H.a2, .int .i64 a1.H.a3, .int .i64 a1.H.a4, .int .i64 a1.H.a5, .int .i64 a1.H.a6, .int .i64 a1.H.a7] 50]) 9 [(0, true), (1, true), (2, true), (3, true), (4, true), (7, true), (8, true), (5, false), (6, false)] mixed (by kernel_rfl) hS (fun w hS => (hS.trunc 1)) fun w hS => ?_
      refine sp (k := 0) rfl hK (by decide) rfl rfl (fun w hS => r_move hK rfl) fun a hK => ?_
      refine sp (k := 1) rfl hK (by decide) rfl rfl (fun w hS => r_fieldAddr Tryd.underlying50 rfl Tryd.sizeOf9 hK rfl) fun a hK => ?_
      refine sp (k := 2) rfl hK (by decide) rfl rfl (fun w hS => r_load Tryd.isAgg9 hK rfl (hS.cell (.head _) rfl)) fun a hK => ?_
      refine sp (k := 3) rfl hK (by decide) rfl rfl (fun w hS => r_len_str Tryd.underlying9 hK rfl) fun a hK => ?_
      refine sp (k := 4) rfl hK (by decide) rfl rfl (fun w hS => r_conv Tryd.underlying3 Tryd.underlying5 hK rfl) fun a hK => ?_
      refine sp (k := 7) rfl hK (by decide) rfl rfl (fun w hS => r_fieldAddr Tryd.underlying50 rfl Tryd.sizeOf9 hK rfl) fun a hK => ?_
      refine sp (k := 8) rfl hK (by decide) rfl rfl (fun w hS => r_load Tryd.isAgg9 hK rfl (hS.cell (.head _) rfl)) fun a hK => ?_
      refine spw (k := 5) rfl rfl (hS.trunc 1) ?_
      refine sl_buildSliceF (zc := [.int .u8 0]) (ps := [(0, .int .u8 (IntKind.u8.wrap (a1.S.size : Int)))]) (c := [.int .u8 (IntKind.u8.wrap (a1.S.size : Int))]) [[.int .u8 (IntKind.u8.wrap (a1.S.size : Int))]] Tryd.underlying66 Tryd.sizeOf5 Tryd.zeroValue5 rfl (pc_cons rfl pc_nil) rfl rfl (Nat.le_of_ble_eq_true rfl) rfl (all_cons rfl (all_nil)) rfl hS hK (by decide) rfl fun a w b_25 hS hK => ?_
      refine parK_nil (hS.pk1.trunc 1) ?_
      refine spw (k := 6) rfl rfl (hS.pk1.trunc 1) ?_
      obtain ⟨y_26, h_27, H⟩ := bind_some H
      have hS := hS.pk2
      refine sl_append_L (ty := (tyInt .u8)) (ys := [IntKind.u8.wrap (a1.S.size : Int)]) elT66 (by decide) rfl h0_0 rfl (Reps.cons (show Ty.rep (tyInt .u8) _ [.int .u8 (IntKind.u8.wrap (a1.S.size : Int))] (IntKind.u8.wrap (a1.S.size : Int)) from rfl) (Reps.nil _ _)) rfl h_27 hS hK (by decide) rfl rfl rfl fun a w v_28 cs_29 hq_30 hS hK => ?_
      refine parK_nil (hS.pk1.trunc 1) ?_
      refine thenL_nil ?_
      obtain ⟨y_32, h_33, H⟩ := bind_some H
      refine sl_append_S elT66 Tryd.underlying9 Tryd.zeroValue5 hq_30 rfl h_33 hS hK (by decide) rfl rfl rfl fun a w v_34 cs_35 hq_36 hS hK => ?_
      refine sl hK (by decide) rfl rfl (r_assign hK rfl) fun a hK => ?_
      refine wpList_nil (NoP_nil ?_)
      obtain rfl := Option.some.inj H
      refine wp_ret ?_
      repeat (first | refine ret_then ?_ | refine ret_block ?_ | refine ret_scope ?_)
      exact ret_1 Tryd.results32 hK (rv_tmp hK rfl) ⟨_, rfl, _, _, _, rfl, (hS.trunc 1), hRL, hq_36⟩
    · rw [ifb_f hb_11] at H
      refine wp_seq ?_
      refine wp_region_lit ?_
      refine sl hK (by decide) rfl rfl (r_ibin hK rfl rfl rfl) fun a hK => ?_
      refine sl hK (by decide) rfl rfl (r_assign hK rfl) fun a hK => ?_
      refine wpList_nil ?_
      refine wp_cond_split (hK.ev rfl) (fun (hb_38 : (a1.Kind == 3) = true) => ?_) (fun (hb_38 : (a1.Kind == 3) = false) => ?_)
      · rw [ifb_t hb_38] at H
        refine wp_seq ?_
        refine wp_region_lit ?_
        refine sl hK (by decide) rfl rfl (r_move hK rfl) fun a hK => ?_
        refine sl hK (by decide) rfl rfl (r_fieldAddr Tryd.underlying50 rfl Tryd.sizeOf3 hK rfl) fun a hK => ?_
        refine sl hK (by decide) rfl rfl (r_load Tryd.isAgg3 hK rfl (hS.cell (.head _) rfl)) fun a hK => ?_
        refine sl hK (by decide) rfl rfl (r_conv Tryd.underlying3 Tryd.underlying5 hK rfl) fun a hK => ?_
        refine sl_buildSliceF (zc := [.int .u8 0]) (ps := [(0, .int .u8 (IntKind.u8.wrap a1.N))]) (c := [.int .u8 (IntKind.u8.wrap a1.N)]) [[.int .u8 (IntKind.u8.wrap a1.N)]] Tryd.underlying66 Tryd.sizeOf5 Tryd.zeroValue5 rfl (pc_cons rfl pc_nil) rfl rfl (Nat.le_of_ble_eq_true rfl) rfl (all_cons rfl (all_nil)) rfl hS hK (by decide) rfl fun a w b_39 hS hK => ?_
        obtain ⟨y_40, h_41, H⟩ := bind_some H
        have hS := hS.pk2
        refine sl_append_L (ty := (tyInt .u8)) (ys := [IntKind.u8.wrap a1.N]) elT66 (by decide) rfl h0_0 rfl (Reps.cons (show Ty.rep (tyInt .u8) _ [.int .u8 (IntKind.u8.wrap a1.N)] (IntKind.u8.wrap a1.N) from rfl) (Reps.nil _ _)) rfl h_41 hS hK (by decide) rfl rfl rfl fun a w v_42 cs_43 hq_44 hS hK => ?_
        refine sl hK (by decide) rfl rfl (r_assign hK rfl) fun a hK => ?_
        refine wpList_nil ?_
        obtain rfl := Option.some.inj H
        refine wp_ret ?_
        repeat (first | refine ret_then ?_ | refine ret_block ?_ | refine ret_scope ?_)
        exact ret_1 Tryd.results32 hK (rv_tmp hK rfl) ⟨_, rfl, _, _, _, rfl, (hS.trunc 1), hRL, hq_44⟩
      · rw [ifb_f hb_38] at H
        refine wp_skip ?_
        refine wp_seq ?_
        refine wp_seq ?_
        refine wp_region_lit ?_
        refine sl hK (by decide) rfl rfl (r_fieldAddr Tryd.underlying50 rfl Tryd.sizeOf48 hK rfl) fun a hK => ?_
        refine sl hK (by decide) rfl rfl (r_loadA (cs := [.int .i64 a1.H.a0, .int .i64 a1.H.a1, .int .i64 a1.H.a2, .int .i64 a1.H.a3, .int .i64 a1.H.a4, .int .i64 a1.H.a5, .int .i64 a1.H.a6, .int .i64 a1.H.a7]) Tryd.isAgg48 Tryd.sizeOf48 rfl hK rfl (hS.cells_of (m := 8) (.head _) rfl)) fun a hK => ?_
        refine sl hK (by decide) rfl rfl (r_move hK rfl) fun a hK => ?_
        refine wpList_nil ?_
        refine wp_block ?_
        refine wp_loop_k (fun k_l0 a w => ∃ (x_56 : List Int) (x_60 : Int) (R_61 : Hp) (v_57 : Value) (cs_58 : List Value), wire_put.l0 a1 k_l0 x_56 x_60 = some r ∧ RLe M w0 R R_61 ∧ Reps (tyInt .u8) R_61 cs_58 x_56 ∧ Kn 45 a [(0, v_57), (36, .agg #[.int .i64 a1.H.a0, .int .i64 a1.H.a1, .int .i64 a1.H.a2, .int .i64 a1.H.a3, .int .i64 a1.H.a4, .int .i64 a1.H.a5, .int .i64 a1.H.a6, .int .i64 a1.H.a7]), (37, .int .i64 x_60)] ∧ St M w0 w R_61 [.row 5 1 v_57 x_56.length cs_58]) (((8 : Int) - 0).toNat + 1) ?_ ?_
        · have hS := hS.pk1
          exact ⟨a0, 0, _, _, _, H, (RLe.refl _ _), h0_0, hK.sub (all_cons rfl (all_cons rfl (all_cons rfl (all_nil)))), hS.trunc 1⟩
        · rintro k_l0 a w ⟨x_56, x_60, R_61, v_57, cs_58, H, hl_62, hq_59, hK, hS⟩
          cases k_l0 with
          | zero => cases H
          | succ k_l0 =>
          rw [wire_put.l0.eq_2] at H
          have hRL := hRL.trans hl_62
          refine wp_seq ?_
          refine wp_region_lit ?_
          refine sl hK (by decide) rfl rfl (r_ibin hK rfl rfl rfl) fun a hK => ?_
          refine wpList_nil ?_
          refine wp_seq ?_
          refine wp_cond_split (hK.ev rfl) (fun (hb_74 : (decide (x_60 < 8)) = true) => ?_) (fun (hb_74 : (decide (x_60 < 8)) = false) => ?_)
          · rw [ifb_t hb_74] at H
            refine wp_skip ?_
            refine wp_seq ?_
            refine wp_block ?_
            refine wp_seq ?_
            refine wp_region_lit ?_
            obtain ⟨y_75, h_76, H⟩ := bind_some H
            refine sl hK (by decide) rfl rfl (r_index_arr Tryd.underlying48 Tryd.isAgg3 Tryd.sizeOf3 (Arr8.ix_lt h_76).1 (Arr8.ix_lt h_76).2 (Arr8.ix_agg h_76) hK rfl rfl) fun a hK => ?_
            refine sl hK (by decide) rfl rfl (r_assign hK rfl) fun a hK => ?_
            refine wpList_nil ?_
            refine wp_region_lit ?_
            refine sl hK (by decide) rfl rfl (r_move hK rfl) fun a hK => ?_
            refine sl hK (by decide) rfl rfl (r_move hK rfl) fun a hK => ?_
            obtain ⟨y_77, h_78, H⟩ := bind_some H
            have hS1 := hS.sp1
            refine sl_call Tryd.call35 hK (by decide) rfl rfl rfl (wire_big.calls x_56 y_75 8 hS1.lend hq_59 h_78) fun a v_ w hv_ hK => ?_
            obtain ⟨R_79, v_82, cs_83, hv_, hr_, hl_80, hq_84⟩ := hv_
            have hv_ := hv_.symm
            subst hv_
            obtain ⟨hS, hl_80⟩ := hS1.back hr_ hl_80
            have hS := hS.un1
            have hRL := hRL.trans hl_80
            refine sl hK (by decide) rfl rfl (r_assign hK rfl) fun a hK => ?_
            refine wpList_nil ?_
            refine wp_region_lit ?_
            refine sl hK (by decide) rfl rfl (r_ibin hK rfl rfl rfl) fun a hK => ?_
            refine sl hK (by decide) rfl rfl (r_move hK rfl) fun a hK => ?_
            refine wpList_nil ?_
            exact ⟨_, Nat.lt_succ_self _, y_77, (IntKind.i64.wrap (x_60 + 1)), _, _, _, H, (hl_62.trans hl_80), hq_84, hK.sub (all_cons rfl (all_cons rfl (all_cons rfl (all_nil)))), hS⟩
          · rw [ifb_f hb_74] at H
            refine wp_exit ?_
            refine wp_seq ?_
            refine wp_region_lit ?_
            refine sl hK (by decide) rfl rfl (r_move hK rfl) fun a hK => ?_
            refine sl hK (by decide) rfl rfl (r_assign hK rfl) fun a hK => ?_
            refine wpList_nil ?_
            obtain rfl := Option.some.inj H
            refine wp_ret ?_
            repeat (first | refine ret_then ?_ | refine ret_block ?_ | refine ret_scope ?_)
            exact ret_1 Tryd.results32 hK (rv_tmp hK rfl) ⟨_, rfl, _, _, _, rfl, hS, hRL, hq_59⟩

/-! ### catchment/wire.Put: function 28 -/
set_option maxHeartbeats 4000000 in
set_option maxRecDepth 100000 in
theorem wire_Put.calls (a0 : List Int) (a1 : api_Value) {w0 : World} {R : Hp} {RA : Hp} {v0_0 : Value} (hRA : RA.sub w0) (hR : R.sub w0) (h0_0 : SlR (tyInt .u8) RA v0_0 a0) {r : (List Int) × Int} (H : wire_Put a0 a1 = some r) : Calls Tryd.prog 28 #[v0_0, .agg #[.int .i64 a1.Kind, .int .i64 a1.N, .string a1.S, .int .i64 a1.H.a0, .int .i64 a1.H.a1, .int .i64 a1.H.a2, .int .i64 a1.H.a3, .int .i64 a1.H.a4, .int .i64 a1.H.a5, .int .i64 a1.H.a6, .int .i64 a1.H.a7]] w0 (Rets fun v w' => ∃ (R' : Hp) (u0 : Value) (cu0 : List Value), v = .tuple #[u0, .int .i64 r.2] ∧ St [] w0 w' R' [.row 5 1 u0 r.1.length cu0] ∧ RLe [] w0 R R' ∧ Reps (tyInt .u8) R' cu0 r.1) := by
  unfold wire_Put at H
  refine enter (args := [v0_0, .agg #[.int .i64 a1.Kind, .int .i64 a1.N, .string a1.S, .int .i64 a1.H.a0, .int .i64 a1.H.a1, .int .i64 a1.H.a2, .int .i64 a1.H.a3, .int .i64 a1.H.a4, .int .i64 a1.H.a5, .int .i64 a1.H.a6, .int .i64 a1.H.a7]]) Tryd.func28 rfl Tryd.ntmps28 rfl fun a hK => ?_
  have hS := St.init hR
  have hRL := RLe.refl (M := []) w0 R
  refine wp_seq ?_
  refine wp_region_lit ?_
  refine sl_box hS hK (by decide) rfl rfl (c := [.int .i64 a1.Kind, .int .i64 a1.N, .string a1.S, .int .i64 a1.H.a0, .int .i64 a1.H.a1, .int .i64 a1.H.a2, .int .i64 a1.H.a3, .int .i64 a1.H.a4, .int .i64 a1.H.a5, .int .i64 a1.H.a6, .int .i64 a1.H.a7]) rfl fun a w b_1 hS hK => ?_
  refine sl hK (by decide) rfl rfl (r_assign hK rfl) fun a hK => ?_
  refine sl hK (by decide) rfl rfl (r_assign hK rfl) fun a hK => ?_
  refine wpList_nil ?_
  refine wp_seq ?_
  refine wp_seq ?_
  refine wp_region_lit ?_
  refine sl hK (by decide) rfl rfl (r_loadA (cs := [.int .i64 a1.Kind, .int .i64 a1.N, .string a1.S, .int .i64 a1.H.a0, .int .i64 a1.H.a1, .int .i64 a1.H.a2, .int .i64 a1.H.a3, .int .i64 a1.H.a4, .int .i64 a1.H.a5, .int .i64 a1.H.a6, .int .i64 a1.H.a7]) Tryd.isAgg50 Tryd.sizeOf50 rfl hK rfl (hS.cells_of (m := 11) (.head _) rfl)) fun a hK => ?_
  obtain ⟨y_2, h_3, H⟩ := bind_some H
  refine sl_callV Tryd.call22 hS hK (by decide) rfl rfl rfl (value_Valid.calls a1 h_3 _) fun a w hS hK => ?_
  refine sl hK (by decide) rfl rfl (r_un hK rfl (u_not _)) fun a hK => ?_
  refine wpList_nil ?_
  refine wp_cond_split (hK.ev rfl) (fun (hb_4 : (!y_2) = true) => ?_) (fun (hb_4 : (!y_2) = false) => ?_)
  · rw [ifb_t hb_4] at H
    refine wp_seq ?_
    refine wp_region_lit ?_
    refine sl hK (by decide) rfl rfl (r_assign hK rfl) fun a hK => ?_
    refine sl hK (by decide) rfl rfl (r_assign hK rfl) fun a hK => ?_
    refine wpList_nil ?_
    have hS := hS.row_nil 5 1
    have hq_6 : Reps (tyInt .u8) R [] ([] : List Int) := Reps.nil _ _
    obtain rfl := Option.some.inj H
    refine wp_ret ?_
    repeat (first | refine ret_then ?_ | refine ret_block ?_ | refine ret_scope ?_)
    exact ret_2 Tryd.results28 hK (rv_tmp hK rfl) (rv_tmp hK rfl) ⟨_, rfl, _, _, _, rfl, (hS.trunc 1), hRL, hq_6⟩
  · rw [ifb_f hb_4] at H
    refine wp_skip ?_
    refine wp_seq ?_
    refine parT_region (C := fun w => St [] w0 w R [.cells b_1 [.int .i64 a1.Kind, .int .i64 a1.N, .string a1.S, .int .i64 a1.H.a0, .int .i64 a1.H.a1, .int .i64 a1.H.a2, .int .i64 a1.H.a3, .int .i64 a1.H.a4, .int .i64 a1.H.a5, .int .i64 a1.H.a6, .int .i64 a1.H.a7] 50]) 3 [(0, true), (2, true), (1, false)] mixed (by kernel_rfl) hS (fun w hS => hS) fun w hS => ?_
    refine sp (k := 0) rfl hK (by decide) rfl rfl (fun w hS => r_move hK rfl) fun a hK => ?_
    refine sp (k := 2) rfl hK (by decide) rfl rfl (fun w hS => r_loadA (cs := [.int .i64 a1.Kind, .int .i64 a1.N, .string a1.S, .int .i64 a1.H.a0, .int .i64 a1.H.a1, .int .i64 a1.H.a2, .int .i64 a1.H.a3, .int .i64 a1.H.a4, .int .i64 a1.H.a5, .int .i64 a1.H.a6, .int .i64 a1.H.a7]) Tryd.isAgg50 Tryd.sizeOf50 rfl hK rfl (hS.cells_of (m := 11) (.head _) rfl)) fun a hK => ?_
    refine spw (k := 1) rfl rfl hS ?_
    obtain ⟨y_23, h_24, H⟩ := bind_some H
    refine sl_call Tryd.call33 hK (by decide) rfl rfl rfl (slices_Clone_byte_byte.calls a0 (lentOf_sub [] _) hS.sub (h0_0.mono (hS.raLe0 hRA nil_not)) h_24) fun a v_ w hv_ hK => ?_
    obtain ⟨R_25, v_28, cs_29, hv_, hr_, hl_26, hq_30⟩ := hv_
    have hv_ := hv_.symm
    subst hv_
    obtain ⟨hS, hl_26⟩ := hS.sp0.back hr_ hl_26
    have hS := hS.un1
    have hRL := hRL.trans hl_26
    refine parK_nil ((hS.pk1.trunc 1).lower hl_26.le) ?_
    refine thenL_nil ?_
    obtain ⟨y_31, h_32, H⟩ := bind_some H
    have hS1 := hS.sp1
    refine sl_call Tryd.call32 hK (by decide) rfl rfl rfl (wire_put.calls y_23 a1 hS1.lend hq_30 h_32) fun a v_ w hv_ hK => ?_
    obtain ⟨R_33, v_36, cs_37, hv_, hr_, hl_34, hq_38⟩ := hv_
    have hv_ := hv_.symm
    subst hv_
    obtain ⟨hS, hl_34⟩ := hS1.back hr_ hl_34
    have hS := hS.un1
    have hRL := hRL.trans hl_34
    refine sl hK (by decide) rfl rfl (r_assign hK rfl) fun a hK => ?_
    refine sl hK (by decide) rfl rfl (r_assign hK rfl) fun a hK => ?_
    refine wpList_nil (NoP_nil ?_)
    obtain rfl := Option.some.inj H
    refine wp_ret ?_
    repeat (first | refine ret_then ?_ | refine ret_block ?_ | refine ret_scope ?_)
    exact ret_2 Tryd.results28 hK (rv_tmp hK rfl) (rv_tmp hK rfl) ⟨_, rfl, _, _, _, rfl, (hS.trunc 1), hRL, hq_38⟩

/-! ### catchment/streams.mark: function 19 -/
set_option maxHeartbeats 4000000 in
set_option maxRecDepth 100000 in
theorem streams_mark.calls (a0 : ByteArray) (a1 : List api_Value) {w0 : World} {RA : Hp} {v1_0 : Value} (hRA : RA.sub w0) (h1_0 : SlR ty_api_Value RA v1_0 a1) (hG : GF RA) {r : ByteArray × Bool} (H : streams_mark a0 a1 = some r) : CallsV Tryd.prog 19 #[.string a0, v1_0] w0 (.tuple #[.string r.1, .bool r.2]) := by
  unfold streams_mark at H
  refine enter (args := [.string a0, v1_0]) Tryd.func19 rfl Tryd.ntmps19 rfl fun a hK => ?_
  have hS := St.init (R := fun _ => none) (w := w0) (fun _ _ h => by cases h)
  have hRL := RLe.refl (M := []) w0 (fun _ => none)
  refine wp_seq ?_
  refine wp_region_lit ?_
  refine sl hK (by decide) rfl rfl (r_assign hK rfl) fun a hK => ?_
  refine sl hK (by decide) rfl rfl (r_assign hK rfl) fun a hK => ?_
  refine wpList_nil ?_
  refine wp_seq ?_
  refine wp_region_lit ?_
  refine sl hK (by decide) rfl rfl (r_move hK rfl) fun a hK => ?_
  refine sl hK (by decide) rfl rfl (r_len_str Tryd.underlying9 hK rfl) fun a hK => ?_
  obtain ⟨y_1, h_2, H⟩ := bind_some H
  refine sl_callV Tryd.call27 hS hK (by decide) rfl rfl rfl (strconv_Itoa.calls (a0.size : Int) (lentOf_sub [] _) (GF.mono (hS.raLe0 hRA nil_not) hG) h_2) fun a w hS hK => ?_
  rcases or_b (decide (y_1.size + (⟨#[32]⟩ : ByteArray).size ≤ 9223372036854775807)) with hn_3 | hn_3
  · rw [ifb_t hn_3] at H
    refine sl hK (by decide) rfl rfl (r_sadd hK rfl rfl (of_decide_eq_true hn_3)) fun a hK => ?_
    refine sl hK (by decide) rfl rfl (r_move hK rfl) fun a hK => ?_
    rcases or_b (decide ((y_1 ++ (⟨#[32]⟩ : ByteArray)).size + a0.size ≤ 9223372036854775807)) with hn_4 | hn_4
    · rw [ifb_t hn_4] at H
      refine sl hK (by decide) rfl rfl (r_sadd hK rfl rfl (of_decide_eq_true hn_4)) fun a hK => ?_
      rcases or_b (decide ((sbytes ((y_1 ++ (⟨#[32]⟩ : ByteArray)) ++ a0)).length * 1 ≤ 140737488355328)) with hn_9 | hn_9
      · rw [ifb_t hn_9] at H
        refine sl_conv_sbM Tryd.underlying9 Tryd.underlying66 Tryd.underlying5 (of_decide_eq_true hn_9) hS hK (by decide) rfl rfl fun a w v_5 cs_6 hq_7 hS hK => ?_
        refine sl hK (by decide) rfl rfl (r_assign hK rfl) fun a hK => ?_
        refine wpList_nil ?_
        refine wp_seq ?_
        refine wp_seq ?_
        refine wp_region_lit ?_
        refine sl hK (by decide) rfl rfl (r_move hK rfl) fun a hK => ?_
        refine sl hK (by decide) rfl rfl (r_len_R Tryd.underlying30 h1_0 hK rfl) fun a hK => ?_
        refine sl hK (by decide) rfl rfl (r_move hK rfl) fun a hK => ?_
        refine wpList_nil ?_
        refine wp_block ?_
        refine wp_loop_k (fun k_l0 a w => ∃ (x_48 : List Int) (x_52 : Int) (R_53 : Hp) (v_49 : Value) (cs_50 : List Value), streams_mark.l0 a1 k_l0 x_48 x_52 = some r ∧ RLe [] w0 (fun _ => none) R_53 ∧ Reps (tyInt .u8) R_53 cs_50 x_48 ∧ Kn 42 a [(6, v_49), (18, v1_0), (19, .int .i64 (a1.length : Int)), (20, .int .i64 x_52)] ∧ St [] w0 w R_53 [.rowM 5 1 v_49 x_48.length cs_50]) (((a1.length : Int) - 0).toNat + 1) ?_ ?_
        · exact ⟨(sbytes ((y_1 ++ (⟨#[32]⟩ : ByteArray)) ++ a0)), 0, _, _, _, H, (RLe.refl _ _), hq_7, hK.sub (all_cons rfl (all_cons rfl (all_cons rfl (all_cons rfl (all_nil))))), hS⟩
        · rintro k_l0 a w ⟨x_48, x_52, R_53, v_49, cs_50, H, hl_54, hq_51, hK, hS⟩
          cases k_l0 with
          | zero => cases H
          | succ k_l0 =>
          rw [streams_mark.l0.eq_2] at H
          have hRL := hRL.trans hl_54
          refine wp_seq ?_
          refine wp_region_lit ?_
          refine sl hK (by decide) rfl rfl (r_ibin hK rfl rfl rfl) fun a hK => ?_
          refine wpList_nil ?_
          refine wp_seq ?_
          refine wp_cond_split (hK.ev rfl) (fun (hb_91 : (decide (x_52 < (a1.length : Int))) = true) => ?_) (fun (hb_91 : (decide (x_52 < (a1.length : Int))) = false) => ?_)
          · rw [ifb_t hb_91] at H
            refine wp_skip ?_
            refine wp_seq ?_
            refine wp_block ?_
            refine wp_seq ?_
            refine wp_region_lit ?_
            obtain ⟨y_92, h_93, H⟩ := bind_some H
            obtain ⟨b_94, o_95, c_96, cs_97, hv_98, hr_99, hc_100, h_930, h_931⟩ := h1_0.ix h_93
            subst hr_99
            refine sl hK (by decide) rfl rfl (r_indexAddr_R Tryd.underlying30 Tryd.sizeOf50 hv_98 h_930 h_931 hK rfl rfl) fun a hK => ?_
            refine sl hK (by decide) rfl rfl (r_loadA (cs := [.int .i64 y_92.Kind, .int .i64 y_92.N, .string y_92.S, .int .i64 y_92.H.a0, .int .i64 y_92.H.a1, .int .i64 y_92.H.a2, .int .i64 y_92.H.a3, .int .i64 y_92.H.a4, .int .i64 y_92.H.a5, .int .i64 y_92.H.a6, .int .i64 y_92.H.a7]) Tryd.isAgg50 Tryd.sizeOf50 rfl hK rfl (fun j v hv => (hS.ra hRA nil_not).cell (hc_100 j v hv))) fun a hK => ?_
            refine sl_alloc Tryd.zeroValue50 hS hK (by decide) rfl rfl fun a w b_101 hS hK => ?_
            refine sl_storeA (vs := [.int .i64 y_92.Kind, .int .i64 y_92.N, .string y_92.S, .int .i64 y_92.H.a0, .int .i64 y_92.H.a1, .int .i64 y_92.H.a2, .int .i64 y_92.H.a3, .int .i64 y_92.H.a4, .int .i64 y_92.H.a5, .int .i64 y_92.H.a6, .int .i64 y_92.H.a7]) (c' := [.int .i64 y_92.Kind, .int .i64 y_92.N, .string y_92.S, .int .i64 y_92.H.a0, .int .i64 y_92.H.a1, .int .i64 y_92.H.a2, .int .i64 y_92.H.a3, .int .i64 y_92.H.a4, .int .i64 y_92.H.a5, .int .i64 y_92.H.a6, .int .i64 y_92.H.a7]) Tryd.sizeOf50 hS hK rfl rfl rfl rfl (all_cons rfl (all_cons rfl (all_cons rfl (all_cons rfl (all_cons rfl (all_cons rfl (all_cons rfl (all_cons rfl (all_cons rfl (all_cons rfl (all_cons rfl (all_nil)))))))))))) (Nat.le_of_ble_eq_true rfl) rfl fun a w hS hK => ?_
            refine wpList_nil ?_
            refine wp_seq ?_
            refine wp_region_lit ?_
            refine sl hK (by decide) rfl rfl (r_loadA (cs := [.int .i64 y_92.Kind, .int .i64 y_92.N, .string y_92.S, .int .i64 y_92.H.a0, .int .i64 y_92.H.a1, .int .i64 y_92.H.a2, .int .i64 y_92.H.a3, .int .i64 y_92.H.a4, .int .i64 y_92.H.a5, .int .i64 y_92.H.a6, .int .i64 y_92.H.a7]) Tryd.isAgg50 Tryd.sizeOf50 rfl hK rfl (hS.cells_of (m := 11) (.head _) rfl)) fun a hK => ?_
            obtain ⟨y_102, h_103, H⟩ := bind_some H
            refine sl_call Tryd.call28 hK (by decide) rfl rfl rfl (wire_Put.calls ([] : List Int) y_92 (lentOf_sub [] _) hS.sub (SlR.nil (tyInt .u8) _) h_103) fun a v_ w hv_ hK => ?_
            obtain ⟨R_104, v_107, cs_108, hv_, hr_, hl_105, hq_109⟩ := hv_
            have hv_ := hv_.symm
            subst hv_
            obtain ⟨hS, hl_105⟩ := hS.sp0.back hr_ hl_105
            have hS := hS.un1
            have hRL := hRL.trans hl_105
            refine sl hK (by decide) rfl rfl (r_move hK rfl) fun a hK => ?_
            refine sl hK (by decide) rfl rfl (r_extract hK rfl rfl) fun a hK => ?_
            refine sl hK (by decide) rfl rfl (r_extract hK rfl rfl) fun a hK => ?_
            refine sl hK (by decide) rfl rfl (r_assign hK rfl) fun a hK => ?_
            refine sl hK (by decide) rfl rfl (r_assign hK rfl) fun a hK => ?_
            refine wpList_nil ?_
            refine wp_seq ?_
            refine wp_seq ?_
            refine wp_region_lit ?_
            refine sl hK (by decide) rfl rfl (r_move hK rfl) fun a hK => ?_
            refine sl hK (by decide) rfl rfl (r_ibin hK rfl rfl rfl) fun a hK => ?_
            refine wpList_nil ?_
            refine wp_cond_split (hK.ev rfl) (fun (hb_110 : (y_102.2 != 0) = true) => ?_) (fun (hb_110 : (y_102.2 != 0) = false) => ?_)
            · rw [ifb_t hb_110] at H
              refine wp_seq ?_
              refine wp_region_lit ?_
              refine sl hK (by decide) rfl rfl (r_assign hK rfl) fun a hK => ?_
              refine sl hK (by decide) rfl rfl (r_assign hK rfl) fun a hK => ?_
              refine wpList_nil ?_
              obtain rfl := Option.some.inj H
              refine wp_ret ?_
              repeat (first | refine ret_then ?_ | refine ret_block ?_ | refine ret_scope ?_)
              exact ret_2 Tryd.results19 hK (rv_tmp hK rfl) (rv_tmp hK rfl) ⟨rfl, hS.bel⟩
            · rw [ifb_f hb_110] at H
              refine wp_skip ?_
              refine wp_region_lit ?_
              refine sl hK (by decide) rfl rfl (r_move hK rfl) fun a hK => ?_
              refine sl hK (by decide) rfl rfl (r_fieldAddr Tryd.underlying50 rfl Tryd.sizeOf3 hK rfl) fun a hK => ?_
              refine sl hK (by decide) rfl rfl (r_load Tryd.isAgg3 hK rfl (hS.cell (.tail _ (.head _)) rfl)) fun a hK => ?_
              refine sl hK (by decide) rfl rfl (r_conv Tryd.underlying3 Tryd.underlying5 hK rfl) fun a hK => ?_
              refine sl_buildSliceF (zc := [.int .u8 0]) (ps := [(0, .int .u8 (IntKind.u8.wrap y_92.Kind))]) (c := [.int .u8 (IntKind.u8.wrap y_92.Kind)]) [[.int .u8 (IntKind.u8.wrap y_92.Kind)]] Tryd.underlying66 Tryd.sizeOf5 Tryd.zeroValue5 rfl (pc_cons rfl pc_nil) rfl rfl (Nat.le_of_ble_eq_true rfl) rfl (all_cons rfl (all_nil)) rfl hS hK (by decide) rfl fun a w b_111 hS hK => ?_
              obtain ⟨y_112, h_113, H⟩ := bind_some H
              have hS := hS.pk3
              refine sl_append_ML (ty := (tyInt .u8)) (ys := [IntKind.u8.wrap y_92.Kind]) elT66 (by decide) rfl (hq_51.mono hl_105.le) rfl (Reps.cons (show Ty.rep (tyInt .u8) _ [.int .u8 (IntKind.u8.wrap y_92.Kind)] (IntKind.u8.wrap y_92.Kind) from rfl) (Reps.nil _ _)) rfl h_113 hS hK (by decide) rfl rfl rfl fun a w v_114 cs_115 hq_116 hS hK => ?_
              refine sl hK (by decide) rfl rfl (r_move hK rfl) fun a hK => ?_
              have hS := hS.pk1
              obtain ⟨R_118, hS, hl_120, hs_119⟩ := hS.fz_row hq_109 rfl rfl
              have hRL := hRL.trans hl_120
              obtain ⟨y_121, h_122, H⟩ := bind_some H
              refine sl_append_MR elT66 (by decide) rfl (hq_116.mono hl_120.le) rfl hs_119 h_122 hS hK (by decide) rfl rfl rfl fun a w v_123 cs_124 hq_125 hS hK => ?_
              refine sl hK (by decide) rfl rfl (r_assign hK rfl) fun a hK => ?_
              refine wpList_nil ?_
              refine wp_region_lit ?_
              refine sl hK (by decide) rfl rfl (r_ibin hK rfl rfl rfl) fun a hK => ?_
              refine sl hK (by decide) rfl rfl (r_move hK rfl) fun a hK => ?_
              refine wpList_nil ?_
              exact ⟨_, Nat.lt_succ_self _, y_121, (IntKind.i64.wrap (x_52 + 1)), _, _, _, H, (hl_54.trans (hl_105.trans hl_120)), hq_125, hK.sub (all_cons rfl (all_cons rfl (all_cons rfl (all_cons rfl (all_nil))))), hS.trunc 1⟩
          · rw [ifb_f hb_91] at H
            refine wp_exit ?_
            refine wp_seq ?_
            refine wp_region_lit ?_
            refine sl hK (by decide) rfl rfl (r_move hK rfl) fun a hK => ?_
            refine sl hK (by decide) rfl rfl (r_conv_bM Tryd.underlying66 Tryd.underlying9 Tryd.underlying5 hq_51 rfl hS (.head _) hK rfl) fun a hK => ?_
            refine sl hK (by decide) rfl rfl (r_assign hK rfl) fun a hK => ?_
            refine sl hK (by decide) rfl rfl (r_assign hK rfl) fun a hK => ?_
            refine wpList_nil ?_
            obtain rfl := Option.some.inj H
            refine wp_ret ?_
            repeat (first | refine ret_then ?_ | refine ret_block ?_ | refine ret_scope ?_)
            exact ret_2 Tryd.results19 hK (rv_tmp hK rfl) (rv_tmp hK rfl) ⟨rfl, hS.bel⟩
      · rw [ifb_f hn_9] at H
        cases H
    · rw [ifb_f hn_4] at H
      cases H
  · rw [ifb_f hn_3] at H
    cases H

/-! ### (*catchment/streams.Dict).Add: function 8 -/
set_option maxHeartbeats 4000000 in
set_option maxRecDepth 100000 in
theorem streams_Dict_Add.calls (a0 : streams_Dict) (a1 : ByteArray) (a2 : List api_Value) {w0 : World} {R : Hp} {RA : Hp} {M : List Own} {b0 : Nat} {v0_0 : Value} {cs0_0 : List Value} {mb0_1 : Nat} {v2_0 : Value} (hRA : RA.sub w0) (hRM : ∀ b, blks M b → RA b = none) (hS0 : St M w0 w0 R [.cells b0 [.int .i64 a0.most, v0_0, .map (some mb0_1)] 56, .row 60 2 v0_0 a0.l.length cs0_0, .mp mb0_1 (kvs Value.string (Value.int .i64) a0.ids)]) (h0_0 : Reps ty_streams_stream R cs0_0 a0.l) (h2_0 : SlR ty_api_Value RA v2_0 a2) (hG : GF RA) {r : Int × Int × streams_Dict} (H : streams_Dict_Add a0 a1 a2 = some r) : Calls Tryd.prog 8 #[.pointer (some ⟨b0, 0, none⟩), .string a1, v2_0] w0 (Rets fun v w' => ∃ (R' : Hp) (u0 : Value) (cu0 : List Value) (B1 : Nat), v = .tuple #[.int .i64 r.1, .int .i64 r.2.1] ∧ St M w0 w' R' [.cells b0 [.int .i64 r.2.2.most, u0, .map (some B1)] 56, .row 60 2 u0 r.2.2.l.length cu0, .mp B1 (kvs Value.string (Value.int .i64) r.2.2.ids)] ∧ RLe M w0 R R' ∧ Reps ty_streams_stream R' cu0 r.2.2.l) := by
  unfold streams_Dict_Add at H
  refine enter (args := [.pointer (some ⟨b0, 0, none⟩), .string a1, v2_0]) Tryd.func8 rfl Tryd.ntmps8 rfl fun a hK => ?_
  have hS := hS0
  have hRL := RLe.refl (M := M) w0 R
  refine wp_seq ?_
  refine wp_region_lit ?_
  refine sl hK (by decide) rfl rfl (r_assign hK rfl) fun a hK => ?_
  refine sl hK (by decide) rfl rfl (r_assign hK rfl) fun a hK => ?_
  refine wpList_nil ?_
  refine wp_seq ?_
  refine wp_region_lit ?_
  refine sl hK (by decide) rfl rfl (r_move hK rfl) fun a hK => ?_
  refine sl hK (by decide) rfl rfl (r_move hK rfl) fun a hK => ?_
  obtain ⟨y_1, h_2, H⟩ := bind_some H
  refine sl_callV Tryd.call19 hS hK (by decide) rfl rfl rfl (streams_mark.calls a1 a2 (lentOf_sub [] _) (h2_0.mono (hS.raLe0 hRA hRM)) (GF.mono (hS.raLe0 hRA hRM) hG) h_2) fun a w hS hK => ?_
  refine sl hK (by decide) rfl rfl (r_move hK rfl) fun a hK => ?_
  refine sl hK (by decide) rfl rfl (r_extract hK rfl rfl) fun a hK => ?_
  refine sl hK (by decide) rfl rfl (r_extract hK rfl rfl) fun a hK => ?_
  refine sl hK (by decide) rfl rfl (r_assign hK rfl) fun a hK => ?_
  refine sl hK (by decide) rfl rfl (r_assign hK rfl) fun a hK => ?_
  refine wpList_nil ?_
  refine wp_seq ?_
  refine wp_region_lit ?_
  refine sl hK (by decide) rfl rfl (r_move hK rfl) fun a hK => ?_
  refine sl hK (by decide) rfl rfl (r_nilCheck hK rfl) fun a hK => ?_
  refine sl hK (by decide) rfl rfl (r_fieldAddr Tryd.underlying56 rfl Tryd.sizeOf53 hK rfl) fun a hK => ?_
  refine sl hK (by decide) rfl rfl (r_load Tryd.isAgg53 hK rfl (hS.cell (.head _) rfl)) fun a hK => ?_
  refine sl hK (by decide) rfl rfl (r_move hK rfl) fun a hK => ?_
  refine sl hK (by decide) rfl rfl (r_lookup_O (m := a0.ids) (x := y_1.1) (z := 0) Tryd.underlying53 Tryd.underlying9 key_str Tryd.zeroValue3 hS (.tail _ (.tail _ (.head _))) rfl hK rfl rfl) fun a hK => ?_
  refine sl hK (by decide) rfl rfl (r_move hK rfl) fun a hK => ?_
  refine sl hK (by decide) rfl rfl (r_extract hK rfl rfl) fun a hK => ?_
  refine sl hK (by decide) rfl rfl (r_extract hK rfl rfl) fun a hK => ?_
  refine sl hK (by decide) rfl rfl (r_assign hK rfl) fun a hK => ?_
  refine sl hK (by decide) rfl rfl (r_assign hK rfl) fun a hK => ?_
  refine wpList_nil ?_
  refine wp_seq ?_
  refine wp_block ?_
  refine wp_seq ?_
  refine wp_region_lit ?_
  refine sl hK (by decide) rfl rfl (r_move hK rfl) fun a hK => ?_
  refine sl hK (by decide) rfl rfl (r_un hK rfl (u_not _)) fun a hK => ?_
  refine sl hK (by decide) rfl rfl (r_assign hK rfl) fun a hK => ?_
  refine wpList_nil ?_
  refine wp_cond_split (hK.ev rfl) (fun (hb_3 : (!y_1.2) = true) => ?_) (fun (hb_3 : (!y_1.2) = false) => ?_)
  · rw [ifb_t hb_3] at H
    refine wp_seq ?_
    refine wp_region_lit ?_
    refine sl hK (by decide) rfl rfl (r_assign hK rfl) fun a hK => ?_
    refine sl hK (by decide) rfl rfl (r_assign hK rfl) fun a hK => ?_
    refine wpList_nil ?_
    obtain rfl := Option.some.inj H
    refine wp_ret ?_
    repeat (first | refine ret_then ?_ | refine ret_block ?_ | refine ret_scope ?_)
    exact ret_2 Tryd.results8 hK (rv_tmp hK rfl) (rv_tmp hK rfl) ⟨_, rfl, _, _, _, _, rfl, hS, hRL, h0_0⟩
  · rw [ifb_f hb_3] at H
    refine wp_seq ?_
    refine wp_region_lit ?_
    refine sl hK (by decide) rfl rfl (r_move hK rfl) fun a hK => ?_
    refine sl hK (by decide) rfl rfl (r_assign hK rfl) fun a hK => ?_
    refine wpList_nil ?_
    refine wp_cond_split (hK.ev rfl) (fun (hb_4 : ((mget a0.ids y_1.1).isSome) = true) => ?_) (fun (hb_4 : ((mget a0.ids y_1.1).isSome) = false) => ?_)
    · rw [ifb_t hb_4] at H
      refine wp_seq ?_
      refine wp_region_lit ?_
      refine sl hK (by decide) rfl rfl (r_move hK rfl) fun a hK => ?_
      refine sl hK (by decide) rfl rfl (r_assign hK rfl) fun a hK => ?_
      refine sl hK (by decide) rfl rfl (r_assign hK rfl) fun a hK => ?_
      refine wpList_nil ?_
      obtain rfl := Option.some.inj H
      refine wp_ret ?_
      repeat (first | refine ret_then ?_ | refine ret_block ?_ | refine ret_scope ?_)
      exact ret_2 Tryd.results8 hK (rv_tmp hK rfl) (rv_tmp hK rfl) ⟨_, rfl, _, _, _, _, rfl, hS, hRL, h0_0⟩
    · rw [ifb_f hb_4] at H
      refine wp_seq ?_
      refine par_region (C := fun w => St M w0 w R [.cells b0 [.int .i64 a0.most, v0_0, .map (some mb0_1)] 56, .row 60 2 v0_0 a0.l.length cs0_0, .mp mb0_1 (kvs Value.string (Value.int .i64) a0.ids)]) [(0, true), (1, true), (2, true), (3, true), (4, true), (5, true), (6, true), (7, true), (8, true), (9, true), (10, true)] mixed (by kernel_rfl) hS (fun w hS => hS) fun w hS => ?_
      refine sp (k := 0) rfl hK (by decide) rfl rfl (fun w hS => r_move hK rfl) fun a hK => ?_
      refine sp (k := 1) rfl hK (by decide) rfl rfl (fun w hS => r_nilCheck hK rfl) fun a hK => ?_
      refine sp (k := 2) rfl hK (by decide) rfl rfl (fun w hS => r_fieldAddr Tryd.underlying56 rfl Tryd.sizeOf54 hK rfl) fun a hK => ?_
      refine sp (k := 3) rfl hK (by decide) rfl rfl (fun w hS => r_load Tryd.isAgg54 hK rfl (hS.cell (.head _) rfl)) fun a hK => ?_
      refine sp (k := 4) rfl hK (by decide) rfl rfl (fun w hS => r_len_O Tryd.underlying54 hS (.tail _ (.head _)) hK rfl) fun a hK => ?_
      refine sp (k := 5) rfl hK (by decide) rfl rfl (fun w hS => r_move hK rfl) fun a hK => ?_
      refine sp (k := 6) rfl hK (by decide) rfl rfl (fun w hS => r_nilCheck hK rfl) fun a hK => ?_
      refine sp (k := 7) rfl hK (by decide) rfl rfl (fun w hS => r_fieldAddr Tryd.underlying56 rfl Tryd.sizeOf3 hK rfl) fun a hK => ?_
      refine sp (k := 8) rfl hK (by decide) rfl rfl (fun w hS => r_load Tryd.isAgg3 hK rfl (hS.cell (.head _) rfl)) fun a hK => ?_
      refine sp (k := 9) rfl hK (by decide) rfl rfl (fun w hS => r_ibin hK rfl rfl rfl) fun a hK => ?_
      refine sp (k := 10) rfl hK (by decide) rfl rfl (fun w hS => r_assign hK rfl) fun a hK => ?_
      refine wpPar_nil (NoP_nil ?_)
      refine wp_cond_split (hK.ev rfl) (fun (hb_5 : (decide ((a0.l.length : Int) ≥ a0.most)) = true) => ?_) (fun (hb_5 : (decide ((a0.l.length : Int) ≥ a0.most)) = false) => ?_)
      · rw [ifb_t hb_5] at H
        refine wp_seq ?_
        refine wp_region_lit ?_
        refine sl hK (by decide) rfl rfl (r_assign hK rfl) fun a hK => ?_
        refine sl hK (by decide) rfl rfl (r_assign hK rfl) fun a hK => ?_
        refine wpList_nil ?_
        obtain rfl := Option.some.inj H
        refine wp_ret ?_
        repeat (first | refine ret_then ?_ | refine ret_block ?_ | refine ret_scope ?_)
        exact ret_2 Tryd.results8 hK (rv_tmp hK rfl) (rv_tmp hK rfl) ⟨_, rfl, _, _, _, _, rfl, hS, hRL, h0_0⟩
      · rw [ifb_f hb_5] at H
        refine wp_skip ?_
        refine wp_seq ?_
        refine wp_region_lit ?_
        refine sl hK (by decide) rfl rfl (r_move hK rfl) fun a hK => ?_
        refine sl hK (by decide) rfl rfl (r_len_R Tryd.underlying30 h2_0 hK rfl) fun a hK => ?_
        obtain ⟨y_6, h_7, H⟩ := bind_some H
        refine sl_makeN (ty := ty_api_Value) (zc := [.int .i64 0, .int .i64 0, .string (⟨#[]⟩ : ByteArray), .int .i64 0, .int .i64 0, .int .i64 0, .int .i64 0, .int .i64 0, .int .i64 0, .int .i64 0, .int .i64 0]) (x0 := (⟨0, 0, (⟨#[]⟩ : ByteArray), (⟨0, 0, 0, 0, 0, 0, 0, 0⟩ : Arr8)⟩ : api_Value)) elT30 (by decide) rfl Tryd.zeroValue50 rfl rfl h_7 hS hK (by decide) rfl rfl rfl fun a w v_8 cs_9 hq_10 hS hK => ?_
        refine sl hK (by decide) rfl rfl (r_assign hK rfl) fun a hK => ?_
        refine wpList_nil ?_
        refine wp_seq ?_
        refine wp_region_lit ?_
        refine sl hK (by decide) rfl rfl (r_move hK rfl) fun a hK => ?_
        refine sl hK (by decide) rfl rfl (r_move hK rfl) fun a hK => ?_
        refine sl_copy_row elT30 rfl (hS.ra hRA hRM) (fun _ h => Reps.any (fun _ _ _ _ h => h) h) h2_0 hq_10 rfl hS hK (by decide) rfl rfl rfl fun a w cs_12 hq_13 hS hK => ?_
        refine wpList_nil ?_
        refine wp_seq ?_
        refine parT_region (C := fun w => St M w0 w R [.row 50 11 v_8 (cpy y_6 a2).length cs_12, .cells b0 [.int .i64 a0.most, v0_0, .map (some mb0_1)] 56, .row 60 2 v0_0 a0.l.length cs0_0, .mp mb0_1 (kvs Value.string (Value.int .i64) a0.ids)]) 10 [(0, true), (1, true), (2, true), (3, true), (4, true), (5, true), (6, true), (7, true), (8, true), (9, true)] mixed (by kernel_rfl) hS (fun w hS => hS) fun w hS => ?_
        refine sp (k := 0) rfl hK (by decide) rfl rfl (fun w hS => r_move hK rfl) fun a hK => ?_
        refine sp (k := 1) rfl hK (by decide) rfl rfl (fun w hS => r_nilCheck hK rfl) fun a hK => ?_
        refine sp (k := 2) rfl hK (by decide) rfl rfl (fun w hS => r_fieldAddr Tryd.underlying56 rfl Tryd.sizeOf53 hK rfl) fun a hK => ?_
        refine sp (k := 3) rfl hK (by decide) rfl rfl (fun w hS => r_load Tryd.isAgg53 hK rfl (hS.cell (.tail _ (.head _)) rfl)) fun a hK => ?_
        refine sp (k := 4) rfl hK (by decide) rfl rfl (fun w hS => r_move hK rfl) fun a hK => ?_
        refine sp (k := 5) rfl hK (by decide) rfl rfl (fun w hS => r_move hK rfl) fun a hK => ?_
        refine sp (k := 6) rfl hK (by decide) rfl rfl (fun w hS => r_nilCheck hK rfl) fun a hK => ?_
        refine sp (k := 7) rfl hK (by decide) rfl rfl (fun w hS => r_fieldAddr Tryd.underlying56 rfl Tryd.sizeOf54 hK rfl) fun a hK => ?_
        refine sp (k := 8) rfl hK (by decide) rfl rfl (fun w hS => r_load Tryd.isAgg54 hK rfl (hS.cell (.tail _ (.head _)) rfl)) fun a hK => ?_
        refine sp (k := 9) rfl hK (by decide) rfl rfl (fun w hS => r_len_O Tryd.underlying54 hS (.tail _ (.tail _ (.head _))) hK rfl) fun a hK => ?_
        refine thenL_nil ?_
        have hS := hS.pk3
        refine sl_mapUpdate (m := a0.ids) (x := y_1.1) (y := (a0.l.length : Int)) Tryd.underlying53 Tryd.underlying9 key_str hS hK rfl rfl rfl rfl fun a w hS hK => ?_
        refine wpList_nil (NoP_nil ?_)
        refine wp_seq ?_
        refine wp_region_lit ?_
        refine sl hK (by decide) rfl rfl (r_move hK rfl) fun a hK => ?_
        refine sl hK (by decide) rfl rfl (r_move hK rfl) fun a hK => ?_
        refine sl hK (by decide) rfl rfl (r_nilCheck hK rfl) fun a hK => ?_
        refine sl hK (by decide) rfl rfl (r_fieldAddr Tryd.underlying56 rfl Tryd.sizeOf54 hK rfl) fun a hK => ?_
        refine sl hK (by decide) rfl rfl (r_load Tryd.isAgg54 hK rfl (hS.cell (.tail _ (.tail _ (.head _))) rfl)) fun a hK => ?_
        refine sl hK (by decide) rfl rfl (r_move hK rfl) fun a hK => ?_
        refine sl hK (by decide) rfl rfl (r_move hK rfl) fun a hK => ?_
        have ho_15 := hS.row_one (.tail _ (.head _))
        refine sl hK (by decide) rfl rfl (r_buildC (ps := [(0, .string a1), (1, v_8)]) (c := [.string a1, v_8]) Tryd.underlying60 Tryd.zeroValue60 places60 hK rfl (pc_cons rfl (pc_cons (cells1 ho_15) pc_nil)) rfl rfl) fun a hK => ?_
        refine sl_buildSliceF (zc := [.string (⟨#[]⟩ : ByteArray), .slice none 0 0]) (ps := [(0, .agg #[.string a1, v_8])]) (c := [.string a1, v_8]) [[.string a1, v_8]] Tryd.underlying54 Tryd.sizeOf60 Tryd.zeroValue60 rfl (pc_cons rfl pc_nil) rfl rfl (Nat.le_of_ble_eq_true rfl) rfl (all_cons rfl (all_nil)) rfl hS hK (by decide) rfl fun a w b_16 hS hK => ?_
        have hS := hS.pk4
        have hS := hS.pk3
        obtain ⟨R_17, hS, hl_19, hs_18⟩ := hS.fz_row hq_13 rfl rfl
        have hRL := hRL.trans hl_19
        obtain ⟨y_20, h_21, H⟩ := bind_some H
        refine sl_append_L (ty := ty_streams_stream) (ys := [(⟨a1, cpy y_6 a2⟩ : streams_stream)]) elT54 (by decide) rfl (h0_0.mono hl_19.le) rfl (Reps.cons (show Ty.rep ty_streams_stream _ [.string a1, v_8] (⟨a1, cpy y_6 a2⟩ : streams_stream) from ⟨_, rfl, hs_18⟩) (Reps.nil _ _)) rfl h_21 hS hK (by decide) rfl rfl rfl fun a w v_22 cs_23 hq_24 hS hK => ?_
        refine sl hK (by decide) rfl rfl (r_nilCheck hK rfl) fun a hK => ?_
        refine sl hK (by decide) rfl rfl (r_fieldAddr Tryd.underlying56 rfl Tryd.sizeOf54 hK rfl) fun a hK => ?_
        have hS := hS.pk2
        refine sl_store1 (c' := [.int .i64 a0.most, v_22, .map (some mb0_1)]) Tryd.sizeOf54 hS hK rfl rfl rfl (hS.row_one (.tail _ (.head _))) (Nat.le_of_ble_eq_true rfl) rfl fun a w hS hK => ?_
        refine wpList_nil ?_
        refine wp_seq ?_
        refine wp_region_lit ?_
        refine sl hK (by decide) rfl rfl (r_move hK rfl) fun a hK => ?_
        refine sl hK (by decide) rfl rfl (r_nilCheck hK rfl) fun a hK => ?_
        refine sl hK (by decide) rfl rfl (r_fieldAddr Tryd.underlying56 rfl Tryd.sizeOf54 hK rfl) fun a hK => ?_
        refine sl hK (by decide) rfl rfl (r_load Tryd.isAgg54 hK rfl (hS.cell (.head _) rfl)) fun a hK => ?_
        refine sl hK (by decide) rfl rfl (r_len_O Tryd.underlying54 hS (.tail _ (.head _)) hK rfl) fun a hK => ?_
        refine sl hK (by decide) rfl rfl (r_ibin hK rfl rfl rfl) fun a hK => ?_
        refine sl hK (by decide) rfl rfl (r_assign hK rfl) fun a hK => ?_
        refine sl hK (by decide) rfl rfl (r_assign hK rfl) fun a hK => ?_
        refine wpList_nil ?_
        obtain rfl := Option.some.inj H
        refine wp_ret ?_
        repeat (first | refine ret_then ?_ | refine ret_block ?_ | refine ret_scope ?_)
        exact ret_2 Tryd.results8 hK (rv_tmp hK rfl) (rv_tmp hK rfl) ⟨_, rfl, _, _, _, _, rfl, hS, hRL, hq_24⟩

/-! ### (*catchment/streams.Dict).Find$1: function 21 -/
set_option maxHeartbeats 4000000 in
set_option maxRecDepth 100000 in
theorem streams_Dict_Find_1.calls (a0 : api_Value) {r : Bool} (H : streams_Dict_Find_1 a0 = some r) (w0 : World) : CallsV Tryd.prog 21 #[.agg #[.int .i64 a0.Kind, .int .i64 a0.N, .string a0.S, .int .i64 a0.H.a0, .int .i64 a0.H.a1, .int .i64 a0.H.a2, .int .i64 a0.H.a3, .int .i64 a0.H.a4, .int .i64 a0.H.a5, .int .i64 a0.H.a6, .int .i64 a0.H.a7]] w0 (.bool r) := by
  unfold streams_Dict_Find_1 at H
  refine enter (args := [.agg #[.int .i64 a0.Kind, .int .i64 a0.N, .string a0.S, .int .i64 a0.H.a0, .int .i64 a0.H.a1, .int .i64 a0.H.a2, .int .i64 a0.H.a3, .int .i64 a0.H.a4, .int .i64 a0.H.a5, .int .i64 a0.H.a6, .int .i64 a0.H.a7]]) Tryd.func21 rfl Tryd.ntmps21 rfl fun a hK => ?_
  have hS := St.init (R := fun _ => none) (w := w0) (fun _ _ h => by cases h)
  have hRL := RLe.refl (M := []) w0 (fun _ => none)
  refine wp_seq ?_
  refine wp_region_lit ?_
  refine sl_box hS hK (by decide) rfl rfl (c := [.int .i64 a0.Kind, .int .i64 a0.N, .string a0.S, .int .i64 a0.H.a0, .int .i64 a0.H.a1, .int .i64 a0.H.a2, .int .i64 a0.H.a3, .int .i64 a0.H.a4, .int .i64 a0.H.a5, .int .i64 a0.H.a6, .int .i64 a0.H.a7]) rfl fun a w b_1 hS hK => ?_
  refine sl hK (by decide) rfl rfl (r_assign hK rfl) fun a hK => ?_
  refine wpList_nil ?_
  refine wp_seq ?_
  refine wp_region_lit ?_
  refine sl hK (by decide) rfl rfl (r_loadA (cs := [.int .i64 a0.Kind, .int .i64 a0.N, .string a0.S, .int .i64 a0.H.a0, .int .i64 a0.H.a1, .int .i64 a0.H.a2, .int .i64 a0.H.a3, .int .i64 a0.H.a4, .int .i64 a0.H.a5, .int .i64 a0.H.a6, .int .i64 a0.H.a7]) Tryd.isAgg50 Tryd.sizeOf50 rfl hK rfl (hS.cells_of (m := 11) (.head _) rfl)) fun a hK => ?_
  obtain ⟨y_2, h_3, H⟩ := bind_some H
  refine sl_callV Tryd.call22 hS hK (by decide) rfl rfl rfl (value_Valid.calls a0 h_3 _) fun a w hS hK => ?_
  refine sl hK (by decide) rfl rfl (r_un hK rfl (u_not _)) fun a hK => ?_
  refine sl hK (by decide) rfl rfl (r_assign hK rfl) fun a hK => ?_
  refine wpList_nil ?_
  obtain rfl := Option.some.inj H
  refine wp_ret ?_
  repeat (first | refine ret_then ?_ | refine ret_block ?_ | refine ret_scope ?_)
  exact ret_1 Tryd.results21 hK (rv_tmp hK rfl) ⟨rfl, hS.bel⟩

/-! ### slices.IndexFunc[[]catchment/api.Value,catchment/api.Value]: function 29 -/
set_option maxHeartbeats 4000000 in
set_option maxRecDepth 100000 in
theorem slices_IndexFunc_api_Value_api_Value_f_streams_Dict_Find_1.calls (a0 : List api_Value) {w0 : World} {RA : Hp} {v0_0 : Value} (hRA : RA.sub w0) (h0_0 : SlR ty_api_Value RA v0_0 a0) {r : Int} (H : slices_IndexFunc_api_Value_api_Value_f_streams_Dict_Find_1 a0 = some r) : CallsV Tryd.prog 29 #[v0_0, .func (.func 21) #[] #[]] w0 (.int .i64 r) := by
  unfold slices_IndexFunc_api_Value_api_Value_f_streams_Dict_Find_1 at H
  refine enter (args := [v0_0, .func (.func 21) #[] #[]]) Tryd.func29 rfl Tryd.ntmps29 rfl fun a hK => ?_
  have hS := St.init (R := fun _ => none) (w := w0) (fun _ _ h => by cases h)
  have hRL := RLe.refl (M := []) w0 (fun _ => none)
  refine wp_seq ?_
  refine wp_region_lit ?_
  refine sl hK (by decide) rfl rfl (r_assign hK rfl) fun a hK => ?_
  refine wpList_nil ?_
  refine wp_seq ?_
  refine wp_seq ?_
  refine wp_region_lit ?_
  refine sl hK (by decide) rfl rfl (r_move hK rfl) fun a hK => ?_
  refine sl hK (by decide) rfl rfl (r_len_R Tryd.underlying30 h0_0 hK rfl) fun a hK => ?_
  refine sl hK (by decide) rfl rfl (r_move hK rfl) fun a hK => ?_
  refine wpList_nil ?_
  refine wp_block ?_
  refine wp_loop_k (fun k_l0 a w => ∃ (x_15 : Int), slices_IndexFunc_api_Value_api_Value_f_streams_Dict_Find_1.l0 a0 k_l0 x_15 = some r ∧ Kn 19 a [(0, v0_0), (1, .func (.func 21) #[] #[]), (7, .int .i64 (a0.length : Int)), (8, .int .i64 x_15)] ∧ St [] w0 w (fun _ => none) []) (((a0.length : Int) - 0).toNat + 1) ?_ ?_
  · exact ⟨0, H, hK.sub (all_cons rfl (all_cons rfl (all_cons rfl (all_cons rfl (all_nil))))), hS⟩
  · rintro k_l0 a w ⟨x_15, H, hK, hS⟩
    cases k_l0 with
    | zero => cases H
    | succ k_l0 =>
    rw [slices_IndexFunc_api_Value_api_Value_f_streams_Dict_Find_1.l0.eq_2] at H
    refine wp_seq ?_
    refine wp_region_lit ?_
    refine sl hK (by decide) rfl rfl (r_ibin hK rfl rfl rfl) fun a hK => ?_
    refine wpList_nil ?_
    refine wp_seq ?_
    refine wp_cond_split (hK.ev rfl) (fun (hb_30 : (decide (x_15 < (a0.length : Int))) = true) => ?_) (fun (hb_30 : (decide (x_15 < (a0.length : Int))) = false) => ?_)
    · rw [ifb_t hb_30] at H
      refine wp_skip ?_
      refine wp_seq ?_
      refine wp_block ?_
      refine wp_seq ?_
      refine wp_region_lit ?_
      refine sl hK (by decide) rfl rfl (r_move hK rfl) fun a hK => ?_
      refine sl hK (by decide) rfl rfl (r_assign hK rfl) fun a hK => ?_
      refine wpList_nil ?_
      refine wp_seq ?_
      refine wp_region_lit ?_
      refine sl hK (by decide) rfl rfl (r_move hK rfl) fun a hK => ?_
      refine sl hK (by decide) rfl rfl (r_move hK rfl) fun a hK => ?_
      refine sl hK (by decide) rfl rfl (r_move hK rfl) fun a hK => ?_
      obtain ⟨y_31, h_32, H⟩ := bind_some H
      obtain ⟨b_33, o_34, c_35, cs_36, hv_37, hr_38, hc_39, h_320, h_321⟩ := h0_0.ix h_32
      subst hr_38
      refine sl hK (by decide) rfl rfl (r_indexAddr_R Tryd.underlying30 Tryd.sizeOf50 hv_37 h_320 h_321 hK rfl rfl) fun a hK => ?_
      refine sl hK (by decide) rfl rfl (r_loadA (cs := [.int .i64 y_31.Kind, .int .i64 y_31.N, .string y_31.S, .int .i64 y_31.H.a0, .int .i64 y_31.H.a1, .int .i64 y_31.H.a2, .int .i64 y_31.H.a3, .int .i64 y_31.H.a4, .int .i64 y_31.H.a5, .int .i64 y_31.H.a6, .int .i64 y_31.H.a7]) Tryd.isAgg50 Tryd.sizeOf50 rfl hK rfl (fun j v hv => (hS.ra hRA nil_not).cell (hc_39 j v hv))) fun a hK => ?_
      obtain ⟨y_40, h_41, H⟩ := bind_some H
      refine sl_callV Tryd.call21 hS hK (by decide) rfl rfl rfl (streams_Dict_Find_1.calls y_31 h_41 _) fun a w hS hK => ?_
      refine wpList_nil ?_
      refine wp_cond_split (hK.ev rfl) (fun (hb_42 : y_40 = true) => ?_) (fun (hb_42 : y_40 = false) => ?_)
      · rw [ifb_t hb_42] at H
        refine wp_seq ?_
        refine wp_region_lit ?_
        refine sl hK (by decide) rfl rfl (r_move hK rfl) fun a hK => ?_
        refine sl hK (by decide) rfl rfl (r_assign hK rfl) fun a hK => ?_
        refine wpList_nil ?_
        obtain rfl := Option.some.inj H
        refine wp_ret ?_
        repeat (first | refine ret_then ?_ | refine ret_block ?_ | refine ret_scope ?_)
        exact ret_1 Tryd.results29 hK (rv_tmp hK rfl) ⟨rfl, hS.bel⟩
      · rw [ifb_f hb_42] at H
        refine wp_skip ?_
        refine wp_region_lit ?_
        refine sl hK (by decide) rfl rfl (r_ibin hK rfl rfl rfl) fun a hK => ?_
        refine sl hK (by decide) rfl rfl (r_move hK rfl) fun a hK => ?_
        refine wpList_nil ?_
        exact ⟨_, Nat.lt_succ_self _, (IntKind.i64.wrap (x_15 + 1)), H, hK.sub (all_cons rfl (all_cons rfl (all_cons rfl (all_cons rfl (all_nil))))), hS⟩
    · rw [ifb_f hb_30] at H
      refine wp_exit ?_
      refine wp_seq ?_
      refine wp_region_lit ?_
      refine sl hK (by decide) rfl rfl (r_assign hK rfl) fun a hK => ?_
      refine wpList_nil ?_
      obtain rfl := Option.some.inj H
      refine wp_ret ?_
      repeat (first | refine ret_then ?_ | refine ret_block ?_ | refine ret_scope ?_)
      exact ret_1 Tryd.results29 hK (rv_tmp hK rfl) ⟨rfl, hS.bel⟩

/-! ### slices.ContainsFunc[[]catchment/api.Value,catchment/api.Value]: function 20 -/
set_option maxHeartbeats 4000000 in
set_option maxRecDepth 100000 in
theorem slices_ContainsFunc_api_Value_api_Value_f_streams_Dict_Find_1.calls (a0 : List api_Value) {w0 : World} {RA : Hp} {v0_0 : Value} (hRA : RA.sub w0) (h0_0 : SlR ty_api_Value RA v0_0 a0) {r : Bool} (H : slices_ContainsFunc_api_Value_api_Value_f_streams_Dict_Find_1 a0 = some r) : CallsV Tryd.prog 20 #[v0_0, .func (.func 21) #[] #[]] w0 (.bool r) := by
  unfold slices_ContainsFunc_api_Value_api_Value_f_streams_Dict_Find_1 at H
  refine enter (args := [v0_0, .func (.func 21) #[] #[]]) Tryd.func20 rfl Tryd.ntmps20 rfl fun a hK => ?_
  have hS := St.init (R := fun _ => none) (w := w0) (fun _ _ h => by cases h)
  have hRL := RLe.refl (M := []) w0 (fun _ => none)
  refine wp_seq ?_
  refine wp_region_lit ?_
  refine sl hK (by decide) rfl rfl (r_assign hK rfl) fun a hK => ?_
  refine wpList_nil ?_
  refine wp_seq ?_
  refine wp_region_lit ?_
  refine sl hK (by decide) rfl rfl (r_move hK rfl) fun a hK => ?_
  refine sl hK (by decide) rfl rfl (r_move hK rfl) fun a hK => ?_
  obtain ⟨y_1, h_2, H⟩ := bind_some H
  refine sl_callV Tryd.call29 hS hK (by decide) rfl rfl rfl (slices_IndexFunc_api_Value_api_Value_f_streams_Dict_Find_1.calls a0 (lentOf_sub [] _) (h0_0.mono (hS.raLe0 hRA nil_not)) h_2) fun a w hS hK => ?_
  refine sl hK (by decide) rfl rfl (r_ibin hK rfl rfl rfl) fun a hK => ?_
  refine sl hK (by decide) rfl rfl (r_assign hK rfl) fun a hK => ?_
  refine wpList_nil ?_
  obtain rfl := Option.some.inj H
  refine wp_ret ?_
  repeat (first | refine ret_then ?_ | refine ret_block ?_ | refine ret_scope ?_)
  exact ret_1 Tryd.results20 hK (rv_tmp hK rfl) ⟨rfl, hS.bel⟩

/-! ### (*catchment/streams.Dict).Find: function 9 -/
set_option maxHeartbeats 4000000 in
set_option maxRecDepth 100000 in
theorem streams_Dict_Find.calls (a0 : streams_Dict) (a1 : ByteArray) (a2 : List api_Value) {w0 : World} {RA : Hp} {b0 : Nat} {o0 : Nat} {v0_0 : Value} {mb0_1 : Nat} {v2_0 : Value} (hRA : RA.sub w0) (hc0 : ∀ j u, ([.int .i64 a0.most, v0_0, .map (some mb0_1)] : List Value)[j]? = some u → RA.cell b0 (o0 + j) = some u) (h0_0 : SlR ty_streams_stream RA v0_0 a0.l) (h0_1 : MpR RA mb0_1 (kvs Value.string (Value.int .i64) a0.ids)) (h2_0 : SlR ty_api_Value RA v2_0 a2) (hG : GF RA) {r : Int × Bool} (H : streams_Dict_Find a0 a1 a2 = some r) : CallsV Tryd.prog 9 #[.pointer (some ⟨b0, o0, none⟩), .string a1, v2_0] w0 (.tuple #[.int .i64 r.1, .bool r.2]) := by
  unfold streams_Dict_Find at H
  refine enter (args := [.pointer (some ⟨b0, o0, none⟩), .string a1, v2_0]) Tryd.func9 rfl Tryd.ntmps9 rfl fun a hK => ?_
  have hS := St.init (R := fun _ => none) (w := w0) (fun _ _ h => by cases h)
  have hRL := RLe.refl (M := []) w0 (fun _ => none)
  refine wp_seq ?_
  refine wp_region_lit ?_
  refine sl hK (by decide) rfl rfl (r_assign hK rfl) fun a hK => ?_
  refine sl hK (by decide) rfl rfl (r_assign hK rfl) fun a hK => ?_
  refine wpList_nil ?_
  refine wp_seq ?_
  refine wp_seq ?_
  refine wp_region_lit ?_
  refine sl hK (by decide) rfl rfl (r_move hK rfl) fun a hK => ?_
  obtain ⟨y_1, h_2, H⟩ := bind_some H
  refine sl_callV Tryd.call20 hS hK (by decide) rfl rfl rfl (slices_ContainsFunc_api_Value_api_Value_f_streams_Dict_Find_1.calls a2 (lentOf_sub [] _) (h2_0.mono (hS.raLe0 hRA nil_not)) h_2) fun a w hS hK => ?_
  refine wpList_nil ?_
  refine wp_cond_split (hK.ev rfl) (fun (hb_3 : y_1 = true) => ?_) (fun (hb_3 : y_1 = false) => ?_)
  · rw [ifb_t hb_3] at H
    refine wp_seq ?_
    refine wp_region_lit ?_
    refine sl hK (by decide) rfl rfl (r_assign hK rfl) fun a hK => ?_
    refine sl hK (by decide) rfl rfl (r_assign hK rfl) fun a hK => ?_
    refine wpList_nil ?_
    obtain rfl := Option.some.inj H
    refine wp_ret ?_
    repeat (first | refine ret_then ?_ | refine ret_block ?_ | refine ret_scope ?_)
    exact ret_2 Tryd.results9 hK (rv_tmp hK rfl) (rv_tmp hK rfl) ⟨rfl, hS.bel⟩
  · rw [ifb_f hb_3] at H
    refine wp_skip ?_
    refine wp_seq ?_
    refine wp_region_lit ?_
    refine sl hK (by decide) rfl rfl (r_move hK rfl) fun a hK => ?_
    refine sl hK (by decide) rfl rfl (r_move hK rfl) fun a hK => ?_
    obtain ⟨y_4, h_5, H⟩ := bind_some H
    refine sl_callV Tryd.call19 hS hK (by decide) rfl rfl rfl (streams_mark.calls a1 a2 (lentOf_sub [] _) (h2_0.mono (hS.raLe0 hRA nil_not)) (GF.mono (hS.raLe0 hRA nil_not) hG) h_5) fun a w hS hK => ?_
    refine sl hK (by decide) rfl rfl (r_move hK rfl) fun a hK => ?_
    refine sl hK (by decide) rfl rfl (r_extract hK rfl rfl) fun a hK => ?_
    refine sl hK (by decide) rfl rfl (r_extract hK rfl rfl) fun a hK => ?_
    refine sl hK (by decide) rfl rfl (r_assign hK rfl) fun a hK => ?_
    refine sl hK (by decide) rfl rfl (r_assign hK rfl) fun a hK => ?_
    refine wpList_nil ?_
    refine wp_seq ?_
    refine wp_region_lit ?_
    refine sl hK (by decide) rfl rfl (r_move hK rfl) fun a hK => ?_
    refine sl hK (by decide) rfl rfl (r_nilCheck hK rfl) fun a hK => ?_
    refine sl hK (by decide) rfl rfl (r_fieldAddr Tryd.underlying56 rfl Tryd.sizeOf53 hK rfl) fun a hK => ?_
    refine sl hK (by decide) rfl rfl (r_load Tryd.isAgg53 hK rfl ((hS.ra hRA nil_not).cell (hc0 2 _ rfl))) fun a hK => ?_
    refine sl hK (by decide) rfl rfl (r_move hK rfl) fun a hK => ?_
    refine sl hK (by decide) rfl rfl (r_lookup_R (m := a0.ids) (x := y_4.1) (z := 0) Tryd.underlying53 Tryd.underlying9 key_str Tryd.zeroValue3 h0_1 (hS.ra hRA nil_not) rfl hK rfl rfl) fun a hK => ?_
    refine sl hK (by decide) rfl rfl (r_move hK rfl) fun a hK => ?_
    refine sl hK (by decide) rfl rfl (r_extract hK rfl rfl) fun a hK => ?_
    refine sl hK (by decide) rfl rfl (r_extract hK rfl rfl) fun a hK => ?_
    refine sl hK (by decide) rfl rfl (r_assign hK rfl) fun a hK => ?_
    refine sl hK (by decide) rfl rfl (r_assign hK rfl) fun a hK => ?_
    refine wpList_nil ?_
    refine wp_seq ?_
    refine wp_region_lit ?_
    refine sl hK (by decide) rfl rfl (r_move hK rfl) fun a hK => ?_
    refine sl hK (by decide) rfl rfl (r_move hK rfl) fun a hK => ?_
    refine sl hK (by decide) rfl rfl (r_assign hK rfl) fun a hK => ?_
    refine sl hK (by decide) rfl rfl (r_assign hK rfl) fun a hK => ?_
    refine wpList_nil ?_
    obtain rfl := Option.some.inj H
    refine wp_ret ?_
    repeat (first | refine ret_then ?_ | refine ret_block ?_ | refine ret_scope ?_)
    exact ret_2 Tryd.results9 hK (rv_tmp hK rfl) (rv_tmp hK rfl) ⟨rfl, hS.bel⟩

/-! ### (*catchment/streams.Dict).Of: function 12 -/
set_option maxHeartbeats 4000000 in
set_option maxRecDepth 100000 in
theorem streams_Dict_Of.calls (a0 : streams_Dict) (a1 : ByteArray) {w0 : World} {R : Hp} {RA : Hp} {b0 : Nat} {o0 : Nat} {v0_0 : Value} {mb0_1 : Nat} (hRA : RA.sub w0) (hR : R.sub w0) (hc0 : ∀ j u, ([.int .i64 a0.most, v0_0, .map (some mb0_1)] : List Value)[j]? = some u → RA.cell b0 (o0 + j) = some u) (h0_0 : SlR ty_streams_stream RA v0_0 a0.l) (h0_1 : MpR RA mb0_1 (kvs Value.string (Value.int .i64) a0.ids)) {r : List Int} (H : streams_Dict_Of a0 a1 = some r) : Calls Tryd.prog 12 #[.pointer (some ⟨b0, o0, none⟩), .string a1] w0 (Rets fun v w' => ∃ (R' : Hp) (u0 : Value) (cu0 : List Value), v = u0 ∧ St [] w0 w' R' [.row 3 1 u0 r.length cu0] ∧ RLe [] w0 R R' ∧ Reps (tyInt .i64) R' cu0 r) := by
  unfold streams_Dict_Of at H
  refine enter (args := [.pointer (some ⟨b0, o0, none⟩), .string a1]) Tryd.func12 rfl Tryd.ntmps12 rfl fun a hK => ?_
  have hS := St.init hR
  have hRL := RLe.refl (M := []) w0 R
  refine wp_seq ?_
  refine wp_region_lit ?_
  refine sl hK (by decide) rfl rfl (r_assign hK rfl) fun a hK => ?_
  refine wpList_nil ?_
  refine wp_seq ?_
  refine wp_region_lit ?_
  refine sl hK (by decide) rfl rfl (r_assign hK rfl) fun a hK => ?_
  refine wpList_nil ?_
  refine wp_seq ?_
  refine wp_seq ?_
  refine wp_region_lit ?_
  refine sl hK (by decide) rfl rfl (r_move hK rfl) fun a hK => ?_
  refine sl hK (by decide) rfl rfl (r_nilCheck hK rfl) fun a hK => ?_
  refine sl hK (by decide) rfl rfl (r_fieldAddr Tryd.underlying56 rfl Tryd.sizeOf54 hK rfl) fun a hK => ?_
  refine sl hK (by decide) rfl rfl (r_load Tryd.isAgg54 hK rfl ((hS.ra hRA nil_not).cell (hc0 1 _ rfl))) fun a hK => ?_
  refine sl hK (by decide) rfl rfl (r_len_R Tryd.underlying54 h0_0 hK rfl) fun a hK => ?_
  refine sl hK (by decide) rfl rfl (r_move hK rfl) fun a hK => ?_
  refine wpList_nil ?_
  refine wp_block ?_
  refine wp_loop_k (fun k_l0 a w => ∃ (x_44 : List Int) (x_48 : Int) (v_45 : Value) (cs_46 : List Value), streams_Dict_Of.l0 a0 a1 k_l0 x_44 x_48 = some r ∧ Reps (tyInt .i64) R cs_46 x_44 ∧ Kn 28 a [(1, .string a1), (5, v_45), (11, v0_0), (12, .int .i64 (a0.l.length : Int)), (13, .int .i64 x_48)] ∧ St [] w0 w R [.row 3 1 v_45 x_44.length cs_46]) (((a0.l.length : Int) - 0).toNat + 1) ?_ ?_
  · have hS := hS.row_nil 3 1
    have hq_86 : Reps (tyInt .i64) R [] ([] : List Int) := Reps.nil _ _
    exact ⟨[], 0, _, _, H, hq_86, hK.sub (all_cons rfl (all_cons rfl (all_cons rfl (all_cons rfl (all_cons rfl (all_nil)))))), hS⟩
  · rintro k_l0 a w ⟨x_44, x_48, v_45, cs_46, H, hq_47, hK, hS⟩
    cases k_l0 with
    | zero => cases H
    | succ k_l0 =>
    rw [streams_Dict_Of.l0.eq_2] at H
    refine wp_seq ?_
    refine wp_region_lit ?_
    refine sl hK (by decide) rfl rfl (r_ibin hK rfl rfl rfl) fun a hK => ?_
    refine wpList_nil ?_
    refine wp_seq ?_
    refine wp_cond_split (hK.ev rfl) (fun (hb_87 : (decide (x_48 < (a0.l.length : Int))) = true) => ?_) (fun (hb_87 : (decide (x_48 < (a0.l.length : Int))) = false) => ?_)
    · rw [ifb_t hb_87] at H
      refine wp_skip ?_
      refine wp_seq ?_
      refine wp_block ?_
      refine wp_seq ?_
      refine wp_region_lit ?_
      refine sl hK (by decide) rfl rfl (r_move hK rfl) fun a hK => ?_
      obtain ⟨y_88, h_89, H⟩ := bind_some H
      obtain ⟨b_90, o_91, c_92, cs_93, hv_94, hr_95, hc_96, h_890, h_891⟩ := h0_0.ix h_89
      obtain ⟨v_97, rfl, hs_98⟩ := hr_95
      refine sl hK (by decide) rfl rfl (r_indexAddr_R Tryd.underlying54 Tryd.sizeOf60 hv_94 h_890 h_891 hK rfl rfl) fun a hK => ?_
      refine sl hK (by decide) rfl rfl (r_loadA (cs := [.string y_88.name, v_97]) Tryd.isAgg60 Tryd.sizeOf60 rfl hK rfl (fun j v hv => (hS.ra hRA nil_not).cell (hc_96 j v hv))) fun a hK => ?_
      refine sl_alloc Tryd.zeroValue60 hS hK (by decide) rfl rfl fun a w b_99 hS hK => ?_
      refine sl hK (by decide) rfl rfl (r_assign hK rfl) fun a hK => ?_
      refine sl_storeA (vs := [.string y_88.name, v_97]) (c' := [.string y_88.name, v_97]) Tryd.sizeOf60 hS hK rfl rfl rfl rfl (all_cons rfl (all_cons hs_98.one (all_nil))) (Nat.le_of_ble_eq_true rfl) rfl fun a w hS hK => ?_
      refine wpList_nil ?_
      refine wp_seq ?_
      refine wp_region_lit ?_
      refine sl hK (by decide) rfl rfl (r_fieldAddr Tryd.underlying60 rfl Tryd.sizeOf9 hK rfl) fun a hK => ?_
      refine sl hK (by decide) rfl rfl (r_load Tryd.isAgg9 hK rfl (hS.cell (.head _) rfl)) fun a hK => ?_
      refine sl hK (by decide) rfl rfl (r_move hK rfl) fun a hK => ?_
      refine sl hK (by decide) rfl rfl (r_sbin hK rfl rfl rfl) fun a hK => ?_
      refine wpList_nil ?_
      refine wp_mid (fun a w => ∃ (x_109 : List Int) (v_110 : Value) (cs_111 : List Value), streams_Dict_Of.j1 (streams_Dict_Of.l0 a0 a1 k_l0) a0 x_48 x_109 = some r ∧ Reps (tyInt .i64) R cs_111 x_109 ∧ Kn 28 a [(1, .string a1), (5, v_110), (11, v0_0), (12, .int .i64 (a0.l.length : Int)), (13, .int .i64 x_48)] ∧ St [] w0 w R [.row 3 1 v_110 x_109.length cs_111]) ?_ ?_
      · refine wp_cond_split (hK.ev rfl) (fun (hb_114 : (y_88.name.toList == a1.toList) = true) => ?_) (fun (hb_114 : (y_88.name.toList == a1.toList) = false) => ?_)
        · rw [ifb_t hb_114] at H
          refine wp_region_lit ?_
          refine sl hK (by decide) rfl rfl (r_move hK rfl) fun a hK => ?_
          refine sl hK (by decide) rfl rfl (r_move hK rfl) fun a hK => ?_
          refine sl_buildSliceF (zc := [.int .i64 0]) (ps := [(0, .int .i64 x_48)]) (c := [.int .i64 x_48]) [[.int .i64 x_48]] Tryd.underlying26 Tryd.sizeOf3 Tryd.zeroValue3 rfl (pc_cons rfl pc_nil) rfl rfl (Nat.le_of_ble_eq_true rfl) rfl (all_cons rfl (all_nil)) rfl hS hK (by decide) rfl fun a w b_115 hS hK => ?_
          obtain ⟨y_116, h_117, H⟩ := bind_some H
          have hS := hS.pk2
          refine sl_append_L (ty := (tyInt .i64)) (ys := [x_48]) elT26 (by decide) rfl hq_47 rfl (Reps.cons (show Ty.rep (tyInt .i64) _ [.int .i64 x_48] x_48 from rfl) (Reps.nil _ _)) rfl h_117 hS hK (by decide) rfl rfl rfl fun a w v_118 cs_119 hq_120 hS hK => ?_
          refine sl hK (by decide) rfl rfl (r_assign hK rfl) fun a hK => ?_
          refine wpList_nil ?_
          exact ⟨y_116, _, _, H, hq_120, hK.sub (all_cons rfl (all_cons rfl (all_cons rfl (all_cons rfl (all_cons rfl (all_nil)))))), hS.trunc 1⟩
        · rw [ifb_f hb_114] at H
          refine wp_skip ?_
          have hS := hS.pk1
          exact ⟨x_44, _, _, H, hq_47, hK.sub (all_cons rfl (all_cons rfl (all_cons rfl (all_cons rfl (all_cons rfl (all_nil)))))), hS.trunc 1⟩
      · rintro a w ⟨x_109, v_110, cs_111, H, hq_112, hK, hS⟩
        unfold streams_Dict_Of.j1 at H
        refine wp_region_lit ?_
        refine sl hK (by decide) rfl rfl (r_ibin hK rfl rfl rfl) fun a hK => ?_
        refine sl hK (by decide) rfl rfl (r_move hK rfl) fun a hK => ?_
        refine wpList_nil ?_
        exact ⟨_, Nat.lt_succ_self _, x_109, (IntKind.i64.wrap (x_48 + 1)), _, _, H, hq_112, hK.sub (all_cons rfl (all_cons rfl (all_cons rfl (all_cons rfl (all_cons rfl (all_nil)))))), hS⟩
    · rw [ifb_f hb_87] at H
      refine wp_exit ?_
      refine wp_seq ?_
      refine wp_region_lit ?_
      refine sl hK (by decide) rfl rfl (r_move hK rfl) fun a hK => ?_
      refine sl hK (by decide) rfl rfl (r_assign hK rfl) fun a hK => ?_
      refine wpList_nil ?_
      obtain rfl := Option.some.inj H
      refine wp_ret ?_
      repeat (first | refine ret_then ?_ | refine ret_block ?_ | refine ret_scope ?_)
      exact ret_1 Tryd.results12 hK (rv_tmp hK rfl) ⟨_, rfl, _, _, _, rfl, hS, hRL, hq_47⟩

/-! ### slices.Clone[[]catchment/api.Value,catchment/api.Value]: function 23 -/
set_option maxHeartbeats 4000000 in
set_option maxRecDepth 100000 in
theorem slices_Clone_api_Value_api_Value.calls (a0 : List api_Value) {w0 : World} {R : Hp} {RA : Hp} {v0_0 : Value} (hRA : RA.sub w0) (hR : R.sub w0) (h0_0 : SlR ty_api_Value RA v0_0 a0) {r : List api_Value} (H : slices_Clone_api_Value_api_Value a0 = some r) : Calls Tryd.prog 23 #[v0_0] w0 (Rets fun v w' => ∃ (R' : Hp) (u0 : Value) (cu0 : List Value), v = u0 ∧ St [] w0 w' R' [.row 50 11 u0 r.length cu0] ∧ RLe [] w0 R R' ∧ Reps ty_api_Value R' cu0 r) := by
  unfold slices_Clone_api_Value_api_Value at H
  rcases SlR.nilcase h0_0 with ⟨hn, hx⟩ | ⟨ad_, m_, c_, hn⟩
  · subst hx
    have H : some ([] : List api_Value) = some r := by simpa [apd] using H
    refine enter (args := [v0_0]) Tryd.func23 rfl Tryd.ntmps23 rfl fun a hK => ?_
    have hS := St.init hR
    have hRL := RLe.refl (M := []) w0 R
    refine wp_seq ?_
    refine wp_region_lit ?_
    refine sl hK (by decide) rfl rfl (r_assign hK rfl) fun a hK => ?_
    refine wpList_nil ?_
    refine wp_seq ?_
    refine wp_seq ?_
    refine wp_region_lit ?_
    refine sl hK (by decide) rfl rfl (r_move hK rfl) fun a hK => ?_
    refine sl hK (by decide) rfl rfl (r_sleqN Tryd.underlying30 hn hK rfl rfl) fun a hK => ?_
    refine wpList_nil ?_
    refine wp_cond_true (hK.ev rfl) ?_
    refine wp_seq ?_
    refine wp_region_lit ?_
    refine sl hK (by decide) rfl rfl (r_assign hK rfl) fun a hK => ?_
    refine wpList_nil ?_
    have hS := hS.row_nil 50 11
    have hq_11 : Reps ty_api_Value R [] ([] : List api_Value) := Reps.nil _ _
    obtain rfl := Option.some.inj H
    refine wp_ret ?_
    repeat (first | refine ret_then ?_ | refine ret_block ?_ | refine ret_scope ?_)
    exact ret_1 Tryd.results23 hK (rv_tmp hK rfl) ⟨_, rfl, _, _, _, rfl, hS, hRL, hq_11⟩
  · refine enter (args := [v0_0]) Tryd.func23 rfl Tryd.ntmps23 rfl fun a hK => ?_
    have hS := St.init hR
    have hRL := RLe.refl (M := []) w0 R
    refine wp_seq ?_
    refine wp_region_lit ?_
    refine sl hK (by decide) rfl rfl (r_assign hK rfl) fun a hK => ?_
    refine wpList_nil ?_
    refine wp_seq ?_
    refine wp_seq ?_
    refine wp_region_lit ?_
    refine sl hK (by decide) rfl rfl (r_move hK rfl) fun a hK => ?_
    refine sl hK (by decide) rfl rfl (r_sleqS Tryd.underlying30 hn hK rfl rfl) fun a hK => ?_
    refine wpList_nil ?_
    refine wp_cond_false (hK.ev rfl) ?_
    refine wp_skip ?_
    refine wp_seq ?_
    refine wp_region_lit ?_
    refine sl_buildSliceC (zc := [.int .i64 0, .int .i64 0, .string (⟨#[]⟩ : ByteArray), .int .i64 0, .int .i64 0, .int .i64 0, .int .i64 0, .int .i64 0, .int .i64 0, .int .i64 0, .int .i64 0]) (zs := []) (ps := []) (c := []) Tryd.underlying30 Tryd.sizeOf50 Tryd.zeroValue50 rfl pc_nil rfl rfl (by decide) (by kernel_rfl) rfl hS hK (by decide) rfl fun a w b_1 hS hK => ?_
    refine sl hK (by decide) rfl rfl (r_move hK rfl) fun a hK => ?_
    obtain ⟨y_4, h_5, H⟩ := bind_some H
    have hS := hS.row_lit (size := 11) (m := 0) rfl (by decide)
    have hq_3 : Reps ty_api_Value R [] ([] : List api_Value) := (Reps.nil _ _)
    refine sl_append_A elT30 (by decide) rfl (fun _ _ _ _ h => h) (hS.ra hRA nil_not) hq_3 rfl h0_0 h_5 hS hK (by decide) rfl rfl rfl fun a w v_6 cs_7 hq_8 hS hK => ?_
    refine sl hK (by decide) rfl rfl (r_assign hK rfl) fun a hK => ?_
    refine wpList_nil ?_
    obtain rfl := Option.some.inj H
    refine wp_ret ?_
    repeat (first | refine ret_then ?_ | refine ret_block ?_ | refine ret_scope ?_)
    exact ret_1 Tryd.results23 hK (rv_tmp hK rfl) ⟨_, rfl, _, _, _, rfl, hS, hRL, hq_8⟩

/-! ### (*catchment/streams.Dict).Keys: function 13 -/
set_option maxHeartbeats 4000000 in
set_option maxRecDepth 100000 in
theorem streams_Dict_Keys.calls (a0 : streams_Dict) (a1 : Int) {w0 : World} {R : Hp} {RA : Hp} {b0 : Nat} {o0 : Nat} {v0_0 : Value} {mb0_1 : Nat} (hRA : RA.sub w0) (hR : R.sub w0) (hc0 : ∀ j u, ([.int .i64 a0.most, v0_0, .map (some mb0_1)] : List Value)[j]? = some u → RA.cell b0 (o0 + j) = some u) (h0_0 : SlR ty_streams_stream RA v0_0 a0.l) (h0_1 : MpR RA mb0_1 (kvs Value.string (Value.int .i64) a0.ids)) {r : ByteArray × (List api_Value) × Bool} (H : streams_Dict_Keys a0 a1 = some r) : Calls Tryd.prog 13 #[.pointer (some ⟨b0, o0, none⟩), .int .i64 a1] w0 (Rets fun v w' => ∃ (R' : Hp) (u0 : Value) (cu0 : List Value), v = .tuple #[.string r.1, u0, .bool r.2.2] ∧ St [] w0 w' R' [.row 50 11 u0 r.2.1.length cu0] ∧ RLe [] w0 R R' ∧ Reps ty_api_Value R' cu0 r.2.1) := by
  unfold streams_Dict_Keys at H
  refine enter (args := [.pointer (some ⟨b0, o0, none⟩), .int .i64 a1]) Tryd.func13 rfl Tryd.ntmps13 rfl fun a hK => ?_
  have hS := St.init hR
  have hRL := RLe.refl (M := []) w0 R
  refine wp_seq ?_
  refine wp_region_lit ?_
  refine sl hK (by decide) rfl rfl (r_assign hK rfl) fun a hK => ?_
  refine sl hK (by decide) rfl rfl (r_assign hK rfl) fun a hK => ?_
  refine sl hK (by decide) rfl rfl (r_assign hK rfl) fun a hK => ?_
  refine wpList_nil ?_
  refine wp_seq ?_
  refine wp_seq ?_
  refine wp_mid (fun a w => ∃ (x_2 : Bool), streams_Dict_Keys.j0 a0 a1 x_2 = some r ∧ Kn 35 a [(0, .pointer (some ⟨b0, o0, none⟩)), (1, .int .i64 a1), (17, .bool x_2)] ∧ St [] w0 w R []) ?_ ?_
  · refine wp_region_lit ?_
    refine sl hK (by decide) rfl rfl (r_move hK rfl) fun a hK => ?_
    refine sl hK (by decide) rfl rfl (r_ibin hK rfl rfl rfl) fun a hK => ?_
    refine sl hK (by decide) rfl rfl (r_move hK rfl) fun a hK => ?_
    rcases or_b (decide (a1 < 0)) with hb_4 | hb_4
    · rw [ifb_t hb_4] at H
      refine sl_skip hK (by decide) (wft hb_4) rfl fun a hK => ?_
      refine sl_skip hK (by decide) (wft hb_4) rfl fun a hK => ?_
      refine sl_skip hK (by decide) (wft hb_4) rfl fun a hK => ?_
      refine sl_skip hK (by decide) (wft hb_4) rfl fun a hK => ?_
      refine sl_skip hK (by decide) (wft hb_4) rfl fun a hK => ?_
      refine sl_skip hK (by decide) (wft hb_4) rfl fun a hK => ?_
      refine sl_skip hK (by decide) (wft hb_4) rfl fun a hK => ?_
      refine sl hK (by decide) rfl rfl (r_pick_t hb_4 hK rfl rfl) fun a hK => ?_
      refine wpList_nil ?_
      exact ⟨true, H, hK.sub (all_cons rfl (all_cons rfl (all_cons rfl (all_nil)))), hS⟩
    · rw [ifb_f hb_4] at H
      refine sl hK (by decide) (wff hb_4) rfl (r_move hK rfl) fun a hK => ?_
      refine sl hK (by decide) (wff hb_4) rfl (r_move hK rfl) fun a hK => ?_
      refine sl hK (by decide) (wff hb_4) rfl (r_nilCheck hK rfl) fun a hK => ?_
      refine sl hK (by decide) (wff hb_4) rfl (r_fieldAddr Tryd.underlying56 rfl Tryd.sizeOf54 hK rfl) fun a hK => ?_
      refine sl hK (by decide) (wff hb_4) rfl (r_load Tryd.isAgg54 hK rfl ((hS.ra hRA nil_not).cell (hc0 1 _ rfl))) fun a hK => ?_
      refine sl hK (by decide) (wff hb_4) rfl (r_len_R Tryd.underlying54 h0_0 hK rfl) fun a hK => ?_
      refine sl hK (by decide) (wff hb_4) rfl (r_ibin hK rfl rfl rfl) fun a hK => ?_
      refine sl hK (by decide) rfl rfl (r_pick_f hb_4 hK rfl rfl) fun a hK => ?_
      refine wpList_nil ?_
      exact ⟨(decide (a1 ≥ (a0.l.length : Int))), H, hK.sub (all_cons rfl (all_cons rfl (all_cons rfl (all_nil)))), hS⟩
  · rintro a w ⟨x_2, H, hK, hS⟩
    unfold streams_Dict_Keys.j0 at H
    refine wp_cond_split (hK.ev rfl) (fun (hb_5 : x_2 = true) => ?_) (fun (hb_5 : x_2 = false) => ?_)
    · rw [ifb_t hb_5] at H
      refine wp_seq ?_
      refine wp_region_lit ?_
      refine sl hK (by decide) rfl rfl (r_assign hK rfl) fun a hK => ?_
      refine sl hK (by decide) rfl rfl (r_assign hK rfl) fun a hK => ?_
      refine sl hK (by decide) rfl rfl (r_assign hK rfl) fun a hK => ?_
      refine wpList_nil ?_
      have hS := hS.row_nil 50 11
      have hq_7 : Reps ty_api_Value R [] ([] : List api_Value) := Reps.nil _ _
      obtain rfl := Option.some.inj H
      refine wp_ret ?_
      repeat (first | refine ret_then ?_ | refine ret_block ?_ | refine ret_scope ?_)
      exact ret_3 Tryd.results13 hK (rv_tmp hK rfl) (rv_tmp hK rfl) (rv_tmp hK rfl) ⟨_, rfl, _, _, _, rfl, hS, hRL, hq_7⟩
    · rw [ifb_f hb_5] at H
      refine wp_skip ?_
      refine wp_seq ?_
      refine parT_region (C := fun w => St [] w0 w R []) 17 [(0, true), (1, true), (2, true), (3, true), (4, true), (5, true), (6, true), (7, true), (8, true), (9, true), (10, true), (11, true), (12, true), (13, true), (14, true), (15, true), (16, false)] mixed (by kernel_rfl) hS (fun w hS => hS) fun w hS => ?_
      refine sp (k := 0) rfl hK (by decide) rfl rfl (fun w hS => r_move hK rfl) fun a hK => ?_
      refine sp (k := 1) rfl hK (by decide) rfl rfl (fun w hS => r_nilCheck hK rfl) fun a hK => ?_
      refine sp (k := 2) rfl hK (by decide) rfl rfl (fun w hS => r_fieldAddr Tryd.underlying56 rfl Tryd.sizeOf54 hK rfl) fun a hK => ?_
      refine sp (k := 3) rfl hK (by decide) rfl rfl (fun w hS => r_load Tryd.isAgg54 hK rfl ((hS.ra hRA nil_not).cell (hc0 1 _ rfl))) fun a hK => ?_
      refine sp (k := 4) rfl hK (by decide) rfl rfl (fun w hS => r_move hK rfl) fun a hK => ?_
      obtain ⟨y_38, h_39, H⟩ := bind_some H
      obtain ⟨b_40, o_41, c_42, cs_43, hv_44, hr_45, hc_46, h_390, h_391⟩ := h0_0.ix h_39
      obtain ⟨v_47, rfl, hs_48⟩ := hr_45
      refine sp (k := 5) rfl hK (by decide) rfl rfl (fun w hS => r_indexAddr_R Tryd.underlying54 Tryd.sizeOf60 hv_44 h_390 h_391 hK rfl rfl) fun a hK => ?_
      refine sp (k := 6) rfl hK (by decide) rfl rfl (fun w hS => r_fieldAddr Tryd.underlying60 rfl Tryd.sizeOf9 hK rfl) fun a hK => ?_
      refine sp (k := 7) rfl hK (by decide) rfl rfl (fun w hS => r_load Tryd.isAgg9 hK rfl ((hS.ra hRA nil_not).cell (hc_46 0 _ rfl))) fun a hK => ?_
      refine sp (k := 8) rfl hK (by decide) rfl rfl (fun w hS => r_move hK rfl) fun a hK => ?_
      refine sp (k := 9) rfl hK (by decide) rfl rfl (fun w hS => r_nilCheck hK rfl) fun a hK => ?_
      refine sp (k := 10) rfl hK (by decide) rfl rfl (fun w hS => r_fieldAddr Tryd.underlying56 rfl Tryd.sizeOf54 hK rfl) fun a hK => ?_
      refine sp (k := 11) rfl hK (by decide) rfl rfl (fun w hS => r_load Tryd.isAgg54 hK rfl ((hS.ra hRA nil_not).cell (hc0 1 _ rfl))) fun a hK => ?_
      refine sp (k := 12) rfl hK (by decide) rfl rfl (fun w hS => r_move hK rfl) fun a hK => ?_
      obtain ⟨y_49, h_50, H⟩ := bind_some H
      obtain ⟨b_51, o_52, c_53, cs_54, hv_55, hr_56, hc_57, h_500, h_501⟩ := h0_0.ix h_50
      obtain ⟨v_58, rfl, hs_59⟩ := hr_56
      refine sp (k := 13) rfl hK (by decide) rfl rfl (fun w hS => r_indexAddr_R Tryd.underlying54 Tryd.sizeOf60 hv_55 h_500 h_501 hK rfl rfl) fun a hK => ?_
      refine sp (k := 14) rfl hK (by decide) rfl rfl (fun w hS => r_fieldAddr Tryd.underlying60 rfl Tryd.sizeOf30 hK rfl) fun a hK => ?_
      refine sp (k := 15) rfl hK (by decide) rfl rfl (fun w hS => r_load Tryd.isAgg30 hK rfl ((hS.ra hRA nil_not).cell (hc_57 1 _ rfl))) fun a hK => ?_
      refine spw (k := 16) rfl rfl hS ?_
      obtain ⟨y_60, h_61, H⟩ := bind_some H
      refine sl_call Tryd.call23 hK (by decide) rfl rfl rfl (slices_Clone_api_Value_api_Value.calls y_49.keys (lentOf_sub [] _) hS.sub (hs_59.mono (hS.raLe0 hRA nil_not)) h_61) fun a v_ w hv_ hK => ?_
      obtain ⟨R_62, v_65, cs_66, hv_, hr_, hl_63, hq_67⟩ := hv_
      have hv_ := hv_.symm
      subst hv_
      obtain ⟨hS, hl_63⟩ := hS.sp0.back hr_ hl_63
      have hS := hS.un1
      have hRL := hRL.trans hl_63
      refine parK_nil ((hS.trunc 0).lower hl_63.le) ?_
      refine thenL_nil ?_
      refine sl hK (by decide) rfl rfl (r_assign hK rfl) fun a hK => ?_
      refine sl hK (by decide) rfl rfl (r_assign hK rfl) fun a hK => ?_
      refine sl hK (by decide) rfl rfl (r_assign hK rfl) fun a hK => ?_
      refine wpList_nil (NoP_nil ?_)
      obtain rfl := Option.some.inj H
      refine wp_ret ?_
      repeat (first | refine ret_then ?_ | refine ret_block ?_ | refine ret_scope ?_)
      exact ret_3 Tryd.results13 hK (rv_tmp hK rfl) (rv_tmp hK rfl) (rv_tmp hK rfl) ⟨_, rfl, _, _, _, rfl, hS, hRL, hq_67⟩

/-! ### (*catchment/streams.Dict).Len: function 11 -/
set_option maxHeartbeats 4000000 in
set_option maxRecDepth 100000 in
theorem streams_Dict_Len.calls (a0 : streams_Dict) {w0 : World} {RA : Hp} {b0 : Nat} {o0 : Nat} {v0_0 : Value} {mb0_1 : Nat} (hRA : RA.sub w0) (hc0 : ∀ j u, ([.int .i64 a0.most, v0_0, .map (some mb0_1)] : List Value)[j]? = some u → RA.cell b0 (o0 + j) = some u) (h0_0 : SlR ty_streams_stream RA v0_0 a0.l) (h0_1 : MpR RA mb0_1 (kvs Value.string (Value.int .i64) a0.ids)) {r : Int} (H : streams_Dict_Len a0 = some r) : CallsV Tryd.prog 11 #[.pointer (some ⟨b0, o0, none⟩)] w0 (.int .i64 r) := by
  unfold streams_Dict_Len at H
  refine enter (args := [.pointer (some ⟨b0, o0, none⟩)]) Tryd.func11 rfl Tryd.ntmps11 rfl fun a hK => ?_
  have hS := St.init (R := fun _ => none) (w := w0) (fun _ _ h => by cases h)
  have hRL := RLe.refl (M := []) w0 (fun _ => none)
  refine wp_seq ?_
  refine wp_region_lit ?_
  refine sl hK (by decide) rfl rfl (r_assign hK rfl) fun a hK => ?_
  refine wpList_nil ?_
  refine wp_seq ?_
  refine wp_region_lit ?_
  refine sl hK (by decide) rfl rfl (r_move hK rfl) fun a hK => ?_
  refine sl hK (by decide) rfl rfl (r_nilCheck hK rfl) fun a hK => ?_
  refine sl hK (by decide) rfl rfl (r_fieldAddr Tryd.underlying56 rfl Tryd.sizeOf54 hK rfl) fun a hK => ?_
  refine sl hK (by decide) rfl rfl (r_load Tryd.isAgg54 hK rfl ((hS.ra hRA nil_not).cell (hc0 1 _ rfl))) fun a hK => ?_
  refine sl hK (by decide) rfl rfl (r_len_R Tryd.underlying54 h0_0 hK rfl) fun a hK => ?_
  refine sl hK (by decide) rfl rfl (r_assign hK rfl) fun a hK => ?_
  refine wpList_nil ?_
  obtain rfl := Option.some.inj H
  refine wp_ret ?_
  repeat (first | refine ret_then ?_ | refine ret_block ?_ | refine ret_scope ?_)
  exact ret_1 Tryd.results11 hK (rv_tmp hK rfl) ⟨rfl, hS.bel⟩

/-! ### catchment/catchmentlaw06.shown: function 6 -/
set_option maxHeartbeats 4000000 in
set_option maxRecDepth 100000 in
theorem law06_shown.calls {w0 : World} {RA : Hp} (hRA : RA.sub w0) (hG : GF RA) {r : Bool} (H : law06_shown  = some r) : CallsV Tryd.prog 6 #[] w0 (.bool r) := by
  unfold law06_shown at H
  refine enter (args := []) Tryd.func6 rfl Tryd.ntmps6 rfl fun a hK => ?_
  have hS := St.init (R := fun _ => none) (w := w0) (fun _ _ h => by cases h)
  have hRL := RLe.refl (M := []) w0 (fun _ => none)
  refine wp_seq ?_
  refine wp_region_lit ?_
  refine sl hK (by decide) rfl rfl (r_assign hK rfl) fun a hK => ?_
  refine wpList_nil ?_
  refine wp_seq ?_
  refine wp_region_lit ?_
  obtain ⟨y_1, h_2, H⟩ := bind_some H
  refine sl_call Tryd.call7 hK (by decide) rfl rfl rfl (streams_New.calls 2 hS.sub h_2) fun a v_ w hv_ hK => ?_
  obtain ⟨R_3, b_5, v_7, cs_8, mb_10, hv_, hr_, hl_4, hq_9⟩ := hv_
  have hv_ := hv_.symm
  subst hv_
  obtain ⟨hS, hl_4⟩ := hS.sp0.back hr_ hl_4
  have hS := hS.un3
  have hRL := hRL.trans hl_4
  refine sl hK (by decide) rfl rfl (r_assign hK rfl) fun a hK => ?_
  refine wpList_nil ?_
  refine wp_seq ?_
  refine wp_seq ?_
  refine wp_region_lit ?_
  refine sl hK (by decide) rfl rfl (r_move hK rfl) fun a hK => ?_
  refine sl hK (by decide) rfl rfl (r_peq Tryd.underlying24 hK rfl rfl) fun a hK => ?_
  refine wpList_nil ?_
  refine wp_cond_false (hK.ev rfl) ?_
  refine wp_skip ?_
  refine wp_seq ?_
  refine wp_region_lit ?_
  refine sl hK (by decide) rfl rfl (r_move hK rfl) fun a hK => ?_
  obtain ⟨y_11, h_12, H⟩ := bind_some H
  refine sl_call Tryd.call18 hK (by decide) rfl rfl rfl (law06_one.calls 1 hS.sub h_12) fun a v_ w hv_ hK => ?_
  obtain ⟨R_13, v_16, cs_17, hv_, hr_, hl_14, hq_18⟩ := hv_
  have hv_ := hv_.symm
  subst hv_
  obtain ⟨hS, hl_14⟩ := hS.sp0.back hr_ hl_14
  have hS := hS.un1
  have hRL := hRL.trans hl_14
  obtain ⟨y_19, h_20, H⟩ := bind_some H
  have hS := hS.pk3
  have hS := hS.pk3
  have hS := hS.pk3
  have hS1 := hS.sp3
  refine sl_call Tryd.call8 hK (by decide) rfl rfl rfl (streams_Dict_Add.calls y_1 (⟨#[97]⟩ : ByteArray) y_11 (lentOf_sub _ _) lentOf_not hS1.lend (hq_9.mono hl_14.le) (hS1.lend_row (.head _) hq_18 rfl rfl) (GF.mono (hS1.raLe hRA nil_not) hG) h_20) fun a v_ w hv_ hK => ?_
  obtain ⟨R_21, v_24, cs_25, mb_27, hv_, hr_, hl_22, hq_26⟩ := hv_
  have hv_ := hv_.symm
  subst hv_
  obtain ⟨hS, hl_22⟩ := hS1.back hr_ hl_22
  have hS := hS.un3
  have hRL := hRL.trans hl_22
  refine sl hK (by decide) rfl rfl (r_move hK rfl) fun a hK => ?_
  refine sl hK (by decide) rfl rfl (r_extract hK rfl rfl) fun a hK => ?_
  refine sl hK (by decide) rfl rfl (r_extract hK rfl rfl) fun a hK => ?_
  refine sl hK (by decide) rfl rfl (r_assign hK rfl) fun a hK => ?_
  refine sl hK (by decide) rfl rfl (r_assign hK rfl) fun a hK => ?_
  refine wpList_nil ?_
  refine wp_seq ?_
  refine wp_region_lit ?_
  refine sl hK (by decide) rfl rfl (r_move hK rfl) fun a hK => ?_
  obtain ⟨y_28, h_29, H⟩ := bind_some H
  refine sl_call Tryd.call18 hK (by decide) rfl rfl rfl (law06_one.calls 2 hS.sub h_29) fun a v_ w hv_ hK => ?_
  obtain ⟨R_30, v_33, cs_34, hv_, hr_, hl_31, hq_35⟩ := hv_
  have hv_ := hv_.symm
  subst hv_
  obtain ⟨hS, hl_31⟩ := hS.sp0.back hr_ hl_31
  have hS := hS.un1
  have hRL := hRL.trans hl_31
  obtain ⟨y_36, h_37, H⟩ := bind_some H
  have hS := hS.pk3
  have hS := hS.pk3
  have hS := hS.pk3
  have hS1 := hS.sp3
  refine sl_call Tryd.call8 hK (by decide) rfl rfl rfl (streams_Dict_Add.calls y_19.2.2 (⟨#[97]⟩ : ByteArray) y_28 (lentOf_sub _ _) lentOf_not hS1.lend (hq_26.mono hl_31.le) (hS1.lend_row (.head _) hq_35 rfl rfl) (GF.mono (hS1.raLe hRA nil_not) hG) h_37) fun a v_ w hv_ hK => ?_
  obtain ⟨R_38, v_41, cs_42, mb_44, hv_, hr_, hl_39, hq_43⟩ := hv_
  have hv_ := hv_.symm
  subst hv_
  obtain ⟨hS, hl_39⟩ := hS1.back hr_ hl_39
  have hS := hS.un3
  have hRL := hRL.trans hl_39
  refine sl hK (by decide) rfl rfl (r_move hK rfl) fun a hK => ?_
  refine sl hK (by decide) rfl rfl (r_extract hK rfl rfl) fun a hK => ?_
  refine sl hK (by decide) rfl rfl (r_extract hK rfl rfl) fun a hK => ?_
  refine sl hK (by decide) rfl rfl (r_assign hK rfl) fun a hK => ?_
  refine sl hK (by decide) rfl rfl (r_assign hK rfl) fun a hK => ?_
  refine wpList_nil ?_
  refine wp_seq ?_
  refine wp_region_lit ?_
  refine sl hK (by decide) rfl rfl (r_move hK rfl) fun a hK => ?_
  obtain ⟨y_45, h_46, H⟩ := bind_some H
  refine sl_call Tryd.call18 hK (by decide) rfl rfl rfl (law06_one.calls 1 hS.sub h_46) fun a v_ w hv_ hK => ?_
  obtain ⟨R_47, v_50, cs_51, hv_, hr_, hl_48, hq_52⟩ := hv_
  have hv_ := hv_.symm
  subst hv_
  obtain ⟨hS, hl_48⟩ := hS.sp0.back hr_ hl_48
  have hS := hS.un1
  have hRL := hRL.trans hl_48
  obtain ⟨y_53, h_54, H⟩ := bind_some H
  have hS := hS.pk3
  have hS := hS.pk3
  have hS := hS.pk3
  have hS1 := hS.sp3
  refine sl_call Tryd.call8 hK (by decide) rfl rfl rfl (streams_Dict_Add.calls y_36.2.2 (⟨#[97]⟩ : ByteArray) y_45 (lentOf_sub _ _) lentOf_not hS1.lend (hq_43.mono hl_48.le) (hS1.lend_row (.head _) hq_52 rfl rfl) (GF.mono (hS1.raLe hRA nil_not) hG) h_54) fun a v_ w hv_ hK => ?_
  obtain ⟨R_55, v_58, cs_59, mb_61, hv_, hr_, hl_56, hq_60⟩ := hv_
  have hv_ := hv_.symm
  subst hv_
  obtain ⟨hS, hl_56⟩ := hS1.back hr_ hl_56
  have hS := hS.un3
  have hRL := hRL.trans hl_56
  refine sl hK (by decide) rfl rfl (r_move hK rfl) fun a hK => ?_
  refine sl hK (by decide) rfl rfl (r_extract hK rfl rfl) fun a hK => ?_
  refine sl hK (by decide) rfl rfl (r_extract hK rfl rfl) fun a hK => ?_
  refine sl hK (by decide) rfl rfl (r_assign hK rfl) fun a hK => ?_
  refine sl hK (by decide) rfl rfl (r_assign hK rfl) fun a hK => ?_
  refine wpList_nil ?_
  refine wp_seq ?_
  refine wp_region_lit ?_
  refine sl hK (by decide) rfl rfl (r_move hK rfl) fun a hK => ?_
  obtain ⟨y_62, h_63, H⟩ := bind_some H
  refine sl_call Tryd.call18 hK (by decide) rfl rfl rfl (law06_one.calls 1 hS.sub h_63) fun a v_ w hv_ hK => ?_
  obtain ⟨R_64, v_67, cs_68, hv_, hr_, hl_65, hq_69⟩ := hv_
  have hv_ := hv_.symm
  subst hv_
  obtain ⟨hS, hl_65⟩ := hS.sp0.back hr_ hl_65
  have hS := hS.un1
  have hRL := hRL.trans hl_65
  obtain ⟨y_70, h_71, H⟩ := bind_some H
  have hS := hS.pk3
  have hS := hS.pk3
  have hS := hS.pk3
  have hS1 := hS.sp3
  refine sl_call Tryd.call8 hK (by decide) rfl rfl rfl (streams_Dict_Add.calls y_53.2.2 (⟨#[98]⟩ : ByteArray) y_62 (lentOf_sub _ _) lentOf_not hS1.lend (hq_60.mono hl_65.le) (hS1.lend_row (.head _) hq_69 rfl rfl) (GF.mono (hS1.raLe hRA nil_not) hG) h_71) fun a v_ w hv_ hK => ?_
  obtain ⟨R_72, v_75, cs_76, mb_78, hv_, hr_, hl_73, hq_77⟩ := hv_
  have hv_ := hv_.symm
  subst hv_
  obtain ⟨hS, hl_73⟩ := hS1.back hr_ hl_73
  have hS := hS.un3
  have hRL := hRL.trans hl_73
  refine sl hK (by decide) rfl rfl (r_move hK rfl) fun a hK => ?_
  refine sl hK (by decide) rfl rfl (r_extract hK rfl rfl) fun a hK => ?_
  refine sl hK (by decide) rfl rfl (r_extract hK rfl rfl) fun a hK => ?_
  refine sl hK (by decide) rfl rfl (r_assign hK rfl) fun a hK => ?_
  refine sl hK (by decide) rfl rfl (r_assign hK rfl) fun a hK => ?_
  refine wpList_nil ?_
  refine wp_seq ?_
  refine wp_region_lit ?_
  refine sl hK (by decide) rfl rfl (r_move hK rfl) fun a hK => ?_
  obtain ⟨y_79, h_80, H⟩ := bind_some H
  refine sl_call Tryd.call18 hK (by decide) rfl rfl rfl (law06_one.calls 2 hS.sub h_80) fun a v_ w hv_ hK => ?_
  obtain ⟨R_81, v_84, cs_85, hv_, hr_, hl_82, hq_86⟩ := hv_
  have hv_ := hv_.symm
  subst hv_
  obtain ⟨hS, hl_82⟩ := hS.sp0.back hr_ hl_82
  have hS := hS.un1
  have hRL := hRL.trans hl_82
  obtain ⟨y_87, h_88, H⟩ := bind_some H
  refine sl_callV Tryd.call9 hS hK (by decide) rfl rfl rfl (streams_Dict_Find.calls y_70.2.2 (⟨#[97]⟩ : ByteArray) y_79 (lentOf_sub [] _) (hS.lend_box0 (.tail _ (.head _))) (hS.lend_row0 (.tail _ (.tail _ (.head _))) (hq_77.mono hl_82.le) rfl rfl) (hS.lend_map0 (.tail _ (.tail _ (.tail _ (.head _))))) (hS.lend_row0 (.head _) hq_86 rfl rfl) (GF.mono (hS.raLe0 hRA nil_not) hG) h_88) fun a w hS hK => ?_
  refine sl hK (by decide) rfl rfl (r_move hK rfl) fun a hK => ?_
  refine sl hK (by decide) rfl rfl (r_extract hK rfl rfl) fun a hK => ?_
  refine sl hK (by decide) rfl rfl (r_extract hK rfl rfl) fun a hK => ?_
  refine sl hK (by decide) rfl rfl (r_assign hK rfl) fun a hK => ?_
  refine sl hK (by decide) rfl rfl (r_assign hK rfl) fun a hK => ?_
  refine wpList_nil ?_
  refine wp_seq ?_
  refine wp_region_lit ?_
  refine sl hK (by decide) rfl rfl (r_move hK rfl) fun a hK => ?_
  obtain ⟨y_89, h_90, H⟩ := bind_some H
  refine sl_call Tryd.call18 hK (by decide) rfl rfl rfl (law06_one.calls 3 hS.sub h_90) fun a v_ w hv_ hK => ?_
  obtain ⟨R_91, v_94, cs_95, hv_, hr_, hl_92, hq_96⟩ := hv_
  have hv_ := hv_.symm
  subst hv_
  obtain ⟨hS, hl_92⟩ := hS.sp0.back hr_ hl_92
  have hS := hS.un1
  have hRL := hRL.trans hl_92
  obtain ⟨y_97, h_98, H⟩ := bind_some H
  refine sl_callV Tryd.call9 hS hK (by decide) rfl rfl rfl (streams_Dict_Find.calls y_70.2.2 (⟨#[97]⟩ : ByteArray) y_89 (lentOf_sub [] _) (hS.lend_box0 (.tail _ (.tail _ (.head _)))) (hS.lend_row0 (.tail _ (.tail _ (.tail _ (.head _)))) (hq_77.mono (hl_82.le.trans hl_92.le)) rfl rfl) (hS.lend_map0 (.tail _ (.tail _ (.tail _ (.tail _ (.head _)))))) (hS.lend_row0 (.head _) hq_96 rfl rfl) (GF.mono (hS.raLe0 hRA nil_not) hG) h_98) fun a w hS hK => ?_
  refine sl hK (by decide) rfl rfl (r_move hK rfl) fun a hK => ?_
  refine sl hK (by decide) rfl rfl (r_extract hK rfl rfl) fun a hK => ?_
  refine sl hK (by decide) rfl rfl (r_extract hK rfl rfl) fun a hK => ?_
  refine sl hK (by decide) rfl rfl (r_assign hK rfl) fun a hK => ?_
  refine sl hK (by decide) rfl rfl (r_assign hK rfl) fun a hK => ?_
  refine wpList_nil ?_
  refine wp_seq ?_
  refine wp_region_lit ?_
  refine sl hK (by decide) rfl rfl (r_move hK rfl) fun a hK => ?_
  obtain ⟨y_99, h_100, H⟩ := bind_some H
  refine sl_call Tryd.call12 hK (by decide) rfl rfl rfl (streams_Dict_Of.calls y_70.2.2 (⟨#[97]⟩ : ByteArray) (lentOf_sub [] _) hS.sub (hS.lend_box0 (.tail _ (.tail _ (.head _)))) (hS.lend_row0 (.tail _ (.tail _ (.tail _ (.head _)))) (hq_77.mono (hl_82.le.trans hl_92.le)) rfl rfl) (hS.lend_map0 (.tail _ (.tail _ (.tail _ (.tail _ (.head _)))))) h_100) fun a v_ w hv_ hK => ?_
  obtain ⟨R_101, v_104, cs_105, hv_, hr_, hl_102, hq_106⟩ := hv_
  have hv_ := hv_.symm
  subst hv_
  obtain ⟨hS, hl_102⟩ := hS.sp0.back hr_ hl_102
  have hS := hS.un1
  have hRL := hRL.trans hl_102
  refine sl hK (by decide) rfl rfl (r_assign hK rfl) fun a hK => ?_
  refine wpList_nil ?_
  refine wp_seq ?_
  refine wp_region_lit ?_
  refine sl hK (by decide) rfl rfl (r_move hK rfl) fun a hK => ?_
  obtain ⟨y_107, h_108, H⟩ := bind_some H
  refine sl_call Tryd.call13 hK (by decide) rfl rfl rfl (streams_Dict_Keys.calls y_70.2.2 1 (lentOf_sub [] _) hS.sub (hS.lend_box0 (.tail _ (.tail _ (.tail _ (.head _))))) (hS.lend_row0 (.tail _ (.tail _ (.tail _ (.tail _ (.head _))))) (hq_77.mono (hl_82.le.trans (hl_92.le.trans hl_102.le))) rfl rfl) (hS.lend_map0 (.tail _ (.tail _ (.tail _ (.tail _ (.tail _ (.head _))))))) h_108) fun a v_ w hv_ hK => ?_
  obtain ⟨R_109, v_112, cs_113, hv_, hr_, hl_110, hq_114⟩ := hv_
  have hv_ := hv_.symm
  subst hv_
  obtain ⟨hS, hl_110⟩ := hS.sp0.back hr_ hl_110
  have hS := hS.un1
  have hRL := hRL.trans hl_110
  refine sl hK (by decide) rfl rfl (r_move hK rfl) fun a hK => ?_
  refine sl hK (by decide) rfl rfl (r_extract hK rfl rfl) fun a hK => ?_
  refine sl hK (by decide) rfl rfl (r_extract hK rfl rfl) fun a hK => ?_
  refine sl hK (by decide) rfl rfl (r_extract hK rfl rfl) fun a hK => ?_
  refine sl hK (by decide) rfl rfl (r_assign hK rfl) fun a hK => ?_
  refine sl hK (by decide) rfl rfl (r_assign hK rfl) fun a hK => ?_
  refine sl hK (by decide) rfl rfl (r_assign hK rfl) fun a hK => ?_
  refine wpList_nil ?_
  refine wp_seq ?_
  refine wp_region_lit ?_
  refine sl hK (by decide) rfl rfl (r_move hK rfl) fun a hK => ?_
  refine sl hK (by decide) rfl rfl (r_ibin hK rfl rfl rfl) fun a hK => ?_
  refine sl hK (by decide) rfl rfl (r_move hK rfl) fun a hK => ?_
  rcases or_b (y_19.1 == 0) with hb_115 | hb_115
  · rw [ifb_t hb_115] at H
    refine sl hK (by decide) (wtt hb_115) rfl (r_move hK rfl) fun a hK => ?_
    refine sl hK (by decide) (wtt hb_115) rfl (r_ibin hK rfl rfl rfl) fun a hK => ?_
    refine sl hK (by decide) rfl rfl (r_pick_t hb_115 hK rfl rfl) fun a hK => ?_
    refine sl hK (by decide) rfl rfl (r_move hK rfl) fun a hK => ?_
    rcases or_b (y_19.2.1 == 0) with hb_116 | hb_116
    · rw [ifb_t hb_116] at H
      refine sl hK (by decide) (wtt hb_116) rfl (r_move hK rfl) fun a hK => ?_
      refine sl hK (by decide) (wtt hb_116) rfl (r_ibin hK rfl rfl rfl) fun a hK => ?_
      refine sl hK (by decide) rfl rfl (r_pick_t hb_116 hK rfl rfl) fun a hK => ?_
      refine sl hK (by decide) rfl rfl (r_move hK rfl) fun a hK => ?_
      rcases or_b (y_36.1 == 1) with hb_117 | hb_117
      · rw [ifb_t hb_117] at H
        refine sl hK (by decide) (wtt hb_117) rfl (r_move hK rfl) fun a hK => ?_
        refine sl hK (by decide) (wtt hb_117) rfl (r_ibin hK rfl rfl rfl) fun a hK => ?_
        refine sl hK (by decide) rfl rfl (r_pick_t hb_117 hK rfl rfl) fun a hK => ?_
        refine sl hK (by decide) rfl rfl (r_move hK rfl) fun a hK => ?_
        rcases or_b (y_36.2.1 == 0) with hb_118 | hb_118
        · rw [ifb_t hb_118] at H
          refine sl hK (by decide) (wtt hb_118) rfl (r_move hK rfl) fun a hK => ?_
          refine sl hK (by decide) (wtt hb_118) rfl (r_ibin hK rfl rfl rfl) fun a hK => ?_
          refine sl hK (by decide) rfl rfl (r_pick_t hb_118 hK rfl rfl) fun a hK => ?_
          refine sl hK (by decide) rfl rfl (r_move hK rfl) fun a hK => ?_
          rcases or_b (y_53.1 == 0) with hb_119 | hb_119
          · rw [ifb_t hb_119] at H
            refine sl hK (by decide) (wtt hb_119) rfl (r_move hK rfl) fun a hK => ?_
            refine sl hK (by decide) (wtt hb_119) rfl (r_ibin hK rfl rfl rfl) fun a hK => ?_
            refine sl hK (by decide) rfl rfl (r_pick_t hb_119 hK rfl rfl) fun a hK => ?_
            refine sl hK (by decide) rfl rfl (r_move hK rfl) fun a hK => ?_
            rcases or_b (y_53.2.1 == 0) with hb_120 | hb_120
            · rw [ifb_t hb_120] at H
              refine sl hK (by decide) (wtt hb_120) rfl (r_move hK rfl) fun a hK => ?_
              refine sl hK (by decide) (wtt hb_120) rfl (r_ibin hK rfl rfl rfl) fun a hK => ?_
              refine sl hK (by decide) rfl rfl (r_pick_t hb_120 hK rfl rfl) fun a hK => ?_
              refine sl hK (by decide) rfl rfl (r_move hK rfl) fun a hK => ?_
              rcases or_b (y_70.2.1 == 80) with hb_121 | hb_121
              · rw [ifb_t hb_121] at H
                refine sl hK (by decide) (wtt hb_121) rfl (r_move hK rfl) fun a hK => ?_
                refine sl hK (by decide) (wtt hb_121) rfl (r_ibin hK rfl rfl rfl) fun a hK => ?_
                refine sl hK (by decide) rfl rfl (r_pick_t hb_121 hK rfl rfl) fun a hK => ?_
                refine sl hK (by decide) rfl rfl (r_move hK rfl) fun a hK => ?_
                rcases or_b (y_87.1 == 1) with hb_122 | hb_122
                · rw [ifb_t hb_122] at H
                  refine sl hK (by decide) (wtt hb_122) rfl (r_move hK rfl) fun a hK => ?_
                  refine sl hK (by decide) rfl rfl (r_pick_t hb_122 hK rfl rfl) fun a hK => ?_
                  refine sl hK (by decide) rfl rfl (r_move hK rfl) fun a hK => ?_
                  rcases or_b y_87.2 with hb_123 | hb_123
                  · rw [ifb_t hb_123] at H
                    refine sl hK (by decide) (wtt hb_123) rfl (r_move hK rfl) fun a hK => ?_
                    refine sl hK (by decide) (wtt hb_123) rfl (r_un hK rfl (u_not _)) fun a hK => ?_
                    refine sl hK (by decide) rfl rfl (r_pick_t hb_123 hK rfl rfl) fun a hK => ?_
                    refine sl hK (by decide) rfl rfl (r_move hK rfl) fun a hK => ?_
                    rcases or_b (!y_97.2) with hb_124 | hb_124
                    · rw [ifb_t hb_124] at H
                      refine sl hK (by decide) (wtt hb_124) rfl (r_move hK rfl) fun a hK => ?_
                      refine sl hK (by decide) (wtt hb_124) rfl (r_len_O Tryd.underlying26 hS (.tail _ (.head _)) hK rfl) fun a hK => ?_
                      refine sl hK (by decide) (wtt hb_124) rfl (r_ibin hK rfl rfl rfl) fun a hK => ?_
                      refine sl hK (by decide) rfl rfl (r_pick_t hb_124 hK rfl rfl) fun a hK => ?_
                      refine sl hK (by decide) rfl rfl (r_move hK rfl) fun a hK => ?_
                      rcases or_b ((y_99.length : Int) == 2) with hb_125 | hb_125
                      · rw [ifb_t hb_125] at H
                        refine sl hK (by decide) (wtt hb_125) rfl (r_move hK rfl) fun a hK => ?_
                        obtain ⟨y_126, h_127, H⟩ := bind_some H
                        obtain ⟨b_129, c_130, cs_131, hv_128, hr_132, hc_133, h_1270, h_1271⟩ := hS.row_ix (.tail _ (.head _)) (hq_106.mono hl_110.le) rfl rfl h_127
                        subst hr_132
                        refine sl hK (by decide) (wtt hb_125) rfl (r_indexAddr_R Tryd.underlying26 Tryd.sizeOf3 hv_128 h_1270 h_1271 hK rfl rfl) fun a hK => ?_
                        refine sl hK (by decide) (wtt hb_125) rfl (r_load Tryd.isAgg3 hK rfl (hS.row_cell (.tail _ (.head _)) hv_128 (hc_133 0 _ rfl))) fun a hK => ?_
                        refine sl hK (by decide) (wtt hb_125) rfl (r_ibin hK rfl rfl rfl) fun a hK => ?_
                        refine sl hK (by decide) rfl rfl (r_pick_t hb_125 hK rfl rfl) fun a hK => ?_
                        refine sl hK (by decide) rfl rfl (r_move hK rfl) fun a hK => ?_
                        rcases or_b (y_126 == 1) with hb_134 | hb_134
                        · rw [ifb_t hb_134] at H
                          refine sl hK (by decide) (wtt hb_134) rfl (r_move hK rfl) fun a hK => ?_
                          refine sl hK (by decide) (wtt hb_134) rfl (r_sbin hK rfl rfl rfl) fun a hK => ?_
                          refine sl hK (by decide) rfl rfl (r_pick_t hb_134 hK rfl rfl) fun a hK => ?_
                          refine sl hK (by decide) rfl rfl (r_move hK rfl) fun a hK => ?_
                          rcases or_b (y_107.1.toList == (⟨#[97]⟩ : ByteArray).toList) with hb_135 | hb_135
                          · rw [ifb_t hb_135] at H
                            refine sl hK (by decide) (wtt hb_135) rfl (r_move hK rfl) fun a hK => ?_
                            refine sl hK (by decide) (wtt hb_135) rfl (r_len_O Tryd.underlying30 hS (.head _) hK rfl) fun a hK => ?_
                            refine sl hK (by decide) (wtt hb_135) rfl (r_ibin hK rfl rfl rfl) fun a hK => ?_
                            refine sl hK (by decide) rfl rfl (r_pick_t hb_135 hK rfl rfl) fun a hK => ?_
                            refine sl hK (by decide) rfl rfl (r_move hK rfl) fun a hK => ?_
                            rcases or_b ((y_107.2.1.length : Int) == 1) with hb_136 | hb_136
                            · rw [ifb_t hb_136] at H
                              refine sl hK (by decide) (wtt hb_136) rfl (r_move hK rfl) fun a hK => ?_
                              obtain ⟨y_137, h_138, H⟩ := bind_some H
                              obtain ⟨b_140, c_141, cs_142, hv_139, hr_143, hc_144, h_1380, h_1381⟩ := hS.row_ix (.head _) hq_114 rfl rfl h_138
                              subst hr_143
                              refine sl hK (by decide) (wtt hb_136) rfl (r_indexAddr_R Tryd.underlying30 Tryd.sizeOf50 hv_139 h_1380 h_1381 hK rfl rfl) fun a hK => ?_
                              refine sl hK (by decide) (wtt hb_136) rfl (r_fieldAddr Tryd.underlying50 rfl Tryd.sizeOf3 hK rfl) fun a hK => ?_
                              refine sl hK (by decide) (wtt hb_136) rfl (r_load Tryd.isAgg3 hK rfl (by have h_ := hS.row_cell (.head _) hv_139 (hc_144 1 _ rfl); simpa [Nat.add_assoc] using h_)) fun a hK => ?_
                              refine sl hK (by decide) (wtt hb_136) rfl (r_ibin hK rfl rfl rfl) fun a hK => ?_
                              refine sl hK (by decide) rfl rfl (r_pick_t hb_136 hK rfl rfl) fun a hK => ?_
                              refine sl hK (by decide) rfl rfl (r_move hK rfl) fun a hK => ?_
                              rcases or_b (y_137.N == 2) with hb_145 | hb_145
                              · rw [ifb_t hb_145] at H
                                refine sl hK (by decide) (wtt hb_145) rfl (r_move hK rfl) fun a hK => ?_
                                refine sl hK (by decide) rfl rfl (r_pick_t hb_145 hK rfl rfl) fun a hK => ?_
                                refine sl hK (by decide) rfl rfl (r_move hK rfl) fun a hK => ?_
                                rcases or_b y_107.2.2 with hb_146 | hb_146
                                · rw [ifb_t hb_146] at H
                                  refine sl hK (by decide) (wtt hb_146) rfl (r_move hK rfl) fun a hK => ?_
                                  obtain ⟨y_147, h_148, H⟩ := bind_some H
                                  refine sl_callV Tryd.call11 hS hK (by decide) (wtt hb_146) rfl rfl (streams_Dict_Len.calls y_70.2.2 (lentOf_sub [] _) (hS.lend_box0 (.tail _ (.tail _ (.tail _ (.tail _ (.head _)))))) (hS.lend_row0 (.tail _ (.tail _ (.tail _ (.tail _ (.tail _ (.head _)))))) (hq_77.mono (hl_82.le.trans (hl_92.le.trans (hl_102.le.trans hl_110.le)))) rfl rfl) (hS.lend_map0 (.tail _ (.tail _ (.tail _ (.tail _ (.tail _ (.tail _ (.head _)))))))) h_148) fun a w hS hK => ?_
                                  refine sl hK (by decide) (wtt hb_146) rfl (r_ibin hK rfl rfl rfl) fun a hK => ?_
                                  refine sl hK (by decide) rfl rfl (r_pick_t hb_146 hK rfl rfl) fun a hK => ?_
                                  refine sl hK (by decide) rfl rfl (r_assign hK rfl) fun a hK => ?_
                                  refine wpList_nil ?_
                                  obtain rfl := Option.some.inj H
                                  refine wp_ret ?_
                                  repeat (first | refine ret_then ?_ | refine ret_block ?_ | refine ret_scope ?_)
                                  exact ret_1 Tryd.results6 hK (rv_tmp hK rfl) ⟨rfl, hS.bel⟩
                                · rw [ifb_f hb_146] at H
                                  refine sl_skip hK (by decide) (wtf hb_146) rfl fun a hK => ?_
                                  refine sl_skip hK (by decide) (wtf hb_146) rfl fun a hK => ?_
                                  refine sl_skip hK (by decide) (wtf hb_146) rfl fun a hK => ?_
                                  refine sl hK (by decide) rfl rfl (r_pick_f hb_146 hK rfl rfl) fun a hK => ?_
                                  refine sl hK (by decide) rfl rfl (r_assign hK rfl) fun a hK => ?_
                                  refine wpList_nil ?_
                                  obtain rfl := Option.some.inj H
                                  refine wp_ret ?_
                                  repeat (first | refine ret_then ?_ | refine ret_block ?_ | refine ret_scope ?_)
                                  exact ret_1 Tryd.results6 hK (rv_tmp hK rfl) ⟨rfl, hS.bel⟩
                              · rw [ifb_f hb_145] at H
                                refine sl_skip hK (by decide) (wtf hb_145) rfl fun a hK => ?_
                                refine sl hK (by decide) rfl rfl (r_pick_f hb_145 hK rfl rfl) fun a hK => ?_
                                refine sl hK (by decide) rfl rfl (r_move hK rfl) fun a hK => ?_
                                refine sl_skip hK (by decide) rfl rfl fun a hK => ?_
                                refine sl_skip hK (by decide) rfl rfl fun a hK => ?_
                                refine sl_skip hK (by decide) rfl rfl fun a hK => ?_
                                refine sl hK (by decide) rfl rfl (r_pick hK rfl rfl rfl) fun a hK => ?_
                                refine sl hK (by decide) rfl rfl (r_assign hK rfl) fun a hK => ?_
                                refine wpList_nil ?_
                                obtain rfl := Option.some.inj H
                                refine wp_ret ?_
                                repeat (first | refine ret_then ?_ | refine ret_block ?_ | refine ret_scope ?_)
                                exact ret_1 Tryd.results6 hK (rv_tmp hK rfl) ⟨rfl, hS.bel⟩
                            · rw [ifb_f hb_136] at H
                              refine sl_skip hK (by decide) (wtf hb_136) rfl fun a hK => ?_
                              refine sl_skip hK (by decide) (wtf hb_136) rfl fun a hK => ?_
                              refine sl_skip hK (by decide) (wtf hb_136) rfl fun a hK => ?_
                              refine sl_skip hK (by decide) (wtf hb_136) rfl fun a hK => ?_
                              refine sl_skip hK (by decide) (wtf hb_136) rfl fun a hK => ?_
                              refine sl hK (by decide) rfl rfl (r_pick_f hb_136 hK rfl rfl) fun a hK => ?_
                              refine sl hK (by decide) rfl rfl (r_move hK rfl) fun a hK => ?_
                              refine sl_skip hK (by decide) rfl rfl fun a hK => ?_
                              refine sl hK (by decide) rfl rfl (r_pick hK rfl rfl rfl) fun a hK => ?_
                              refine sl hK (by decide) rfl rfl (r_move hK rfl) fun a hK => ?_
                              refine sl_skip hK (by decide) rfl rfl fun a hK => ?_
                              refine sl_skip hK (by decide) rfl rfl fun a hK => ?_
                              refine sl_skip hK (by decide) rfl rfl fun a hK => ?_
                              refine sl hK (by decide) rfl rfl (r_pick hK rfl rfl rfl) fun a hK => ?_
                              refine sl hK (by decide) rfl rfl (r_assign hK rfl) fun a hK => ?_
                              refine wpList_nil ?_
                              obtain rfl := Option.some.inj H
                              refine wp_ret ?_
                              repeat (first | refine ret_then ?_ | refine ret_block ?_ | refine ret_scope ?_)
                              exact ret_1 Tryd.results6 hK (rv_tmp hK rfl) ⟨rfl, hS.bel⟩
                          · rw [ifb_f hb_135] at H
                            refine sl_skip hK (by decide) (wtf hb_135) rfl fun a hK => ?_
                            refine sl_skip hK (by decide) (wtf hb_135) rfl fun a hK => ?_
                            refine sl_skip hK (by decide) (wtf hb_135) rfl fun a hK => ?_
                            refine sl hK (by decide) rfl rfl (r_pick_f hb_135 hK rfl rfl) fun a hK => ?_
                            refine sl hK (by decide) rfl rfl (r_move hK rfl) fun a hK => ?_
                            refine sl_skip hK (by decide) rfl rfl fun a hK => ?_
                            refine sl_skip hK (by decide) rfl rfl fun a hK => ?_
                            refine sl_skip hK (by decide) rfl rfl fun a hK => ?_
                            refine sl_skip hK (by decide) rfl rfl fun a hK => ?_
                            refine sl_skip hK (by decide) rfl rfl fun a hK => ?_
                            refine sl hK (by decide) rfl rfl (r_pick hK rfl rfl rfl) fun a hK => ?_
                            refine sl hK (by decide) rfl rfl (r_move hK rfl) fun a hK => ?_
                            refine sl_skip hK (by decide) rfl rfl fun a hK => ?_
                            refine sl hK (by decide) rfl rfl (r_pick hK rfl rfl rfl) fun a hK => ?_
                            refine sl hK (by decide) rfl rfl (r_move hK rfl) fun a hK => ?_
                            refine sl_skip hK (by decide) rfl rfl fun a hK => ?_
                            refine sl_skip hK (by decide) rfl rfl fun a hK => ?_
                            refine sl_skip hK (by decide) rfl rfl fun a hK => ?_
                            refine sl hK (by decide) rfl rfl (r_pick hK rfl rfl rfl) fun a hK => ?_
                            refine sl hK (by decide) rfl rfl (r_assign hK rfl) fun a hK => ?_
                            refine wpList_nil ?_
                            obtain rfl := Option.some.inj H
                            refine wp_ret ?_
                            repeat (first | refine ret_then ?_ | refine ret_block ?_ | refine ret_scope ?_)
                            exact ret_1 Tryd.results6 hK (rv_tmp hK rfl) ⟨rfl, hS.bel⟩
                        · rw [ifb_f hb_134] at H
                          refine sl_skip hK (by decide) (wtf hb_134) rfl fun a hK => ?_
                          refine sl_skip hK (by decide) (wtf hb_134) rfl fun a hK => ?_
                          refine sl hK (by decide) rfl rfl (r_pick_f hb_134 hK rfl rfl) fun a hK => ?_
                          refine sl hK (by decide) rfl rfl (r_move hK rfl) fun a hK => ?_
                          refine sl_skip hK (by decide) rfl rfl fun a hK => ?_
                          refine sl_skip hK (by decide) rfl rfl fun a hK => ?_
                          refine sl_skip hK (by decide) rfl rfl fun a hK => ?_
                          refine sl hK (by decide) rfl rfl (r_pick hK rfl rfl rfl) fun a hK => ?_
                          refine sl hK (by decide) rfl rfl (r_move hK rfl) fun a hK => ?_
                          refine sl_skip hK (by decide) rfl rfl fun a hK => ?_
                          refine sl_skip hK (by decide) rfl rfl fun a hK => ?_
                          refine sl_skip hK (by decide) rfl rfl fun a hK => ?_
                          refine sl_skip hK (by decide) rfl rfl fun a hK => ?_
                          refine sl_skip hK (by decide) rfl rfl fun a hK => ?_
                          refine sl hK (by decide) rfl rfl (r_pick hK rfl rfl rfl) fun a hK => ?_
                          refine sl hK (by decide) rfl rfl (r_move hK rfl) fun a hK => ?_
                          refine sl_skip hK (by decide) rfl rfl fun a hK => ?_
                          refine sl hK (by decide) rfl rfl (r_pick hK rfl rfl rfl) fun a hK => ?_
                          refine sl hK (by decide) rfl rfl (r_move hK rfl) fun a hK => ?_
                          refine sl_skip hK (by decide) rfl rfl fun a hK => ?_
                          refine sl_skip hK (by decide) rfl rfl fun a hK => ?_
                          refine sl_skip hK (by decide) rfl rfl fun a hK => ?_
                          refine sl hK (by decide) rfl rfl (r_pick hK rfl rfl rfl) fun a hK => ?_
                          refine sl hK (by decide) rfl rfl (r_assign hK rfl) fun a hK => ?_
                          refine wpList_nil ?_
                          obtain rfl := Option.some.inj H
                          refine wp_ret ?_
                          repeat (first | refine ret_then ?_ | refine ret_block ?_ | refine ret_scope ?_)
                          exact ret_1 Tryd.results6 hK (rv_tmp hK rfl) ⟨rfl, hS.bel⟩
                      · rw [ifb_f hb_125] at H
                        refine sl_skip hK (by decide) (wtf hb_125) rfl fun a hK => ?_
                        refine sl_skip hK (by decide) (wtf hb_125) rfl fun a hK => ?_
                        refine sl_skip hK (by decide) (wtf hb_125) rfl fun a hK => ?_
                        refine sl_skip hK (by decide) (wtf hb_125) rfl fun a hK => ?_
                        refine sl hK (by decide) rfl rfl (r_pick_f hb_125 hK rfl rfl) fun a hK => ?_
                        refine sl hK (by decide) rfl rfl (r_move hK rfl) fun a hK => ?_
                        refine sl_skip hK (by decide) rfl rfl fun a hK => ?_
                        refine sl_skip hK (by decide) rfl rfl fun a hK => ?_
                        refine sl hK (by decide) rfl rfl (r_pick hK rfl rfl rfl) fun a hK => ?_
                        refine sl hK (by decide) rfl rfl (r_move hK rfl) fun a hK => ?_
                        refine sl_skip hK (by decide) rfl rfl fun a hK => ?_
                        refine sl_skip hK (by decide) rfl rfl fun a hK => ?_
                        refine sl_skip hK (by decide) rfl rfl fun a hK => ?_
                        refine sl hK (by decide) rfl rfl (r_pick hK rfl rfl rfl) fun a hK => ?_
                        refine sl hK (by decide) rfl rfl (r_move hK rfl) fun a hK => ?_
                        refine sl_skip hK (by decide) rfl rfl fun a hK => ?_
                        refine sl_skip hK (by decide) rfl rfl fun a hK => ?_
                        refine sl_skip hK (by decide) rfl rfl fun a hK => ?_
                        refine sl_skip hK (by decide) rfl rfl fun a hK => ?_
                        refine sl_skip hK (by decide) rfl rfl fun a hK => ?_
                        refine sl hK (by decide) rfl rfl (r_pick hK rfl rfl rfl) fun a hK => ?_
                        refine sl hK (by decide) rfl rfl (r_move hK rfl) fun a hK => ?_
                        refine sl_skip hK (by decide) rfl rfl fun a hK => ?_
                        refine sl hK (by decide) rfl rfl (r_pick hK rfl rfl rfl) fun a hK => ?_
                        refine sl hK (by decide) rfl rfl (r_move hK rfl) fun a hK => ?_
                        refine sl_skip hK (by decide) rfl rfl fun a hK => ?_
                        refine sl_skip hK (by decide) rfl rfl fun a hK => ?_
                        refine sl_skip hK (by decide) rfl rfl fun a hK => ?_
                        refine sl hK (by decide) rfl rfl (r_pick hK rfl rfl rfl) fun a hK => ?_
                        refine sl hK (by decide) rfl rfl (r_assign hK rfl) fun a hK => ?_
                        refine wpList_nil ?_
                        obtain rfl := Option.some.inj H
                        refine wp_ret ?_
                        repeat (first | refine ret_then ?_ | refine ret_block ?_ | refine ret_scope ?_)
                        exact ret_1 Tryd.results6 hK (rv_tmp hK rfl) ⟨rfl, hS.bel⟩
                    · rw [ifb_f hb_124] at H
                      refine sl_skip hK (by decide) (wtf hb_124) rfl fun a hK => ?_
                      refine sl_skip hK (by decide) (wtf hb_124) rfl fun a hK => ?_
                      refine sl_skip hK (by decide) (wtf hb_124) rfl fun a hK => ?_
                      refine sl hK (by decide) rfl rfl (r_pick_f hb_124 hK rfl rfl) fun a hK => ?_
                      refine sl hK (by decide) rfl rfl (r_move hK rfl) fun a hK => ?_
                      refine sl_skip hK (by decide) rfl rfl fun a hK => ?_
                      refine sl_skip hK (by decide) rfl rfl fun a hK => ?_
                      refine sl_skip hK (by decide) rfl rfl fun a hK => ?_
                      refine sl_skip hK (by decide) rfl rfl fun a hK => ?_
                      refine sl hK (by decide) rfl rfl (r_pick hK rfl rfl rfl) fun a hK => ?_
                      refine sl hK (by decide) rfl rfl (r_move hK rfl) fun a hK => ?_
                      refine sl_skip hK (by decide) rfl rfl fun a hK => ?_
                      refine sl_skip hK (by decide) rfl rfl fun a hK => ?_
                      refine sl hK (by decide) rfl rfl (r_pick hK rfl rfl rfl) fun a hK => ?_
                      refine sl hK (by decide) rfl rfl (r_move hK rfl) fun a hK => ?_
                      refine sl_skip hK (by decide) rfl rfl fun a hK => ?_
                      refine sl_skip hK (by decide) rfl rfl fun a hK => ?_
                      refine sl_skip hK (by decide) rfl rfl fun a hK => ?_
                      refine sl hK (by decide) rfl rfl (r_pick hK rfl rfl rfl) fun a hK => ?_
                      refine sl hK (by decide) rfl rfl (r_move hK rfl) fun a hK => ?_
                      refine sl_skip hK (by decide) rfl rfl fun a hK => ?_
                      refine sl_skip hK (by decide) rfl rfl fun a hK => ?_
                      refine sl_skip hK (by decide) rfl rfl fun a hK => ?_
                      refine sl_skip hK (by decide) rfl rfl fun a hK => ?_
                      refine sl_skip hK (by decide) rfl rfl fun a hK => ?_
                      refine sl hK (by decide) rfl rfl (r_pick hK rfl rfl rfl) fun a hK => ?_
                      refine sl hK (by decide) rfl rfl (r_move hK rfl) fun a hK => ?_
                      refine sl_skip hK (by decide) rfl rfl fun a hK => ?_
                      refine sl hK (by decide) rfl rfl (r_pick hK rfl rfl rfl) fun a hK => ?_
                      refine sl hK (by decide) rfl rfl (r_move hK rfl) fun a hK => ?_
                      refine sl_skip hK (by decide) rfl rfl fun a hK => ?_
                      refine sl_skip hK (by decide) rfl rfl fun a hK => ?_
                      refine sl_skip hK (by decide) rfl rfl fun a hK => ?_
                      refine sl hK (by decide) rfl rfl (r_pick hK rfl rfl rfl) fun a hK => ?_
                      refine sl hK (by decide) rfl rfl (r_assign hK rfl) fun a hK => ?_
                      refine wpList_nil ?_
                      obtain rfl := Option.some.inj H
                      refine wp_ret ?_
                      repeat (first | refine ret_then ?_ | refine ret_block ?_ | refine ret_scope ?_)
                      exact ret_1 Tryd.results6 hK (rv_tmp hK rfl) ⟨rfl, hS.bel⟩
                  · rw [ifb_f hb_123] at H
                    refine sl_skip hK (by decide) (wtf hb_123) rfl fun a hK => ?_
                    refine sl_skip hK (by decide) (wtf hb_123) rfl fun a hK => ?_
                    refine sl hK (by decide) rfl rfl (r_pick_f hb_123 hK rfl rfl) fun a hK => ?_
                    refine sl hK (by decide) rfl rfl (r_move hK rfl) fun a hK => ?_
                    refine sl_skip hK (by decide) rfl rfl fun a hK => ?_
                    refine sl_skip hK (by decide) rfl rfl fun a hK => ?_
                    refine sl_skip hK (by decide) rfl rfl fun a hK => ?_
                    refine sl hK (by decide) rfl rfl (r_pick hK rfl rfl rfl) fun a hK => ?_
                    refine sl hK (by decide) rfl rfl (r_move hK rfl) fun a hK => ?_
                    refine sl_skip hK (by decide) rfl rfl fun a hK => ?_
                    refine sl_skip hK (by decide) rfl rfl fun a hK => ?_
                    refine sl_skip hK (by decide) rfl rfl fun a hK => ?_
                    refine sl_skip hK (by decide) rfl rfl fun a hK => ?_
                    refine sl hK (by decide) rfl rfl (r_pick hK rfl rfl rfl) fun a hK => ?_
                    refine sl hK (by decide) rfl rfl (r_move hK rfl) fun a hK => ?_
                    refine sl_skip hK (by decide) rfl rfl fun a hK => ?_
                    refine sl_skip hK (by decide) rfl rfl fun a hK => ?_
                    refine sl hK (by decide) rfl rfl (r_pick hK rfl rfl rfl) fun a hK => ?_
                    refine sl hK (by decide) rfl rfl (r_move hK rfl) fun a hK => ?_
                    refine sl_skip hK (by decide) rfl rfl fun a hK => ?_
                    refine sl_skip hK (by decide) rfl rfl fun a hK => ?_
                    refine sl_skip hK (by decide) rfl rfl fun a hK => ?_
                    refine sl hK (by decide) rfl rfl (r_pick hK rfl rfl rfl) fun a hK => ?_
                    refine sl hK (by decide) rfl rfl (r_move hK rfl) fun a hK => ?_
                    refine sl_skip hK (by decide) rfl rfl fun a hK => ?_
                    refine sl_skip hK (by decide) rfl rfl fun a hK => ?_
                    refine sl_skip hK (by decide) rfl rfl fun a hK => ?_
                    refine sl_skip hK (by decide) rfl rfl fun a hK => ?_
                    refine sl_skip hK (by decide) rfl rfl fun a hK => ?_
                    refine sl hK (by decide) rfl rfl (r_pick hK rfl rfl rfl) fun a hK => ?_
                    refine sl hK (by decide) rfl rfl (r_move hK rfl) fun a hK => ?_
                    refine sl_skip hK (by decide) rfl rfl fun a hK => ?_
                    refine sl hK (by decide) rfl rfl (r_pick hK rfl rfl rfl) fun a hK => ?_
                    refine sl hK (by decide) rfl rfl (r_move hK rfl) fun a hK => ?_
                    refine sl_skip hK (by decide) rfl rfl fun a hK => ?_
                    refine sl_skip hK (by decide) rfl rfl fun a hK => ?_
                    refine sl_skip hK (by decide) rfl rfl fun a hK => ?_
                    refine sl hK (by decide) rfl rfl (r_pick hK rfl rfl rfl) fun a hK => ?_
                    refine sl hK (by decide) rfl rfl (r_assign hK rfl) fun a hK => ?_
                    refine wpList_nil ?_
                    obtain rfl := Option.some.inj H
                    refine wp_ret ?_
                    repeat (first | refine ret_then ?_ | refine ret_block ?_ | refine ret_scope ?_)
                    exact ret_1 Tryd.results6 hK (rv_tmp hK rfl) ⟨rfl, hS.bel⟩
                · rw [ifb_f hb_122] at H
                  refine sl_skip hK (by decide) (wtf hb_122) rfl fun a hK => ?_
                  refine sl hK (by decide) rfl rfl (r_pick_f hb_122 hK rfl rfl) fun a hK => ?_
                  refine sl hK (by decide) rfl rfl (r_move hK rfl) fun a hK => ?_
                  refine sl_skip hK (by decide) rfl rfl fun a hK => ?_
                  refine sl_skip hK (by decide) rfl rfl fun a hK => ?_
                  refine sl hK (by decide) rfl rfl (r_pick hK rfl rfl rfl) fun a hK => ?_
                  refine sl hK (by decide) rfl rfl (r_move hK rfl) fun a hK => ?_
                  refine sl_skip hK (by decide) rfl rfl fun a hK => ?_
                  refine sl_skip hK (by decide) rfl rfl fun a hK => ?_
                  refine sl_skip hK (by decide) rfl rfl fun a hK => ?_
                  refine sl hK (by decide) rfl rfl (r_pick hK rfl rfl rfl) fun a hK => ?_
                  refine sl hK (by decide) rfl rfl (r_move hK rfl) fun a hK => ?_
                  refine sl_skip hK (by decide) rfl rfl fun a hK => ?_
                  refine sl_skip hK (by decide) rfl rfl fun a hK => ?_
                  refine sl_skip hK (by decide) rfl rfl fun a hK => ?_
                  refine sl_skip hK (by decide) rfl rfl fun a hK => ?_
                  refine sl hK (by decide) rfl rfl (r_pick hK rfl rfl rfl) fun a hK => ?_
                  refine sl hK (by decide) rfl rfl (r_move hK rfl) fun a hK => ?_
                  refine sl_skip hK (by decide) rfl rfl fun a hK => ?_
                  refine sl_skip hK (by decide) rfl rfl fun a hK => ?_
                  refine sl hK (by decide) rfl rfl (r_pick hK rfl rfl rfl) fun a hK => ?_
                  refine sl hK (by decide) rfl rfl (r_move hK rfl) fun a hK => ?_
                  refine sl_skip hK (by decide) rfl rfl fun a hK => ?_
                  refine sl_skip hK (by decide) rfl rfl fun a hK => ?_
                  refine sl_skip hK (by decide) rfl rfl fun a hK => ?_
                  refine sl hK (by decide) rfl rfl (r_pick hK rfl rfl rfl) fun a hK => ?_
                  refine sl hK (by decide) rfl rfl (r_move hK rfl) fun a hK => ?_
                  refine sl_skip hK (by decide) rfl rfl fun a hK => ?_
                  refine sl_skip hK (by decide) rfl rfl fun a hK => ?_
                  refine sl_skip hK (by decide) rfl rfl fun a hK => ?_
                  refine sl_skip hK (by decide) rfl rfl fun a hK => ?_
                  refine sl_skip hK (by decide) rfl rfl fun a hK => ?_
                  refine sl hK (by decide) rfl rfl (r_pick hK rfl rfl rfl) fun a hK => ?_
                  refine sl hK (by decide) rfl rfl (r_move hK rfl) fun a hK => ?_
                  refine sl_skip hK (by decide) rfl rfl fun a hK => ?_
                  refine sl hK (by decide) rfl rfl (r_pick hK rfl rfl rfl) fun a hK => ?_
                  refine sl hK (by decide) rfl rfl (r_move hK rfl) fun a hK => ?_
                  refine sl_skip hK (by decide) rfl rfl fun a hK => ?_
                  refine sl_skip hK (by decide) rfl rfl fun a hK => ?_
                  refine sl_skip hK (by decide) rfl rfl fun a hK => ?_
                  refine sl hK (by decide) rfl rfl (r_pick hK rfl rfl rfl) fun a hK => ?_
                  refine sl hK (by decide) rfl rfl (r_assign hK rfl) fun a hK => ?_
                  refine wpList_nil ?_
                  obtain rfl := Option.some.inj H
                  refine wp_ret ?_
                  repeat (first | refine ret_then ?_ | refine ret_block ?_ | refine ret_scope ?_)
                  exact ret_1 Tryd.results6 hK (rv_tmp hK rfl) ⟨rfl, hS.bel⟩
              · rw [ifb_f hb_121] at H
                refine sl_skip hK (by decide) (wtf hb_121) rfl fun a hK => ?_
                refine sl_skip hK (by decide) (wtf hb_121) rfl fun a hK => ?_
                refine sl hK (by decide) rfl rfl (r_pick_f hb_121 hK rfl rfl) fun a hK => ?_
                refine sl hK (by decide) rfl rfl (r_move hK rfl) fun a hK => ?_
                refine sl_skip hK (by decide) rfl rfl fun a hK => ?_
                refine sl hK (by decide) rfl rfl (r_pick hK rfl rfl rfl) fun a hK => ?_
                refine sl hK (by decide) rfl rfl (r_move hK rfl) fun a hK => ?_
                refine sl_skip hK (by decide) rfl rfl fun a hK => ?_
                refine sl_skip hK (by decide) rfl rfl fun a hK => ?_
                refine sl hK (by decide) rfl rfl (r_pick hK rfl rfl rfl) fun a hK => ?_
                refine sl hK (by decide) rfl rfl (r_move hK rfl) fun a hK => ?_
                refine sl_skip hK (by decide) rfl rfl fun a hK => ?_
                refine sl_skip hK (by decide) rfl rfl fun a hK => ?_
                refine sl_skip hK (by decide) rfl rfl fun a hK => ?_
                refine sl hK (by decide) rfl rfl (r_pick hK rfl rfl rfl) fun a hK => ?_
                refine sl hK (by decide) rfl rfl (r_move hK rfl) fun a hK => ?_
                refine sl_skip hK (by decide) rfl rfl fun a hK => ?_
                refine sl_skip hK (by decide) rfl rfl fun a hK => ?_
                refine sl_skip hK (by decide) rfl rfl fun a hK => ?_
                refine sl_skip hK (by decide) rfl rfl fun a hK => ?_
                refine sl hK (by decide) rfl rfl (r_pick hK rfl rfl rfl) fun a hK => ?_
                refine sl hK (by decide) rfl rfl (r_move hK rfl) fun a hK => ?_
                refine sl_skip hK (by decide) rfl rfl fun a hK => ?_
                refine sl_skip hK (by decide) rfl rfl fun a hK => ?_
                refine sl hK (by decide) rfl rfl (r_pick hK rfl rfl rfl) fun a hK => ?_
                refine sl hK (by decide) rfl rfl (r_move hK rfl) fun a hK => ?_
                refine sl_skip hK (by decide) rfl rfl fun a hK => ?_
                refine sl_skip hK (by decide) rfl rfl fun a hK => ?_
                refine sl_skip hK (by decide) rfl rfl fun a hK => ?_
                refine sl hK (by decide) rfl rfl (r_pick hK rfl rfl rfl) fun a hK => ?_
                refine sl hK (by decide) rfl rfl (r_move hK rfl) fun a hK => ?_
                refine sl_skip hK (by decide) rfl rfl fun a hK => ?_
                refine sl_skip hK (by decide) rfl rfl fun a hK => ?_
                refine sl_skip hK (by decide) rfl rfl fun a hK => ?_
                refine sl_skip hK (by decide) rfl rfl fun a hK => ?_
                refine sl_skip hK (by decide) rfl rfl fun a hK => ?_
                refine sl hK (by decide) rfl rfl (r_pick hK rfl rfl rfl) fun a hK => ?_
                refine sl hK (by decide) rfl rfl (r_move hK rfl) fun a hK => ?_
                refine sl_skip hK (by decide) rfl rfl fun a hK => ?_
                refine sl hK (by decide) rfl rfl (r_pick hK rfl rfl rfl) fun a hK => ?_
                refine sl hK (by decide) rfl rfl (r_move hK rfl) fun a hK => ?_
                refine sl_skip hK (by decide) rfl rfl fun a hK => ?_
                refine sl_skip hK (by decide) rfl rfl fun a hK => ?_
                refine sl_skip hK (by decide) rfl rfl fun a hK => ?_
                refine sl hK (by decide) rfl rfl (r_pick hK rfl rfl rfl) fun a hK => ?_
                refine sl hK (by decide) rfl rfl (r_assign hK rfl) fun a hK => ?_
                refine wpList_nil ?_
                obtain rfl := Option.some.inj H
                refine wp_ret ?_
                repeat (first | refine ret_then ?_ | refine ret_block ?_ | refine ret_scope ?_)
                exact ret_1 Tryd.results6 hK (rv_tmp hK rfl) ⟨rfl, hS.bel⟩
            · rw [ifb_f hb_120] at H
              refine sl_skip hK (by decide) (wtf hb_120) rfl fun a hK => ?_
              refine sl_skip hK (by decide) (wtf hb_120) rfl fun a hK => ?_
              refine sl hK (by decide) rfl rfl (r_pick_f hb_120 hK rfl rfl) fun a hK => ?_
              refine sl hK (by decide) rfl rfl (r_move hK rfl) fun a hK => ?_
              refine sl_skip hK (by decide) rfl rfl fun a hK => ?_
              refine sl_skip hK (by decide) rfl rfl fun a hK => ?_
              refine sl hK (by decide) rfl rfl (r_pick hK rfl rfl rfl) fun a hK => ?_
              refine sl hK (by decide) rfl rfl (r_move hK rfl) fun a hK => ?_
              refine sl_skip hK (by decide) rfl rfl fun a hK => ?_
              refine sl hK (by decide) rfl rfl (r_pick hK rfl rfl rfl) fun a hK => ?_
              refine sl hK (by decide) rfl rfl (r_move hK rfl) fun a hK => ?_
              refine sl_skip hK (by decide) rfl rfl fun a hK => ?_
              refine sl_skip hK (by decide) rfl rfl fun a hK => ?_
              refine sl hK (by decide) rfl rfl (r_pick hK rfl rfl rfl) fun a hK => ?_
              refine sl hK (by decide) rfl rfl (r_move hK rfl) fun a hK => ?_
              refine sl_skip hK (by decide) rfl rfl fun a hK => ?_
              refine sl_skip hK (by decide) rfl rfl fun a hK => ?_
              refine sl_skip hK (by decide) rfl rfl fun a hK => ?_
              refine sl hK (by decide) rfl rfl (r_pick hK rfl rfl rfl) fun a hK => ?_
              refine sl hK (by decide) rfl rfl (r_move hK rfl) fun a hK => ?_
              refine sl_skip hK (by decide) rfl rfl fun a hK => ?_
              refine sl_skip hK (by decide) rfl rfl fun a hK => ?_
              refine sl_skip hK (by decide) rfl rfl fun a hK => ?_
              refine sl_skip hK (by decide) rfl rfl fun a hK => ?_
              refine sl hK (by decide) rfl rfl (r_pick hK rfl rfl rfl) fun a hK => ?_
              refine sl hK (by decide) rfl rfl (r_move hK rfl) fun a hK => ?_
              refine sl_skip hK (by decide) rfl rfl fun a hK => ?_
              refine sl_skip hK (by decide) rfl rfl fun a hK => ?_
              refine sl hK (by decide) rfl rfl (r_pick hK rfl rfl rfl) fun a hK => ?_
              refine sl hK (by decide) rfl rfl (r_move hK rfl) fun a hK => ?_
              refine sl_skip hK (by decide) rfl rfl fun a hK => ?_
              refine sl_skip hK (by decide) rfl rfl fun a hK => ?_
              refine sl_skip hK (by decide) rfl rfl fun a hK => ?_
              refine sl hK (by decide) rfl rfl (r_pick hK rfl rfl rfl) fun a hK => ?_
              refine sl hK (by decide) rfl rfl (r_move hK rfl) fun a hK => ?_
              refine sl_skip hK (by decide) rfl rfl fun a hK => ?_
              refine sl_skip hK (by decide) rfl rfl fun a hK => ?_
              refine sl_skip hK (by decide) rfl rfl fun a hK => ?_
              refine sl_skip hK (by decide) rfl rfl fun a hK => ?_
              refine sl_skip hK (by decide) rfl rfl fun a hK => ?_
              refine sl hK (by decide) rfl rfl (r_pick hK rfl rfl rfl) fun a hK => ?_
              refine sl hK (by decide) rfl rfl (r_move hK rfl) fun a hK => ?_
              refine sl_skip hK (by decide) rfl rfl fun a hK => ?_
              refine sl hK (by decide) rfl rfl (r_pick hK rfl rfl rfl) fun a hK => ?_
              refine sl hK (by decide) rfl rfl (r_move hK rfl) fun a hK => ?_
              refine sl_skip hK (by decide) rfl rfl fun a hK => ?_
              refine sl_skip hK (by decide) rfl rfl fun a hK => ?_
              refine sl_skip hK (by decide) rfl rfl fun a hK => ?_
              refine sl hK (by decide) rfl rfl (r_pick hK rfl rfl rfl) fun a hK => ?_
              refine sl hK (by decide) rfl rfl (r_assign hK rfl) fun a hK => ?_
              refine wpList_nil ?_
              obtain rfl := Option.some.inj H
              refine wp_ret ?_
              repeat (first | refine ret_then ?_ | refine ret_block ?_ | refine ret_scope ?_)
              exact ret_1 Tryd.results6 hK (rv_tmp hK rfl) ⟨rfl, hS.bel⟩
          · rw [ifb_f hb_119] at H
            refine sl_skip hK (by decide) (wtf hb_119) rfl fun a hK => ?_
            refine sl_skip hK (by decide) (wtf hb_119) rfl fun a hK => ?_
            refine sl hK (by decide) rfl rfl (r_pick_f hb_119 hK rfl rfl) fun a hK => ?_
            refine sl hK (by decide) rfl rfl (r_move hK rfl) fun a hK => ?_
            refine sl_skip hK (by decide) rfl rfl fun a hK => ?_
            refine sl_skip hK (by decide) rfl rfl fun a hK => ?_
            refine sl hK (by decide) rfl rfl (r_pick hK rfl rfl rfl) fun a hK => ?_
            refine sl hK (by decide) rfl rfl (r_move hK rfl) fun a hK => ?_
            refine sl_skip hK (by decide) rfl rfl fun a hK => ?_
            refine sl_skip hK (by decide) rfl rfl fun a hK => ?_
            refine sl hK (by decide) rfl rfl (r_pick hK rfl rfl rfl) fun a hK => ?_
            refine sl hK (by decide) rfl rfl (r_move hK rfl) fun a hK => ?_
            refine sl_skip hK (by decide) rfl rfl fun a hK => ?_
            refine sl hK (by decide) rfl rfl (r_pick hK rfl rfl rfl) fun a hK => ?_
            refine sl hK (by decide) rfl rfl (r_move hK rfl) fun a hK => ?_
            refine sl_skip hK (by decide) rfl rfl fun a hK => ?_
            refine sl_skip hK (by decide) rfl rfl fun a hK => ?_
            refine sl hK (by decide) rfl rfl (r_pick hK rfl rfl rfl) fun a hK => ?_
            refine sl hK (by decide) rfl rfl (r_move hK rfl) fun a hK => ?_
            refine sl_skip hK (by decide) rfl rfl fun a hK => ?_
            refine sl_skip hK (by decide) rfl rfl fun a hK => ?_
            refine sl_skip hK (by decide) rfl rfl fun a hK => ?_
            refine sl hK (by decide) rfl rfl (r_pick hK rfl rfl rfl) fun a hK => ?_
            refine sl hK (by decide) rfl rfl (r_move hK rfl) fun a hK => ?_
            refine sl_skip hK (by decide) rfl rfl fun a hK => ?_
            refine sl_skip hK (by decide) rfl rfl fun a hK => ?_
            refine sl_skip hK (by decide) rfl rfl fun a hK => ?_
            refine sl_skip hK (by decide) rfl rfl fun a hK => ?_
            refine sl hK (by decide) rfl rfl (r_pick hK rfl rfl rfl) fun a hK => ?_
            refine sl hK (by decide) rfl rfl (r_move hK rfl) fun a hK => ?_
            refine sl_skip hK (by decide) rfl rfl fun a hK => ?_
            refine sl_skip hK (by decide) rfl rfl fun a hK => ?_
            refine sl hK (by decide) rfl rfl (r_pick hK rfl rfl rfl) fun a hK => ?_
            refine sl hK (by decide) rfl rfl (r_move hK rfl) fun a hK => ?_
            refine sl_skip hK (by decide) rfl rfl fun a hK => ?_
            refine sl_skip hK (by decide) rfl rfl fun a hK => ?_
            refine sl_skip hK (by decide) rfl rfl fun a hK => ?_
            refine sl hK (by decide) rfl rfl (r_pick hK rfl rfl rfl) fun a hK => ?_
            refine sl hK (by decide) rfl rfl (r_move hK rfl) fun a hK => ?_
            refine sl_skip hK (by decide) rfl rfl fun a hK => ?_
            refine sl_skip hK (by decide) rfl rfl fun a hK => ?_
            refine sl_skip hK (by decide) rfl rfl fun a hK => ?_
            refine sl_skip hK (by decide) rfl rfl fun a hK => ?_
            refine sl_skip hK (by decide) rfl rfl fun a hK => ?_
            refine sl hK (by decide) rfl rfl (r_pick hK rfl rfl rfl) fun a hK => ?_
            refine sl hK (by decide) rfl rfl (r_move hK rfl) fun a hK => ?_
            refine sl_skip hK (by decide) rfl rfl fun a hK => ?_
            refine sl hK (by decide) rfl rfl (r_pick hK rfl rfl rfl) fun a hK => ?_
            refine sl hK (by decide) rfl rfl (r_move hK rfl) fun a hK => ?_
            refine sl_skip hK (by decide) rfl rfl fun a hK => ?_
            refine sl_skip hK (by decide) rfl rfl fun a hK => ?_
            refine sl_skip hK (by decide) rfl rfl fun a hK => ?_
            refine sl hK (by decide) rfl rfl (r_pick hK rfl rfl rfl) fun a hK => ?_
            refine sl hK (by decide) rfl rfl (r_assign hK rfl) fun a hK => ?_
            refine wpList_nil ?_
            obtain rfl := Option.some.inj H
            refine wp_ret ?_
            repeat (first | refine ret_then ?_ | refine ret_block ?_ | refine ret_scope ?_)
            exact ret_1 Tryd.results6 hK (rv_tmp hK rfl) ⟨rfl, hS.bel⟩
        · rw [ifb_f hb_118] at H
          refine sl_skip hK (by decide) (wtf hb_118) rfl fun a hK => ?_
          refine sl_skip hK (by decide) (wtf hb_118) rfl fun a hK => ?_
          refine sl hK (by decide) rfl rfl (r_pick_f hb_118 hK rfl rfl) fun a hK => ?_
          refine sl hK (by decide) rfl rfl (r_move hK rfl) fun a hK => ?_
          refine sl_skip hK (by decide) rfl rfl fun a hK => ?_
          refine sl_skip hK (by decide) rfl rfl fun a hK => ?_
          refine sl hK (by decide) rfl rfl (r_pick hK rfl rfl rfl) fun a hK => ?_
          refine sl hK (by decide) rfl rfl (r_move hK rfl) fun a hK => ?_
          refine sl_skip hK (by decide) rfl rfl fun a hK => ?_
          refine sl_skip hK (by decide) rfl rfl fun a hK => ?_
          refine sl hK (by decide) rfl rfl (r_pick hK rfl rfl rfl) fun a hK => ?_
          refine sl hK (by decide) rfl rfl (r_move hK rfl) fun a hK => ?_
          refine sl_skip hK (by decide) rfl rfl fun a hK => ?_
          refine sl_skip hK (by decide) rfl rfl fun a hK => ?_
          refine sl hK (by decide) rfl rfl (r_pick hK rfl rfl rfl) fun a hK => ?_
          refine sl hK (by decide) rfl rfl (r_move hK rfl) fun a hK => ?_
          refine sl_skip hK (by decide) rfl rfl fun a hK => ?_
          refine sl hK (by decide) rfl rfl (r_pick hK rfl rfl rfl) fun a hK => ?_
          refine sl hK (by decide) rfl rfl (r_move hK rfl) fun a hK => ?_
          refine sl_skip hK (by decide) rfl rfl fun a hK => ?_
          refine sl_skip hK (by decide) rfl rfl fun a hK => ?_
          refine sl hK (by decide) rfl rfl (r_pick hK rfl rfl rfl) fun a hK => ?_
          refine sl hK (by decide) rfl rfl (r_move hK rfl) fun a hK => ?_
          refine sl_skip hK (by decide) rfl rfl fun a hK => ?_
          refine sl_skip hK (by decide) rfl rfl fun a hK => ?_
          refine sl_skip hK (by decide) rfl rfl fun a hK => ?_
          refine sl hK (by decide) rfl rfl (r_pick hK rfl rfl rfl) fun a hK => ?_
          refine sl hK (by decide) rfl rfl (r_move hK rfl) fun a hK => ?_
          refine sl_skip hK (by decide) rfl rfl fun a hK => ?_
          refine sl_skip hK (by decide) rfl rfl fun a hK => ?_
          refine sl_skip hK (by decide) rfl rfl fun a hK => ?_
          refine sl_skip hK (by decide) rfl rfl fun a hK => ?_
          refine sl hK (by decide) rfl rfl (r_pick hK rfl rfl rfl) fun a hK => ?_
          refine sl hK (by decide) rfl rfl (r_move hK rfl) fun a hK => ?_
          refine sl_skip hK (by decide) rfl rfl fun a hK => ?_
          refine sl_skip hK (by decide) rfl rfl fun a hK => ?_
          refine sl hK (by decide) rfl rfl (r_pick hK rfl rfl rfl) fun a hK => ?_
          refine sl hK (by decide) rfl rfl (r_move hK rfl) fun a hK => ?_
          refine sl_skip hK (by decide) rfl rfl fun a hK => ?_
          refine sl_skip hK (by decide) rfl rfl fun a hK => ?_
          refine sl_skip hK (by decide) rfl rfl fun a hK => ?_
          refine sl hK (by decide) rfl rfl (r_pick hK rfl rfl rfl) fun a hK => ?_
          refine sl hK (by decide) rfl rfl (r_move hK rfl) fun a hK => ?_
          refine sl_skip hK (by decide) rfl rfl fun a hK => ?_
          refine sl_skip hK (by decide) rfl rfl fun a hK => ?_
          refine sl_skip hK (by decide) rfl rfl fun a hK => ?_
          refine sl_skip hK (by decide) rfl rfl fun a hK => ?_
          refine sl_skip hK (by decide) rfl rfl fun a hK => ?_
          refine sl hK (by decide) rfl rfl (r_pick hK rfl rfl rfl) fun a hK => ?_
          refine sl hK (by decide) rfl rfl (r_move hK rfl) fun a hK => ?_
          refine sl_skip hK (by decide) rfl rfl fun a hK => ?_
          refine sl hK (by decide) rfl rfl (r_pick hK rfl rfl rfl) fun a hK => ?_
          refine sl hK (by decide) rfl rfl (r_move hK rfl) fun a hK => ?_
          refine sl_skip hK (by decide) rfl rfl fun a hK => ?_
          refine sl_skip hK (by decide) rfl rfl fun a hK => ?_
          refine sl_skip hK (by decide) rfl rfl fun a hK => ?_
          refine sl hK (by decide) rfl rfl (r_pick hK rfl rfl rfl) fun a hK => ?_
          refine sl hK (by decide) rfl rfl (r_assign hK rfl) fun a hK => ?_
          refine wpList_nil ?_
          obtain rfl := Option.some.inj H
          refine wp_ret ?_
          repeat (first | refine ret_then ?_ | refine ret_block ?_ | refine ret_scope ?_)
          exact ret_1 Tryd.results6 hK (rv_tmp hK rfl) ⟨rfl, hS.bel⟩
      · rw [ifb_f hb_117] at H
        refine sl_skip hK (by decide) (wtf hb_117) rfl fun a hK => ?_
        refine sl_skip hK (by decide) (wtf hb_117) rfl fun a hK => ?_
        refine sl hK (by decide) rfl rfl (r_pick_f hb_117 hK rfl rfl) fun a hK => ?_
        refine sl hK (by decide) rfl rfl (r_move hK rfl) fun a hK => ?_
        refine sl_skip hK (by decide) rfl rfl fun a hK => ?_
        refine sl_skip hK (by decide) rfl rfl fun a hK => ?_
        refine sl hK (by decide) rfl rfl (r_pick hK rfl rfl rfl) fun a hK => ?_
        refine sl hK (by decide) rfl rfl (r_move hK rfl) fun a hK => ?_
        refine sl_skip hK (by decide) rfl rfl fun a hK => ?_
        refine sl_skip hK (by decide) rfl rfl fun a hK => ?_
        refine sl hK (by decide) rfl rfl (r_pick hK rfl rfl rfl) fun a hK => ?_
        refine sl hK (by decide) rfl rfl (r_move hK rfl) fun a hK => ?_
        refine sl_skip hK (by decide) rfl rfl fun a hK => ?_
        refine sl_skip hK (by decide) rfl rfl fun a hK => ?_
        refine sl hK (by decide) rfl rfl (r_pick hK rfl rfl rfl) fun a hK => ?_
        refine sl hK (by decide) rfl rfl (r_move hK rfl) fun a hK => ?_
        refine sl_skip hK (by decide) rfl rfl fun a hK => ?_
        refine sl_skip hK (by decide) rfl rfl fun a hK => ?_
        refine sl hK (by decide) rfl rfl (r_pick hK rfl rfl rfl) fun a hK => ?_
        refine sl hK (by decide) rfl rfl (r_move hK rfl) fun a hK => ?_
        refine sl_skip hK (by decide) rfl rfl fun a hK => ?_
        refine sl hK (by decide) rfl rfl (r_pick hK rfl rfl rfl) fun a hK => ?_
        refine sl hK (by decide) rfl rfl (r_move hK rfl) fun a hK => ?_
        refine sl_skip hK (by decide) rfl rfl fun a hK => ?_
        refine sl_skip hK (by decide) rfl rfl fun a hK => ?_
        refine sl hK (by decide) rfl rfl (r_pick hK rfl rfl rfl) fun a hK => ?_
        refine sl hK (by decide) rfl rfl (r_move hK rfl) fun a hK => ?_
        refine sl_skip hK (by decide) rfl rfl fun a hK => ?_
        refine sl_skip hK (by decide) rfl rfl fun a hK => ?_
        refine sl_skip hK (by decide) rfl rfl fun a hK => ?_
        refine sl hK (by decide) rfl rfl (r_pick hK rfl rfl rfl) fun a hK => ?_
        refine sl hK (by decide) rfl rfl (r_move hK rfl) fun a hK => ?_
        refine sl_skip hK (by decide) rfl rfl fun a hK => ?_
        refine sl_skip hK (by decide) rfl rfl fun a hK => ?_
        refine sl_skip hK (by decide) rfl rfl fun a hK => ?_
        refine sl_skip hK (by decide) rfl rfl fun a hK => ?_
        refine sl hK (by decide) rfl rfl (r_pick hK rfl rfl rfl) fun a hK => ?_
        refine sl hK (by decide) rfl rfl (r_move hK rfl) fun a hK => ?_
        refine sl_skip hK (by decide) rfl rfl fun a hK => ?_
        refine sl_skip hK (by decide) rfl rfl fun a hK => ?_
        refine sl hK (by decide) rfl rfl (r_pick hK rfl rfl rfl) fun a hK => ?_
        refine sl hK (by decide) rfl rfl (r_move hK rfl) fun a hK => ?_
        refine sl_skip hK (by decide) rfl rfl fun a hK => ?_
        refine sl_skip hK (by decide) rfl rfl fun a hK => ?_
        refine sl_skip hK (by decide) rfl rfl fun a hK => ?_
        refine sl hK (by decide) rfl rfl (r_pick hK rfl rfl rfl) fun a hK => ?_
        refine sl hK (by decide) rfl rfl (r_move hK rfl) fun a hK => ?_
        refine sl_skip hK (by decide) rfl rfl fun a hK => ?_
        refine sl_skip hK (by decide) rfl rfl fun a hK => ?_
        refine sl_skip hK (by decide) rfl rfl fun a hK => ?_
        refine sl_skip hK (by decide) rfl rfl fun a hK => ?_
        refine sl_skip hK (by decide) rfl rfl fun a hK => ?_
        refine sl hK (by decide) rfl rfl (r_pick hK rfl rfl rfl) fun a hK => ?_
        refine sl hK (by decide) rfl rfl (r_move hK rfl) fun a hK => ?_
        refine sl_skip hK (by decide) rfl rfl fun a hK => ?_
        refine sl hK (by decide) rfl rfl (r_pick hK rfl rfl rfl) fun a hK => ?_
        refine sl hK (by decide) rfl rfl (r_move hK rfl) fun a hK => ?_
        refine sl_skip hK (by decide) rfl rfl fun a hK => ?_
        refine sl_skip hK (by decide) rfl rfl fun a hK => ?_
        refine sl_skip hK (by decide) rfl rfl fun a hK => ?_
        refine sl hK (by decide) rfl rfl (r_pick hK rfl rfl rfl) fun a hK => ?_
        refine sl hK (by decide) rfl rfl (r_assign hK rfl) fun a hK => ?_
        refine wpList_nil ?_
        obtain rfl := Option.some.inj H
        refine wp_ret ?_
        repeat (first | refine ret_then ?_ | refine ret_block ?_ | refine ret_scope ?_)
        exact ret_1 Tryd.results6 hK (rv_tmp hK rfl) ⟨rfl, hS.bel⟩
    · rw [ifb_f hb_116] at H
      refine sl_skip hK (by decide) (wtf hb_116) rfl fun a hK => ?_
      refine sl_skip hK (by decide) (wtf hb_116) rfl fun a hK => ?_
      refine sl hK (by decide) rfl rfl (r_pick_f hb_116 hK rfl rfl) fun a hK => ?_
      refine sl hK (by decide) rfl rfl (r_move hK rfl) fun a hK => ?_
      refine sl_skip hK (by decide) rfl rfl fun a hK => ?_
      refine sl_skip hK (by decide) rfl rfl fun a hK => ?_
      refine sl hK (by decide) rfl rfl (r_pick hK rfl rfl rfl) fun a hK => ?_
      refine sl hK (by decide) rfl rfl (r_move hK rfl) fun a hK => ?_
      refine sl_skip hK (by decide) rfl rfl fun a hK => ?_
      refine sl_skip hK (by decide) rfl rfl fun a hK => ?_
      refine sl hK (by decide) rfl rfl (r_pick hK rfl rfl rfl) fun a hK => ?_
      refine sl hK (by decide) rfl rfl (r_move hK rfl) fun a hK => ?_
      refine sl_skip hK (by decide) rfl rfl fun a hK => ?_
      refine sl_skip hK (by decide) rfl rfl fun a hK => ?_
      refine sl hK (by decide) rfl rfl (r_pick hK rfl rfl rfl) fun a hK => ?_
      refine sl hK (by decide) rfl rfl (r_move hK rfl) fun a hK => ?_
      refine sl_skip hK (by decide) rfl rfl fun a hK => ?_
      refine sl_skip hK (by decide) rfl rfl fun a hK => ?_
      refine sl hK (by decide) rfl rfl (r_pick hK rfl rfl rfl) fun a hK => ?_
      refine sl hK (by decide) rfl rfl (r_move hK rfl) fun a hK => ?_
      refine sl_skip hK (by decide) rfl rfl fun a hK => ?_
      refine sl_skip hK (by decide) rfl rfl fun a hK => ?_
      refine sl hK (by decide) rfl rfl (r_pick hK rfl rfl rfl) fun a hK => ?_
      refine sl hK (by decide) rfl rfl (r_move hK rfl) fun a hK => ?_
      refine sl_skip hK (by decide) rfl rfl fun a hK => ?_
      refine sl hK (by decide) rfl rfl (r_pick hK rfl rfl rfl) fun a hK => ?_
      refine sl hK (by decide) rfl rfl (r_move hK rfl) fun a hK => ?_
      refine sl_skip hK (by decide) rfl rfl fun a hK => ?_
      refine sl_skip hK (by decide) rfl rfl fun a hK => ?_
      refine sl hK (by decide) rfl rfl (r_pick hK rfl rfl rfl) fun a hK => ?_
      refine sl hK (by decide) rfl rfl (r_move hK rfl) fun a hK => ?_
      refine sl_skip hK (by decide) rfl rfl fun a hK => ?_
      refine sl_skip hK (by decide) rfl rfl fun a hK => ?_
      refine sl_skip hK (by decide) rfl rfl fun a hK => ?_
      refine sl hK (by decide) rfl rfl (r_pick hK rfl rfl rfl) fun a hK => ?_
      refine sl hK (by decide) rfl rfl (r_move hK rfl) fun a hK => ?_
      refine sl_skip hK (by decide) rfl rfl fun a hK => ?_
      refine sl_skip hK (by decide) rfl rfl fun a hK => ?_
      refine sl_skip hK (by decide) rfl rfl fun a hK => ?_
      refine sl_skip hK (by decide) rfl rfl fun a hK => ?_
      refine sl hK (by decide) rfl rfl (r_pick hK rfl rfl rfl) fun a hK => ?_
      refine sl hK (by decide) rfl rfl (r_move hK rfl) fun a hK => ?_
      refine sl_skip hK (by decide) rfl rfl fun a hK => ?_
      refine sl_skip hK (by decide) rfl rfl fun a hK => ?_
      refine sl hK (by decide) rfl rfl (r_pick hK rfl rfl rfl) fun a hK => ?_
      refine sl hK (by decide) rfl rfl (r_move hK rfl) fun a hK => ?_
      refine sl_skip hK (by decide) rfl rfl fun a hK => ?_
      refine sl_skip hK (by decide) rfl rfl fun a hK => ?_
      refine sl_skip hK (by decide) rfl rfl fun a hK => ?_
      refine sl hK (by decide) rfl rfl (r_pick hK rfl rfl rfl) fun a hK => ?_
      refine sl hK (by decide) rfl rfl (r_move hK rfl) fun a hK => ?_
      refine sl_skip hK (by decide) rfl rfl fun a hK => ?_
      refine sl_skip hK (by decide) rfl rfl fun a hK => ?_
      refine sl_skip hK (by decide) rfl rfl fun a hK => ?_
      refine sl_skip hK (by decide) rfl rfl fun a hK => ?_
      refine sl_skip hK (by decide) rfl rfl fun a hK => ?_
      refine sl hK (by decide) rfl rfl (r_pick hK rfl rfl rfl) fun a hK => ?_
      refine sl hK (by decide) rfl rfl (r_move hK rfl) fun a hK => ?_
      refine sl_skip hK (by decide) rfl rfl fun a hK => ?_
      refine sl hK (by decide) rfl rfl (r_pick hK rfl rfl rfl) fun a hK => ?_
      refine sl hK (by decide) rfl rfl (r_move hK rfl) fun a hK => ?_
      refine sl_skip hK (by decide) rfl rfl fun a hK => ?_
      refine sl_skip hK (by decide) rfl rfl fun a hK => ?_
      refine sl_skip hK (by decide) rfl rfl fun a hK => ?_
      refine sl hK (by decide) rfl rfl (r_pick hK rfl rfl rfl) fun a hK => ?_
      refine sl hK (by decide) rfl rfl (r_assign hK rfl) fun a hK => ?_
      refine wpList_nil ?_
      obtain rfl := Option.some.inj H
      refine wp_ret ?_
      repeat (first | refine ret_then ?_ | refine ret_block ?_ | refine ret_scope ?_)
      exact ret_1 Tryd.results6 hK (rv_tmp hK rfl) ⟨rfl, hS.bel⟩
  · rw [ifb_f hb_115] at H
    refine sl_skip hK (by decide) (wtf hb_115) rfl fun a hK => ?_
    refine sl_skip hK (by decide) (wtf hb_115) rfl fun a hK => ?_
    refine sl hK (by decide) rfl rfl (r_pick_f hb_115 hK rfl rfl) fun a hK => ?_
    refine sl hK (by decide) rfl rfl (r_move hK rfl) fun a hK => ?_
    refine sl_skip hK (by decide) rfl rfl fun a hK => ?_
    refine sl_skip hK (by decide) rfl rfl fun a hK => ?_
    refine sl hK (by decide) rfl rfl (r_pick hK rfl rfl rfl) fun a hK => ?_
    refine sl hK (by decide) rfl rfl (r_move hK rfl) fun a hK => ?_
    refine sl_skip hK (by decide) rfl rfl fun a hK => ?_
    refine sl_skip hK (by decide) rfl rfl fun a hK => ?_
    refine sl hK (by decide) rfl rfl (r_pick hK rfl rfl rfl) fun a hK => ?_
    refine sl hK (by decide) rfl rfl (r_move hK rfl) fun a hK => ?_
    refine sl_skip hK (by decide) rfl rfl fun a hK => ?_
    refine sl_skip hK (by decide) rfl rfl fun a hK => ?_
    refine sl hK (by decide) rfl rfl (r_pick hK rfl rfl rfl) fun a hK => ?_
    refine sl hK (by decide) rfl rfl (r_move hK rfl) fun a hK => ?_
    refine sl_skip hK (by decide) rfl rfl fun a hK => ?_
    refine sl_skip hK (by decide) rfl rfl fun a hK => ?_
    refine sl hK (by decide) rfl rfl (r_pick hK rfl rfl rfl) fun a hK => ?_
    refine sl hK (by decide) rfl rfl (r_move hK rfl) fun a hK => ?_
    refine sl_skip hK (by decide) rfl rfl fun a hK => ?_
    refine sl_skip hK (by decide) rfl rfl fun a hK => ?_
    refine sl hK (by decide) rfl rfl (r_pick hK rfl rfl rfl) fun a hK => ?_
    refine sl hK (by decide) rfl rfl (r_move hK rfl) fun a hK => ?_
    refine sl_skip hK (by decide) rfl rfl fun a hK => ?_
    refine sl_skip hK (by decide) rfl rfl fun a hK => ?_
    refine sl hK (by decide) rfl rfl (r_pick hK rfl rfl rfl) fun a hK => ?_
    refine sl hK (by decide) rfl rfl (r_move hK rfl) fun a hK => ?_
    refine sl_skip hK (by decide) rfl rfl fun a hK => ?_
    refine sl hK (by decide) rfl rfl (r_pick hK rfl rfl rfl) fun a hK => ?_
    refine sl hK (by decide) rfl rfl (r_move hK rfl) fun a hK => ?_
    refine sl_skip hK (by decide) rfl rfl fun a hK => ?_
    refine sl_skip hK (by decide) rfl rfl fun a hK => ?_
    refine sl hK (by decide) rfl rfl (r_pick hK rfl rfl rfl) fun a hK => ?_
    refine sl hK (by decide) rfl rfl (r_move hK rfl) fun a hK => ?_
    refine sl_skip hK (by decide) rfl rfl fun a hK => ?_
    refine sl_skip hK (by decide) rfl rfl fun a hK => ?_
    refine sl_skip hK (by decide) rfl rfl fun a hK => ?_
    refine sl hK (by decide) rfl rfl (r_pick hK rfl rfl rfl) fun a hK => ?_
    refine sl hK (by decide) rfl rfl (r_move hK rfl) fun a hK => ?_
    refine sl_skip hK (by decide) rfl rfl fun a hK => ?_
    refine sl_skip hK (by decide) rfl rfl fun a hK => ?_
    refine sl_skip hK (by decide) rfl rfl fun a hK => ?_
    refine sl_skip hK (by decide) rfl rfl fun a hK => ?_
    refine sl hK (by decide) rfl rfl (r_pick hK rfl rfl rfl) fun a hK => ?_
    refine sl hK (by decide) rfl rfl (r_move hK rfl) fun a hK => ?_
    refine sl_skip hK (by decide) rfl rfl fun a hK => ?_
    refine sl_skip hK (by decide) rfl rfl fun a hK => ?_
    refine sl hK (by decide) rfl rfl (r_pick hK rfl rfl rfl) fun a hK => ?_
    refine sl hK (by decide) rfl rfl (r_move hK rfl) fun a hK => ?_
    refine sl_skip hK (by decide) rfl rfl fun a hK => ?_
    refine sl_skip hK (by decide) rfl rfl fun a hK => ?_
    refine sl_skip hK (by decide) rfl rfl fun a hK => ?_
    refine sl hK (by decide) rfl rfl (r_pick hK rfl rfl rfl) fun a hK => ?_
    refine sl hK (by decide) rfl rfl (r_move hK rfl) fun a hK => ?_
    refine sl_skip hK (by decide) rfl rfl fun a hK => ?_
    refine sl_skip hK (by decide) rfl rfl fun a hK => ?_
    refine sl_skip hK (by decide) rfl rfl fun a hK => ?_
    refine sl_skip hK (by decide) rfl rfl fun a hK => ?_
    refine sl_skip hK (by decide) rfl rfl fun a hK => ?_
    refine sl hK (by decide) rfl rfl (r_pick hK rfl rfl rfl) fun a hK => ?_
    refine sl hK (by decide) rfl rfl (r_move hK rfl) fun a hK => ?_
    refine sl_skip hK (by decide) rfl rfl fun a hK => ?_
    refine sl hK (by decide) rfl rfl (r_pick hK rfl rfl rfl) fun a hK => ?_
    refine sl hK (by decide) rfl rfl (r_move hK rfl) fun a hK => ?_
    refine sl_skip hK (by decide) rfl rfl fun a hK => ?_
    refine sl_skip hK (by decide) rfl rfl fun a hK => ?_
    refine sl_skip hK (by decide) rfl rfl fun a hK => ?_
    refine sl hK (by decide) rfl rfl (r_pick hK rfl rfl rfl) fun a hK => ?_
    refine sl hK (by decide) rfl rfl (r_assign hK rfl) fun a hK => ?_
    refine wpList_nil ?_
    obtain rfl := Option.some.inj H
    refine wp_ret ?_
    repeat (first | refine ret_then ?_ | refine ret_block ?_ | refine ret_scope ?_)
    exact ret_1 Tryd.results6 hK (rv_tmp hK rfl) ⟨rfl, hS.bel⟩

/-! ### catchment/catchmentlaw06.same: function 10 -/
set_option maxHeartbeats 4000000 in
set_option maxRecDepth 100000 in
theorem law06_same.calls (a0 : List api_Value) (a1 : List api_Value) {w0 : World} {RA : Hp} {v0_0 : Value} {v1_0 : Value} (hRA : RA.sub w0) (h0_0 : SlR ty_api_Value RA v0_0 a0) (h1_0 : SlR ty_api_Value RA v1_0 a1) {r : Bool} (H : law06_same a0 a1 = some r) : CallsV Tryd.prog 10 #[v0_0, v1_0] w0 (.bool r) := by
  unfold law06_same at H
  refine enter (args := [v0_0, v1_0]) Tryd.func10 rfl Tryd.ntmps10 rfl fun a hK => ?_
  have hS := St.init (R := fun _ => none) (w := w0) (fun _ _ h => by cases h)
  have hRL := RLe.refl (M := []) w0 (fun _ => none)
  refine wp_seq ?_
  refine wp_region_lit ?_
  refine sl hK (by decide) rfl rfl (r_assign hK rfl) fun a hK => ?_
  refine wpList_nil ?_
  refine wp_seq ?_
  refine wp_seq ?_
  refine wp_region_lit ?_
  refine sl hK (by decide) rfl rfl (r_move hK rfl) fun a hK => ?_
  refine sl hK (by decide) rfl rfl (r_len_R Tryd.underlying30 h0_0 hK rfl) fun a hK => ?_
  refine sl hK (by decide) rfl rfl (r_move hK rfl) fun a hK => ?_
  refine sl hK (by decide) rfl rfl (r_len_R Tryd.underlying30 h1_0 hK rfl) fun a hK => ?_
  refine sl hK (by decide) rfl rfl (r_ibin hK rfl rfl rfl) fun a hK => ?_
  refine wpList_nil ?_
  refine wp_cond_split (hK.ev rfl) (fun (hb_1 : ((a0.length : Int) != (a1.length : Int)) = true) => ?_) (fun (hb_1 : ((a0.length : Int) != (a1.length : Int)) = false) => ?_)
  · rw [ifb_t hb_1] at H
    refine wp_seq ?_
    refine wp_region_lit ?_
    refine sl hK (by decide) rfl rfl (r_assign hK rfl) fun a hK => ?_
    refine wpList_nil ?_
    obtain rfl := Option.some.inj H
    refine wp_ret ?_
    repeat (first | refine ret_then ?_ | refine ret_block ?_ | refine ret_scope ?_)
    exact ret_1 Tryd.results10 hK (rv_tmp hK rfl) ⟨rfl, hS.bel⟩
  · rw [ifb_f hb_1] at H
    refine wp_skip ?_
    refine wp_seq ?_
    refine wp_seq ?_
    refine wp_region_lit ?_
    refine sl hK (by decide) rfl rfl (r_assign hK rfl) fun a hK => ?_
    refine wpList_nil ?_
    refine wp_block ?_
    refine wp_loop_k (fun k_l0 a w => ∃ (x_41 : Int), law06_same.l0 a0 a1 k_l0 x_41 = some r ∧ Kn 26 a [(0, v0_0), (1, v1_0), (5, .int .i64 x_41)] ∧ St [] w0 w (fun _ => none) []) (((a0.length : Int) - 0).toNat + 1) ?_ ?_
    · exact ⟨0, H, hK.sub (all_cons rfl (all_cons rfl (all_cons rfl (all_nil)))), hS⟩
    · rintro k_l0 a w ⟨x_41, H, hK, hS⟩
      cases k_l0 with
      | zero => cases H
      | succ k_l0 =>
      rw [law06_same.l0.eq_2] at H
      refine wp_seq ?_
      refine wp_seq ?_
      refine wp_region_lit ?_
      refine sl hK (by decide) rfl rfl (r_move hK rfl) fun a hK => ?_
      refine sl hK (by decide) rfl rfl (r_move hK rfl) fun a hK => ?_
      refine sl hK (by decide) rfl rfl (r_len_R Tryd.underlying30 h0_0 hK rfl) fun a hK => ?_
      refine sl hK (by decide) rfl rfl (r_ibin hK rfl rfl rfl) fun a hK => ?_
      refine wpList_nil ?_
      refine wp_cond_split (hK.ev rfl) (fun (hb_81 : (decide (x_41 < (a0.length : Int))) = true) => ?_) (fun (hb_81 : (decide (x_41 < (a0.length : Int))) = false) => ?_)
      · rw [ifb_t hb_81] at H
        refine wp_skip ?_
        refine wp_seq ?_
        refine wp_block ?_
        refine wp_seq ?_
        refine par_region (C := fun w => St [] w0 w (fun _ => none) []) [(0, true), (1, true), (2, true), (3, true), (4, true), (5, true), (6, true), (7, true), (8, true)] mixed (by kernel_rfl) hS (fun w hS => hS) fun w hS => ?_
        refine sp (k := 0) rfl hK (by decide) rfl rfl (fun w hS => r_move hK rfl) fun a hK => ?_
        refine sp (k := 1) rfl hK (by decide) rfl rfl (fun w hS => r_move hK rfl) fun a hK => ?_
        obtain ⟨y_100, h_101, H⟩ := bind_some H
        obtain ⟨b_102, o_103, c_104, cs_105, hv_106, hr_107, hc_108, h_1010, h_1011⟩ := h0_0.ix h_101
        subst hr_107
        refine sp (k := 2) rfl hK (by decide) rfl rfl (fun w hS => r_indexAddr_R Tryd.underlying30 Tryd.sizeOf50 hv_106 h_1010 h_1011 hK rfl rfl) fun a hK => ?_
        refine sp (k := 3) rfl hK (by decide) rfl rfl (fun w hS => r_loadA (cs := [.int .i64 y_100.Kind, .int .i64 y_100.N, .string y_100.S, .int .i64 y_100.H.a0, .int .i64 y_100.H.a1, .int .i64 y_100.H.a2, .int .i64 y_100.H.a3, .int .i64 y_100.H.a4, .int .i64 y_100.H.a5, .int .i64 y_100.H.a6, .int .i64 y_100.H.a7]) Tryd.isAgg50 Tryd.sizeOf50 rfl hK rfl (fun j v hv => (hS.ra hRA nil_not).cell (hc_108 j v hv))) fun a hK => ?_
        refine sp (k := 4) rfl hK (by decide) rfl rfl (fun w hS => r_move hK rfl) fun a hK => ?_
        refine sp (k := 5) rfl hK (by decide) rfl rfl (fun w hS => r_move hK rfl) fun a hK => ?_
        obtain ⟨y_109, h_110, H⟩ := bind_some H
        obtain ⟨b_111, o_112, c_113, cs_114, hv_115, hr_116, hc_117, h_1100, h_1101⟩ := h1_0.ix h_110
        subst hr_116
        refine sp (k := 6) rfl hK (by decide) rfl rfl (fun w hS => r_indexAddr_R Tryd.underlying30 Tryd.sizeOf50 hv_115 h_1100 h_1101 hK rfl rfl) fun a hK => ?_
        refine sp (k := 7) rfl hK (by decide) rfl rfl (fun w hS => r_loadA (cs := [.int .i64 y_109.Kind, .int .i64 y_109.N, .string y_109.S, .int .i64 y_109.H.a0, .int .i64 y_109.H.a1, .int .i64 y_109.H.a2, .int .i64 y_109.H.a3, .int .i64 y_109.H.a4, .int .i64 y_109.H.a5, .int .i64 y_109.H.a6, .int .i64 y_109.H.a7]) Tryd.isAgg50 Tryd.sizeOf50 rfl hK rfl (fun j v hv => (hS.ra hRA nil_not).cell (hc_117 j v hv))) fun a hK => ?_
        refine sp (k := 8) rfl hK (by decide) rfl rfl (fun w hS => r_sne (by kernel_rfl) (eqs50 y_100 y_109) hK rfl rfl) fun a hK => ?_
        refine wpPar_nil (NoP_nil ?_)
        refine wp_cond_split (hK.ev rfl) (fun (hb_118 : (!decide (y_100 = y_109)) = true) => ?_) (fun (hb_118 : (!decide (y_100 = y_109)) = false) => ?_)
        · rw [ifb_t hb_118] at H
          refine wp_seq ?_
          refine wp_region_lit ?_
          refine sl hK (by decide) rfl rfl (r_assign hK rfl) fun a hK => ?_
          refine wpList_nil ?_
          obtain rfl := Option.some.inj H
          refine wp_ret ?_
          repeat (first | refine ret_then ?_ | refine ret_block ?_ | refine ret_scope ?_)
          exact ret_1 Tryd.results10 hK (rv_tmp hK rfl) ⟨rfl, hS.bel⟩
        · rw [ifb_f hb_118] at H
          refine wp_skip ?_
          refine wp_region_lit ?_
          refine sl hK (by decide) rfl rfl (r_move hK rfl) fun a hK => ?_
          refine sl hK (by decide) rfl rfl (r_ibin hK rfl rfl rfl) fun a hK => ?_
          refine sl hK (by decide) rfl rfl (r_assign hK rfl) fun a hK => ?_
          refine wpList_nil ?_
          exact ⟨_, Nat.lt_succ_self _, (IntKind.i64.wrap (x_41 + 1)), H, hK.sub (all_cons rfl (all_cons rfl (all_cons rfl (all_nil)))), hS⟩
      · rw [ifb_f hb_81] at H
        refine wp_exit ?_
        refine wp_seq ?_
        refine wp_region_lit ?_
        refine sl hK (by decide) rfl rfl (r_assign hK rfl) fun a hK => ?_
        refine wpList_nil ?_
        obtain rfl := Option.some.inj H
        refine wp_ret ?_
        repeat (first | refine ret_then ?_ | refine ret_block ?_ | refine ret_scope ?_)
        exact ret_1 Tryd.results10 hK (rv_tmp hK rfl) ⟨rfl, hS.bel⟩

end Go.Proofs.YtffleadhhhpnlaaDoor.M
