/- Each Go function of the laws answers as its plain Lean function tells, wherever that tells something. Printed by wip/eng/gen.py. -/
import Derived.Test.YtjklfkiaebipnaaPure
import Derived.Test.YtjklfkiaebipnaaProg
import Derived.Shelf.Strings.Search3
namespace Go.Proofs.Ytjklfkiaebipnaa.M
open Go Go.Eng Go.Proofs Go.RowKit
set_option linter.unusedVariables false
set_option linter.unusedSimpArgs false

theorem mixed : Try.prog.follows .mixedOrders = true := by kernel_rfl
def GF (RA : Hp) : Prop := (∀ w, RA.sub w → ∃ m, w.cell? ⟨0, 0, none⟩ = some (.int .i64 m))
theorem GF.mono {R R' : Hp} (h : R.le R') (g : GF R) : GF R' := fun w hw => g w (fun k u hk => hw k u (h k u hk))
theorem GF_maxlen {RA : Hp} {w : World} (g : GF RA) (h : RA.sub w) : ∃ m, w.cell? ⟨0, 0, none⟩ = some (.int .i64 m) := g w h
set_option maxRecDepth 100000 in
theorem elT99 : ElT Try.prog 99 5 1 1 := ⟨Try.underlying99, ⟨Try.t5, _, Try.type5, rfl, rfl, rfl, rfl⟩, by decide⟩
set_option maxRecDepth 100000 in
theorem elT41 : ElT Try.prog 41 72 4 40 := ⟨Try.underlying41, ⟨Try.t72, _, Try.type72, rfl, rfl, rfl, rfl⟩, by decide⟩
set_option maxRecDepth 100000 in
theorem elT22 : ElT Try.prog 22 51 19 216 := ⟨Try.underlying22, ⟨Try.t51, _, Try.type51, rfl, rfl, rfl, rfl⟩, by decide⟩
set_option maxRecDepth 100000 in
theorem elT59 : ElT Try.prog 59 4 1 1 := ⟨Try.underlying59, ⟨Try.t4, _, Try.type4, rfl, rfl, rfl, rfl⟩, by decide⟩
set_option maxRecDepth 100000 in
theorem elT25 : ElT Try.prog 25 57 2 24 := ⟨Try.underlying25, ⟨Try.t57, _, Try.type57, rfl, rfl, rfl, rfl⟩, by decide⟩
set_option maxRecDepth 100000 in
theorem elT33 : ElT Try.prog 33 39 11 96 := ⟨Try.underlying33, ⟨Try.t39, _, Try.type39, rfl, rfl, rfl, rfl⟩, by decide⟩
set_option maxRecDepth 100000 in
theorem elT26 : ElT Try.prog 26 33 1 24 := ⟨Try.underlying26, ⟨Try.t33, _, Try.type33, rfl, rfl, rfl, rfl⟩, by decide⟩
theorem ext79 (a b : ByteArray) (w : World) : (callFunc 79 #[.string a, .string b]).run Try.prog w = .ok (.value (.int .i64 (Lib.compareBytes a.data.toList b.data.toList))) w := by
  rw [run_callFunc_extern Try.func79 (by kernel_rfl) (by kernel_rfl) (by kernel_rfl) (e := Extern.BytealgCompare.compare) (by kernel_rfl), Lib.run_compareString]
  rfl
theorem places72 (w : World) : (placesOf Try.prog 72).run Try.prog w = .ok #[(0, 1), (1, 1), (2, 1), (3, 1)] w := by
  unfold placesOf
  rw [Try.underlying72]
  simp [Try.sizeOf3, Try.sizeOf9]
theorem places24 (w : World) : (placesOf Try.prog 24).run Try.prog w = .ok #[(0, 1)] w := by
  unfold placesOf
  rw [Try.underlying24]
  simp [Try.sizeOf22]
theorem places77 (w : World) : (placesOf Try.prog 77).run Try.prog w = .ok #[(0, 1), (1, 1), (2, 1), (3, 1), (4, 1)] w := by
  unfold placesOf
  rw [Try.underlying77]
  simp [Try.sizeOf22, Try.sizeOf3, Try.sizeOf41, Try.sizeOf42]
theorem places51 (w : World) : (placesOf Try.prog 51).run Try.prog w = .ok #[(0, 1), (1, 1), (2, 1), (3, 1), (4, 1), (5, 11), (16, 1), (17, 1), (18, 1)] w := by
  unfold placesOf
  rw [Try.underlying51]
  simp [Try.sizeOf3, Try.sizeOf39, Try.sizeOf47, Try.sizeOf48, Try.sizeOf49, Try.sizeOf9]
theorem places39 (w : World) : (placesOf Try.prog 39).run Try.prog w = .ok #[(0, 1), (1, 1), (2, 1), (3, 8)] w := by
  unfold placesOf
  rw [Try.underlying39]
  simp [Try.sizeOf3, Try.sizeOf37, Try.sizeOf9]
theorem places57 (w : World) : (placesOf Try.prog 57).run Try.prog w = .ok #[(0, 1), (1, 1)] w := by
  unfold placesOf
  rw [Try.underlying57]
  simp [Try.sizeOf3, Try.sizeOf9]
def conL29_ren : Go.Shelf.Ren := ⟨fun | 144 => 29 | 143 => 48 | 219 => 65 | 217 => 71 | 225 => 72 | 224 => 73 | 267 => 74 | 266 => 80 | 314 => 81 | n => n, fun | 9 => 9 | 4 => 4 | 3 => 3 | 5 => 5 | 46 => 102 | 146 => 107 | 51 => 106 | n => n, fun | 1 => 0 | n => n⟩
theorem conL29 : Go.Proofs.Lays.n144 Try.prog conL29_ren := {
  mixed := by kernel_rfl
  f143 := Try.func48.trans (congrArg some (by kernel_rfl))
  f144 := Try.func29.trans (congrArg some (by kernel_rfl))
  f217 := Try.func71.trans (congrArg some (by kernel_rfl))
  f219 := Try.func65.trans (congrArg some (by kernel_rfl))
  f224 := Try.func73.trans (congrArg some (by kernel_rfl))
  f225 := Try.func72.trans (congrArg some (by kernel_rfl))
  f266 := Try.func80.trans (congrArg some (by kernel_rfl))
  f267 := Try.func74.trans (congrArg some (by kernel_rfl))
  f314 := Try.func81.trans (congrArg some (by kernel_rfl))
  t3 := Try.underlying3
  a3 := Try.isAgg3
  z3 := Try.sizeOf3
  v3 := Try.zeroValue3
  t4 := Try.underlying4
  a4 := Try.isAgg4
  z4 := Try.sizeOf4
  v4 := Try.zeroValue4
  t5 := Try.underlying5
  a5 := Try.isAgg5
  z5 := Try.sizeOf5
  v5 := Try.zeroValue5
  t9 := Try.underlying9
  a9 := Try.isAgg9
  z9 := Try.sizeOf9
  v9 := Try.zeroValue9
  t46 := Try.underlying102
  a46 := Try.isAgg102
  z46 := Try.sizeOf102
  v46 := Try.zeroValue102
  t51 := Try.underlying106
  a51 := Try.isAgg106
  z51 := Try.sizeOf106
  v51 := Try.zeroValue106
  t146 := Try.underlying107
  a146 := Try.isAgg107
  z146 := Try.sizeOf107
  v146 := Try.zeroValue107
  g1 := by kernel_rfl }
theorem places28 (w : World) : (placesOf Try.prog 28).run Try.prog w = .ok #[(0, 1), (1, 1)] w := by
  unfold placesOf
  rw [Try.underlying28]
  simp [Try.sizeOf25, Try.sizeOf26]
theorem eqs57 (x y : api_Col) : EqS Try.prog 57 #[.string x.Name, .int .i64 x.Kind] #[.string y.Name, .int .i64 y.Kind] (decide (x = y)) := by
  refine eqS_of (by kernel_rfl) (by kernel_rfl) (fun w => by
    simp only [Program.fieldsOf, Try.underlying57]
    exact eqF_cons (by decide) (run_part1 Try.isAgg9 rfl) (run_part1 Try.isAgg9 rfl) (run_equalIn_string w _ _ _ _ Try.underlying9) (eqF_cons (by decide) (run_part1 Try.isAgg3 rfl) (run_part1 Try.isAgg3 rfl) (run_equalIn_int w _ _ _ _ _ _ Try.underlying3) (eqF_nil))) ?_
  simp only [beq_bytes, Arr8.list_inj, Arr2.list_inj, Bool.and_true]
  cases x; cases y; simp <;> rfl
theorem eqs37 (x y : Arr8) : EqS Try.prog 37 (x.list.map (Value.int .i64)).toArray (y.list.map (Value.int .i64)).toArray (decide (x = y)) := eqA_of Try.underlying37 Try.underlying3 Try.isAgg3 Try.sizeOf3 rfl rfl rfl rfl Arr8.list_inj
theorem eqs39 (x y : api_Value) : EqS Try.prog 39 #[.int .i64 x.Kind, .int .i64 x.N, .string x.S, .int .i64 x.H.a0, .int .i64 x.H.a1, .int .i64 x.H.a2, .int .i64 x.H.a3, .int .i64 x.H.a4, .int .i64 x.H.a5, .int .i64 x.H.a6, .int .i64 x.H.a7] #[.int .i64 y.Kind, .int .i64 y.N, .string y.S, .int .i64 y.H.a0, .int .i64 y.H.a1, .int .i64 y.H.a2, .int .i64 y.H.a3, .int .i64 y.H.a4, .int .i64 y.H.a5, .int .i64 y.H.a6, .int .i64 y.H.a7] (decide (x = y)) := by
  refine eqS_of (by kernel_rfl) (by kernel_rfl) (fun w => by
    simp only [Program.fieldsOf, Try.underlying39]
    exact eqF_cons (by decide) (run_part1 Try.isAgg3 rfl) (run_part1 Try.isAgg3 rfl) (run_equalIn_int w _ _ _ _ _ _ Try.underlying3) (eqF_cons (by decide) (run_part1 Try.isAgg3 rfl) (run_part1 Try.isAgg3 rfl) (run_equalIn_int w _ _ _ _ _ _ Try.underlying3) (eqF_cons (by decide) (run_part1 Try.isAgg9 rfl) (run_part1 Try.isAgg9 rfl) (run_equalIn_string w _ _ _ _ Try.underlying9) (eqF_cons (by decide) (run_partA (ys := (x.H.list.map (Value.int .i64)).toArray) Try.isAgg37 Try.sizeOf37 rfl) (run_partA (ys := (y.H.list.map (Value.int .i64)).toArray) Try.isAgg37 Try.sizeOf37 rfl) (eq_arr' (q := 9998) Try.underlying37 (fun a b w => run_equalIn_int w 9997 _ _ _ a b Try.underlying3) Try.isAgg3 Try.sizeOf3 x.H.list y.H.list rfl rfl w) (eqF_nil))))) ?_
  simp only [beq_bytes, Arr8.list_inj, Arr2.list_inj, Bool.and_true]
  cases x; cases y; simp <;> rfl

/-! ### catchment/catchmentref11.letter: function 50 -/
set_option maxHeartbeats 4000000 in
set_option maxRecDepth 100000 in
theorem ref11_letter.calls (a0 : Int) {r : Bool} (H : ref11_letter a0 = some r) (w0 : World) : CallsV Try.prog 50 #[.int .u8 a0] w0 (.bool r) := by
  unfold ref11_letter at H
  refine enter (args := [.int .u8 a0]) Try.func50 rfl Try.ntmps50 rfl fun a hK => ?_
  have hS := St.init (R := fun _ => none) (w := w0) (fun _ _ h => by cases h)
  have hRL := RLe.refl (M := []) w0 (fun _ => none)
  refine wp_seq ?_
  refine wp_region_lit ?_
  refine sl hK (by decide) rfl rfl (r_assign hK rfl) fun a hK => ?_
  refine wpList_nil ?_
  refine wp_seq ?_
  refine wp_region_lit ?_
  refine sl hK (by decide) rfl rfl (r_move hK rfl) fun a hK => ?_
  refine sl hK (by decide) rfl rfl (r_ibin hK rfl rfl rfl) fun a hK => ?_
  refine sl hK (by decide) rfl rfl (r_move hK rfl) fun a hK => ?_
  rcases or_b (decide (a0 ≥ 97)) with hb_1 | hb_1
  · rw [ifb_t hb_1] at H
    refine sl hK (by decide) (wtt hb_1) rfl (r_move hK rfl) fun a hK => ?_
    refine sl hK (by decide) (wtt hb_1) rfl (r_ibin hK rfl rfl rfl) fun a hK => ?_
    refine sl hK (by decide) rfl rfl (r_pick_t hb_1 hK rfl rfl) fun a hK => ?_
    refine sl hK (by decide) rfl rfl (r_assign hK rfl) fun a hK => ?_
    refine wpList_nil ?_
    obtain rfl := Option.some.inj H
    refine wp_ret ?_
    repeat (first | refine ret_then ?_ | refine ret_block ?_ | refine ret_scope ?_)
    exact ret_1 Try.results50 hK (rv_tmp hK rfl) ⟨rfl, hS.bel⟩
  · rw [ifb_f hb_1] at H
    refine sl_skip hK (by decide) (wtf hb_1) rfl fun a hK => ?_
    refine sl_skip hK (by decide) (wtf hb_1) rfl fun a hK => ?_
    refine sl hK (by decide) rfl rfl (r_pick_f hb_1 hK rfl rfl) fun a hK => ?_
    refine sl hK (by decide) rfl rfl (r_assign hK rfl) fun a hK => ?_
    refine wpList_nil ?_
    obtain rfl := Option.some.inj H
    refine wp_ret ?_
    repeat (first | refine ret_then ?_ | refine ret_block ?_ | refine ret_scope ?_)
    exact ret_1 Try.results50 hK (rv_tmp hK rfl) ⟨rfl, hS.bel⟩

/-! ### catchment/catchmentref11.digit: function 53 -/
set_option maxHeartbeats 4000000 in
set_option maxRecDepth 100000 in
theorem ref11_digit.calls (a0 : Int) {r : Bool} (H : ref11_digit a0 = some r) (w0 : World) : CallsV Try.prog 53 #[.int .u8 a0] w0 (.bool r) := by
  unfold ref11_digit at H
  refine enter (args := [.int .u8 a0]) Try.func53 rfl Try.ntmps53 rfl fun a hK => ?_
  have hS := St.init (R := fun _ => none) (w := w0) (fun _ _ h => by cases h)
  have hRL := RLe.refl (M := []) w0 (fun _ => none)
  refine wp_seq ?_
  refine wp_region_lit ?_
  refine sl hK (by decide) rfl rfl (r_assign hK rfl) fun a hK => ?_
  refine wpList_nil ?_
  refine wp_seq ?_
  refine wp_region_lit ?_
  refine sl hK (by decide) rfl rfl (r_move hK rfl) fun a hK => ?_
  refine sl hK (by decide) rfl rfl (r_ibin hK rfl rfl rfl) fun a hK => ?_
  refine sl hK (by decide) rfl rfl (r_move hK rfl) fun a hK => ?_
  rcases or_b (decide (a0 ≥ 48)) with hb_1 | hb_1
  · rw [ifb_t hb_1] at H
    refine sl hK (by decide) (wtt hb_1) rfl (r_move hK rfl) fun a hK => ?_
    refine sl hK (by decide) (wtt hb_1) rfl (r_ibin hK rfl rfl rfl) fun a hK => ?_
    refine sl hK (by decide) rfl rfl (r_pick_t hb_1 hK rfl rfl) fun a hK => ?_
    refine sl hK (by decide) rfl rfl (r_assign hK rfl) fun a hK => ?_
    refine wpList_nil ?_
    obtain rfl := Option.some.inj H
    refine wp_ret ?_
    repeat (first | refine ret_then ?_ | refine ret_block ?_ | refine ret_scope ?_)
    exact ret_1 Try.results53 hK (rv_tmp hK rfl) ⟨rfl, hS.bel⟩
  · rw [ifb_f hb_1] at H
    refine sl_skip hK (by decide) (wtf hb_1) rfl fun a hK => ?_
    refine sl_skip hK (by decide) (wtf hb_1) rfl fun a hK => ?_
    refine sl hK (by decide) rfl rfl (r_pick_f hb_1 hK rfl rfl) fun a hK => ?_
    refine sl hK (by decide) rfl rfl (r_assign hK rfl) fun a hK => ?_
    refine wpList_nil ?_
    obtain rfl := Option.some.inj H
    refine wp_ret ?_
    repeat (first | refine ret_then ?_ | refine ret_block ?_ | refine ret_scope ?_)
    exact ret_1 Try.results53 hK (rv_tmp hK rfl) ⟨rfl, hS.bel⟩

/-! ### catchment/catchmentref11.inner: function 51 -/
set_option maxHeartbeats 4000000 in
set_option maxRecDepth 100000 in
theorem ref11_inner.calls (a0 : Int) {r : Bool} (H : ref11_inner a0 = some r) (w0 : World) : CallsV Try.prog 51 #[.int .u8 a0] w0 (.bool r) := by
  unfold ref11_inner at H
  refine enter (args := [.int .u8 a0]) Try.func51 rfl Try.ntmps51 rfl fun a hK => ?_
  have hS := St.init (R := fun _ => none) (w := w0) (fun _ _ h => by cases h)
  have hRL := RLe.refl (M := []) w0 (fun _ => none)
  refine wp_seq ?_
  refine wp_region_lit ?_
  refine sl hK (by decide) rfl rfl (r_assign hK rfl) fun a hK => ?_
  refine wpList_nil ?_
  refine wp_seq ?_
  refine wp_region_lit ?_
  refine sl hK (by decide) rfl rfl (r_move hK rfl) fun a hK => ?_
  obtain ⟨y_1, h_2, H⟩ := bind_some H
  refine sl_callV Try.call50 hS hK (by decide) rfl rfl rfl (ref11_letter.calls a0 h_2 _) fun a w hS hK => ?_
  refine sl hK (by decide) rfl rfl (r_move hK rfl) fun a hK => ?_
  rcases or_b y_1 with hb_3 | hb_3
  · rw [ifb_t hb_3] at H
    refine sl_skip hK (by decide) (wft hb_3) rfl fun a hK => ?_
    refine sl_skip hK (by decide) (wft hb_3) rfl fun a hK => ?_
    refine sl hK (by decide) rfl rfl (r_pick_t hb_3 hK rfl rfl) fun a hK => ?_
    refine sl hK (by decide) rfl rfl (r_move hK rfl) fun a hK => ?_
    refine sl_skip hK (by decide) rfl rfl fun a hK => ?_
    refine sl_skip hK (by decide) rfl rfl fun a hK => ?_
    refine sl hK (by decide) rfl rfl (r_pick hK rfl rfl rfl) fun a hK => ?_
    refine sl hK (by decide) rfl rfl (r_assign hK rfl) fun a hK => ?_
    refine wpList_nil ?_
    obtain rfl := Option.some.inj H
    refine wp_ret ?_
    repeat (first | refine ret_then ?_ | refine ret_block ?_ | refine ret_scope ?_)
    exact ret_1 Try.results51 hK (rv_tmp hK rfl) ⟨rfl, hS.bel⟩
  · rw [ifb_f hb_3] at H
    refine sl hK (by decide) (wff hb_3) rfl (r_move hK rfl) fun a hK => ?_
    obtain ⟨y_4, h_5, H⟩ := bind_some H
    refine sl_callV Try.call53 hS hK (by decide) (wff hb_3) rfl rfl (ref11_digit.calls a0 h_5 _) fun a w hS hK => ?_
    refine sl hK (by decide) rfl rfl (r_pick_f hb_3 hK rfl rfl) fun a hK => ?_
    refine sl hK (by decide) rfl rfl (r_move hK rfl) fun a hK => ?_
    rcases or_b y_4 with hb_6 | hb_6
    · rw [ifb_t hb_6] at H
      refine sl_skip hK (by decide) (wft hb_6) rfl fun a hK => ?_
      refine sl_skip hK (by decide) (wft hb_6) rfl fun a hK => ?_
      refine sl hK (by decide) rfl rfl (r_pick_t hb_6 hK rfl rfl) fun a hK => ?_
      refine sl hK (by decide) rfl rfl (r_assign hK rfl) fun a hK => ?_
      refine wpList_nil ?_
      obtain rfl := Option.some.inj H
      refine wp_ret ?_
      repeat (first | refine ret_then ?_ | refine ret_block ?_ | refine ret_scope ?_)
      exact ret_1 Try.results51 hK (rv_tmp hK rfl) ⟨rfl, hS.bel⟩
    · rw [ifb_f hb_6] at H
      refine sl hK (by decide) (wff hb_6) rfl (r_move hK rfl) fun a hK => ?_
      refine sl hK (by decide) (wff hb_6) rfl (r_ibin hK rfl rfl rfl) fun a hK => ?_
      refine sl hK (by decide) rfl rfl (r_pick_f hb_6 hK rfl rfl) fun a hK => ?_
      refine sl hK (by decide) rfl rfl (r_assign hK rfl) fun a hK => ?_
      refine wpList_nil ?_
      obtain rfl := Option.some.inj H
      refine wp_ret ?_
      repeat (first | refine ret_then ?_ | refine ret_block ?_ | refine ret_scope ?_)
      exact ret_1 Try.results51 hK (rv_tmp hK rfl) ⟨rfl, hS.bel⟩

/-! ### catchment/catchmentref11.text: function 52 -/
set_option maxHeartbeats 4000000 in
set_option maxRecDepth 100000 in
theorem ref11_text.calls (a0 : ByteArray) {r : ByteArray × Int × Bool} (H : ref11_text a0 = some r) (w0 : World) : CallsV Try.prog 52 #[.string a0] w0 (.tuple #[.string r.1, .int .i64 r.2.1, .bool r.2.2]) := by
  unfold ref11_text at H
  refine enter (args := [.string a0]) Try.func52 rfl Try.ntmps52 rfl fun a hK => ?_
  have hS := St.init (R := fun _ => none) (w := w0) (fun _ _ h => by cases h)
  have hRL := RLe.refl (M := []) w0 (fun _ => none)
  refine wp_seq ?_
  refine wp_region_lit ?_
  refine sl hK (by decide) rfl rfl (r_assign hK rfl) fun a hK => ?_
  refine sl hK (by decide) rfl rfl (r_assign hK rfl) fun a hK => ?_
  refine sl hK (by decide) rfl rfl (r_assign hK rfl) fun a hK => ?_
  refine wpList_nil ?_
  refine wp_seq ?_
  refine wp_region_lit ?_
  refine sl_buildSliceC (zc := [.int .u8 0]) (zs := []) (ps := []) (c := []) Try.underlying99 Try.sizeOf5 Try.zeroValue5 rfl pc_nil rfl rfl (by decide) (by kernel_rfl) rfl hS hK (by decide) rfl fun a w b_1 hS hK => ?_
  refine sl hK (by decide) rfl rfl (r_assign hK rfl) fun a hK => ?_
  refine wpList_nil ?_
  refine wp_seq ?_
  refine wp_seq ?_
  refine wp_region_lit ?_
  refine sl hK (by decide) rfl rfl (r_assign hK rfl) fun a hK => ?_
  refine wpList_nil ?_
  refine wp_block ?_
  refine wp_loop_k (fun k_l0 a w => ∃ (x_59 : List Int) (x_63 : Int) (v_60 : Value) (cs_61 : List Value), ref11_text.l0 a0 k_l0 x_59 x_63 = some r ∧ Reps (tyInt .u8) (fun _ => none) cs_61 x_59 ∧ Kn 54 a [(0, .string a0), (5, v_60), (6, .int .i64 x_63)] ∧ St [] w0 w (fun _ => none) [.row 5 1 v_60 x_59.length cs_61]) (((a0.size : Int) - 1).toNat + 1) ?_ ?_
  · have hS := hS.row_lit (size := 1) (m := 0) rfl (by decide)
    have hq_116 : Reps (tyInt .u8) (fun _ => none) [] ([] : List Int) := (Reps.nil _ _)
    exact ⟨[], 1, _, _, H, hq_116, hK.sub (all_cons rfl (all_cons rfl (all_cons rfl (all_nil)))), hS⟩
  · rintro k_l0 a w ⟨x_59, x_63, v_60, cs_61, H, hq_62, hK, hS⟩
    cases k_l0 with
    | zero => cases H
    | succ k_l0 =>
    rw [ref11_text.l0.eq_2] at H
    refine wp_seq ?_
    refine wp_seq ?_
    refine wp_region_lit ?_
    refine sl hK (by decide) rfl rfl (r_move hK rfl) fun a hK => ?_
    refine sl hK (by decide) rfl rfl (r_move hK rfl) fun a hK => ?_
    refine sl hK (by decide) rfl rfl (r_len_str Try.underlying9 hK rfl) fun a hK => ?_
    refine sl hK (by decide) rfl rfl (r_ibin hK rfl rfl rfl) fun a hK => ?_
    refine wpList_nil ?_
    refine wp_cond_split (hK.ev rfl) (fun (hb_117 : (decide (x_63 < (a0.size : Int))) = true) => ?_) (fun (hb_117 : (decide (x_63 < (a0.size : Int))) = false) => ?_)
    · rw [ifb_t hb_117] at H
      refine wp_skip ?_
      refine wp_seq ?_
      refine wp_block ?_
      refine wp_seq ?_
      refine wp_region_lit ?_
      refine sl hK (by decide) rfl rfl (r_move hK rfl) fun a hK => ?_
      refine sl hK (by decide) rfl rfl (r_move hK rfl) fun a hK => ?_
      obtain ⟨y_118, h_119, H⟩ := bind_some H
      refine sl hK (by decide) rfl rfl (r_index_str' Try.underlying9 h_119 hK rfl rfl) fun a hK => ?_
      refine sl hK (by decide) rfl rfl (r_assign hK rfl) fun a hK => ?_
      refine wpList_nil ?_
      refine wp_seq ?_
      refine wp_seq ?_
      refine wp_region_lit ?_
      refine sl hK (by decide) rfl rfl (r_move hK rfl) fun a hK => ?_
      refine sl hK (by decide) rfl rfl (r_ibin hK rfl rfl rfl) fun a hK => ?_
      refine wpList_nil ?_
      refine wp_cond_split (hK.ev rfl) (fun (hb_120 : (y_118 == 34) = true) => ?_) (fun (hb_120 : (y_118 == 34) = false) => ?_)
      · rw [ifb_t hb_120] at H
        refine wp_seq ?_
        refine wp_region_lit ?_
        refine sl hK (by decide) rfl rfl (r_move hK rfl) fun a hK => ?_
        refine sl hK (by decide) rfl rfl (r_conv_bo Try.underlying99 Try.underlying9 Try.underlying5 hq_62 rfl hS (.head _) hK rfl) fun a hK => ?_
        refine sl hK (by decide) rfl rfl (r_move hK rfl) fun a hK => ?_
        refine sl hK (by decide) rfl rfl (r_ibin hK rfl rfl rfl) fun a hK => ?_
        refine sl hK (by decide) rfl rfl (r_move hK rfl) fun a hK => ?_
        refine sl hK (by decide) rfl rfl (r_len_O Try.underlying99 hS (.head _) hK rfl) fun a hK => ?_
        refine sl hK (by decide) rfl rfl (r_ibin hK rfl rfl rfl) fun a hK => ?_
        refine sl hK (by decide) rfl rfl (r_assign hK rfl) fun a hK => ?_
        refine sl hK (by decide) rfl rfl (r_assign hK rfl) fun a hK => ?_
        refine sl hK (by decide) rfl rfl (r_assign hK rfl) fun a hK => ?_
        refine wpList_nil ?_
        obtain rfl := Option.some.inj H
        refine wp_ret ?_
        repeat (first | refine ret_then ?_ | refine ret_block ?_ | refine ret_scope ?_)
        exact ret_3 Try.results52 hK (rv_tmp hK rfl) (rv_tmp hK rfl) (rv_tmp hK rfl) ⟨rfl, hS.bel⟩
      · rw [ifb_f hb_120] at H
        refine wp_skip ?_
        refine wp_seq ?_
        refine wp_seq ?_
        refine wp_region_lit ?_
        refine sl hK (by decide) rfl rfl (r_move hK rfl) fun a hK => ?_
        refine sl hK (by decide) rfl rfl (r_ibin hK rfl rfl rfl) fun a hK => ?_
        refine wpList_nil ?_
        refine wp_mid (fun a w => ∃ (x_139 : Int) (x_140 : Int), ref11_text.j1 (ref11_text.l0 a0 k_l0) a0 x_59 x_139 x_140 = some r ∧ Kn 54 a [(0, .string a0), (5, v_60), (6, .int .i64 x_139), (7, .int .u8 x_140)] ∧ St [] w0 w (fun _ => none) [.row 5 1 v_60 x_59.length cs_61]) ?_ ?_
        · refine wp_cond_split (hK.ev rfl) (fun (hb_142 : (y_118 == 92) = true) => ?_) (fun (hb_142 : (y_118 == 92) = false) => ?_)
          · rw [ifb_t hb_142] at H
            refine wp_seq ?_
            refine wp_region_lit ?_
            refine sl hK (by decide) rfl rfl (r_move hK rfl) fun a hK => ?_
            refine sl hK (by decide) rfl rfl (r_ibin hK rfl rfl rfl) fun a hK => ?_
            refine sl hK (by decide) rfl rfl (r_assign hK rfl) fun a hK => ?_
            refine wpList_nil ?_
            refine wp_seq ?_
            refine wp_seq ?_
            refine wp_mid (fun a w => ∃ (x_149 : Bool), ref11_text.j2 (ref11_text.l0 a0 k_l0) a0 x_59 x_63 x_149 = some r ∧ Kn 54 a [(0, .string a0), (5, v_60), (6, .int .i64 (IntKind.i64.wrap (x_63 + 1))), (46, .bool x_149)] ∧ St [] w0 w (fun _ => none) [.row 5 1 v_60 x_59.length cs_61]) ?_ ?_
            · refine wp_region_lit ?_
              refine sl hK (by decide) rfl rfl (r_move hK rfl) fun a hK => ?_
              refine sl hK (by decide) rfl rfl (r_move hK rfl) fun a hK => ?_
              refine sl hK (by decide) rfl rfl (r_len_str Try.underlying9 hK rfl) fun a hK => ?_
              refine sl hK (by decide) rfl rfl (r_ibin hK rfl rfl rfl) fun a hK => ?_
              refine sl hK (by decide) rfl rfl (r_move hK rfl) fun a hK => ?_
              rcases or_b (decide ((IntKind.i64.wrap (x_63 + 1)) ≥ (a0.size : Int))) with hb_151 | hb_151
              · rw [ifb_t hb_151] at H
                refine sl_skip hK (by decide) (wft hb_151) rfl fun a hK => ?_
                refine sl_skip hK (by decide) (wft hb_151) rfl fun a hK => ?_
                refine sl_skip hK (by decide) (wft hb_151) rfl fun a hK => ?_
                refine sl_skip hK (by decide) (wft hb_151) rfl fun a hK => ?_
                refine sl_skip hK (by decide) (wft hb_151) rfl fun a hK => ?_
                refine sl_skip hK (by decide) rfl rfl fun a hK => ?_
                refine sl_skip hK (by decide) rfl rfl fun a hK => ?_
                refine sl_skip hK (by decide) rfl rfl fun a hK => ?_
                refine sl_skip hK (by decide) rfl rfl fun a hK => ?_
                refine sl_skip hK (by decide) (wft hb_151) rfl fun a hK => ?_
                refine sl hK (by decide) rfl rfl (r_pick_t hb_151 hK rfl rfl) fun a hK => ?_
                refine wpList_nil ?_
                exact ⟨true, H, hK.sub (all_cons rfl (all_cons rfl (all_cons rfl (all_cons rfl (all_nil))))), hS⟩
              · rw [ifb_f hb_151] at H
                refine sl hK (by decide) (wff hb_151) rfl (r_move hK rfl) fun a hK => ?_
                refine sl hK (by decide) (wff hb_151) rfl (r_move hK rfl) fun a hK => ?_
                obtain ⟨y_152, h_153, H⟩ := bind_some H
                refine sl hK (by decide) (wff hb_151) rfl (r_index_str' Try.underlying9 h_153 hK rfl rfl) fun a hK => ?_
                refine sl hK (by decide) (wff hb_151) rfl (r_ibin hK rfl rfl rfl) fun a hK => ?_
                refine sl hK (by decide) (wff hb_151) rfl (r_move hK rfl) fun a hK => ?_
                rcases or_b (y_152 != 34) with hb_154 | hb_154
                · rw [ifb_t hb_154] at H
                  refine sl hK (by decide) (wtt hb_154) rfl (r_move hK rfl) fun a hK => ?_
                  refine sl hK (by decide) (wtt hb_154) rfl (r_move hK rfl) fun a hK => ?_
                  obtain ⟨y_155, h_156, H⟩ := bind_some H
                  refine sl hK (by decide) (wtt hb_154) rfl (r_index_str' Try.underlying9 h_156 hK rfl rfl) fun a hK => ?_
                  refine sl hK (by decide) (wtt hb_154) rfl (r_ibin hK rfl rfl rfl) fun a hK => ?_
                  refine sl hK (by decide) (wff hb_151) rfl (r_pick_t hb_154 hK rfl rfl) fun a hK => ?_
                  refine sl hK (by decide) rfl rfl (r_pick_f hb_151 hK rfl rfl) fun a hK => ?_
                  refine wpList_nil ?_
                  exact ⟨(y_155 != 92), H, hK.sub (all_cons rfl (all_cons rfl (all_cons rfl (all_cons rfl (all_nil))))), hS⟩
                · rw [ifb_f hb_154] at H
                  refine sl_skip hK (by decide) (wtf hb_154) rfl fun a hK => ?_
                  refine sl_skip hK (by decide) (wtf hb_154) rfl fun a hK => ?_
                  refine sl_skip hK (by decide) (wtf hb_154) rfl fun a hK => ?_
                  refine sl_skip hK (by decide) (wtf hb_154) rfl fun a hK => ?_
                  refine sl hK (by decide) (wff hb_151) rfl (r_pick_f hb_154 hK rfl rfl) fun a hK => ?_
                  refine sl hK (by decide) rfl rfl (r_pick_f hb_151 hK rfl rfl) fun a hK => ?_
                  refine wpList_nil ?_
                  exact ⟨false, H, hK.sub (all_cons rfl (all_cons rfl (all_cons rfl (all_cons rfl (all_nil))))), hS⟩
            · rintro a w ⟨x_149, H, hK, hS⟩
              unfold ref11_text.j2 at H
              refine wp_cond_split (hK.ev rfl) (fun (hb_157 : x_149 = true) => ?_) (fun (hb_157 : x_149 = false) => ?_)
              · rw [ifb_t hb_157] at H
                refine wp_seq ?_
                refine wp_region_lit ?_
                refine sl hK (by decide) rfl rfl (r_assign hK rfl) fun a hK => ?_
                refine sl hK (by decide) rfl rfl (r_assign hK rfl) fun a hK => ?_
                refine sl hK (by decide) rfl rfl (r_assign hK rfl) fun a hK => ?_
                refine wpList_nil ?_
                obtain rfl := Option.some.inj H
                refine wp_ret ?_
                repeat (first | refine ret_then ?_ | refine ret_block ?_ | refine ret_scope ?_)
                exact ret_3 Try.results52 hK (rv_tmp hK rfl) (rv_tmp hK rfl) (rv_tmp hK rfl) ⟨rfl, hS.bel⟩
              · rw [ifb_f hb_157] at H
                refine wp_skip ?_
                refine wp_region_lit ?_
                refine sl hK (by decide) rfl rfl (r_move hK rfl) fun a hK => ?_
                refine sl hK (by decide) rfl rfl (r_move hK rfl) fun a hK => ?_
                obtain ⟨y_158, h_159, H⟩ := bind_some H
                refine sl hK (by decide) rfl rfl (r_index_str' Try.underlying9 h_159 hK rfl rfl) fun a hK => ?_
                refine sl hK (by decide) rfl rfl (r_assign hK rfl) fun a hK => ?_
                refine wpList_nil ?_
                exact ⟨(IntKind.i64.wrap (x_63 + 1)), y_158, H, hK.sub (all_cons rfl (all_cons rfl (all_cons rfl (all_cons rfl (all_nil))))), hS⟩
          · rw [ifb_f hb_142] at H
            refine wp_skip ?_
            exact ⟨x_63, y_118, H, hK.sub (all_cons rfl (all_cons rfl (all_cons rfl (all_cons rfl (all_nil))))), hS⟩
        · rintro a w ⟨x_139, x_140, H, hK, hS⟩
          unfold ref11_text.j1 at H
          refine wp_region_lit ?_
          refine sl hK (by decide) rfl rfl (r_move hK rfl) fun a hK => ?_
          refine sl hK (by decide) rfl rfl (r_move hK rfl) fun a hK => ?_
          refine sl_buildSliceF (zc := [.int .u8 0]) (ps := [(0, .int .u8 x_140)]) (c := [.int .u8 x_140]) [[.int .u8 x_140]] Try.underlying99 Try.sizeOf5 Try.zeroValue5 rfl (pc_cons rfl pc_nil) rfl rfl (Nat.le_of_ble_eq_true rfl) rfl (all_cons rfl (all_nil)) rfl hS hK (by decide) rfl fun a w b_160 hS hK => ?_
          obtain ⟨y_161, h_162, H⟩ := bind_some H
          have hS := hS.pk1
          refine sl_append_L (ty := (tyInt .u8)) (ys := [x_140]) elT99 (by decide) rfl hq_62 rfl (Reps.cons (show Ty.rep (tyInt .u8) _ [.int .u8 x_140] x_140 from rfl) (Reps.nil _ _)) rfl h_162 hS hK (by decide) rfl rfl rfl fun a w v_163 cs_164 hq_165 hS hK => ?_
          refine sl hK (by decide) rfl rfl (r_assign hK rfl) fun a hK => ?_
          refine wpList_nil ?_
          refine wp_region_lit ?_
          refine sl hK (by decide) rfl rfl (r_move hK rfl) fun a hK => ?_
          refine sl hK (by decide) rfl rfl (r_ibin hK rfl rfl rfl) fun a hK => ?_
          refine sl hK (by decide) rfl rfl (r_assign hK rfl) fun a hK => ?_
          refine wpList_nil ?_
          exact ⟨_, Nat.lt_succ_self _, y_161, (IntKind.i64.wrap (x_139 + 1)), _, _, H, hq_165, hK.sub (all_cons rfl (all_cons rfl (all_cons rfl (all_nil)))), hS⟩
    · rw [ifb_f hb_117] at H
      refine wp_exit ?_
      refine wp_seq ?_
      refine wp_region_lit ?_
      refine sl hK (by decide) rfl rfl (r_assign hK rfl) fun a hK => ?_
      refine sl hK (by decide) rfl rfl (r_assign hK rfl) fun a hK => ?_
      refine sl hK (by decide) rfl rfl (r_assign hK rfl) fun a hK => ?_
      refine wpList_nil ?_
      obtain rfl := Option.some.inj H
      refine wp_ret ?_
      repeat (first | refine ret_then ?_ | refine ret_block ?_ | refine ret_scope ?_)
      exact ret_3 Try.results52 hK (rv_tmp hK rfl) (rv_tmp hK rfl) (rv_tmp hK rfl) ⟨rfl, hS.bel⟩

/-! ### catchment/catchmentref11.number: function 54 -/
set_option maxHeartbeats 4000000 in
set_option maxRecDepth 100000 in
theorem ref11_number.calls (a0 : ByteArray) {r : Int × Bool} (H : ref11_number a0 = some r) (w0 : World) : CallsV Try.prog 54 #[.string a0] w0 (.tuple #[.int .i64 r.1, .bool r.2]) := by
  unfold ref11_number at H
  refine enter (args := [.string a0]) Try.func54 rfl Try.ntmps54 rfl fun a hK => ?_
  have hS := St.init (R := fun _ => none) (w := w0) (fun _ _ h => by cases h)
  have hRL := RLe.refl (M := []) w0 (fun _ => none)
  refine wp_seq ?_
  refine wp_region_lit ?_
  refine sl hK (by decide) rfl rfl (r_assign hK rfl) fun a hK => ?_
  refine sl hK (by decide) rfl rfl (r_assign hK rfl) fun a hK => ?_
  refine wpList_nil ?_
  refine wp_seq ?_
  refine wp_region_lit ?_
  refine sl hK (by decide) rfl rfl (r_assign hK rfl) fun a hK => ?_
  refine wpList_nil ?_
  refine wp_seq ?_
  refine wp_region_lit ?_
  refine sl hK (by decide) rfl rfl (r_move hK rfl) fun a hK => ?_
  obtain ⟨y_1, h_2, H⟩ := bind_some H
  refine sl hK (by decide) rfl rfl (r_index_str' Try.underlying9 h_2 hK rfl rfl) fun a hK => ?_
  refine sl hK (by decide) rfl rfl (r_ibin hK rfl rfl rfl) fun a hK => ?_
  refine sl hK (by decide) rfl rfl (r_assign hK rfl) fun a hK => ?_
  refine wpList_nil ?_
  refine wp_seq ?_
  refine wp_seq ?_
  refine wp_region_lit ?_
  refine sl hK (by decide) rfl rfl (r_move hK rfl) fun a hK => ?_
  refine wpList_nil ?_
  refine wp_mid (fun a w => ∃ (x_6 : ByteArray), ref11_number.j0 y_1 x_6 = some r ∧ Kn 40 a [(0, .string x_6), (4, .int .i64 0), (5, .bool (y_1 == 45))] ∧ St [] w0 w (fun _ => none) []) ?_ ?_
  · refine wp_cond_split (hK.ev rfl) (fun (hb_8 : (y_1 == 45) = true) => ?_) (fun (hb_8 : (y_1 == 45) = false) => ?_)
    · rw [ifb_t hb_8] at H
      refine wp_region_lit ?_
      refine sl hK (by decide) rfl rfl (r_move hK rfl) fun a hK => ?_
      obtain ⟨y_9, h_10, H⟩ := bind_some H
      refine sl hK (by decide) rfl rfl (r_slice_s (lo := some (.const (.int .i64 1))) (hi := none) Try.underlying9 h_10 hK rfl ⟨_, rfl⟩ rfl) fun a hK => ?_
      refine sl hK (by decide) rfl rfl (r_assign hK rfl) fun a hK => ?_
      refine wpList_nil ?_
      exact ⟨y_9, H, hK.sub (all_cons rfl (all_cons rfl (all_cons rfl (all_nil)))), hS⟩
    · rw [ifb_f hb_8] at H
      refine wp_skip ?_
      exact ⟨a0, H, hK.sub (all_cons rfl (all_cons rfl (all_cons rfl (all_nil)))), hS⟩
  · rintro a w ⟨x_6, H, hK, hS⟩
    unfold ref11_number.j0 at H
    refine wp_seq ?_
    refine wp_seq ?_
    refine wp_region_lit ?_
    refine sl hK (by decide) rfl rfl (r_assign hK rfl) fun a hK => ?_
    refine wpList_nil ?_
    refine wp_block ?_
    refine wp_loop_k (fun k_l1 a w => ∃ (x_16 : Int) (x_17 : Int), ref11_number.l1 y_1 x_6 k_l1 x_16 x_17 = some r ∧ Kn 40 a [(0, .string x_6), (4, .int .i64 x_16), (5, .bool (y_1 == 45)), (6, .int .i64 x_17)] ∧ St [] w0 w (fun _ => none) []) (((x_6.size : Int) - 0).toNat + 1) ?_ ?_
    · exact ⟨0, 0, H, hK.sub (all_cons rfl (all_cons rfl (all_cons rfl (all_cons rfl (all_nil))))), hS⟩
    · rintro k_l1 a w ⟨x_16, x_17, H, hK, hS⟩
      cases k_l1 with
      | zero => cases H
      | succ k_l1 =>
      rw [ref11_number.l1.eq_2] at H
      refine wp_seq ?_
      refine wp_seq ?_
      refine wp_region_lit ?_
      refine sl hK (by decide) rfl rfl (r_move hK rfl) fun a hK => ?_
      refine sl hK (by decide) rfl rfl (r_move hK rfl) fun a hK => ?_
      refine sl hK (by decide) rfl rfl (r_len_str Try.underlying9 hK rfl) fun a hK => ?_
      refine sl hK (by decide) rfl rfl (r_ibin hK rfl rfl rfl) fun a hK => ?_
      refine wpList_nil ?_
      refine wp_cond_split (hK.ev rfl) (fun (hb_23 : (decide (x_17 < (x_6.size : Int))) = true) => ?_) (fun (hb_23 : (decide (x_17 < (x_6.size : Int))) = false) => ?_)
      · rw [ifb_t hb_23] at H
        refine wp_skip ?_
        refine wp_seq ?_
        refine wp_block ?_
        refine wp_seq ?_
        refine wp_region_lit ?_
        refine sl hK (by decide) rfl rfl (r_move hK rfl) fun a hK => ?_
        refine sl hK (by decide) rfl rfl (r_move hK rfl) fun a hK => ?_
        obtain ⟨y_24, h_25, H⟩ := bind_some H
        refine sl hK (by decide) rfl rfl (r_index_str' Try.underlying9 h_25 hK rfl rfl) fun a hK => ?_
        refine sl hK (by decide) rfl rfl (r_ibin hK rfl rfl rfl) fun a hK => ?_
        refine sl hK (by decide) rfl rfl (r_conv Try.underlying5 Try.underlying3 hK rfl) fun a hK => ?_
        refine sl hK (by decide) rfl rfl (r_assign hK rfl) fun a hK => ?_
        refine wpList_nil ?_
        refine wp_seq ?_
        refine wp_seq ?_
        refine wp_region_lit ?_
        refine sl hK (by decide) rfl rfl (r_move hK rfl) fun a hK => ?_
        refine sl hK (by decide) rfl rfl (r_move hK rfl) fun a hK => ?_
        refine sl hK (by decide) rfl rfl (r_ibin hK rfl rfl rfl) fun a hK => ?_
        refine sl hK (by decide) rfl rfl (r_quo hK rfl rfl (by decide)) fun a hK => ?_
        refine sl hK (by decide) rfl rfl (r_ibin hK rfl rfl rfl) fun a hK => ?_
        refine wpList_nil ?_
        refine wp_cond_split (hK.ev rfl) (fun (hb_26 : (decide (x_16 < (IntKind.i64.wrap ((IntKind.i64.wrap ((-9223372036854775808) + (IntKind.i64.wrap (IntKind.u8.wrap (y_24 - 48))))).tdiv 10)))) = true) => ?_) (fun (hb_26 : (decide (x_16 < (IntKind.i64.wrap ((IntKind.i64.wrap ((-9223372036854775808) + (IntKind.i64.wrap (IntKind.u8.wrap (y_24 - 48))))).tdiv 10)))) = false) => ?_)
        · rw [ifb_t hb_26] at H
          refine wp_seq ?_
          refine wp_region_lit ?_
          refine sl hK (by decide) rfl rfl (r_assign hK rfl) fun a hK => ?_
          refine sl hK (by decide) rfl rfl (r_assign hK rfl) fun a hK => ?_
          refine wpList_nil ?_
          obtain rfl := Option.some.inj H
          refine wp_ret ?_
          repeat (first | refine ret_then ?_ | refine ret_block ?_ | refine ret_scope ?_)
          exact ret_2 Try.results54 hK (rv_tmp hK rfl) (rv_tmp hK rfl) ⟨rfl, hS.bel⟩
        · rw [ifb_f hb_26] at H
          refine wp_skip ?_
          refine wp_region_lit ?_
          refine sl hK (by decide) rfl rfl (r_move hK rfl) fun a hK => ?_
          refine sl hK (by decide) rfl rfl (r_ibin hK rfl rfl rfl) fun a hK => ?_
          refine sl hK (by decide) rfl rfl (r_move hK rfl) fun a hK => ?_
          refine sl hK (by decide) rfl rfl (r_ibin hK rfl rfl rfl) fun a hK => ?_
          refine sl hK (by decide) rfl rfl (r_assign hK rfl) fun a hK => ?_
          refine wpList_nil ?_
          refine wp_region_lit ?_
          refine sl hK (by decide) rfl rfl (r_move hK rfl) fun a hK => ?_
          refine sl hK (by decide) rfl rfl (r_ibin hK rfl rfl rfl) fun a hK => ?_
          refine sl hK (by decide) rfl rfl (r_assign hK rfl) fun a hK => ?_
          refine wpList_nil ?_
          exact ⟨_, Nat.lt_succ_self _, (IntKind.i64.wrap ((IntKind.i64.wrap (10 * x_16)) - (IntKind.i64.wrap (IntKind.u8.wrap (y_24 - 48))))), (IntKind.i64.wrap (x_17 + 1)), H, hK.sub (all_cons rfl (all_cons rfl (all_cons rfl (all_cons rfl (all_nil))))), hS⟩
      · rw [ifb_f hb_23] at H
        refine wp_exit ?_
        refine wp_seq ?_
        refine wp_seq ?_
        refine wp_region_lit ?_
        refine sl hK (by decide) rfl rfl (r_move hK rfl) fun a hK => ?_
        refine wpList_nil ?_
        refine wp_cond_split (hK.ev rfl) (fun (hb_27 : (y_1 == 45) = true) => ?_) (fun (hb_27 : (y_1 == 45) = false) => ?_)
        · rw [ifb_t hb_27] at H
          refine wp_seq ?_
          refine wp_region_lit ?_
          refine sl hK (by decide) rfl rfl (r_move hK rfl) fun a hK => ?_
          refine sl hK (by decide) rfl rfl (r_assign hK rfl) fun a hK => ?_
          refine sl hK (by decide) rfl rfl (r_assign hK rfl) fun a hK => ?_
          refine wpList_nil ?_
          obtain rfl := Option.some.inj H
          refine wp_ret ?_
          repeat (first | refine ret_then ?_ | refine ret_block ?_ | refine ret_scope ?_)
          exact ret_2 Try.results54 hK (rv_tmp hK rfl) (rv_tmp hK rfl) ⟨rfl, hS.bel⟩
        · rw [ifb_f hb_27] at H
          refine wp_skip ?_
          refine wp_seq ?_
          refine wp_region_lit ?_
          refine sl hK (by decide) rfl rfl (r_move hK rfl) fun a hK => ?_
          refine sl hK (by decide) rfl rfl (r_un hK rfl (u_neg _ _)) fun a hK => ?_
          refine sl hK (by decide) rfl rfl (r_move hK rfl) fun a hK => ?_
          refine sl hK (by decide) rfl rfl (r_ibin hK rfl rfl rfl) fun a hK => ?_
          refine sl hK (by decide) rfl rfl (r_assign hK rfl) fun a hK => ?_
          refine sl hK (by decide) rfl rfl (r_assign hK rfl) fun a hK => ?_
          refine wpList_nil ?_
          obtain rfl := Option.some.inj H
          refine wp_ret ?_
          repeat (first | refine ret_then ?_ | refine ret_block ?_ | refine ret_scope ?_)
          exact ret_2 Try.results54 hK (rv_tmp hK rfl) (rv_tmp hK rfl) ⟨rfl, hS.bel⟩

/-! ### catchment/catchmentref11.sign: function 55 -/
set_option maxHeartbeats 4000000 in
set_option maxRecDepth 100000 in
theorem ref11_sign.calls (a0 : ByteArray) {r : ByteArray} (H : ref11_sign a0 = some r) (w0 : World) : CallsV Try.prog 55 #[.string a0] w0 (.string r) := by
  unfold ref11_sign at H
  refine enter (args := [.string a0]) Try.func55 rfl Try.ntmps55 rfl fun a hK => ?_
  have hS := St.init (R := fun _ => none) (w := w0) (fun _ _ h => by cases h)
  have hRL := RLe.refl (M := []) w0 (fun _ => none)
  refine wp_seq ?_
  refine wp_region_lit ?_
  refine sl hK (by decide) rfl rfl (r_assign hK rfl) fun a hK => ?_
  refine wpList_nil ?_
  refine wp_seq ?_
  refine wp_region_lit ?_
  refine sl_buildSliceF (zc := [.string (⟨#[]⟩ : ByteArray)]) (ps := [(0, .string (⟨#[33, 61]⟩ : ByteArray)), (1, .string (⟨#[60, 61]⟩ : ByteArray)), (2, .string (⟨#[62, 61]⟩ : ByteArray))]) (c := [.string (⟨#[33, 61]⟩ : ByteArray), .string (⟨#[60, 61]⟩ : ByteArray), .string (⟨#[62, 61]⟩ : ByteArray)]) [[.string (⟨#[33, 61]⟩ : ByteArray)], [.string (⟨#[60, 61]⟩ : ByteArray)], [.string (⟨#[62, 61]⟩ : ByteArray)]] Try.underlying48 Try.sizeOf9 Try.zeroValue9 rfl (pc_cons rfl (pc_cons rfl (pc_cons rfl pc_nil))) rfl rfl (Nat.le_of_ble_eq_true rfl) rfl (all_cons rfl (all_cons rfl (all_cons rfl (all_nil)))) rfl hS hK (by decide) rfl fun a w b_1 hS hK => ?_
  refine sl hK (by decide) rfl rfl (r_assign hK rfl) fun a hK => ?_
  refine wpList_nil ?_
  refine wp_seq ?_
  refine wp_seq ?_
  refine wp_region_lit ?_
  refine sl hK (by decide) rfl rfl (r_assign hK rfl) fun a hK => ?_
  refine wpList_nil ?_
  refine wp_block ?_
  refine wp_loop_k (fun k_l0 a w => ∃ (x_65 : List ByteArray) (x_69 : Int) (v_66 : Value) (cs_67 : List Value), ref11_sign.l0 a0 k_l0 x_65 x_69 = some r ∧ Reps tyStr (fun _ => none) cs_67 x_65 ∧ Kn 44 a [(0, .string a0), (3, v_66), (4, .int .i64 x_69)] ∧ St [] w0 w (fun _ => none) [.row 9 1 v_66 x_65.length cs_67]) (((3 : Int) - 0).toNat + 1) ?_ ?_
  · have hS := hS.row_lit (size := 1) (m := 3) rfl (by decide)
    have hq_128 : Reps tyStr (fun _ => none) [.string (⟨#[33, 61]⟩ : ByteArray), .string (⟨#[60, 61]⟩ : ByteArray), .string (⟨#[62, 61]⟩ : ByteArray)] [(⟨#[33, 61]⟩ : ByteArray), (⟨#[60, 61]⟩ : ByteArray), (⟨#[62, 61]⟩ : ByteArray)] := (Reps.cons (show Ty.rep tyStr _ [.string (⟨#[33, 61]⟩ : ByteArray)] (⟨#[33, 61]⟩ : ByteArray) from rfl) (Reps.cons (show Ty.rep tyStr _ [.string (⟨#[60, 61]⟩ : ByteArray)] (⟨#[60, 61]⟩ : ByteArray) from rfl) (Reps.cons (show Ty.rep tyStr _ [.string (⟨#[62, 61]⟩ : ByteArray)] (⟨#[62, 61]⟩ : ByteArray) from rfl) (Reps.nil _ _))))
    exact ⟨[(⟨#[33, 61]⟩ : ByteArray), (⟨#[60, 61]⟩ : ByteArray), (⟨#[62, 61]⟩ : ByteArray)], 0, _, _, H, hq_128, hK.sub (all_cons rfl (all_cons rfl (all_cons rfl (all_nil)))), hS⟩
  · rintro k_l0 a w ⟨x_65, x_69, v_66, cs_67, H, hq_68, hK, hS⟩
    cases k_l0 with
    | zero => cases H
    | succ k_l0 =>
    rw [ref11_sign.l0.eq_2] at H
    refine wp_seq ?_
    refine wp_seq ?_
    refine wp_region_lit ?_
    refine sl hK (by decide) rfl rfl (r_move hK rfl) fun a hK => ?_
    refine sl hK (by decide) rfl rfl (r_move hK rfl) fun a hK => ?_
    refine sl hK (by decide) rfl rfl (r_len_O Try.underlying48 hS (.head _) hK rfl) fun a hK => ?_
    refine sl hK (by decide) rfl rfl (r_ibin hK rfl rfl rfl) fun a hK => ?_
    refine wpList_nil ?_
    refine wp_cond_split (hK.ev rfl) (fun (hb_129 : (decide (x_69 < (x_65.length : Int))) = true) => ?_) (fun (hb_129 : (decide (x_69 < (x_65.length : Int))) = false) => ?_)
    · rw [ifb_t hb_129] at H
      refine wp_skip ?_
      refine wp_seq ?_
      refine wp_block ?_
      refine wp_seq ?_
      refine wp_mid (fun a w => ∃ (x_152 : Bool), ref11_sign.j1 (ref11_sign.l0 a0 k_l0) x_65 x_69 x_152 = some r ∧ Kn 44 a [(0, .string a0), (3, v_66), (4, .int .i64 x_69), (25, .bool x_152)] ∧ St [] w0 w (fun _ => none) [.row 9 1 v_66 x_65.length cs_67]) ?_ ?_
      · refine par_region (C := fun w => St [] w0 w (fun _ => none) [.row 9 1 v_66 x_65.length cs_67]) [(0, true), (1, true), (2, true), (3, true), (4, true), (5, true), (6, true), (7, true), (8, true), (9, true), (10, true), (11, true)] mixed (by kernel_rfl) hS (fun w hS => hS) fun w hS => ?_
        refine sp (k := 0) rfl hK (by decide) rfl rfl (fun w hS => r_move hK rfl) fun a hK => ?_
        refine sp (k := 1) rfl hK (by decide) rfl rfl (fun w hS => r_len_str Try.underlying9 hK rfl) fun a hK => ?_
        refine sp (k := 2) rfl hK (by decide) rfl rfl (fun w hS => r_ibin hK rfl rfl rfl) fun a hK => ?_
        refine sp (k := 3) rfl hK (by decide) rfl rfl (fun w hS => r_move hK rfl) fun a hK => ?_
        rcases or_b (decide ((a0.size : Int) ≥ 2)) with hb_165 | hb_165
        · rw [ifb_t hb_165] at H
          refine sp (k := 4) rfl hK (by decide) (wtt hb_165) rfl (fun w hS => r_move hK rfl) fun a hK => ?_
          obtain ⟨y_166, h_167, H⟩ := bind_some H
          refine sp (k := 5) rfl hK (by decide) (wtt hb_165) rfl (fun w hS => r_slice_s (lo := none) (hi := some (.const (.int .i64 2))) Try.underlying9 h_167 hK rfl rfl ⟨_, rfl⟩) fun a hK => ?_
          refine sp (k := 6) rfl hK (by decide) (wtt hb_165) rfl (fun w hS => r_move hK rfl) fun a hK => ?_
          refine sp (k := 7) rfl hK (by decide) (wtt hb_165) rfl (fun w hS => r_move hK rfl) fun a hK => ?_
          obtain ⟨y_168, h_169, H⟩ := bind_some H
          obtain ⟨b_171, c_172, cs_173, hv_170, hr_174, hc_175, h_1690, h_1691⟩ := hS.row_ix (.head _) hq_68 rfl rfl h_169
          subst hr_174
          refine sp (k := 8) rfl hK (by decide) (wtt hb_165) rfl (fun w hS => r_indexAddr_R Try.underlying48 Try.sizeOf9 hv_170 h_1690 h_1691 hK rfl rfl) fun a hK => ?_
          refine sp (k := 9) rfl hK (by decide) (wtt hb_165) rfl (fun w hS => r_load Try.isAgg9 hK rfl (hS.row_cell (.head _) hv_170 (hc_175 0 _ rfl))) fun a hK => ?_
          refine sp (k := 10) rfl hK (by decide) (wtt hb_165) rfl (fun w hS => r_sbin hK rfl rfl rfl) fun a hK => ?_
          refine sp (k := 11) rfl hK (by decide) rfl rfl (fun w hS => r_pick_t hb_165 hK rfl rfl) fun a hK => ?_
          refine wpPar_nil (NoP_nil ?_)
          exact ⟨(y_166.toList == y_168.toList), H, hK.sub (all_cons rfl (all_cons rfl (all_cons rfl (all_cons rfl (all_nil))))), hS⟩
        · rw [ifb_f hb_165] at H
          refine sp_skip (k := 4) rfl hK (by decide) (wtf hb_165) rfl fun a hK => ?_
          refine sp_skip (k := 5) rfl hK (by decide) (wtf hb_165) rfl fun a hK => ?_
          refine sp_skip (k := 6) rfl hK (by decide) (wtf hb_165) rfl fun a hK => ?_
          refine sp_skip (k := 7) rfl hK (by decide) (wtf hb_165) rfl fun a hK => ?_
          refine sp_skip (k := 8) rfl hK (by decide) (wtf hb_165) rfl fun a hK => ?_
          refine sp_skip (k := 9) rfl hK (by decide) (wtf hb_165) rfl fun a hK => ?_
          refine sp_skip (k := 10) rfl hK (by decide) (wtf hb_165) rfl fun a hK => ?_
          refine sp (k := 11) rfl hK (by decide) rfl rfl (fun w hS => r_pick_f hb_165 hK rfl rfl) fun a hK => ?_
          refine wpPar_nil (NoP_nil ?_)
          exact ⟨false, H, hK.sub (all_cons rfl (all_cons rfl (all_cons rfl (all_cons rfl (all_nil))))), hS⟩
      · rintro a w ⟨x_152, H, hK, hS⟩
        unfold ref11_sign.j1 at H
        refine wp_cond_split (hK.ev rfl) (fun (hb_176 : x_152 = true) => ?_) (fun (hb_176 : x_152 = false) => ?_)
        · rw [ifb_t hb_176] at H
          refine wp_seq ?_
          refine wp_region_lit ?_
          refine sl hK (by decide) rfl rfl (r_move hK rfl) fun a hK => ?_
          refine sl hK (by decide) rfl rfl (r_move hK rfl) fun a hK => ?_
          obtain ⟨y_177, h_178, H⟩ := bind_some H
          obtain ⟨b_180, c_181, cs_182, hv_179, hr_183, hc_184, h_1780, h_1781⟩ := hS.row_ix (.head _) hq_68 rfl rfl h_178
          subst hr_183
          refine sl hK (by decide) rfl rfl (r_indexAddr_R Try.underlying48 Try.sizeOf9 hv_179 h_1780 h_1781 hK rfl rfl) fun a hK => ?_
          refine sl hK (by decide) rfl rfl (r_load Try.isAgg9 hK rfl (hS.row_cell (.head _) hv_179 (hc_184 0 _ rfl))) fun a hK => ?_
          refine sl hK (by decide) rfl rfl (r_assign hK rfl) fun a hK => ?_
          refine wpList_nil ?_
          obtain rfl := Option.some.inj H
          refine wp_ret ?_
          repeat (first | refine ret_then ?_ | refine ret_block ?_ | refine ret_scope ?_)
          exact ret_1 Try.results55 hK (rv_tmp hK rfl) ⟨rfl, hS.bel⟩
        · rw [ifb_f hb_176] at H
          refine wp_skip ?_
          refine wp_region_lit ?_
          refine sl hK (by decide) rfl rfl (r_move hK rfl) fun a hK => ?_
          refine sl hK (by decide) rfl rfl (r_ibin hK rfl rfl rfl) fun a hK => ?_
          refine sl hK (by decide) rfl rfl (r_assign hK rfl) fun a hK => ?_
          refine wpList_nil ?_
          exact ⟨_, Nat.lt_succ_self _, x_65, (IntKind.i64.wrap (x_69 + 1)), _, _, H, hq_68, hK.sub (all_cons rfl (all_cons rfl (all_cons rfl (all_nil)))), hS⟩
    · rw [ifb_f hb_129] at H
      refine wp_exit ?_
      refine wp_seq ?_
      refine wp_region_lit ?_
      refine sl hK (by decide) rfl rfl (r_assign hK rfl) fun a hK => ?_
      refine wpList_nil ?_
      refine wp_seq ?_
      refine wp_seq ?_
      refine wp_region_lit ?_
      refine sl hK (by decide) rfl rfl (r_assign hK rfl) fun a hK => ?_
      refine wpList_nil ?_
      refine wp_block ?_
      refine wp_loop_k (fun k_l2 a w => ∃ (x_198 : Int), ref11_sign.l2 a0 k_l2 x_198 = some r ∧ Kn 44 a [(0, .string a0), (5, .string (⟨#[124, 44, 40, 41, 58, 61, 60, 62]⟩ : ByteArray)), (6, .int .i64 x_198)] ∧ St [] w0 w (fun _ => none) []) ((((⟨#[124, 44, 40, 41, 58, 61, 60, 62]⟩ : ByteArray).size : Int) - 0).toNat + 1) ?_ ?_
      · exact ⟨0, H, hK.sub (all_cons rfl (all_cons rfl (all_cons rfl (all_nil)))), hS.trunc 0⟩
      · rintro k_l2 a w ⟨x_198, H, hK, hS⟩
        cases k_l2 with
        | zero => cases H
        | succ k_l2 =>
        rw [ref11_sign.l2.eq_2] at H
        refine wp_seq ?_
        refine wp_seq ?_
        refine wp_region_lit ?_
        refine sl hK (by decide) rfl rfl (r_move hK rfl) fun a hK => ?_
        refine sl hK (by decide) rfl rfl (r_move hK rfl) fun a hK => ?_
        refine sl hK (by decide) rfl rfl (r_len_str Try.underlying9 hK rfl) fun a hK => ?_
        refine sl hK (by decide) rfl rfl (r_ibin hK rfl rfl rfl) fun a hK => ?_
        refine wpList_nil ?_
        refine wp_cond_split (hK.ev rfl) (fun (hb_212 : (decide (x_198 < ((⟨#[124, 44, 40, 41, 58, 61, 60, 62]⟩ : ByteArray).size : Int))) = true) => ?_) (fun (hb_212 : (decide (x_198 < ((⟨#[124, 44, 40, 41, 58, 61, 60, 62]⟩ : ByteArray).size : Int))) = false) => ?_)
        · rw [ifb_t hb_212] at H
          refine wp_skip ?_
          refine wp_seq ?_
          refine wp_block ?_
          refine wp_seq ?_
          refine par_region (C := fun w => St [] w0 w (fun _ => none) []) [(0, true), (1, true), (2, true), (3, true), (4, true), (5, true)] mixed (by kernel_rfl) hS (fun w hS => hS) fun w hS => ?_
          refine sp (k := 0) rfl hK (by decide) rfl rfl (fun w hS => r_move hK rfl) fun a hK => ?_
          obtain ⟨y_217, h_218, H⟩ := bind_some H
          refine sp (k := 1) rfl hK (by decide) rfl rfl (fun w hS => r_index_str' Try.underlying9 h_218 hK rfl rfl) fun a hK => ?_
          refine sp (k := 2) rfl hK (by decide) rfl rfl (fun w hS => r_move hK rfl) fun a hK => ?_
          refine sp (k := 3) rfl hK (by decide) rfl rfl (fun w hS => r_move hK rfl) fun a hK => ?_
          obtain ⟨y_219, h_220, H⟩ := bind_some H
          refine sp (k := 4) rfl hK (by decide) rfl rfl (fun w hS => r_index_str' Try.underlying9 h_220 hK rfl rfl) fun a hK => ?_
          refine sp (k := 5) rfl hK (by decide) rfl rfl (fun w hS => r_ibin hK rfl rfl rfl) fun a hK => ?_
          refine wpPar_nil (NoP_nil ?_)
          refine wp_cond_split (hK.ev rfl) (fun (hb_221 : (y_217 == y_219) = true) => ?_) (fun (hb_221 : (y_217 == y_219) = false) => ?_)
          · rw [ifb_t hb_221] at H
            refine wp_seq ?_
            refine wp_region_lit ?_
            refine sl hK (by decide) rfl rfl (r_move hK rfl) fun a hK => ?_
            obtain ⟨y_222, h_223, H⟩ := bind_some H
            refine sl hK (by decide) rfl rfl (r_slice_s (lo := none) (hi := some (.const (.int .i64 1))) Try.underlying9 h_223 hK rfl rfl ⟨_, rfl⟩) fun a hK => ?_
            refine sl hK (by decide) rfl rfl (r_assign hK rfl) fun a hK => ?_
            refine wpList_nil ?_
            obtain rfl := Option.some.inj H
            refine wp_ret ?_
            repeat (first | refine ret_then ?_ | refine ret_block ?_ | refine ret_scope ?_)
            exact ret_1 Try.results55 hK (rv_tmp hK rfl) ⟨rfl, hS.bel⟩
          · rw [ifb_f hb_221] at H
            refine wp_skip ?_
            refine wp_region_lit ?_
            refine sl hK (by decide) rfl rfl (r_move hK rfl) fun a hK => ?_
            refine sl hK (by decide) rfl rfl (r_ibin hK rfl rfl rfl) fun a hK => ?_
            refine sl hK (by decide) rfl rfl (r_assign hK rfl) fun a hK => ?_
            refine wpList_nil ?_
            exact ⟨_, Nat.lt_succ_self _, (IntKind.i64.wrap (x_198 + 1)), H, hK.sub (all_cons rfl (all_cons rfl (all_cons rfl (all_nil)))), hS⟩
        · rw [ifb_f hb_212] at H
          refine wp_exit ?_
          refine wp_seq ?_
          refine wp_region_lit ?_
          refine sl hK (by decide) rfl rfl (r_assign hK rfl) fun a hK => ?_
          refine wpList_nil ?_
          obtain rfl := Option.some.inj H
          refine wp_ret ?_
          repeat (first | refine ret_then ?_ | refine ret_block ?_ | refine ret_scope ?_)
          exact ret_1 Try.results55 hK (rv_tmp hK rfl) ⟨rfl, hS.bel⟩

/-! ### catchment/catchmentref11.one: function 37 -/
set_option maxHeartbeats 4000000 in
set_option maxRecDepth 100000 in
theorem ref11_one.calls (a0 : ByteArray) {r : api_Token × Int} (H : ref11_one a0 = some r) (w0 : World) : CallsV Try.prog 37 #[.string a0] w0 (.tuple #[.agg #[.int .i64 r.1.Kind, .string r.1.S, .int .i64 r.1.N, .int .i64 r.1.At], .int .i64 r.2]) := by
  unfold ref11_one at H
  refine enter (args := [.string a0]) Try.func37 rfl Try.ntmps37 rfl fun a hK => ?_
  have hS := St.init (R := fun _ => none) (w := w0) (fun _ _ h => by cases h)
  have hRL := RLe.refl (M := []) w0 (fun _ => none)
  refine wp_seq ?_
  refine wp_region_lit ?_
  refine sl_alloc Try.zeroValue72 hS hK (by decide) rfl rfl fun a w b_1 hS hK => ?_
  refine sl hK (by decide) rfl rfl (r_assign hK rfl) fun a hK => ?_
  refine wpList_nil ?_
  refine wp_seq ?_
  refine wp_region_lit ?_
  refine sl hK (by decide) rfl rfl (r_assign hK rfl) fun a hK => ?_
  refine wpList_nil ?_
  refine wp_seq ?_
  refine wp_block ?_
  refine wp_seq ?_
  refine wp_region_lit ?_
  refine sl hK (by decide) rfl rfl (r_move hK rfl) fun a hK => ?_
  obtain ⟨y_2, h_3, H⟩ := bind_some H
  refine sl hK (by decide) rfl rfl (r_index_str' Try.underlying9 h_3 hK rfl rfl) fun a hK => ?_
  obtain ⟨y_4, h_5, H⟩ := bind_some H
  refine sl_callV Try.call50 hS hK (by decide) rfl rfl rfl (ref11_letter.calls y_2 h_5 _) fun a w hS hK => ?_
  refine sl hK (by decide) rfl rfl (r_assign hK rfl) fun a hK => ?_
  refine wpList_nil ?_
  refine wp_cond_split (hK.ev rfl) (fun (hb_6 : y_4 = true) => ?_) (fun (hb_6 : y_4 = false) => ?_)
  · rw [ifb_t hb_6] at H
    refine wp_seq ?_
    refine wp_block ?_
    refine wp_loop_k (fun k_l0 a w => ∃ (x_21 : Int), ref11_one.l0 a0 k_l0 x_21 = some r ∧ Kn 139 a [(0, .string a0), (2, .pointer (some ⟨b_1, 0, none⟩)), (4, .int .i64 x_21)] ∧ St [] w0 w (fun _ => none) [.cells b_1 [.int .i64 0, .string (⟨#[]⟩ : ByteArray), .int .i64 0, .int .i64 0] 72]) (((a0.size : Int) - 0).toNat + 1) ?_ ?_
    · exact ⟨0, H, hK.sub (all_cons rfl (all_cons rfl (all_cons rfl (all_nil)))), hS⟩
    · rintro k_l0 a w ⟨x_21, H, hK, hS⟩
      cases k_l0 with
      | zero => cases H
      | succ k_l0 =>
      rw [ref11_one.l0.eq_2] at H
      refine wp_seq ?_
      refine wp_seq ?_
      refine wp_mid (fun a w => ∃ (x_46 : Bool), ref11_one.j1 (ref11_one.l0 a0 k_l0) a0 x_21 x_46 = some r ∧ Kn 139 a [(0, .string a0), (2, .pointer (some ⟨b_1, 0, none⟩)), (4, .int .i64 x_21), (32, .bool x_46)] ∧ St [] w0 w (fun _ => none) [.cells b_1 [.int .i64 0, .string (⟨#[]⟩ : ByteArray), .int .i64 0, .int .i64 0] 72]) ?_ ?_
      · refine wp_region_lit ?_
        refine sl hK (by decide) rfl rfl (r_move hK rfl) fun a hK => ?_
        refine sl hK (by decide) rfl rfl (r_move hK rfl) fun a hK => ?_
        refine sl hK (by decide) rfl rfl (r_len_str Try.underlying9 hK rfl) fun a hK => ?_
        refine sl hK (by decide) rfl rfl (r_ibin hK rfl rfl rfl) fun a hK => ?_
        refine sl hK (by decide) rfl rfl (r_move hK rfl) fun a hK => ?_
        rcases or_b (decide (x_21 < (a0.size : Int))) with hb_48 | hb_48
        · rw [ifb_t hb_48] at H
          refine sl hK (by decide) (wtt hb_48) rfl (r_move hK rfl) fun a hK => ?_
          refine sl hK (by decide) (wtt hb_48) rfl (r_move hK rfl) fun a hK => ?_
          obtain ⟨y_49, h_50, H⟩ := bind_some H
          refine sl hK (by decide) (wtt hb_48) rfl (r_index_str' Try.underlying9 h_50 hK rfl rfl) fun a hK => ?_
          obtain ⟨y_51, h_52, H⟩ := bind_some H
          refine sl_callV Try.call51 hS hK (by decide) (wtt hb_48) rfl rfl (ref11_inner.calls y_49 h_52 _) fun a w hS hK => ?_
          refine sl hK (by decide) rfl rfl (r_pick_t hb_48 hK rfl rfl) fun a hK => ?_
          refine wpList_nil ?_
          exact ⟨y_51, H, hK.sub (all_cons rfl (all_cons rfl (all_cons rfl (all_cons rfl (all_nil))))), hS⟩
        · rw [ifb_f hb_48] at H
          refine sl_skip hK (by decide) (wtf hb_48) rfl fun a hK => ?_
          refine sl_skip hK (by decide) (wtf hb_48) rfl fun a hK => ?_
          refine sl_skip hK (by decide) (wtf hb_48) rfl fun a hK => ?_
          refine sl_skip hK (by decide) (wtf hb_48) rfl fun a hK => ?_
          refine sl hK (by decide) rfl rfl (r_pick_f hb_48 hK rfl rfl) fun a hK => ?_
          refine wpList_nil ?_
          exact ⟨false, H, hK.sub (all_cons rfl (all_cons rfl (all_cons rfl (all_cons rfl (all_nil))))), hS⟩
      · rintro a w ⟨x_46, H, hK, hS⟩
        unfold ref11_one.j1 at H
        refine wp_cond_split (hK.ev rfl) (fun (hb_53 : x_46 = true) => ?_) (fun (hb_53 : x_46 = false) => ?_)
        · rw [ifb_t hb_53] at H
          refine wp_skip ?_
          refine wp_block ?_
          refine wp_region_lit ?_
          refine sl hK (by decide) rfl rfl (r_move hK rfl) fun a hK => ?_
          refine sl hK (by decide) rfl rfl (r_ibin hK rfl rfl rfl) fun a hK => ?_
          refine sl hK (by decide) rfl rfl (r_assign hK rfl) fun a hK => ?_
          refine wpList_nil ?_
          exact ⟨_, Nat.lt_succ_self _, (IntKind.i64.wrap (x_21 + 1)), H, hK.sub (all_cons rfl (all_cons rfl (all_cons rfl (all_nil)))), hS⟩
        · rw [ifb_f hb_53] at H
          refine wp_exit ?_
          refine wp_seq ?_
          refine wp_region_lit ?_
          refine sl hK (by decide) rfl rfl (r_move hK rfl) fun a hK => ?_
          refine sl hK (by decide) rfl rfl (r_ibin hK rfl rfl rfl) fun a hK => ?_
          refine wpList_nil ?_
          refine wp_cond_split (hK.ev rfl) (fun (hb_54 : (decide (x_21 ≤ 24)) = true) => ?_) (fun (hb_54 : (decide (x_21 ≤ 24)) = false) => ?_)
          · rw [ifb_t hb_54] at H
            refine wp_seq ?_
            refine wp_region_lit ?_
            refine sl hK (by decide) rfl rfl (r_move hK rfl) fun a hK => ?_
            refine sl hK (by decide) rfl rfl (r_move hK rfl) fun a hK => ?_
            obtain ⟨y_55, h_56, H⟩ := bind_some H
            refine sl hK (by decide) rfl rfl (r_slice_s (lo := none) (hi := some (.tmp 38)) Try.underlying9 h_56 hK rfl rfl ⟨_, rfl⟩) fun a hK => ?_
            refine sl hK (by decide) rfl rfl (r_buildC (ps := [(0, .int .i64 1), (1, .string y_55)]) (c := [.int .i64 1, .string y_55, .int .i64 0, .int .i64 0]) Try.underlying72 Try.zeroValue72 places72 hK rfl (pc_cons rfl (pc_cons rfl pc_nil)) rfl rfl) fun a hK => ?_
            refine sl hK (by decide) rfl rfl (r_move hK rfl) fun a hK => ?_
            refine sl_storeA (vs := [.int .i64 1, .string y_55, .int .i64 0, .int .i64 0]) (c' := [.int .i64 1, .string y_55, .int .i64 0, .int .i64 0]) Try.sizeOf72 hS hK rfl rfl rfl rfl (all_cons rfl (all_cons rfl (all_cons rfl (all_cons rfl (all_nil))))) (Nat.le_of_ble_eq_true rfl) rfl fun a w hS hK => ?_
            refine sl hK (by decide) rfl rfl (r_assign hK rfl) fun a hK => ?_
            refine wpList_nil ?_
            obtain rfl := Option.some.inj H
            refine wp_ret ?_
            repeat (first | refine ret_then ?_ | refine ret_block ?_ | refine ret_scope ?_)
            exact ret_2 Try.results37 hK (rv_cell (c := [.int .i64 1, .string y_55, .int .i64 0, .int .i64 0]) Try.isAgg72 Try.sizeOf72 hS (.head _) rfl hK rfl) (rv_tmp hK rfl) ⟨rfl, hS.bel⟩
          · rw [ifb_f hb_54] at H
            refine wp_skip ?_
            refine wp_seq ?_
            refine wp_region_lit ?_
            refine sl hK (by decide) rfl rfl (r_buildC (ps := []) (c := [.int .i64 0, .string (⟨#[]⟩ : ByteArray), .int .i64 0, .int .i64 0]) Try.underlying72 Try.zeroValue72 places72 hK rfl pc_nil rfl rfl) fun a hK => ?_
            refine sl_storeA (vs := [.int .i64 0, .string (⟨#[]⟩ : ByteArray), .int .i64 0, .int .i64 0]) (c' := [.int .i64 0, .string (⟨#[]⟩ : ByteArray), .int .i64 0, .int .i64 0]) Try.sizeOf72 hS hK rfl rfl rfl rfl (all_cons rfl (all_cons rfl (all_cons rfl (all_cons rfl (all_nil))))) (Nat.le_of_ble_eq_true rfl) rfl fun a w hS hK => ?_
            refine sl hK (by decide) rfl rfl (r_assign hK rfl) fun a hK => ?_
            refine wpList_nil ?_
            obtain rfl := Option.some.inj H
            refine wp_ret ?_
            repeat (first | refine ret_then ?_ | refine ret_block ?_ | refine ret_scope ?_)
            exact ret_2 Try.results37 hK (rv_cell (c := [.int .i64 0, .string (⟨#[]⟩ : ByteArray), .int .i64 0, .int .i64 0]) Try.isAgg72 Try.sizeOf72 hS (.head _) rfl hK rfl) (rv_tmp hK rfl) ⟨rfl, hS.bel⟩
  · rw [ifb_f hb_6] at H
    refine wp_seq ?_
    refine wp_region_lit ?_
    refine sl hK (by decide) rfl rfl (r_move hK rfl) fun a hK => ?_
    obtain ⟨y_57, h_58, H⟩ := bind_some H
    refine sl hK (by decide) rfl rfl (r_index_str' Try.underlying9 h_58 hK rfl rfl) fun a hK => ?_
    refine sl hK (by decide) rfl rfl (r_ibin hK rfl rfl rfl) fun a hK => ?_
    refine sl hK (by decide) rfl rfl (r_assign hK rfl) fun a hK => ?_
    refine wpList_nil ?_
    refine wp_cond_split (hK.ev rfl) (fun (hb_59 : (y_57 == 34) = true) => ?_) (fun (hb_59 : (y_57 == 34) = false) => ?_)
    · rw [ifb_t hb_59] at H
      refine wp_seq ?_
      refine wp_region_lit ?_
      refine sl hK (by decide) rfl rfl (r_move hK rfl) fun a hK => ?_
      obtain ⟨y_60, h_61, H⟩ := bind_some H
      refine sl_callV Try.call52 hS hK (by decide) rfl rfl rfl (ref11_text.calls a0 h_61 _) fun a w hS hK => ?_
      refine sl hK (by decide) rfl rfl (r_move hK rfl) fun a hK => ?_
      refine sl hK (by decide) rfl rfl (r_extract hK rfl rfl) fun a hK => ?_
      refine sl hK (by decide) rfl rfl (r_extract hK rfl rfl) fun a hK => ?_
      refine sl hK (by decide) rfl rfl (r_extract hK rfl rfl) fun a hK => ?_
      refine sl hK (by decide) rfl rfl (r_assign hK rfl) fun a hK => ?_
      refine sl hK (by decide) rfl rfl (r_assign hK rfl) fun a hK => ?_
      refine sl hK (by decide) rfl rfl (r_assign hK rfl) fun a hK => ?_
      refine wpList_nil ?_
      refine wp_seq ?_
      refine wp_region_lit ?_
      refine sl hK (by decide) rfl rfl (r_move hK rfl) fun a hK => ?_
      refine wpList_nil ?_
      refine wp_cond_split (hK.ev rfl) (fun (hb_62 : y_60.2.2 = true) => ?_) (fun (hb_62 : y_60.2.2 = false) => ?_)
      · rw [ifb_t hb_62] at H
        refine wp_seq ?_
        refine wp_region_lit ?_
        refine sl hK (by decide) rfl rfl (r_move hK rfl) fun a hK => ?_
        refine sl hK (by decide) rfl rfl (r_buildC (ps := [(0, .int .i64 3), (1, .string y_60.1)]) (c := [.int .i64 3, .string y_60.1, .int .i64 0, .int .i64 0]) Try.underlying72 Try.zeroValue72 places72 hK rfl (pc_cons rfl (pc_cons rfl pc_nil)) rfl rfl) fun a hK => ?_
        refine sl hK (by decide) rfl rfl (r_move hK rfl) fun a hK => ?_
        refine sl_storeA (vs := [.int .i64 3, .string y_60.1, .int .i64 0, .int .i64 0]) (c' := [.int .i64 3, .string y_60.1, .int .i64 0, .int .i64 0]) Try.sizeOf72 hS hK rfl rfl rfl rfl (all_cons rfl (all_cons rfl (all_cons rfl (all_cons rfl (all_nil))))) (Nat.le_of_ble_eq_true rfl) rfl fun a w hS hK => ?_
        refine sl hK (by decide) rfl rfl (r_assign hK rfl) fun a hK => ?_
        refine wpList_nil ?_
        obtain rfl := Option.some.inj H
        refine wp_ret ?_
        repeat (first | refine ret_then ?_ | refine ret_block ?_ | refine ret_scope ?_)
        exact ret_2 Try.results37 hK (rv_cell (c := [.int .i64 3, .string y_60.1, .int .i64 0, .int .i64 0]) Try.isAgg72 Try.sizeOf72 hS (.head _) rfl hK rfl) (rv_tmp hK rfl) ⟨rfl, hS.bel⟩
      · rw [ifb_f hb_62] at H
        refine wp_skip ?_
        refine wp_seq ?_
        refine wp_region_lit ?_
        refine sl hK (by decide) rfl rfl (r_buildC (ps := []) (c := [.int .i64 0, .string (⟨#[]⟩ : ByteArray), .int .i64 0, .int .i64 0]) Try.underlying72 Try.zeroValue72 places72 hK rfl pc_nil rfl rfl) fun a hK => ?_
        refine sl_storeA (vs := [.int .i64 0, .string (⟨#[]⟩ : ByteArray), .int .i64 0, .int .i64 0]) (c' := [.int .i64 0, .string (⟨#[]⟩ : ByteArray), .int .i64 0, .int .i64 0]) Try.sizeOf72 hS hK rfl rfl rfl rfl (all_cons rfl (all_cons rfl (all_cons rfl (all_cons rfl (all_nil))))) (Nat.le_of_ble_eq_true rfl) rfl fun a w hS hK => ?_
        refine sl hK (by decide) rfl rfl (r_assign hK rfl) fun a hK => ?_
        refine wpList_nil ?_
        obtain rfl := Option.some.inj H
        refine wp_ret ?_
        repeat (first | refine ret_then ?_ | refine ret_block ?_ | refine ret_scope ?_)
        exact ret_2 Try.results37 hK (rv_cell (c := [.int .i64 0, .string (⟨#[]⟩ : ByteArray), .int .i64 0, .int .i64 0]) Try.isAgg72 Try.sizeOf72 hS (.head _) rfl hK rfl) (rv_tmp hK rfl) ⟨rfl, hS.bel⟩
    · rw [ifb_f hb_59] at H
      refine wp_seq ?_
      refine wp_mid (fun a w => ∃ (x_76 : Bool), ref11_one.j2 a0 x_76 = some r ∧ Kn 139 a [(0, .string a0), (2, .pointer (some ⟨b_1, 0, none⟩)), (56, .bool x_76)] ∧ St [] w0 w (fun _ => none) [.cells b_1 [.int .i64 0, .string (⟨#[]⟩ : ByteArray), .int .i64 0, .int .i64 0] 72]) ?_ ?_
      · refine wp_region_lit ?_
        refine sl hK (by decide) rfl rfl (r_move hK rfl) fun a hK => ?_
        obtain ⟨y_78, h_79, H⟩ := bind_some H
        refine sl hK (by decide) rfl rfl (r_index_str' Try.underlying9 h_79 hK rfl rfl) fun a hK => ?_
        obtain ⟨y_80, h_81, H⟩ := bind_some H
        refine sl_callV Try.call53 hS hK (by decide) rfl rfl rfl (ref11_digit.calls y_78 h_81 _) fun a w hS hK => ?_
        refine sl hK (by decide) rfl rfl (r_move hK rfl) fun a hK => ?_
        rcases or_b y_80 with hb_82 | hb_82
        · rw [ifb_t hb_82] at H
          refine sl_skip hK (by decide) (wft hb_82) rfl fun a hK => ?_
          refine sl_skip hK (by decide) (wft hb_82) rfl fun a hK => ?_
          refine sl_skip hK (by decide) (wft hb_82) rfl fun a hK => ?_
          refine sl_skip hK (by decide) (wft hb_82) rfl fun a hK => ?_
          refine sl_skip hK (by decide) rfl rfl fun a hK => ?_
          refine sl_skip hK (by decide) rfl rfl fun a hK => ?_
          refine sl_skip hK (by decide) rfl rfl fun a hK => ?_
          refine sl_skip hK (by decide) (wft hb_82) rfl fun a hK => ?_
          refine sl_skip hK (by decide) (wft hb_82) rfl fun a hK => ?_
          refine sl_skip hK (by decide) rfl rfl fun a hK => ?_
          refine sl_skip hK (by decide) rfl rfl fun a hK => ?_
          refine sl_skip hK (by decide) rfl rfl fun a hK => ?_
          refine sl_skip hK (by decide) (wft hb_82) rfl fun a hK => ?_
          refine sl hK (by decide) rfl rfl (r_pick_t hb_82 hK rfl rfl) fun a hK => ?_
          refine sl hK (by decide) rfl rfl (r_assign hK rfl) fun a hK => ?_
          refine wpList_nil ?_
          exact ⟨true, H, hK.sub (all_cons rfl (all_cons rfl (all_cons rfl (all_nil)))), hS⟩
        · rw [ifb_f hb_82] at H
          refine sl hK (by decide) (wff hb_82) rfl (r_move hK rfl) fun a hK => ?_
          obtain ⟨y_83, h_84, H⟩ := bind_some H
          refine sl hK (by decide) (wff hb_82) rfl (r_index_str' Try.underlying9 h_84 hK rfl rfl) fun a hK => ?_
          refine sl hK (by decide) (wff hb_82) rfl (r_ibin hK rfl rfl rfl) fun a hK => ?_
          refine sl hK (by decide) (wff hb_82) rfl (r_move hK rfl) fun a hK => ?_
          rcases or_b (y_83 == 45) with hb_85 | hb_85
          · rw [ifb_t hb_85] at H
            refine sl hK (by decide) (wtt hb_85) rfl (r_move hK rfl) fun a hK => ?_
            refine sl hK (by decide) (wtt hb_85) rfl (r_len_str Try.underlying9 hK rfl) fun a hK => ?_
            refine sl hK (by decide) (wtt hb_85) rfl (r_ibin hK rfl rfl rfl) fun a hK => ?_
            refine sl hK (by decide) (wff hb_82) rfl (r_pick_t hb_85 hK rfl rfl) fun a hK => ?_
            refine sl hK (by decide) (wff hb_82) rfl (r_move hK rfl) fun a hK => ?_
            rcases or_b (decide ((a0.size : Int) > 1)) with hb_86 | hb_86
            · rw [ifb_t hb_86] at H
              refine sl hK (by decide) (wtt hb_86) rfl (r_move hK rfl) fun a hK => ?_
              obtain ⟨y_87, h_88, H⟩ := bind_some H
              refine sl hK (by decide) (wtt hb_86) rfl (r_index_str' Try.underlying9 h_88 hK rfl rfl) fun a hK => ?_
              obtain ⟨y_89, h_90, H⟩ := bind_some H
              refine sl_callV Try.call53 hS hK (by decide) (wtt hb_86) rfl rfl (ref11_digit.calls y_87 h_90 _) fun a w hS hK => ?_
              refine sl hK (by decide) (wff hb_82) rfl (r_pick_t hb_86 hK rfl rfl) fun a hK => ?_
              refine sl hK (by decide) rfl rfl (r_pick_f hb_82 hK rfl rfl) fun a hK => ?_
              refine sl hK (by decide) rfl rfl (r_assign hK rfl) fun a hK => ?_
              refine wpList_nil ?_
              exact ⟨y_89, H, hK.sub (all_cons rfl (all_cons rfl (all_cons rfl (all_nil)))), hS⟩
            · rw [ifb_f hb_86] at H
              refine sl_skip hK (by decide) (wtf hb_86) rfl fun a hK => ?_
              refine sl_skip hK (by decide) (wtf hb_86) rfl fun a hK => ?_
              refine sl_skip hK (by decide) (wtf hb_86) rfl fun a hK => ?_
              refine sl hK (by decide) (wff hb_82) rfl (r_pick_f hb_86 hK rfl rfl) fun a hK => ?_
              refine sl hK (by decide) rfl rfl (r_pick_f hb_82 hK rfl rfl) fun a hK => ?_
              refine sl hK (by decide) rfl rfl (r_assign hK rfl) fun a hK => ?_
              refine wpList_nil ?_
              exact ⟨false, H, hK.sub (all_cons rfl (all_cons rfl (all_cons rfl (all_nil)))), hS⟩
          · rw [ifb_f hb_85] at H
            refine sl_skip hK (by decide) (wtf hb_85) rfl fun a hK => ?_
            refine sl_skip hK (by decide) (wtf hb_85) rfl fun a hK => ?_
            refine sl_skip hK (by decide) (wtf hb_85) rfl fun a hK => ?_
            refine sl hK (by decide) (wff hb_82) rfl (r_pick_f hb_85 hK rfl rfl) fun a hK => ?_
            refine sl hK (by decide) (wff hb_82) rfl (r_move hK rfl) fun a hK => ?_
            refine sl_skip hK (by decide) rfl rfl fun a hK => ?_
            refine sl_skip hK (by decide) rfl rfl fun a hK => ?_
            refine sl_skip hK (by decide) rfl rfl fun a hK => ?_
            refine sl hK (by decide) (wff hb_82) rfl (r_pick hK rfl rfl rfl) fun a hK => ?_
            refine sl hK (by decide) rfl rfl (r_pick_f hb_82 hK rfl rfl) fun a hK => ?_
            refine sl hK (by decide) rfl rfl (r_assign hK rfl) fun a hK => ?_
            refine wpList_nil ?_
            exact ⟨false, H, hK.sub (all_cons rfl (all_cons rfl (all_cons rfl (all_nil)))), hS⟩
      · rintro a w ⟨x_76, H, hK, hS⟩
        unfold ref11_one.j2 at H
        refine wp_cond_split (hK.ev rfl) (fun (hb_91 : x_76 = true) => ?_) (fun (hb_91 : x_76 = false) => ?_)
        · rw [ifb_t hb_91] at H
          refine wp_seq ?_
          refine wp_region_lit ?_
          refine sl hK (by decide) rfl rfl (r_assign hK rfl) fun a hK => ?_
          refine wpList_nil ?_
          refine wp_seq ?_
          refine wp_block ?_
          refine wp_loop_k (fun k_l3 a w => ∃ (x_106 : Int), ref11_one.l3 a0 k_l3 x_106 = some r ∧ Kn 139 a [(0, .string a0), (2, .pointer (some ⟨b_1, 0, none⟩)), (4, .int .i64 x_106)] ∧ St [] w0 w (fun _ => none) [.cells b_1 [.int .i64 0, .string (⟨#[]⟩ : ByteArray), .int .i64 0, .int .i64 0] 72]) (((a0.size : Int) - 1).toNat + 1) ?_ ?_
          · exact ⟨1, H, hK.sub (all_cons rfl (all_cons rfl (all_cons rfl (all_nil)))), hS⟩
          · rintro k_l3 a w ⟨x_106, H, hK, hS⟩
            cases k_l3 with
            | zero => cases H
            | succ k_l3 =>
            rw [ref11_one.l3.eq_2] at H
            refine wp_seq ?_
            refine wp_seq ?_
            refine wp_mid (fun a w => ∃ (x_131 : Bool), ref11_one.j4 (ref11_one.l3 a0 k_l3) a0 x_106 x_131 = some r ∧ Kn 139 a [(0, .string a0), (2, .pointer (some ⟨b_1, 0, none⟩)), (4, .int .i64 x_106), (84, .bool x_131)] ∧ St [] w0 w (fun _ => none) [.cells b_1 [.int .i64 0, .string (⟨#[]⟩ : ByteArray), .int .i64 0, .int .i64 0] 72]) ?_ ?_
            · refine wp_region_lit ?_
              refine sl hK (by decide) rfl rfl (r_move hK rfl) fun a hK => ?_
              refine sl hK (by decide) rfl rfl (r_move hK rfl) fun a hK => ?_
              refine sl hK (by decide) rfl rfl (r_len_str Try.underlying9 hK rfl) fun a hK => ?_
              refine sl hK (by decide) rfl rfl (r_ibin hK rfl rfl rfl) fun a hK => ?_
              refine sl hK (by decide) rfl rfl (r_move hK rfl) fun a hK => ?_
              rcases or_b (decide (x_106 < (a0.size : Int))) with hb_133 | hb_133
              · rw [ifb_t hb_133] at H
                refine sl hK (by decide) (wtt hb_133) rfl (r_move hK rfl) fun a hK => ?_
                refine sl hK (by decide) (wtt hb_133) rfl (r_move hK rfl) fun a hK => ?_
                obtain ⟨y_134, h_135, H⟩ := bind_some H
                refine sl hK (by decide) (wtt hb_133) rfl (r_index_str' Try.underlying9 h_135 hK rfl rfl) fun a hK => ?_
                obtain ⟨y_136, h_137, H⟩ := bind_some H
                refine sl_callV Try.call53 hS hK (by decide) (wtt hb_133) rfl rfl (ref11_digit.calls y_134 h_137 _) fun a w hS hK => ?_
                refine sl hK (by decide) rfl rfl (r_pick_t hb_133 hK rfl rfl) fun a hK => ?_
                refine wpList_nil ?_
                exact ⟨y_136, H, hK.sub (all_cons rfl (all_cons rfl (all_cons rfl (all_cons rfl (all_nil))))), hS⟩
              · rw [ifb_f hb_133] at H
                refine sl_skip hK (by decide) (wtf hb_133) rfl fun a hK => ?_
                refine sl_skip hK (by decide) (wtf hb_133) rfl fun a hK => ?_
                refine sl_skip hK (by decide) (wtf hb_133) rfl fun a hK => ?_
                refine sl_skip hK (by decide) (wtf hb_133) rfl fun a hK => ?_
                refine sl hK (by decide) rfl rfl (r_pick_f hb_133 hK rfl rfl) fun a hK => ?_
                refine wpList_nil ?_
                exact ⟨false, H, hK.sub (all_cons rfl (all_cons rfl (all_cons rfl (all_cons rfl (all_nil))))), hS⟩
            · rintro a w ⟨x_131, H, hK, hS⟩
              unfold ref11_one.j4 at H
              refine wp_cond_split (hK.ev rfl) (fun (hb_138 : x_131 = true) => ?_) (fun (hb_138 : x_131 = false) => ?_)
              · rw [ifb_t hb_138] at H
                refine wp_skip ?_
                refine wp_block ?_
                refine wp_region_lit ?_
                refine sl hK (by decide) rfl rfl (r_move hK rfl) fun a hK => ?_
                refine sl hK (by decide) rfl rfl (r_ibin hK rfl rfl rfl) fun a hK => ?_
                refine sl hK (by decide) rfl rfl (r_assign hK rfl) fun a hK => ?_
                refine wpList_nil ?_
                exact ⟨_, Nat.lt_succ_self _, (IntKind.i64.wrap (x_106 + 1)), H, hK.sub (all_cons rfl (all_cons rfl (all_cons rfl (all_nil)))), hS⟩
              · rw [ifb_f hb_138] at H
                refine wp_exit ?_
                refine wp_seq ?_
                refine wp_region_lit ?_
                refine sl hK (by decide) rfl rfl (r_move hK rfl) fun a hK => ?_
                refine sl hK (by decide) rfl rfl (r_move hK rfl) fun a hK => ?_
                obtain ⟨y_139, h_140, H⟩ := bind_some H
                refine sl hK (by decide) rfl rfl (r_slice_s (lo := none) (hi := some (.tmp 88)) Try.underlying9 h_140 hK rfl rfl ⟨_, rfl⟩) fun a hK => ?_
                refine sl hK (by decide) rfl rfl (r_assign hK rfl) fun a hK => ?_
                refine wpList_nil ?_
                refine wp_seq ?_
                refine wp_seq ?_
                refine wp_region_lit ?_
                refine sl hK (by decide) rfl rfl (r_move hK rfl) fun a hK => ?_
                obtain ⟨y_141, h_142, H⟩ := bind_some H
                refine sl hK (by decide) rfl rfl (r_index_str' Try.underlying9 h_142 hK rfl rfl) fun a hK => ?_
                refine sl hK (by decide) rfl rfl (r_ibin hK rfl rfl rfl) fun a hK => ?_
                refine wpList_nil ?_
                refine wp_mid (fun a w => ∃ (x_146 : ByteArray), ref11_one.j5 a0 x_106 x_146 = some r ∧ Kn 139 a [(0, .string a0), (2, .pointer (some ⟨b_1, 0, none⟩)), (4, .int .i64 x_106), (8, .string x_146)] ∧ St [] w0 w (fun _ => none) [.cells b_1 [.int .i64 0, .string (⟨#[]⟩ : ByteArray), .int .i64 0, .int .i64 0] 72]) ?_ ?_
                · refine wp_cond_split (hK.ev rfl) (fun (hb_148 : (y_141 == 45) = true) => ?_) (fun (hb_148 : (y_141 == 45) = false) => ?_)
                  · rw [ifb_t hb_148] at H
                    refine wp_region_lit ?_
                    refine sl hK (by decide) rfl rfl (r_move hK rfl) fun a hK => ?_
                    obtain ⟨y_149, h_150, H⟩ := bind_some H
                    refine sl hK (by decide) rfl rfl (r_slice_s (lo := some (.const (.int .i64 1))) (hi := none) Try.underlying9 h_150 hK rfl ⟨_, rfl⟩ rfl) fun a hK => ?_
                    refine sl hK (by decide) rfl rfl (r_assign hK rfl) fun a hK => ?_
                    refine wpList_nil ?_
                    exact ⟨y_149, H, hK.sub (all_cons rfl (all_cons rfl (all_cons rfl (all_cons rfl (all_nil))))), hS⟩
                  · rw [ifb_f hb_148] at H
                    refine wp_skip ?_
                    exact ⟨y_139, H, hK.sub (all_cons rfl (all_cons rfl (all_cons rfl (all_cons rfl (all_nil))))), hS⟩
                · rintro a w ⟨x_146, H, hK, hS⟩
                  unfold ref11_one.j5 at H
                  refine wp_seq ?_
                  refine wp_mid (fun a w => ∃ (x_157 : Bool), ref11_one.j6 a0 x_106 x_146 x_157 = some r ∧ Kn 139 a [(0, .string a0), (2, .pointer (some ⟨b_1, 0, none⟩)), (4, .int .i64 x_106), (8, .string x_146), (9, .bool x_157)] ∧ St [] w0 w (fun _ => none) [.cells b_1 [.int .i64 0, .string (⟨#[]⟩ : ByteArray), .int .i64 0, .int .i64 0] 72]) ?_ ?_
                  · refine wp_region_lit ?_
                    refine sl hK (by decide) rfl rfl (r_move hK rfl) fun a hK => ?_
                    obtain ⟨y_159, h_160, H⟩ := bind_some H
                    refine sl hK (by decide) rfl rfl (r_index_str' Try.underlying9 h_160 hK rfl rfl) fun a hK => ?_
                    refine sl hK (by decide) rfl rfl (r_ibin hK rfl rfl rfl) fun a hK => ?_
                    refine sl hK (by decide) rfl rfl (r_move hK rfl) fun a hK => ?_
                    rcases or_b (y_159 == 48) with hb_161 | hb_161
                    · rw [ifb_t hb_161] at H
                      refine sl hK (by decide) (wtt hb_161) rfl (r_move hK rfl) fun a hK => ?_
                      refine sl hK (by decide) (wtt hb_161) rfl (r_len_str Try.underlying9 hK rfl) fun a hK => ?_
                      refine sl hK (by decide) (wtt hb_161) rfl (r_ibin hK rfl rfl rfl) fun a hK => ?_
                      refine sl hK (by decide) (wtt hb_161) rfl (r_move hK rfl) fun a hK => ?_
                      rcases or_b (decide ((x_146.size : Int) > 1)) with hb_162 | hb_162
                      · rw [ifb_t hb_162] at H
                        refine sl_skip hK (by decide) (wft hb_162) rfl fun a hK => ?_
                        refine sl_skip hK (by decide) (wft hb_162) rfl fun a hK => ?_
                        refine sl_skip hK (by decide) (wft hb_162) rfl fun a hK => ?_
                        refine sl hK (by decide) (wtt hb_161) rfl (r_pick_t hb_162 hK rfl rfl) fun a hK => ?_
                        refine sl hK (by decide) rfl rfl (r_pick_t hb_161 hK rfl rfl) fun a hK => ?_
                        refine sl hK (by decide) rfl rfl (r_assign hK rfl) fun a hK => ?_
                        refine wpList_nil ?_
                        exact ⟨true, H, hK.sub (all_cons rfl (all_cons rfl (all_cons rfl (all_cons rfl (all_cons rfl (all_nil)))))), hS⟩
                      · rw [ifb_f hb_162] at H
                        refine sl hK (by decide) (wff hb_162) rfl (r_move hK rfl) fun a hK => ?_
                        obtain ⟨y_163, h_164, H⟩ := bind_some H
                        refine sl hK (by decide) (wff hb_162) rfl (r_index_str' Try.underlying9 h_164 hK rfl rfl) fun a hK => ?_
                        refine sl hK (by decide) (wff hb_162) rfl (r_ibin hK rfl rfl rfl) fun a hK => ?_
                        refine sl hK (by decide) (wtt hb_161) rfl (r_pick_f hb_162 hK rfl rfl) fun a hK => ?_
                        refine sl hK (by decide) rfl rfl (r_pick_t hb_161 hK rfl rfl) fun a hK => ?_
                        refine sl hK (by decide) rfl rfl (r_assign hK rfl) fun a hK => ?_
                        refine wpList_nil ?_
                        exact ⟨(y_163 == 45), H, hK.sub (all_cons rfl (all_cons rfl (all_cons rfl (all_cons rfl (all_cons rfl (all_nil)))))), hS⟩
                    · rw [ifb_f hb_161] at H
                      refine sl_skip hK (by decide) (wtf hb_161) rfl fun a hK => ?_
                      refine sl_skip hK (by decide) (wtf hb_161) rfl fun a hK => ?_
                      refine sl_skip hK (by decide) (wtf hb_161) rfl fun a hK => ?_
                      refine sl_skip hK (by decide) (wtf hb_161) rfl fun a hK => ?_
                      refine sl_skip hK (by decide) rfl rfl fun a hK => ?_
                      refine sl_skip hK (by decide) rfl rfl fun a hK => ?_
                      refine sl_skip hK (by decide) rfl rfl fun a hK => ?_
                      refine sl_skip hK (by decide) (wtf hb_161) rfl fun a hK => ?_
                      refine sl hK (by decide) rfl rfl (r_pick_f hb_161 hK rfl rfl) fun a hK => ?_
                      refine sl hK (by decide) rfl rfl (r_assign hK rfl) fun a hK => ?_
                      refine wpList_nil ?_
                      exact ⟨false, H, hK.sub (all_cons rfl (all_cons rfl (all_cons rfl (all_cons rfl (all_cons rfl (all_nil)))))), hS⟩
                  · rintro a w ⟨x_157, H, hK, hS⟩
                    unfold ref11_one.j6 at H
                    refine wp_seq ?_
                    refine wp_seq ?_
                    refine wp_mid (fun a w => ∃ (x_172 : Bool), ref11_one.j7 a0 x_106 x_172 = some r ∧ Kn 139 a [(0, .string a0), (2, .pointer (some ⟨b_1, 0, none⟩)), (4, .int .i64 x_106), (125, .bool x_172)] ∧ St [] w0 w (fun _ => none) [.cells b_1 [.int .i64 0, .string (⟨#[]⟩ : ByteArray), .int .i64 0, .int .i64 0] 72]) ?_ ?_
                    · refine wp_region_lit ?_
                      refine sl hK (by decide) rfl rfl (r_move hK rfl) fun a hK => ?_
                      refine sl hK (by decide) rfl rfl (r_move hK rfl) fun a hK => ?_
                      rcases or_b x_157 with hb_174 | hb_174
                      · rw [ifb_t hb_174] at H
                        refine sl_skip hK (by decide) (wft hb_174) rfl fun a hK => ?_
                        refine sl_skip hK (by decide) (wft hb_174) rfl fun a hK => ?_
                        refine sl_skip hK (by decide) (wft hb_174) rfl fun a hK => ?_
                        refine sl hK (by decide) rfl rfl (r_pick_t hb_174 hK rfl rfl) fun a hK => ?_
                        refine sl hK (by decide) rfl rfl (r_move hK rfl) fun a hK => ?_
                        refine sl_skip hK (by decide) rfl rfl fun a hK => ?_
                        refine sl_skip hK (by decide) rfl rfl fun a hK => ?_
                        refine sl_skip hK (by decide) rfl rfl fun a hK => ?_
                        refine sl_skip hK (by decide) rfl rfl fun a hK => ?_
                        refine sl_skip hK (by decide) rfl rfl fun a hK => ?_
                        refine sl_skip hK (by decide) rfl rfl fun a hK => ?_
                        refine sl_skip hK (by decide) rfl rfl fun a hK => ?_
                        refine sl_skip hK (by decide) rfl rfl fun a hK => ?_
                        refine sl_skip hK (by decide) rfl rfl fun a hK => ?_
                        refine sl_skip hK (by decide) rfl rfl fun a hK => ?_
                        refine sl hK (by decide) rfl rfl (r_pick hK rfl rfl rfl) fun a hK => ?_
                        refine wpList_nil ?_
                        exact ⟨true, H, hK.sub (all_cons rfl (all_cons rfl (all_cons rfl (all_cons rfl (all_nil))))), hS⟩
                      · rw [ifb_f hb_174] at H
                        refine sl hK (by decide) (wff hb_174) rfl (r_move hK rfl) fun a hK => ?_
                        refine sl hK (by decide) (wff hb_174) rfl (r_len_str Try.underlying9 hK rfl) fun a hK => ?_
                        refine sl hK (by decide) (wff hb_174) rfl (r_ibin hK rfl rfl rfl) fun a hK => ?_
                        refine sl hK (by decide) rfl rfl (r_pick_f hb_174 hK rfl rfl) fun a hK => ?_
                        refine sl hK (by decide) rfl rfl (r_move hK rfl) fun a hK => ?_
                        rcases or_b (decide ((x_146.size : Int) > 19)) with hb_175 | hb_175
                        · rw [ifb_t hb_175] at H
                          refine sl_skip hK (by decide) (wft hb_175) rfl fun a hK => ?_
                          refine sl_skip hK (by decide) (wft hb_175) rfl fun a hK => ?_
                          refine sl_skip hK (by decide) (wft hb_175) rfl fun a hK => ?_
                          refine sl_skip hK (by decide) (wft hb_175) rfl fun a hK => ?_
                          refine sl_skip hK (by decide) (wft hb_175) rfl fun a hK => ?_
                          refine sl_skip hK (by decide) rfl rfl fun a hK => ?_
                          refine sl_skip hK (by decide) rfl rfl fun a hK => ?_
                          refine sl_skip hK (by decide) rfl rfl fun a hK => ?_
                          refine sl_skip hK (by decide) rfl rfl fun a hK => ?_
                          refine sl_skip hK (by decide) (wft hb_175) rfl fun a hK => ?_
                          refine sl hK (by decide) rfl rfl (r_pick_t hb_175 hK rfl rfl) fun a hK => ?_
                          refine wpList_nil ?_
                          exact ⟨true, H, hK.sub (all_cons rfl (all_cons rfl (all_cons rfl (all_cons rfl (all_nil))))), hS⟩
                        · rw [ifb_f hb_175] at H
                          refine sl hK (by decide) (wff hb_175) rfl (r_move hK rfl) fun a hK => ?_
                          refine sl hK (by decide) (wff hb_175) rfl (r_move hK rfl) fun a hK => ?_
                          refine sl hK (by decide) (wff hb_175) rfl (r_len_str Try.underlying9 hK rfl) fun a hK => ?_
                          refine sl hK (by decide) (wff hb_175) rfl (r_ibin hK rfl rfl rfl) fun a hK => ?_
                          refine sl hK (by decide) (wff hb_175) rfl (r_move hK rfl) fun a hK => ?_
                          rcases or_b (decide (x_106 < (a0.size : Int))) with hb_176 | hb_176
                          · rw [ifb_t hb_176] at H
                            refine sl hK (by decide) (wtt hb_176) rfl (r_move hK rfl) fun a hK => ?_
                            refine sl hK (by decide) (wtt hb_176) rfl (r_move hK rfl) fun a hK => ?_
                            obtain ⟨y_177, h_178, H⟩ := bind_some H
                            refine sl hK (by decide) (wtt hb_176) rfl (r_index_str' Try.underlying9 h_178 hK rfl rfl) fun a hK => ?_
                            obtain ⟨y_179, h_180, H⟩ := bind_some H
                            refine sl_callV Try.call51 hS hK (by decide) (wtt hb_176) rfl rfl (ref11_inner.calls y_177 h_180 _) fun a w hS hK => ?_
                            refine sl hK (by decide) (wff hb_175) rfl (r_pick_t hb_176 hK rfl rfl) fun a hK => ?_
                            refine sl hK (by decide) rfl rfl (r_pick_f hb_175 hK rfl rfl) fun a hK => ?_
                            refine wpList_nil ?_
                            exact ⟨y_179, H, hK.sub (all_cons rfl (all_cons rfl (all_cons rfl (all_cons rfl (all_nil))))), hS⟩
                          · rw [ifb_f hb_176] at H
                            refine sl_skip hK (by decide) (wtf hb_176) rfl fun a hK => ?_
                            refine sl_skip hK (by decide) (wtf hb_176) rfl fun a hK => ?_
                            refine sl_skip hK (by decide) (wtf hb_176) rfl fun a hK => ?_
                            refine sl_skip hK (by decide) (wtf hb_176) rfl fun a hK => ?_
                            refine sl hK (by decide) (wff hb_175) rfl (r_pick_f hb_176 hK rfl rfl) fun a hK => ?_
                            refine sl hK (by decide) rfl rfl (r_pick_f hb_175 hK rfl rfl) fun a hK => ?_
                            refine wpList_nil ?_
                            exact ⟨false, H, hK.sub (all_cons rfl (all_cons rfl (all_cons rfl (all_cons rfl (all_nil))))), hS⟩
                    · rintro a w ⟨x_172, H, hK, hS⟩
                      unfold ref11_one.j7 at H
                      refine wp_cond_split (hK.ev rfl) (fun (hb_181 : x_172 = true) => ?_) (fun (hb_181 : x_172 = false) => ?_)
                      · rw [ifb_t hb_181] at H
                        refine wp_seq ?_
                        refine wp_region_lit ?_
                        refine sl hK (by decide) rfl rfl (r_buildC (ps := []) (c := [.int .i64 0, .string (⟨#[]⟩ : ByteArray), .int .i64 0, .int .i64 0]) Try.underlying72 Try.zeroValue72 places72 hK rfl pc_nil rfl rfl) fun a hK => ?_
                        refine sl_storeA (vs := [.int .i64 0, .string (⟨#[]⟩ : ByteArray), .int .i64 0, .int .i64 0]) (c' := [.int .i64 0, .string (⟨#[]⟩ : ByteArray), .int .i64 0, .int .i64 0]) Try.sizeOf72 hS hK rfl rfl rfl rfl (all_cons rfl (all_cons rfl (all_cons rfl (all_cons rfl (all_nil))))) (Nat.le_of_ble_eq_true rfl) rfl fun a w hS hK => ?_
                        refine sl hK (by decide) rfl rfl (r_assign hK rfl) fun a hK => ?_
                        refine wpList_nil ?_
                        obtain rfl := Option.some.inj H
                        refine wp_ret ?_
                        repeat (first | refine ret_then ?_ | refine ret_block ?_ | refine ret_scope ?_)
                        exact ret_2 Try.results37 hK (rv_cell (c := [.int .i64 0, .string (⟨#[]⟩ : ByteArray), .int .i64 0, .int .i64 0]) Try.isAgg72 Try.sizeOf72 hS (.head _) rfl hK rfl) (rv_tmp hK rfl) ⟨rfl, hS.bel⟩
                      · rw [ifb_f hb_181] at H
                        refine wp_skip ?_
                        refine wp_seq ?_
                        refine wp_region_lit ?_
                        refine sl hK (by decide) rfl rfl (r_move hK rfl) fun a hK => ?_
                        refine sl hK (by decide) rfl rfl (r_move hK rfl) fun a hK => ?_
                        obtain ⟨y_182, h_183, H⟩ := bind_some H
                        refine sl hK (by decide) rfl rfl (r_slice_s (lo := none) (hi := some (.tmp 129)) Try.underlying9 h_183 hK rfl rfl ⟨_, rfl⟩) fun a hK => ?_
                        obtain ⟨y_184, h_185, H⟩ := bind_some H
                        refine sl_callV Try.call54 hS hK (by decide) rfl rfl rfl (ref11_number.calls y_182 h_185 _) fun a w hS hK => ?_
                        refine sl hK (by decide) rfl rfl (r_move hK rfl) fun a hK => ?_
                        refine sl hK (by decide) rfl rfl (r_extract hK rfl rfl) fun a hK => ?_
                        refine sl hK (by decide) rfl rfl (r_extract hK rfl rfl) fun a hK => ?_
                        refine sl hK (by decide) rfl rfl (r_assign hK rfl) fun a hK => ?_
                        refine sl hK (by decide) rfl rfl (r_assign hK rfl) fun a hK => ?_
                        refine wpList_nil ?_
                        refine wp_seq ?_
                        refine wp_region_lit ?_
                        refine sl hK (by decide) rfl rfl (r_move hK rfl) fun a hK => ?_
                        refine wpList_nil ?_
                        refine wp_cond_split (hK.ev rfl) (fun (hb_186 : y_184.2 = true) => ?_) (fun (hb_186 : y_184.2 = false) => ?_)
                        · rw [ifb_t hb_186] at H
                          refine wp_seq ?_
                          refine wp_region_lit ?_
                          refine sl hK (by decide) rfl rfl (r_move hK rfl) fun a hK => ?_
                          refine sl hK (by decide) rfl rfl (r_buildC (ps := [(0, .int .i64 2), (2, .int .i64 y_184.1)]) (c := [.int .i64 2, .string (⟨#[]⟩ : ByteArray), .int .i64 y_184.1, .int .i64 0]) Try.underlying72 Try.zeroValue72 places72 hK rfl (pc_cons rfl (pc_cons rfl pc_nil)) rfl rfl) fun a hK => ?_
                          refine sl hK (by decide) rfl rfl (r_move hK rfl) fun a hK => ?_
                          refine sl_storeA (vs := [.int .i64 2, .string (⟨#[]⟩ : ByteArray), .int .i64 y_184.1, .int .i64 0]) (c' := [.int .i64 2, .string (⟨#[]⟩ : ByteArray), .int .i64 y_184.1, .int .i64 0]) Try.sizeOf72 hS hK rfl rfl rfl rfl (all_cons rfl (all_cons rfl (all_cons rfl (all_cons rfl (all_nil))))) (Nat.le_of_ble_eq_true rfl) rfl fun a w hS hK => ?_
                          refine sl hK (by decide) rfl rfl (r_assign hK rfl) fun a hK => ?_
                          refine wpList_nil ?_
                          obtain rfl := Option.some.inj H
                          refine wp_ret ?_
                          repeat (first | refine ret_then ?_ | refine ret_block ?_ | refine ret_scope ?_)
                          exact ret_2 Try.results37 hK (rv_cell (c := [.int .i64 2, .string (⟨#[]⟩ : ByteArray), .int .i64 y_184.1, .int .i64 0]) Try.isAgg72 Try.sizeOf72 hS (.head _) rfl hK rfl) (rv_tmp hK rfl) ⟨rfl, hS.bel⟩
                        · rw [ifb_f hb_186] at H
                          refine wp_skip ?_
                          refine wp_seq ?_
                          refine wp_region_lit ?_
                          refine sl hK (by decide) rfl rfl (r_buildC (ps := []) (c := [.int .i64 0, .string (⟨#[]⟩ : ByteArray), .int .i64 0, .int .i64 0]) Try.underlying72 Try.zeroValue72 places72 hK rfl pc_nil rfl rfl) fun a hK => ?_
                          refine sl_storeA (vs := [.int .i64 0, .string (⟨#[]⟩ : ByteArray), .int .i64 0, .int .i64 0]) (c' := [.int .i64 0, .string (⟨#[]⟩ : ByteArray), .int .i64 0, .int .i64 0]) Try.sizeOf72 hS hK rfl rfl rfl rfl (all_cons rfl (all_cons rfl (all_cons rfl (all_cons rfl (all_nil))))) (Nat.le_of_ble_eq_true rfl) rfl fun a w hS hK => ?_
                          refine sl hK (by decide) rfl rfl (r_assign hK rfl) fun a hK => ?_
                          refine wpList_nil ?_
                          obtain rfl := Option.some.inj H
                          refine wp_ret ?_
                          repeat (first | refine ret_then ?_ | refine ret_block ?_ | refine ret_scope ?_)
                          exact ret_2 Try.results37 hK (rv_cell (c := [.int .i64 0, .string (⟨#[]⟩ : ByteArray), .int .i64 0, .int .i64 0]) Try.isAgg72 Try.sizeOf72 hS (.head _) rfl hK rfl) (rv_tmp hK rfl) ⟨rfl, hS.bel⟩
        · rw [ifb_f hb_91] at H
          refine wp_seq ?_
          refine wp_region_lit ?_
          refine sl hK (by decide) rfl rfl (r_move hK rfl) fun a hK => ?_
          obtain ⟨y_187, h_188, H⟩ := bind_some H
          refine sl_callV Try.call55 hS hK (by decide) rfl rfl rfl (ref11_sign.calls a0 h_188 _) fun a w hS hK => ?_
          refine sl hK (by decide) rfl rfl (r_assign hK rfl) fun a hK => ?_
          refine wpList_nil ?_
          refine wp_seq ?_
          refine wp_region_lit ?_
          refine sl hK (by decide) rfl rfl (r_move hK rfl) fun a hK => ?_
          refine sl hK (by decide) rfl rfl (r_buildC (ps := [(0, .int .i64 4), (1, .string y_187)]) (c := [.int .i64 4, .string y_187, .int .i64 0, .int .i64 0]) Try.underlying72 Try.zeroValue72 places72 hK rfl (pc_cons rfl (pc_cons rfl pc_nil)) rfl rfl) fun a hK => ?_
          refine sl hK (by decide) rfl rfl (r_move hK rfl) fun a hK => ?_
          refine sl hK (by decide) rfl rfl (r_len_str Try.underlying9 hK rfl) fun a hK => ?_
          refine sl_storeA (vs := [.int .i64 4, .string y_187, .int .i64 0, .int .i64 0]) (c' := [.int .i64 4, .string y_187, .int .i64 0, .int .i64 0]) Try.sizeOf72 hS hK rfl rfl rfl rfl (all_cons rfl (all_cons rfl (all_cons rfl (all_cons rfl (all_nil))))) (Nat.le_of_ble_eq_true rfl) rfl fun a w hS hK => ?_
          refine sl hK (by decide) rfl rfl (r_assign hK rfl) fun a hK => ?_
          refine wpList_nil ?_
          obtain rfl := Option.some.inj H
          refine wp_ret ?_
          repeat (first | refine ret_then ?_ | refine ret_block ?_ | refine ret_scope ?_)
          exact ret_2 Try.results37 hK (rv_cell (c := [.int .i64 4, .string y_187, .int .i64 0, .int .i64 0]) Try.isAgg72 Try.sizeOf72 hS (.head _) rfl hK rfl) (rv_tmp hK rfl) ⟨rfl, hS.bel⟩

/-! ### catchment/catchmentref11.Lex: function 17 -/
set_option maxHeartbeats 4000000 in
set_option maxRecDepth 100000 in
theorem ref11_Lex.calls (a0 : ByteArray) {w0 : World} {R : Hp} (hR : R.sub w0) {r : (List api_Token) × Int × Int} (H : ref11_Lex a0 = some r) : Calls Try.prog 17 #[.string a0] w0 (Rets fun v w' => ∃ (R' : Hp) (u0 : Value) (cu0 : List Value), v = .tuple #[u0, .int .i64 r.2.1, .int .i64 r.2.2] ∧ St [] w0 w' R' [.row 72 4 u0 r.1.length cu0] ∧ RLe [] w0 R R' ∧ Reps ty_api_Token R' cu0 r.1) := by
  unfold ref11_Lex at H
  refine enter (args := [.string a0]) Try.func17 rfl Try.ntmps17 rfl fun a hK => ?_
  have hS := St.init hR
  have hRL := RLe.refl (M := []) w0 R
  refine wp_seq ?_
  refine wp_region_lit ?_
  refine sl hK (by decide) rfl rfl (r_assign hK rfl) fun a hK => ?_
  refine sl hK (by decide) rfl rfl (r_assign hK rfl) fun a hK => ?_
  refine sl hK (by decide) rfl rfl (r_assign hK rfl) fun a hK => ?_
  refine wpList_nil ?_
  refine wp_seq ?_
  refine wp_seq ?_
  refine wp_region_lit ?_
  refine sl hK (by decide) rfl rfl (r_move hK rfl) fun a hK => ?_
  refine sl hK (by decide) rfl rfl (r_len_str Try.underlying9 hK rfl) fun a hK => ?_
  refine sl hK (by decide) rfl rfl (r_ibin hK rfl rfl rfl) fun a hK => ?_
  refine wpList_nil ?_
  refine wp_cond_split (hK.ev rfl) (fun (hb_1 : (decide ((a0.size : Int) > 2048)) = true) => ?_) (fun (hb_1 : (decide ((a0.size : Int) > 2048)) = false) => ?_)
  · rw [ifb_t hb_1] at H
    refine wp_seq ?_
    refine wp_region_lit ?_
    refine sl hK (by decide) rfl rfl (r_assign hK rfl) fun a hK => ?_
    refine sl hK (by decide) rfl rfl (r_assign hK rfl) fun a hK => ?_
    refine sl hK (by decide) rfl rfl (r_assign hK rfl) fun a hK => ?_
    refine wpList_nil ?_
    have hS := hS.row_nil 72 4
    have hq_3 : Reps ty_api_Token R [] ([] : List api_Token) := Reps.nil _ _
    obtain rfl := Option.some.inj H
    refine wp_ret ?_
    repeat (first | refine ret_then ?_ | refine ret_block ?_ | refine ret_scope ?_)
    exact ret_3 Try.results17 hK (rv_tmp hK rfl) (rv_tmp hK rfl) (rv_tmp hK rfl) ⟨_, rfl, _, _, _, rfl, hS, hRL, hq_3⟩
  · rw [ifb_f hb_1] at H
    refine wp_skip ?_
    refine wp_seq ?_
    refine wp_region_lit ?_
    refine sl hK (by decide) rfl rfl (r_assign hK rfl) fun a hK => ?_
    refine wpList_nil ?_
    refine wp_seq ?_
    refine wp_region_lit ?_
    refine sl hK (by decide) rfl rfl (r_assign hK rfl) fun a hK => ?_
    refine wpList_nil ?_
    refine wp_seq ?_
    refine wp_block ?_
    refine wp_loop_k (fun k_l0 a w => ∃ (x_100 : List api_Token) (x_104 : Int) (v_101 : Value) (cs_102 : List Value), ref11_Lex.l0 a0 k_l0 x_100 x_104 = some r ∧ Reps ty_api_Token R cs_102 x_100 ∧ Kn 60 a [(0, .string a0), (5, v_101), (6, .int .i64 x_104)] ∧ St [] w0 w R [.row 72 4 v_101 x_100.length cs_102]) (((a0.size : Int) - 0).toNat + 1) ?_ ?_
    · have hS := hS.row_nil 72 4
      have hq_195 : Reps ty_api_Token R [] ([] : List api_Token) := Reps.nil _ _
      exact ⟨[], 0, _, _, H, hq_195, hK.sub (all_cons rfl (all_cons rfl (all_cons rfl (all_nil)))), hS⟩
    · rintro k_l0 a w ⟨x_100, x_104, v_101, cs_102, H, hq_103, hK, hS⟩
      cases k_l0 with
      | zero => cases H
      | succ k_l0 =>
      rw [ref11_Lex.l0.eq_2] at H
      refine wp_seq ?_
      refine wp_seq ?_
      refine wp_region_lit ?_
      refine sl hK (by decide) rfl rfl (r_move hK rfl) fun a hK => ?_
      refine sl hK (by decide) rfl rfl (r_move hK rfl) fun a hK => ?_
      refine sl hK (by decide) rfl rfl (r_len_str Try.underlying9 hK rfl) fun a hK => ?_
      refine sl hK (by decide) rfl rfl (r_ibin hK rfl rfl rfl) fun a hK => ?_
      refine wpList_nil ?_
      refine wp_cond_split (hK.ev rfl) (fun (hb_196 : (decide (x_104 < (a0.size : Int))) = true) => ?_) (fun (hb_196 : (decide (x_104 < (a0.size : Int))) = false) => ?_)
      · rw [ifb_t hb_196] at H
        refine wp_skip ?_
        refine wp_mid (fun a w => ∃ (x_238 : List api_Token) (x_242 : Int) (v_239 : Value) (cs_240 : List Value), ref11_Lex.j1 (ref11_Lex.l0 a0 k_l0) a0 x_238 x_242 = some r ∧ Reps ty_api_Token R cs_240 x_238 ∧ Kn 60 a [(0, .string a0), (5, v_239), (6, .int .i64 x_242)] ∧ St [] w0 w R [.row 72 4 v_239 x_238.length cs_240]) ?_ ?_
        · refine wp_block ?_
          refine wp_seq ?_
          refine wp_seq ?_
          refine wp_mid (fun a w => ∃ (x_255 : Bool), ref11_Lex.j2 (ref11_Lex.l0 a0 k_l0) a0 x_100 x_104 x_255 = some r ∧ Kn 60 a [(0, .string a0), (5, v_101), (6, .int .i64 x_104), (37, .bool x_255)] ∧ St [] w0 w R [.row 72 4 v_101 x_100.length cs_102]) ?_ ?_
          · refine wp_region_lit ?_
            refine sl hK (by decide) rfl rfl (r_move hK rfl) fun a hK => ?_
            refine sl hK (by decide) rfl rfl (r_move hK rfl) fun a hK => ?_
            obtain ⟨y_257, h_258, H⟩ := bind_some H
            refine sl hK (by decide) rfl rfl (r_index_str' Try.underlying9 h_258 hK rfl rfl) fun a hK => ?_
            refine sl hK (by decide) rfl rfl (r_ibin hK rfl rfl rfl) fun a hK => ?_
            refine sl hK (by decide) rfl rfl (r_move hK rfl) fun a hK => ?_
            rcases or_b (y_257 == 32) with hb_259 | hb_259
            · rw [ifb_t hb_259] at H
              refine sl_skip hK (by decide) (wft hb_259) rfl fun a hK => ?_
              refine sl_skip hK (by decide) (wft hb_259) rfl fun a hK => ?_
              refine sl_skip hK (by decide) (wft hb_259) rfl fun a hK => ?_
              refine sl_skip hK (by decide) (wft hb_259) rfl fun a hK => ?_
              refine sl hK (by decide) rfl rfl (r_pick_t hb_259 hK rfl rfl) fun a hK => ?_
              refine sl hK (by decide) rfl rfl (r_move hK rfl) fun a hK => ?_
              refine sl_skip hK (by decide) rfl rfl fun a hK => ?_
              refine sl_skip hK (by decide) rfl rfl fun a hK => ?_
              refine sl_skip hK (by decide) rfl rfl fun a hK => ?_
              refine sl_skip hK (by decide) rfl rfl fun a hK => ?_
              refine sl hK (by decide) rfl rfl (r_pick hK rfl rfl rfl) fun a hK => ?_
              refine sl hK (by decide) rfl rfl (r_move hK rfl) fun a hK => ?_
              refine sl_skip hK (by decide) rfl rfl fun a hK => ?_
              refine sl_skip hK (by decide) rfl rfl fun a hK => ?_
              refine sl_skip hK (by decide) rfl rfl fun a hK => ?_
              refine sl_skip hK (by decide) rfl rfl fun a hK => ?_
              refine sl hK (by decide) rfl rfl (r_pick hK rfl rfl rfl) fun a hK => ?_
              refine wpList_nil ?_
              exact ⟨true, H, hK.sub (all_cons rfl (all_cons rfl (all_cons rfl (all_cons rfl (all_nil))))), hS⟩
            · rw [ifb_f hb_259] at H
              refine sl hK (by decide) (wff hb_259) rfl (r_move hK rfl) fun a hK => ?_
              refine sl hK (by decide) (wff hb_259) rfl (r_move hK rfl) fun a hK => ?_
              obtain ⟨y_260, h_261, H⟩ := bind_some H
              refine sl hK (by decide) (wff hb_259) rfl (r_index_str' Try.underlying9 h_261 hK rfl rfl) fun a hK => ?_
              refine sl hK (by decide) (wff hb_259) rfl (r_ibin hK rfl rfl rfl) fun a hK => ?_
              refine sl hK (by decide) rfl rfl (r_pick_f hb_259 hK rfl rfl) fun a hK => ?_
              refine sl hK (by decide) rfl rfl (r_move hK rfl) fun a hK => ?_
              rcases or_b (y_260 == 9) with hb_262 | hb_262
              · rw [ifb_t hb_262] at H
                refine sl_skip hK (by decide) (wft hb_262) rfl fun a hK => ?_
                refine sl_skip hK (by decide) (wft hb_262) rfl fun a hK => ?_
                refine sl_skip hK (by decide) (wft hb_262) rfl fun a hK => ?_
                refine sl_skip hK (by decide) (wft hb_262) rfl fun a hK => ?_
                refine sl hK (by decide) rfl rfl (r_pick_t hb_262 hK rfl rfl) fun a hK => ?_
                refine sl hK (by decide) rfl rfl (r_move hK rfl) fun a hK => ?_
                refine sl_skip hK (by decide) rfl rfl fun a hK => ?_
                refine sl_skip hK (by decide) rfl rfl fun a hK => ?_
                refine sl_skip hK (by decide) rfl rfl fun a hK => ?_
                refine sl_skip hK (by decide) rfl rfl fun a hK => ?_
                refine sl hK (by decide) rfl rfl (r_pick hK rfl rfl rfl) fun a hK => ?_
                refine wpList_nil ?_
                exact ⟨true, H, hK.sub (all_cons rfl (all_cons rfl (all_cons rfl (all_cons rfl (all_nil))))), hS⟩
              · rw [ifb_f hb_262] at H
                refine sl hK (by decide) (wff hb_262) rfl (r_move hK rfl) fun a hK => ?_
                refine sl hK (by decide) (wff hb_262) rfl (r_move hK rfl) fun a hK => ?_
                obtain ⟨y_263, h_264, H⟩ := bind_some H
                refine sl hK (by decide) (wff hb_262) rfl (r_index_str' Try.underlying9 h_264 hK rfl rfl) fun a hK => ?_
                refine sl hK (by decide) (wff hb_262) rfl (r_ibin hK rfl rfl rfl) fun a hK => ?_
                refine sl hK (by decide) rfl rfl (r_pick_f hb_262 hK rfl rfl) fun a hK => ?_
                refine sl hK (by decide) rfl rfl (r_move hK rfl) fun a hK => ?_
                rcases or_b (y_263 == 10) with hb_265 | hb_265
                · rw [ifb_t hb_265] at H
                  refine sl_skip hK (by decide) (wft hb_265) rfl fun a hK => ?_
                  refine sl_skip hK (by decide) (wft hb_265) rfl fun a hK => ?_
                  refine sl_skip hK (by decide) (wft hb_265) rfl fun a hK => ?_
                  refine sl_skip hK (by decide) (wft hb_265) rfl fun a hK => ?_
                  refine sl hK (by decide) rfl rfl (r_pick_t hb_265 hK rfl rfl) fun a hK => ?_
                  refine wpList_nil ?_
                  exact ⟨true, H, hK.sub (all_cons rfl (all_cons rfl (all_cons rfl (all_cons rfl (all_nil))))), hS⟩
                · rw [ifb_f hb_265] at H
                  refine sl hK (by decide) (wff hb_265) rfl (r_move hK rfl) fun a hK => ?_
                  refine sl hK (by decide) (wff hb_265) rfl (r_move hK rfl) fun a hK => ?_
                  obtain ⟨y_266, h_267, H⟩ := bind_some H
                  refine sl hK (by decide) (wff hb_265) rfl (r_index_str' Try.underlying9 h_267 hK rfl rfl) fun a hK => ?_
                  refine sl hK (by decide) (wff hb_265) rfl (r_ibin hK rfl rfl rfl) fun a hK => ?_
                  refine sl hK (by decide) rfl rfl (r_pick_f hb_265 hK rfl rfl) fun a hK => ?_
                  refine wpList_nil ?_
                  exact ⟨(y_266 == 13), H, hK.sub (all_cons rfl (all_cons rfl (all_cons rfl (all_cons rfl (all_nil))))), hS⟩
          · rintro a w ⟨x_255, H, hK, hS⟩
            unfold ref11_Lex.j2 at H
            refine wp_cond_split (hK.ev rfl) (fun (hb_268 : x_255 = true) => ?_) (fun (hb_268 : x_255 = false) => ?_)
            · rw [ifb_t hb_268] at H
              refine wp_seq ?_
              refine wp_region_lit ?_
              refine sl hK (by decide) rfl rfl (r_move hK rfl) fun a hK => ?_
              refine sl hK (by decide) rfl rfl (r_ibin hK rfl rfl rfl) fun a hK => ?_
              refine sl hK (by decide) rfl rfl (r_assign hK rfl) fun a hK => ?_
              refine wpList_nil ?_
              refine wp_exit ?_
              exact ⟨x_100, (IntKind.i64.wrap (x_104 + 1)), _, _, H, hq_103, hK.sub (all_cons rfl (all_cons rfl (all_cons rfl (all_nil)))), hS⟩
            · rw [ifb_f hb_268] at H
              refine wp_skip ?_
              refine wp_seq ?_
              refine wp_region_lit ?_
              refine sl hK (by decide) rfl rfl (r_move hK rfl) fun a hK => ?_
              refine sl hK (by decide) rfl rfl (r_move hK rfl) fun a hK => ?_
              obtain ⟨y_269, h_270, H⟩ := bind_some H
              refine sl hK (by decide) rfl rfl (r_slice_s (lo := some (.tmp 42)) (hi := none) Try.underlying9 h_270 hK rfl ⟨_, rfl⟩ rfl) fun a hK => ?_
              obtain ⟨y_271, h_272, H⟩ := bind_some H
              refine sl_callV Try.call37 hS hK (by decide) rfl rfl rfl (ref11_one.calls y_269 h_272 _) fun a w hS hK => ?_
              refine sl hK (by decide) rfl rfl (r_move hK rfl) fun a hK => ?_
              refine sl hK (by decide) rfl rfl (r_extract hK rfl rfl) fun a hK => ?_
              refine sl hK (by decide) rfl rfl (r_extract hK rfl rfl) fun a hK => ?_
              refine sl_alloc Try.zeroValue72 hS hK (by decide) rfl rfl fun a w b_273 hS hK => ?_
              refine sl_storeA (vs := [.int .i64 y_271.1.Kind, .string y_271.1.S, .int .i64 y_271.1.N, .int .i64 y_271.1.At]) (c' := [.int .i64 y_271.1.Kind, .string y_271.1.S, .int .i64 y_271.1.N, .int .i64 y_271.1.At]) Try.sizeOf72 hS hK rfl rfl rfl rfl (all_cons rfl (all_cons rfl (all_cons rfl (all_cons rfl (all_nil))))) (Nat.le_of_ble_eq_true rfl) rfl fun a w hS hK => ?_
              refine sl hK (by decide) rfl rfl (r_assign hK rfl) fun a hK => ?_
              refine wpList_nil ?_
              refine wp_seq ?_
              refine wp_seq ?_
              refine wp_region_lit ?_
              refine sl hK (by decide) rfl rfl (r_move hK rfl) fun a hK => ?_
              refine sl hK (by decide) rfl rfl (r_ibin hK rfl rfl rfl) fun a hK => ?_
              refine wpList_nil ?_
              refine wp_cond_split (hK.ev rfl) (fun (hb_274 : (y_271.2 == 0) = true) => ?_) (fun (hb_274 : (y_271.2 == 0) = false) => ?_)
              · rw [ifb_t hb_274] at H
                refine wp_seq ?_
                refine wp_region_lit ?_
                refine sl hK (by decide) rfl rfl (r_move hK rfl) fun a hK => ?_
                refine sl hK (by decide) rfl rfl (r_assign hK rfl) fun a hK => ?_
                refine sl hK (by decide) rfl rfl (r_assign hK rfl) fun a hK => ?_
                refine sl hK (by decide) rfl rfl (r_assign hK rfl) fun a hK => ?_
                refine wpList_nil ?_
                have hS := hS.row_nil 72 4
                have hq_276 : Reps ty_api_Token R [] ([] : List api_Token) := Reps.nil _ _
                obtain rfl := Option.some.inj H
                refine wp_ret ?_
                repeat (first | refine ret_then ?_ | refine ret_block ?_ | refine ret_scope ?_)
                exact ret_3 Try.results17 hK (rv_tmp hK rfl) (rv_tmp hK rfl) (rv_tmp hK rfl) ⟨_, rfl, _, _, _, rfl, (hS.trunc 1), hRL, hq_276⟩
              · rw [ifb_f hb_274] at H
                refine wp_skip ?_
                refine wp_seq ?_
                refine wp_region_lit ?_
                refine sl hK (by decide) rfl rfl (r_move hK rfl) fun a hK => ?_
                refine sl hK (by decide) rfl rfl (r_fieldAddr Try.underlying72 rfl Try.sizeOf3 hK rfl) fun a hK => ?_
                refine sl_store1 (c' := [.int .i64 y_271.1.Kind, .string y_271.1.S, .int .i64 y_271.1.N, .int .i64 x_104]) Try.sizeOf3 hS hK rfl rfl rfl rfl (Nat.le_of_ble_eq_true rfl) rfl fun a w hS hK => ?_
                refine wpList_nil ?_
                refine wp_seq ?_
                refine wp_region_lit ?_
                refine sl hK (by decide) rfl rfl (r_move hK rfl) fun a hK => ?_
                refine sl hK (by decide) rfl rfl (r_loadA (cs := [.int .i64 y_271.1.Kind, .string y_271.1.S, .int .i64 y_271.1.N, .int .i64 x_104]) Try.isAgg72 Try.sizeOf72 rfl hK rfl (hS.cells_of (m := 4) (.head _) rfl)) fun a hK => ?_
                refine sl_buildSliceF (zc := [.int .i64 0, .string (⟨#[]⟩ : ByteArray), .int .i64 0, .int .i64 0]) (ps := [(0, .agg #[.int .i64 y_271.1.Kind, .string y_271.1.S, .int .i64 y_271.1.N, .int .i64 x_104])]) (c := [.int .i64 y_271.1.Kind, .string y_271.1.S, .int .i64 y_271.1.N, .int .i64 x_104]) [[.int .i64 y_271.1.Kind, .string y_271.1.S, .int .i64 y_271.1.N, .int .i64 x_104]] Try.underlying41 Try.sizeOf72 Try.zeroValue72 rfl (pc_cons rfl pc_nil) rfl rfl (Nat.le_of_ble_eq_true rfl) rfl (all_cons rfl (all_nil)) rfl hS hK (by decide) rfl fun a w b_277 hS hK => ?_
                obtain ⟨y_278, h_279, H⟩ := bind_some H
                have hS := hS.pk2
                refine sl_append_L (ty := ty_api_Token) (ys := [(⟨y_271.1.Kind, y_271.1.S, y_271.1.N, x_104⟩ : api_Token)]) elT41 (by decide) rfl hq_103 rfl (Reps.cons (show Ty.rep ty_api_Token _ [.int .i64 y_271.1.Kind, .string y_271.1.S, .int .i64 y_271.1.N, .int .i64 x_104] (⟨y_271.1.Kind, y_271.1.S, y_271.1.N, x_104⟩ : api_Token) from rfl) (Reps.nil _ _)) rfl h_279 hS hK (by decide) rfl rfl rfl fun a w v_280 cs_281 hq_282 hS hK => ?_
                refine sl hK (by decide) rfl rfl (r_assign hK rfl) fun a hK => ?_
                refine wpList_nil ?_
                refine wp_region_lit ?_
                refine sl hK (by decide) rfl rfl (r_move hK rfl) fun a hK => ?_
                refine sl hK (by decide) rfl rfl (r_move hK rfl) fun a hK => ?_
                refine sl hK (by decide) rfl rfl (r_ibin hK rfl rfl rfl) fun a hK => ?_
                refine sl hK (by decide) rfl rfl (r_assign hK rfl) fun a hK => ?_
                refine wpList_nil ?_
                exact ⟨y_278, (IntKind.i64.wrap (x_104 + y_271.2)), _, _, H, hq_282, hK.sub (all_cons rfl (all_cons rfl (all_cons rfl (all_nil)))), hS.trunc 1⟩
        · rintro a w ⟨x_238, x_242, v_239, cs_240, H, hq_241, hK, hS⟩
          unfold ref11_Lex.j1 at H
          exact ⟨_, Nat.lt_succ_self _, x_238, x_242, _, _, H, hq_241, hK.sub (all_cons rfl (all_cons rfl (all_cons rfl (all_nil)))), hS⟩
      · rw [ifb_f hb_196] at H
        refine wp_exit ?_
        refine wp_seq ?_
        refine wp_region_lit ?_
        refine sl hK (by decide) rfl rfl (r_move hK rfl) fun a hK => ?_
        refine sl hK (by decide) rfl rfl (r_assign hK rfl) fun a hK => ?_
        refine sl hK (by decide) rfl rfl (r_assign hK rfl) fun a hK => ?_
        refine sl hK (by decide) rfl rfl (r_assign hK rfl) fun a hK => ?_
        refine wpList_nil ?_
        obtain rfl := Option.some.inj H
        refine wp_ret ?_
        repeat (first | refine ret_then ?_ | refine ret_block ?_ | refine ret_scope ?_)
        exact ret_3 Try.results17 hK (rv_tmp hK rfl) (rv_tmp hK rfl) (rv_tmp hK rfl) ⟨_, rfl, _, _, _, rfl, hS, hRL, hq_103⟩

/-! ### (*catchment/catchmentref12.reader).is: function 68 -/
set_option maxHeartbeats 4000000 in
set_option maxRecDepth 100000 in
theorem ref12_reader_is.calls (a0 : catchmentref12_reader) (a1 : ByteArray) {w0 : World} {RA : Hp} {b0 : Nat} {o0 : Nat} {v0_0 : Value} {v0_1 : Value} (hRA : RA.sub w0) (hc0 : ∀ j u, ([v0_0, .int .i64 a0.At, v0_1, .int .i64 a0.E, .int .i64 a0.Depth] : List Value)[j]? = some u → RA.cell b0 (o0 + j) = some u) (h0_0 : SlR ty_api_Token RA v0_0 a0.L) (h0_1 : SlR ty_api_Node RA v0_1 a0.Q) {r : Bool} (H : ref12_reader_is a0 a1 = some r) : CallsV Try.prog 68 #[.pointer (some ⟨b0, o0, none⟩), .string a1] w0 (.bool r) := by
  unfold ref12_reader_is at H
  refine enter (args := [.pointer (some ⟨b0, o0, none⟩), .string a1]) Try.func68 rfl Try.ntmps68 rfl fun a hK => ?_
  have hS := St.init (R := fun _ => none) (w := w0) (fun _ _ h => by cases h)
  have hRL := RLe.refl (M := []) w0 (fun _ => none)
  refine wp_seq ?_
  refine wp_region_lit ?_
  refine sl hK (by decide) rfl rfl (r_assign hK rfl) fun a hK => ?_
  refine wpList_nil ?_
  refine wp_seq ?_
  refine par_region (C := fun w => St [] w0 w (fun _ => none) []) [(0, true), (1, true), (2, true), (3, true), (4, true), (5, true), (6, true), (7, true), (8, true), (9, true), (10, true), (11, true), (12, true), (13, true), (14, true), (15, true), (16, true), (17, true), (18, true), (19, true), (20, true), (21, true), (22, true), (23, true), (24, true), (25, true), (26, true), (27, true), (28, true), (29, true), (30, true), (31, true), (32, true), (33, true), (34, true), (35, true), (36, true), (37, true), (38, true), (39, true), (40, true), (41, true), (42, true), (43, true), (44, true), (45, true), (46, true), (47, true), (48, true), (49, true), (50, true), (51, true), (52, true), (53, true), (54, true), (55, true), (56, true), (57, true), (58, true), (59, true), (60, true)] mixed (by kernel_rfl) hS (fun w hS => hS) fun w hS => ?_
  refine sp (k := 0) rfl hK (by decide) rfl rfl (fun w hS => r_move hK rfl) fun a hK => ?_
  refine sp (k := 1) rfl hK (by decide) rfl rfl (fun w hS => r_nilCheck hK rfl) fun a hK => ?_
  refine sp (k := 2) rfl hK (by decide) rfl rfl (fun w hS => r_fieldAddr Try.underlying77 rfl Try.sizeOf42 hK rfl) fun a hK => ?_
  refine sp (k := 3) rfl hK (by decide) rfl rfl (fun w hS => r_load Try.isAgg42 hK rfl ((hS.ra hRA nil_not).cell (hc0 3 _ rfl))) fun a hK => ?_
  refine sp (k := 4) rfl hK (by decide) rfl rfl (fun w hS => r_ibin hK rfl rfl rfl) fun a hK => ?_
  refine sp (k := 5) rfl hK (by decide) rfl rfl (fun w hS => r_move hK rfl) fun a hK => ?_
  rcases or_b (a0.E == 0) with hb_41 | hb_41
  · rw [ifb_t hb_41] at H
    refine sp (k := 6) rfl hK (by decide) (wtt hb_41) rfl (fun w hS => r_move hK rfl) fun a hK => ?_
    refine sp (k := 7) rfl hK (by decide) (wtt hb_41) rfl (fun w hS => r_nilCheck hK rfl) fun a hK => ?_
    refine sp (k := 8) rfl hK (by decide) (wtt hb_41) rfl (fun w hS => r_fieldAddr Try.underlying77 rfl Try.sizeOf3 hK rfl) fun a hK => ?_
    refine sp (k := 9) rfl hK (by decide) (wtt hb_41) rfl (fun w hS => r_load Try.isAgg3 hK rfl ((hS.ra hRA nil_not).cell (hc0 1 _ rfl))) fun a hK => ?_
    refine sp (k := 10) rfl hK (by decide) (wtt hb_41) rfl (fun w hS => r_move hK rfl) fun a hK => ?_
    refine sp (k := 11) rfl hK (by decide) (wtt hb_41) rfl (fun w hS => r_nilCheck hK rfl) fun a hK => ?_
    refine sp (k := 12) rfl hK (by decide) (wtt hb_41) rfl (fun w hS => r_fieldAddr Try.underlying77 rfl Try.sizeOf41 hK rfl) fun a hK => ?_
    refine sp (k := 13) rfl hK (by decide) (wtt hb_41) rfl (fun w hS => r_load Try.isAgg41 hK rfl ((hS.ra hRA nil_not).cell (hc0 0 _ rfl))) fun a hK => ?_
    refine sp (k := 14) rfl hK (by decide) (wtt hb_41) rfl (fun w hS => r_len_R Try.underlying41 h0_0 hK rfl) fun a hK => ?_
    refine sp (k := 15) rfl hK (by decide) (wtt hb_41) rfl (fun w hS => r_ibin hK rfl rfl rfl) fun a hK => ?_
    refine sp (k := 16) rfl hK (by decide) rfl rfl (fun w hS => r_pick_t hb_41 hK rfl rfl) fun a hK => ?_
    refine sp (k := 17) rfl hK (by decide) rfl rfl (fun w hS => r_move hK rfl) fun a hK => ?_
    rcases or_b (decide (a0.At < (a0.L.length : Int))) with hb_42 | hb_42
    · rw [ifb_t hb_42] at H
      refine sp (k := 18) rfl hK (by decide) (wtt hb_42) rfl (fun w hS => r_move hK rfl) fun a hK => ?_
      refine sp (k := 19) rfl hK (by decide) (wtt hb_42) rfl (fun w hS => r_nilCheck hK rfl) fun a hK => ?_
      refine sp (k := 20) rfl hK (by decide) (wtt hb_42) rfl (fun w hS => r_fieldAddr Try.underlying77 rfl Try.sizeOf41 hK rfl) fun a hK => ?_
      refine sp (k := 21) rfl hK (by decide) (wtt hb_42) rfl (fun w hS => r_load Try.isAgg41 hK rfl ((hS.ra hRA nil_not).cell (hc0 0 _ rfl))) fun a hK => ?_
      refine sp (k := 22) rfl hK (by decide) (wtt hb_42) rfl (fun w hS => r_move hK rfl) fun a hK => ?_
      refine sp (k := 23) rfl hK (by decide) (wtt hb_42) rfl (fun w hS => r_nilCheck hK rfl) fun a hK => ?_
      refine sp (k := 24) rfl hK (by decide) (wtt hb_42) rfl (fun w hS => r_fieldAddr Try.underlying77 rfl Try.sizeOf3 hK rfl) fun a hK => ?_
      refine sp (k := 25) rfl hK (by decide) (wtt hb_42) rfl (fun w hS => r_load Try.isAgg3 hK rfl ((hS.ra hRA nil_not).cell (hc0 1 _ rfl))) fun a hK => ?_
      obtain ⟨y_43, h_44, H⟩ := bind_some H
      obtain ⟨b_45, o_46, c_47, cs_48, hv_49, hr_50, hc_51, h_440, h_441⟩ := h0_0.ix h_44
      subst hr_50
      refine sp (k := 26) rfl hK (by decide) (wtt hb_42) rfl (fun w hS => r_indexAddr_R Try.underlying41 Try.sizeOf72 hv_49 h_440 h_441 hK rfl rfl) fun a hK => ?_
      refine sp (k := 27) rfl hK (by decide) (wtt hb_42) rfl (fun w hS => r_fieldAddr Try.underlying72 rfl Try.sizeOf3 hK rfl) fun a hK => ?_
      refine sp (k := 28) rfl hK (by decide) (wtt hb_42) rfl (fun w hS => r_load Try.isAgg3 hK rfl ((hS.ra hRA nil_not).cell (hc_51 0 _ rfl))) fun a hK => ?_
      refine sp (k := 29) rfl hK (by decide) (wtt hb_42) rfl (fun w hS => r_ibin hK rfl rfl rfl) fun a hK => ?_
      refine sp (k := 30) rfl hK (by decide) (wtt hb_42) rfl (fun w hS => r_move hK rfl) fun a hK => ?_
      rcases or_b (y_43.Kind == 1) with hb_52 | hb_52
      · rw [ifb_t hb_52] at H
        refine sp_skip (k := 31) rfl hK (by decide) (wft hb_52) rfl fun a hK => ?_
        refine sp_skip (k := 32) rfl hK (by decide) (wft hb_52) rfl fun a hK => ?_
        refine sp_skip (k := 33) rfl hK (by decide) (wft hb_52) rfl fun a hK => ?_
        refine sp_skip (k := 34) rfl hK (by decide) (wft hb_52) rfl fun a hK => ?_
        refine sp_skip (k := 35) rfl hK (by decide) (wft hb_52) rfl fun a hK => ?_
        refine sp_skip (k := 36) rfl hK (by decide) (wft hb_52) rfl fun a hK => ?_
        refine sp_skip (k := 37) rfl hK (by decide) (wft hb_52) rfl fun a hK => ?_
        refine sp_skip (k := 38) rfl hK (by decide) (wft hb_52) rfl fun a hK => ?_
        refine sp_skip (k := 39) rfl hK (by decide) (wft hb_52) rfl fun a hK => ?_
        refine sp_skip (k := 40) rfl hK (by decide) (wft hb_52) rfl fun a hK => ?_
        refine sp_skip (k := 41) rfl hK (by decide) (wft hb_52) rfl fun a hK => ?_
        refine sp_skip (k := 42) rfl hK (by decide) (wft hb_52) rfl fun a hK => ?_
        refine sp (k := 43) rfl hK (by decide) (wtt hb_42) rfl (fun w hS => r_pick_t hb_52 hK rfl rfl) fun a hK => ?_
        refine sp (k := 44) rfl hK (by decide) rfl rfl (fun w hS => r_pick_t hb_42 hK rfl rfl) fun a hK => ?_
        refine sp (k := 45) rfl hK (by decide) rfl rfl (fun w hS => r_move hK rfl) fun a hK => ?_
        refine sp (k := 46) rfl hK (by decide) rfl rfl (fun w hS => r_move hK rfl) fun a hK => ?_
        refine sp (k := 47) rfl hK (by decide) rfl rfl (fun w hS => r_nilCheck hK rfl) fun a hK => ?_
        refine sp (k := 48) rfl hK (by decide) rfl rfl (fun w hS => r_fieldAddr Try.underlying77 rfl Try.sizeOf41 hK rfl) fun a hK => ?_
        refine sp (k := 49) rfl hK (by decide) rfl rfl (fun w hS => r_load Try.isAgg41 hK rfl ((hS.ra hRA nil_not).cell (hc0 0 _ rfl))) fun a hK => ?_
        refine sp (k := 50) rfl hK (by decide) rfl rfl (fun w hS => r_move hK rfl) fun a hK => ?_
        refine sp (k := 51) rfl hK (by decide) rfl rfl (fun w hS => r_nilCheck hK rfl) fun a hK => ?_
        refine sp (k := 52) rfl hK (by decide) rfl rfl (fun w hS => r_fieldAddr Try.underlying77 rfl Try.sizeOf3 hK rfl) fun a hK => ?_
        refine sp (k := 53) rfl hK (by decide) rfl rfl (fun w hS => r_load Try.isAgg3 hK rfl ((hS.ra hRA nil_not).cell (hc0 1 _ rfl))) fun a hK => ?_
        obtain ⟨y_53, h_54, H⟩ := bind_some H
        obtain ⟨b_55, o_56, c_57, cs_58, hv_59, hr_60, hc_61, h_540, h_541⟩ := h0_0.ix h_54
        subst hr_60
        refine sp (k := 54) rfl hK (by decide) rfl rfl (fun w hS => r_indexAddr_R Try.underlying41 Try.sizeOf72 hv_59 h_540 h_541 hK rfl rfl) fun a hK => ?_
        refine sp (k := 55) rfl hK (by decide) rfl rfl (fun w hS => r_fieldAddr Try.underlying72 rfl Try.sizeOf9 hK rfl) fun a hK => ?_
        refine sp (k := 56) rfl hK (by decide) rfl rfl (fun w hS => r_load Try.isAgg9 hK rfl ((hS.ra hRA nil_not).cell (hc_61 1 _ rfl))) fun a hK => ?_
        refine sp (k := 57) rfl hK (by decide) rfl rfl (fun w hS => r_move hK rfl) fun a hK => ?_
        refine sp (k := 58) rfl hK (by decide) rfl rfl (fun w hS => r_sbin hK rfl rfl rfl) fun a hK => ?_
        refine sp (k := 59) rfl hK (by decide) rfl rfl (fun w hS => r_pick hK rfl rfl rfl) fun a hK => ?_
        refine sp (k := 60) rfl hK (by decide) rfl rfl (fun w hS => r_assign hK rfl) fun a hK => ?_
        refine wpPar_nil (NoP_nil ?_)
        obtain rfl := Option.some.inj H
        refine wp_ret ?_
        repeat (first | refine ret_then ?_ | refine ret_block ?_ | refine ret_scope ?_)
        exact ret_1 Try.results68 hK (rv_tmp hK rfl) ⟨rfl, hS.bel⟩
      · rw [ifb_f hb_52] at H
        refine sp (k := 31) rfl hK (by decide) (wff hb_52) rfl (fun w hS => r_move hK rfl) fun a hK => ?_
        refine sp (k := 32) rfl hK (by decide) (wff hb_52) rfl (fun w hS => r_nilCheck hK rfl) fun a hK => ?_
        refine sp (k := 33) rfl hK (by decide) (wff hb_52) rfl (fun w hS => r_fieldAddr Try.underlying77 rfl Try.sizeOf41 hK rfl) fun a hK => ?_
        refine sp (k := 34) rfl hK (by decide) (wff hb_52) rfl (fun w hS => r_load Try.isAgg41 hK rfl ((hS.ra hRA nil_not).cell (hc0 0 _ rfl))) fun a hK => ?_
        refine sp (k := 35) rfl hK (by decide) (wff hb_52) rfl (fun w hS => r_move hK rfl) fun a hK => ?_
        refine sp (k := 36) rfl hK (by decide) (wff hb_52) rfl (fun w hS => r_nilCheck hK rfl) fun a hK => ?_
        refine sp (k := 37) rfl hK (by decide) (wff hb_52) rfl (fun w hS => r_fieldAddr Try.underlying77 rfl Try.sizeOf3 hK rfl) fun a hK => ?_
        refine sp (k := 38) rfl hK (by decide) (wff hb_52) rfl (fun w hS => r_load Try.isAgg3 hK rfl ((hS.ra hRA nil_not).cell (hc0 1 _ rfl))) fun a hK => ?_
        obtain ⟨y_62, h_63, H⟩ := bind_some H
        obtain ⟨b_64, o_65, c_66, cs_67, hv_68, hr_69, hc_70, h_630, h_631⟩ := h0_0.ix h_63
        subst hr_69
        refine sp (k := 39) rfl hK (by decide) (wff hb_52) rfl (fun w hS => r_indexAddr_R Try.underlying41 Try.sizeOf72 hv_68 h_630 h_631 hK rfl rfl) fun a hK => ?_
        refine sp (k := 40) rfl hK (by decide) (wff hb_52) rfl (fun w hS => r_fieldAddr Try.underlying72 rfl Try.sizeOf3 hK rfl) fun a hK => ?_
        refine sp (k := 41) rfl hK (by decide) (wff hb_52) rfl (fun w hS => r_load Try.isAgg3 hK rfl ((hS.ra hRA nil_not).cell (hc_70 0 _ rfl))) fun a hK => ?_
        refine sp (k := 42) rfl hK (by decide) (wff hb_52) rfl (fun w hS => r_ibin hK rfl rfl rfl) fun a hK => ?_
        refine sp (k := 43) rfl hK (by decide) (wtt hb_42) rfl (fun w hS => r_pick_f hb_52 hK rfl rfl) fun a hK => ?_
        refine sp (k := 44) rfl hK (by decide) rfl rfl (fun w hS => r_pick_t hb_42 hK rfl rfl) fun a hK => ?_
        refine sp (k := 45) rfl hK (by decide) rfl rfl (fun w hS => r_move hK rfl) fun a hK => ?_
        rcases or_b (y_62.Kind == 4) with hb_71 | hb_71
        · rw [ifb_t hb_71] at H
          refine sp (k := 46) rfl hK (by decide) (wtt hb_71) rfl (fun w hS => r_move hK rfl) fun a hK => ?_
          refine sp (k := 47) rfl hK (by decide) (wtt hb_71) rfl (fun w hS => r_nilCheck hK rfl) fun a hK => ?_
          refine sp (k := 48) rfl hK (by decide) (wtt hb_71) rfl (fun w hS => r_fieldAddr Try.underlying77 rfl Try.sizeOf41 hK rfl) fun a hK => ?_
          refine sp (k := 49) rfl hK (by decide) (wtt hb_71) rfl (fun w hS => r_load Try.isAgg41 hK rfl ((hS.ra hRA nil_not).cell (hc0 0 _ rfl))) fun a hK => ?_
          refine sp (k := 50) rfl hK (by decide) (wtt hb_71) rfl (fun w hS => r_move hK rfl) fun a hK => ?_
          refine sp (k := 51) rfl hK (by decide) (wtt hb_71) rfl (fun w hS => r_nilCheck hK rfl) fun a hK => ?_
          refine sp (k := 52) rfl hK (by decide) (wtt hb_71) rfl (fun w hS => r_fieldAddr Try.underlying77 rfl Try.sizeOf3 hK rfl) fun a hK => ?_
          refine sp (k := 53) rfl hK (by decide) (wtt hb_71) rfl (fun w hS => r_load Try.isAgg3 hK rfl ((hS.ra hRA nil_not).cell (hc0 1 _ rfl))) fun a hK => ?_
          obtain ⟨y_72, h_73, H⟩ := bind_some H
          obtain ⟨b_74, o_75, c_76, cs_77, hv_78, hr_79, hc_80, h_730, h_731⟩ := h0_0.ix h_73
          subst hr_79
          refine sp (k := 54) rfl hK (by decide) (wtt hb_71) rfl (fun w hS => r_indexAddr_R Try.underlying41 Try.sizeOf72 hv_78 h_730 h_731 hK rfl rfl) fun a hK => ?_
          refine sp (k := 55) rfl hK (by decide) (wtt hb_71) rfl (fun w hS => r_fieldAddr Try.underlying72 rfl Try.sizeOf9 hK rfl) fun a hK => ?_
          refine sp (k := 56) rfl hK (by decide) (wtt hb_71) rfl (fun w hS => r_load Try.isAgg9 hK rfl ((hS.ra hRA nil_not).cell (hc_80 1 _ rfl))) fun a hK => ?_
          refine sp (k := 57) rfl hK (by decide) (wtt hb_71) rfl (fun w hS => r_move hK rfl) fun a hK => ?_
          refine sp (k := 58) rfl hK (by decide) (wtt hb_71) rfl (fun w hS => r_sbin hK rfl rfl rfl) fun a hK => ?_
          refine sp (k := 59) rfl hK (by decide) rfl rfl (fun w hS => r_pick_t hb_71 hK rfl rfl) fun a hK => ?_
          refine sp (k := 60) rfl hK (by decide) rfl rfl (fun w hS => r_assign hK rfl) fun a hK => ?_
          refine wpPar_nil (NoP_nil ?_)
          obtain rfl := Option.some.inj H
          refine wp_ret ?_
          repeat (first | refine ret_then ?_ | refine ret_block ?_ | refine ret_scope ?_)
          exact ret_1 Try.results68 hK (rv_tmp hK rfl) ⟨rfl, hS.bel⟩
        · rw [ifb_f hb_71] at H
          refine sp_skip (k := 46) rfl hK (by decide) (wtf hb_71) rfl fun a hK => ?_
          refine sp_skip (k := 47) rfl hK (by decide) (wtf hb_71) rfl fun a hK => ?_
          refine sp_skip (k := 48) rfl hK (by decide) (wtf hb_71) rfl fun a hK => ?_
          refine sp_skip (k := 49) rfl hK (by decide) (wtf hb_71) rfl fun a hK => ?_
          refine sp_skip (k := 50) rfl hK (by decide) (wtf hb_71) rfl fun a hK => ?_
          refine sp_skip (k := 51) rfl hK (by decide) (wtf hb_71) rfl fun a hK => ?_
          refine sp_skip (k := 52) rfl hK (by decide) (wtf hb_71) rfl fun a hK => ?_
          refine sp_skip (k := 53) rfl hK (by decide) (wtf hb_71) rfl fun a hK => ?_
          refine sp_skip (k := 54) rfl hK (by decide) (wtf hb_71) rfl fun a hK => ?_
          refine sp_skip (k := 55) rfl hK (by decide) (wtf hb_71) rfl fun a hK => ?_
          refine sp_skip (k := 56) rfl hK (by decide) (wtf hb_71) rfl fun a hK => ?_
          refine sp_skip (k := 57) rfl hK (by decide) (wtf hb_71) rfl fun a hK => ?_
          refine sp_skip (k := 58) rfl hK (by decide) (wtf hb_71) rfl fun a hK => ?_
          refine sp (k := 59) rfl hK (by decide) rfl rfl (fun w hS => r_pick_f hb_71 hK rfl rfl) fun a hK => ?_
          refine sp (k := 60) rfl hK (by decide) rfl rfl (fun w hS => r_assign hK rfl) fun a hK => ?_
          refine wpPar_nil (NoP_nil ?_)
          obtain rfl := Option.some.inj H
          refine wp_ret ?_
          repeat (first | refine ret_then ?_ | refine ret_block ?_ | refine ret_scope ?_)
          exact ret_1 Try.results68 hK (rv_tmp hK rfl) ⟨rfl, hS.bel⟩
    · rw [ifb_f hb_42] at H
      refine sp_skip (k := 18) rfl hK (by decide) (wtf hb_42) rfl fun a hK => ?_
      refine sp_skip (k := 19) rfl hK (by decide) (wtf hb_42) rfl fun a hK => ?_
      refine sp_skip (k := 20) rfl hK (by decide) (wtf hb_42) rfl fun a hK => ?_
      refine sp_skip (k := 21) rfl hK (by decide) (wtf hb_42) rfl fun a hK => ?_
      refine sp_skip (k := 22) rfl hK (by decide) (wtf hb_42) rfl fun a hK => ?_
      refine sp_skip (k := 23) rfl hK (by decide) (wtf hb_42) rfl fun a hK => ?_
      refine sp_skip (k := 24) rfl hK (by decide) (wtf hb_42) rfl fun a hK => ?_
      refine sp_skip (k := 25) rfl hK (by decide) (wtf hb_42) rfl fun a hK => ?_
      refine sp_skip (k := 26) rfl hK (by decide) (wtf hb_42) rfl fun a hK => ?_
      refine sp_skip (k := 27) rfl hK (by decide) (wtf hb_42) rfl fun a hK => ?_
      refine sp_skip (k := 28) rfl hK (by decide) (wtf hb_42) rfl fun a hK => ?_
      refine sp_skip (k := 29) rfl hK (by decide) (wtf hb_42) rfl fun a hK => ?_
      refine sp_skip (k := 30) rfl hK (by decide) (wtf hb_42) rfl fun a hK => ?_
      refine sp_skip (k := 31) rfl hK (by decide) rfl rfl fun a hK => ?_
      refine sp_skip (k := 32) rfl hK (by decide) rfl rfl fun a hK => ?_
      refine sp_skip (k := 33) rfl hK (by decide) rfl rfl fun a hK => ?_
      refine sp_skip (k := 34) rfl hK (by decide) rfl rfl fun a hK => ?_
      refine sp_skip (k := 35) rfl hK (by decide) rfl rfl fun a hK => ?_
      refine sp_skip (k := 36) rfl hK (by decide) rfl rfl fun a hK => ?_
      refine sp_skip (k := 37) rfl hK (by decide) rfl rfl fun a hK => ?_
      refine sp_skip (k := 38) rfl hK (by decide) rfl rfl fun a hK => ?_
      refine sp_skip (k := 39) rfl hK (by decide) rfl rfl fun a hK => ?_
      refine sp_skip (k := 40) rfl hK (by decide) rfl rfl fun a hK => ?_
      refine sp_skip (k := 41) rfl hK (by decide) rfl rfl fun a hK => ?_
      refine sp_skip (k := 42) rfl hK (by decide) rfl rfl fun a hK => ?_
      refine sp_skip (k := 43) rfl hK (by decide) (wtf hb_42) rfl fun a hK => ?_
      refine sp (k := 44) rfl hK (by decide) rfl rfl (fun w hS => r_pick_f hb_42 hK rfl rfl) fun a hK => ?_
      refine sp (k := 45) rfl hK (by decide) rfl rfl (fun w hS => r_move hK rfl) fun a hK => ?_
      refine sp_skip (k := 46) rfl hK (by decide) rfl rfl fun a hK => ?_
      refine sp_skip (k := 47) rfl hK (by decide) rfl rfl fun a hK => ?_
      refine sp_skip (k := 48) rfl hK (by decide) rfl rfl fun a hK => ?_
      refine sp_skip (k := 49) rfl hK (by decide) rfl rfl fun a hK => ?_
      refine sp_skip (k := 50) rfl hK (by decide) rfl rfl fun a hK => ?_
      refine sp_skip (k := 51) rfl hK (by decide) rfl rfl fun a hK => ?_
      refine sp_skip (k := 52) rfl hK (by decide) rfl rfl fun a hK => ?_
      refine sp_skip (k := 53) rfl hK (by decide) rfl rfl fun a hK => ?_
      refine sp_skip (k := 54) rfl hK (by decide) rfl rfl fun a hK => ?_
      refine sp_skip (k := 55) rfl hK (by decide) rfl rfl fun a hK => ?_
      refine sp_skip (k := 56) rfl hK (by decide) rfl rfl fun a hK => ?_
      refine sp_skip (k := 57) rfl hK (by decide) rfl rfl fun a hK => ?_
      refine sp_skip (k := 58) rfl hK (by decide) rfl rfl fun a hK => ?_
      refine sp (k := 59) rfl hK (by decide) rfl rfl (fun w hS => r_pick hK rfl rfl rfl) fun a hK => ?_
      refine sp (k := 60) rfl hK (by decide) rfl rfl (fun w hS => r_assign hK rfl) fun a hK => ?_
      refine wpPar_nil (NoP_nil ?_)
      obtain rfl := Option.some.inj H
      refine wp_ret ?_
      repeat (first | refine ret_then ?_ | refine ret_block ?_ | refine ret_scope ?_)
      exact ret_1 Try.results68 hK (rv_tmp hK rfl) ⟨rfl, hS.bel⟩
  · rw [ifb_f hb_41] at H
    refine sp_skip (k := 6) rfl hK (by decide) (wtf hb_41) rfl fun a hK => ?_
    refine sp_skip (k := 7) rfl hK (by decide) (wtf hb_41) rfl fun a hK => ?_
    refine sp_skip (k := 8) rfl hK (by decide) (wtf hb_41) rfl fun a hK => ?_
    refine sp_skip (k := 9) rfl hK (by decide) (wtf hb_41) rfl fun a hK => ?_
    refine sp_skip (k := 10) rfl hK (by decide) (wtf hb_41) rfl fun a hK => ?_
    refine sp_skip (k := 11) rfl hK (by decide) (wtf hb_41) rfl fun a hK => ?_
    refine sp_skip (k := 12) rfl hK (by decide) (wtf hb_41) rfl fun a hK => ?_
    refine sp_skip (k := 13) rfl hK (by decide) (wtf hb_41) rfl fun a hK => ?_
    refine sp_skip (k := 14) rfl hK (by decide) (wtf hb_41) rfl fun a hK => ?_
    refine sp_skip (k := 15) rfl hK (by decide) (wtf hb_41) rfl fun a hK => ?_
    refine sp (k := 16) rfl hK (by decide) rfl rfl (fun w hS => r_pick_f hb_41 hK rfl rfl) fun a hK => ?_
    refine sp (k := 17) rfl hK (by decide) rfl rfl (fun w hS => r_move hK rfl) fun a hK => ?_
    refine sp_skip (k := 18) rfl hK (by decide) rfl rfl fun a hK => ?_
    refine sp_skip (k := 19) rfl hK (by decide) rfl rfl fun a hK => ?_
    refine sp_skip (k := 20) rfl hK (by decide) rfl rfl fun a hK => ?_
    refine sp_skip (k := 21) rfl hK (by decide) rfl rfl fun a hK => ?_
    refine sp_skip (k := 22) rfl hK (by decide) rfl rfl fun a hK => ?_
    refine sp_skip (k := 23) rfl hK (by decide) rfl rfl fun a hK => ?_
    refine sp_skip (k := 24) rfl hK (by decide) rfl rfl fun a hK => ?_
    refine sp_skip (k := 25) rfl hK (by decide) rfl rfl fun a hK => ?_
    refine sp_skip (k := 26) rfl hK (by decide) rfl rfl fun a hK => ?_
    refine sp_skip (k := 27) rfl hK (by decide) rfl rfl fun a hK => ?_
    refine sp_skip (k := 28) rfl hK (by decide) rfl rfl fun a hK => ?_
    refine sp_skip (k := 29) rfl hK (by decide) rfl rfl fun a hK => ?_
    refine sp_skip (k := 30) rfl hK (by decide) rfl rfl fun a hK => ?_
    refine sp_skip (k := 31) rfl hK (by decide) rfl rfl fun a hK => ?_
    refine sp_skip (k := 32) rfl hK (by decide) rfl rfl fun a hK => ?_
    refine sp_skip (k := 33) rfl hK (by decide) rfl rfl fun a hK => ?_
    refine sp_skip (k := 34) rfl hK (by decide) rfl rfl fun a hK => ?_
    refine sp_skip (k := 35) rfl hK (by decide) rfl rfl fun a hK => ?_
    refine sp_skip (k := 36) rfl hK (by decide) rfl rfl fun a hK => ?_
    refine sp_skip (k := 37) rfl hK (by decide) rfl rfl fun a hK => ?_
    refine sp_skip (k := 38) rfl hK (by decide) rfl rfl fun a hK => ?_
    refine sp_skip (k := 39) rfl hK (by decide) rfl rfl fun a hK => ?_
    refine sp_skip (k := 40) rfl hK (by decide) rfl rfl fun a hK => ?_
    refine sp_skip (k := 41) rfl hK (by decide) rfl rfl fun a hK => ?_
    refine sp_skip (k := 42) rfl hK (by decide) rfl rfl fun a hK => ?_
    refine sp_skip (k := 43) rfl hK (by decide) rfl rfl fun a hK => ?_
    refine sp (k := 44) rfl hK (by decide) rfl rfl (fun w hS => r_pick hK rfl rfl rfl) fun a hK => ?_
    refine sp (k := 45) rfl hK (by decide) rfl rfl (fun w hS => r_move hK rfl) fun a hK => ?_
    refine sp_skip (k := 46) rfl hK (by decide) rfl rfl fun a hK => ?_
    refine sp_skip (k := 47) rfl hK (by decide) rfl rfl fun a hK => ?_
    refine sp_skip (k := 48) rfl hK (by decide) rfl rfl fun a hK => ?_
    refine sp_skip (k := 49) rfl hK (by decide) rfl rfl fun a hK => ?_
    refine sp_skip (k := 50) rfl hK (by decide) rfl rfl fun a hK => ?_
    refine sp_skip (k := 51) rfl hK (by decide) rfl rfl fun a hK => ?_
    refine sp_skip (k := 52) rfl hK (by decide) rfl rfl fun a hK => ?_
    refine sp_skip (k := 53) rfl hK (by decide) rfl rfl fun a hK => ?_
    refine sp_skip (k := 54) rfl hK (by decide) rfl rfl fun a hK => ?_
    refine sp_skip (k := 55) rfl hK (by decide) rfl rfl fun a hK => ?_
    refine sp_skip (k := 56) rfl hK (by decide) rfl rfl fun a hK => ?_
    refine sp_skip (k := 57) rfl hK (by decide) rfl rfl fun a hK => ?_
    refine sp_skip (k := 58) rfl hK (by decide) rfl rfl fun a hK => ?_
    refine sp (k := 59) rfl hK (by decide) rfl rfl (fun w hS => r_pick hK rfl rfl rfl) fun a hK => ?_
    refine sp (k := 60) rfl hK (by decide) rfl rfl (fun w hS => r_assign hK rfl) fun a hK => ?_
    refine wpPar_nil (NoP_nil ?_)
    obtain rfl := Option.some.inj H
    refine wp_ret ?_
    repeat (first | refine ret_then ?_ | refine ret_block ?_ | refine ret_scope ?_)
    exact ret_1 Try.results68 hK (rv_tmp hK rfl) ⟨rfl, hS.bel⟩

/-! ### (*catchment/catchmentref12.reader).sees: function 57 -/
set_option maxHeartbeats 4000000 in
set_option maxRecDepth 100000 in
theorem ref12_reader_sees.calls (a0 : catchmentref12_reader) (a1 : ByteArray) {w0 : World} {R : Hp} {M : List Own} {b0 : Nat} {v0_0 : Value} {cs0_0 : List Value} {v0_1 : Value} {cs0_1 : List Value} (hS0 : St M w0 w0 R [.cells b0 [v0_0, .int .i64 a0.At, v0_1, .int .i64 a0.E, .int .i64 a0.Depth] 77, .row 72 4 v0_0 a0.L.length cs0_0, .row 51 19 v0_1 a0.Q.length cs0_1]) (h0_0 : Reps ty_api_Token R cs0_0 a0.L) (h0_1 : Reps ty_api_Node R cs0_1 a0.Q) {r : Bool × catchmentref12_reader} (H : ref12_reader_sees a0 a1 = some r) : Calls Try.prog 57 #[.pointer (some ⟨b0, 0, none⟩), .string a1] w0 (Rets fun v w' => ∃ (R' : Hp) (u0 : Value) (cu0 : List Value) (u1 : Value) (cu1 : List Value), v = .bool r.1 ∧ St M w0 w' R' [.cells b0 [u0, .int .i64 r.2.At, u1, .int .i64 r.2.E, .int .i64 r.2.Depth] 77, .row 72 4 u0 r.2.L.length cu0, .row 51 19 u1 r.2.Q.length cu1] ∧ RLe M w0 R R' ∧ Reps ty_api_Token R' cu0 r.2.L ∧ Reps ty_api_Node R' cu1 r.2.Q) := by
  unfold ref12_reader_sees at H
  refine enter (args := [.pointer (some ⟨b0, 0, none⟩), .string a1]) Try.func57 rfl Try.ntmps57 rfl fun a hK => ?_
  have hS := hS0
  have hRL := RLe.refl (M := M) w0 R
  refine wp_seq ?_
  refine wp_region_lit ?_
  refine sl hK (by decide) rfl rfl (r_assign hK rfl) fun a hK => ?_
  refine wpList_nil ?_
  refine wp_seq ?_
  refine wp_seq ?_
  refine wp_region_lit ?_
  refine sl hK (by decide) rfl rfl (r_move hK rfl) fun a hK => ?_
  refine sl hK (by decide) rfl rfl (r_move hK rfl) fun a hK => ?_
  obtain ⟨y_1, h_2, H⟩ := bind_some H
  refine sl_callV Try.call68 hS hK (by decide) rfl rfl rfl (ref12_reader_is.calls a0 a1 (lentOf_sub [] _) (hS.lend_box0 (.head _)) (hS.lend_row0 (.tail _ (.head _)) h0_0 rfl rfl) (hS.lend_row0 (.tail _ (.tail _ (.head _))) h0_1 rfl rfl) h_2) fun a w hS hK => ?_
  refine sl hK (by decide) rfl rfl (r_un hK rfl (u_not _)) fun a hK => ?_
  refine wpList_nil ?_
  refine wp_cond_split (hK.ev rfl) (fun (hb_3 : (!y_1) = true) => ?_) (fun (hb_3 : (!y_1) = false) => ?_)
  · rw [ifb_t hb_3] at H
    refine wp_seq ?_
    refine wp_region_lit ?_
    refine sl hK (by decide) rfl rfl (r_assign hK rfl) fun a hK => ?_
    refine wpList_nil ?_
    obtain rfl := Option.some.inj H
    refine wp_ret ?_
    repeat (first | refine ret_then ?_ | refine ret_block ?_ | refine ret_scope ?_)
    exact ret_1 Try.results57 hK (rv_tmp hK rfl) ⟨_, rfl, _, _, _, _, _, rfl, hS, hRL, h0_0, h0_1⟩
  · rw [ifb_f hb_3] at H
    refine wp_skip ?_
    refine wp_seq ?_
    refine wp_region_lit ?_
    refine sl hK (by decide) rfl rfl (r_move hK rfl) fun a hK => ?_
    refine sl hK (by decide) rfl rfl (r_nilCheck hK rfl) fun a hK => ?_
    refine sl hK (by decide) rfl rfl (r_fieldAddr Try.underlying77 rfl Try.sizeOf3 hK rfl) fun a hK => ?_
    refine sl hK (by decide) rfl rfl (r_load Try.isAgg3 hK rfl (hS.cell (.head _) rfl)) fun a hK => ?_
    refine sl hK (by decide) rfl rfl (r_ibin hK rfl rfl rfl) fun a hK => ?_
    refine sl hK (by decide) rfl rfl (r_nilCheck hK rfl) fun a hK => ?_
    refine sl hK (by decide) rfl rfl (r_fieldAddr Try.underlying77 rfl Try.sizeOf3 hK rfl) fun a hK => ?_
    refine sl_store1 (c' := [v0_0, .int .i64 (IntKind.i64.wrap (a0.At + 1)), v0_1, .int .i64 a0.E, .int .i64 a0.Depth]) Try.sizeOf3 hS hK rfl rfl rfl rfl (Nat.le_of_ble_eq_true rfl) rfl fun a w hS hK => ?_
    refine wpList_nil ?_
    refine wp_seq ?_
    refine wp_region_lit ?_
    refine sl hK (by decide) rfl rfl (r_assign hK rfl) fun a hK => ?_
    refine wpList_nil ?_
    obtain rfl := Option.some.inj H
    refine wp_ret ?_
    repeat (first | refine ret_then ?_ | refine ret_block ?_ | refine ret_scope ?_)
    exact ret_1 Try.results57 hK (rv_tmp hK rfl) ⟨_, rfl, _, _, _, _, _, rfl, hS, hRL, h0_0, h0_1⟩

/-! ### (*catchment/catchmentref12.reader).deeper: function 75 -/
set_option maxHeartbeats 4000000 in
set_option maxRecDepth 100000 in
theorem ref12_reader_deeper.calls (a0 : catchmentref12_reader) {w0 : World} {R : Hp} {M : List Own} {b0 : Nat} {v0_0 : Value} {cs0_0 : List Value} {v0_1 : Value} {cs0_1 : List Value} (hS0 : St M w0 w0 R [.cells b0 [v0_0, .int .i64 a0.At, v0_1, .int .i64 a0.E, .int .i64 a0.Depth] 77, .row 72 4 v0_0 a0.L.length cs0_0, .row 51 19 v0_1 a0.Q.length cs0_1]) (h0_0 : Reps ty_api_Token R cs0_0 a0.L) (h0_1 : Reps ty_api_Node R cs0_1 a0.Q) {r : catchmentref12_reader} (H : ref12_reader_deeper a0 = some r) : Calls Try.prog 75 #[.pointer (some ⟨b0, 0, none⟩)] w0 (Rets fun v w' => ∃ (R' : Hp) (u0 : Value) (cu0 : List Value) (u1 : Value) (cu1 : List Value), v = .tuple #[] ∧ St M w0 w' R' [.cells b0 [u0, .int .i64 r.At, u1, .int .i64 r.E, .int .i64 r.Depth] 77, .row 72 4 u0 r.L.length cu0, .row 51 19 u1 r.Q.length cu1] ∧ RLe M w0 R R' ∧ Reps ty_api_Token R' cu0 r.L ∧ Reps ty_api_Node R' cu1 r.Q) := by
  unfold ref12_reader_deeper at H
  refine enter (args := [.pointer (some ⟨b0, 0, none⟩)]) Try.func75 rfl Try.ntmps75 rfl fun a hK => ?_
  have hS := hS0
  have hRL := RLe.refl (M := M) w0 R
  refine wp_seq ?_
  refine wp_seq ?_
  refine wp_mid (fun a w => ∃ (x_3 : List api_Node) (x_7 : Bool) (v_4 : Value) (cs_5 : List Value), ref12_reader_deeper.j0 a0 x_3 x_7 = some r ∧ Reps ty_api_Node R cs_5 x_3 ∧ Kn 31 a [(0, .pointer (some ⟨b0, 0, none⟩)), (13, .bool x_7)] ∧ St M w0 w R [.row 72 4 v0_0 a0.L.length cs0_0, .row 51 19 v_4 x_3.length cs_5, .cells b0 [v0_0, .int .i64 a0.At, v_4, .int .i64 a0.E, .int .i64 a0.Depth] 77]) ?_ ?_
  · refine wp_region_lit ?_
    refine sl hK (by decide) rfl rfl (r_move hK rfl) fun a hK => ?_
    refine sl hK (by decide) rfl rfl (r_nilCheck hK rfl) fun a hK => ?_
    refine sl hK (by decide) rfl rfl (r_fieldAddr Try.underlying77 rfl Try.sizeOf42 hK rfl) fun a hK => ?_
    refine sl hK (by decide) rfl rfl (r_load Try.isAgg42 hK rfl (hS.cell (.head _) rfl)) fun a hK => ?_
    refine sl hK (by decide) rfl rfl (r_ibin hK rfl rfl rfl) fun a hK => ?_
    refine sl hK (by decide) rfl rfl (r_move hK rfl) fun a hK => ?_
    rcases or_b (a0.E == 0) with hb_9 | hb_9
    · rw [ifb_t hb_9] at H
      refine sl hK (by decide) (wtt hb_9) rfl (r_move hK rfl) fun a hK => ?_
      refine sl hK (by decide) (wtt hb_9) rfl (r_nilCheck hK rfl) fun a hK => ?_
      refine sl hK (by decide) (wtt hb_9) rfl (r_fieldAddr Try.underlying77 rfl Try.sizeOf3 hK rfl) fun a hK => ?_
      refine sl hK (by decide) (wtt hb_9) rfl (r_load Try.isAgg3 hK rfl (hS.cell (.head _) rfl)) fun a hK => ?_
      refine sl hK (by decide) (wtt hb_9) rfl (r_ibin hK rfl rfl rfl) fun a hK => ?_
      refine sl hK (by decide) rfl rfl (r_pick_t hb_9 hK rfl rfl) fun a hK => ?_
      refine wpList_nil ?_
      have hS := hS.pk2
      have hS := hS.pk2
      exact ⟨a0.Q, (decide (a0.Depth ≥ 16)), _, _, H, h0_1, hK.sub (all_cons rfl (all_cons rfl (all_nil))), hS⟩
    · rw [ifb_f hb_9] at H
      refine sl_skip hK (by decide) (wtf hb_9) rfl fun a hK => ?_
      refine sl_skip hK (by decide) (wtf hb_9) rfl fun a hK => ?_
      refine sl_skip hK (by decide) (wtf hb_9) rfl fun a hK => ?_
      refine sl_skip hK (by decide) (wtf hb_9) rfl fun a hK => ?_
      refine sl_skip hK (by decide) (wtf hb_9) rfl fun a hK => ?_
      refine sl hK (by decide) rfl rfl (r_pick_f hb_9 hK rfl rfl) fun a hK => ?_
      refine wpList_nil ?_
      have hS := hS.pk2
      have hS := hS.pk2
      exact ⟨a0.Q, false, _, _, H, h0_1, hK.sub (all_cons rfl (all_cons rfl (all_nil))), hS⟩
  · rintro a w ⟨x_3, x_7, v_4, cs_5, H, hq_6, hK, hS⟩
    unfold ref12_reader_deeper.j0 at H
    refine wp_cond_split (hK.ev rfl) (fun (hb_10 : x_7 = true) => ?_) (fun (hb_10 : x_7 = false) => ?_)
    · rw [ifb_t hb_10] at H
      refine wp_seq ?_
      refine wp_region_lit ?_
      refine sl hK (by decide) rfl rfl (r_move hK rfl) fun a hK => ?_
      refine sl hK (by decide) rfl rfl (r_nilCheck hK rfl) fun a hK => ?_
      refine sl hK (by decide) rfl rfl (r_fieldAddr Try.underlying77 rfl Try.sizeOf42 hK rfl) fun a hK => ?_
      have hS := hS.pk2
      refine sl_store1 (c' := [v0_0, .int .i64 a0.At, v_4, .int .i64 2, .int .i64 a0.Depth]) Try.sizeOf42 hS hK rfl rfl rfl rfl (Nat.le_of_ble_eq_true rfl) rfl fun a w hS hK => ?_
      refine wpList_nil ?_
      refine wp_region_lit ?_
      refine sl hK (by decide) rfl rfl (r_move hK rfl) fun a hK => ?_
      refine sl hK (by decide) rfl rfl (r_nilCheck hK rfl) fun a hK => ?_
      refine sl hK (by decide) rfl rfl (r_fieldAddr Try.underlying77 rfl Try.sizeOf3 hK rfl) fun a hK => ?_
      refine sl hK (by decide) rfl rfl (r_load Try.isAgg3 hK rfl (hS.cell (.head _) rfl)) fun a hK => ?_
      refine sl hK (by decide) rfl rfl (r_ibin hK rfl rfl rfl) fun a hK => ?_
      refine sl hK (by decide) rfl rfl (r_nilCheck hK rfl) fun a hK => ?_
      refine sl hK (by decide) rfl rfl (r_fieldAddr Try.underlying77 rfl Try.sizeOf3 hK rfl) fun a hK => ?_
      refine sl_store1 (c' := [v0_0, .int .i64 (IntKind.i64.wrap (a0.At - 1)), v_4, .int .i64 2, .int .i64 a0.Depth]) Try.sizeOf3 hS hK rfl rfl rfl rfl (Nat.le_of_ble_eq_true rfl) rfl fun a w hS hK => ?_
      refine wpList_nil ?_
      refine wp_region_lit ?_
      refine sl hK (by decide) rfl rfl (r_move hK rfl) fun a hK => ?_
      refine sl hK (by decide) rfl rfl (r_nilCheck hK rfl) fun a hK => ?_
      refine sl hK (by decide) rfl rfl (r_fieldAddr Try.underlying77 rfl Try.sizeOf3 hK rfl) fun a hK => ?_
      refine sl hK (by decide) rfl rfl (r_load Try.isAgg3 hK rfl (hS.cell (.head _) rfl)) fun a hK => ?_
      refine sl hK (by decide) rfl rfl (r_ibin hK rfl rfl rfl) fun a hK => ?_
      refine sl hK (by decide) rfl rfl (r_nilCheck hK rfl) fun a hK => ?_
      refine sl hK (by decide) rfl rfl (r_fieldAddr Try.underlying77 rfl Try.sizeOf3 hK rfl) fun a hK => ?_
      refine sl_store1 (c' := [v0_0, .int .i64 (IntKind.i64.wrap (a0.At - 1)), v_4, .int .i64 2, .int .i64 (IntKind.i64.wrap (a0.Depth + 1))]) Try.sizeOf3 hS hK rfl rfl rfl rfl (Nat.le_of_ble_eq_true rfl) rfl fun a w hS hK => ?_
      refine wpList_nil ?_
      obtain rfl := Option.some.inj H
      exact ret_0n Try.results75 hK ⟨_, rfl, _, _, _, _, _, rfl, hS, hRL, h0_0, hq_6⟩
    · rw [ifb_f hb_10] at H
      refine wp_skip ?_
      refine wp_region_lit ?_
      refine sl hK (by decide) rfl rfl (r_move hK rfl) fun a hK => ?_
      refine sl hK (by decide) rfl rfl (r_nilCheck hK rfl) fun a hK => ?_
      refine sl hK (by decide) rfl rfl (r_fieldAddr Try.underlying77 rfl Try.sizeOf3 hK rfl) fun a hK => ?_
      refine sl hK (by decide) rfl rfl (r_load Try.isAgg3 hK rfl (hS.cell (.tail _ (.tail _ (.head _))) rfl)) fun a hK => ?_
      refine sl hK (by decide) rfl rfl (r_ibin hK rfl rfl rfl) fun a hK => ?_
      refine sl hK (by decide) rfl rfl (r_nilCheck hK rfl) fun a hK => ?_
      refine sl hK (by decide) rfl rfl (r_fieldAddr Try.underlying77 rfl Try.sizeOf3 hK rfl) fun a hK => ?_
      have hS := hS.pk2
      refine sl_store1 (c' := [v0_0, .int .i64 a0.At, v_4, .int .i64 a0.E, .int .i64 (IntKind.i64.wrap (a0.Depth + 1))]) Try.sizeOf3 hS hK rfl rfl rfl rfl (Nat.le_of_ble_eq_true rfl) rfl fun a w hS hK => ?_
      refine wpList_nil ?_
      obtain rfl := Option.some.inj H
      exact ret_0n Try.results75 hK ⟨_, rfl, _, _, _, _, _, rfl, hS, hRL, h0_0, hq_6⟩

/-! ### (*catchment/catchmentref12.reader).lay: function 58 -/
set_option maxHeartbeats 4000000 in
set_option maxRecDepth 100000 in
theorem ref12_reader_lay.calls (a0 : catchmentref12_reader) (a1 : api_Node) {w0 : World} {R : Hp} {M : List Own} {b0 : Nat} {v0_0 : Value} {cs0_0 : List Value} {v0_1 : Value} {cs0_1 : List Value} {v1_0 : Value} {v1_1 : Value} {v1_2 : Value} (hS0 : St M w0 w0 R [.cells b0 [v0_0, .int .i64 a0.At, v0_1, .int .i64 a0.E, .int .i64 a0.Depth] 77, .row 72 4 v0_0 a0.L.length cs0_0, .row 51 19 v0_1 a0.Q.length cs0_1]) (h0_0 : Reps ty_api_Token R cs0_0 a0.L) (h0_1 : Reps ty_api_Node R cs0_1 a0.Q) (h1_0 : SlR (tyInt .i64) R v1_0 a1.L) (h1_1 : SlR tyStr R v1_1 a1.Names) (h1_2 : SlR ty_api_Agg R v1_2 a1.Aggs) {r : Int × catchmentref12_reader} (H : ref12_reader_lay a0 a1 = some r) : Calls Try.prog 58 #[.pointer (some ⟨b0, 0, none⟩), .agg #[.int .i64 a1.Kind, .string a1.S, .int .i64 a1.N, .int .i64 a1.From, .int .i64 a1.To, .int .i64 a1.V.Kind, .int .i64 a1.V.N, .string a1.V.S, .int .i64 a1.V.H.a0, .int .i64 a1.V.H.a1, .int .i64 a1.V.H.a2, .int .i64 a1.V.H.a3, .int .i64 a1.V.H.a4, .int .i64 a1.V.H.a5, .int .i64 a1.V.H.a6, .int .i64 a1.V.H.a7, v1_0, v1_1, v1_2]] w0 (Rets fun v w' => ∃ (R' : Hp) (u0 : Value) (cu0 : List Value) (u1 : Value) (cu1 : List Value), v = .int .i64 r.1 ∧ St M w0 w' R' [.cells b0 [u0, .int .i64 r.2.At, u1, .int .i64 r.2.E, .int .i64 r.2.Depth] 77, .row 72 4 u0 r.2.L.length cu0, .row 51 19 u1 r.2.Q.length cu1] ∧ RLe M w0 R R' ∧ Reps ty_api_Token R' cu0 r.2.L ∧ Reps ty_api_Node R' cu1 r.2.Q) := by
  unfold ref12_reader_lay at H
  refine enter (args := [.pointer (some ⟨b0, 0, none⟩), .agg #[.int .i64 a1.Kind, .string a1.S, .int .i64 a1.N, .int .i64 a1.From, .int .i64 a1.To, .int .i64 a1.V.Kind, .int .i64 a1.V.N, .string a1.V.S, .int .i64 a1.V.H.a0, .int .i64 a1.V.H.a1, .int .i64 a1.V.H.a2, .int .i64 a1.V.H.a3, .int .i64 a1.V.H.a4, .int .i64 a1.V.H.a5, .int .i64 a1.V.H.a6, .int .i64 a1.V.H.a7, v1_0, v1_1, v1_2]]) Try.func58 rfl Try.ntmps58 rfl fun a hK => ?_
  have hS := hS0
  have hRL := RLe.refl (M := M) w0 R
  refine wp_seq ?_
  refine wp_region_lit ?_
  refine sl_box hS hK (by decide) rfl rfl (c := [.int .i64 a1.Kind, .string a1.S, .int .i64 a1.N, .int .i64 a1.From, .int .i64 a1.To, .int .i64 a1.V.Kind, .int .i64 a1.V.N, .string a1.V.S, .int .i64 a1.V.H.a0, .int .i64 a1.V.H.a1, .int .i64 a1.V.H.a2, .int .i64 a1.V.H.a3, .int .i64 a1.V.H.a4, .int .i64 a1.V.H.a5, .int .i64 a1.V.H.a6, .int .i64 a1.V.H.a7, v1_0, v1_1, v1_2]) rfl fun a w b_1 hS hK => ?_
  refine sl hK (by decide) rfl rfl (r_assign hK rfl) fun a hK => ?_
  refine wpList_nil ?_
  refine wp_seq ?_
  refine wp_seq ?_
  refine wp_region_lit ?_
  refine sl hK (by decide) rfl rfl (r_move hK rfl) fun a hK => ?_
  refine sl hK (by decide) rfl rfl (r_nilCheck hK rfl) fun a hK => ?_
  refine sl hK (by decide) rfl rfl (r_fieldAddr Try.underlying77 rfl Try.sizeOf42 hK rfl) fun a hK => ?_
  refine sl hK (by decide) rfl rfl (r_load Try.isAgg42 hK rfl (hS.cell (.tail _ (.head _)) rfl)) fun a hK => ?_
  refine sl hK (by decide) rfl rfl (r_ibin hK rfl rfl rfl) fun a hK => ?_
  refine wpList_nil ?_
  refine wp_cond_split (hK.ev rfl) (fun (hb_2 : (a0.E == 0) = true) => ?_) (fun (hb_2 : (a0.E == 0) = false) => ?_)
  · rw [ifb_t hb_2] at H
    refine parT_region (C := fun w => St M w0 w R [.cells b_1 [.int .i64 a1.Kind, .string a1.S, .int .i64 a1.N, .int .i64 a1.From, .int .i64 a1.To, .int .i64 a1.V.Kind, .int .i64 a1.V.N, .string a1.V.S, .int .i64 a1.V.H.a0, .int .i64 a1.V.H.a1, .int .i64 a1.V.H.a2, .int .i64 a1.V.H.a3, .int .i64 a1.V.H.a4, .int .i64 a1.V.H.a5, .int .i64 a1.V.H.a6, .int .i64 a1.V.H.a7, v1_0, v1_1, v1_2] 51, .cells b0 [v0_0, .int .i64 a0.At, v0_1, .int .i64 a0.E, .int .i64 a0.Depth] 77, .row 72 4 v0_0 a0.L.length cs0_0]) 8 [(0, true), (1, true), (2, true), (3, true), (4, true), (5, true), (6, false), (7, false)] mixed (by kernel_rfl) hS (fun w hS => (hS.trunc 3)) fun w hS => ?_
    refine sp (k := 0) rfl hK (by decide) rfl rfl (fun w hS => r_move hK rfl) fun a hK => ?_
    refine sp (k := 1) rfl hK (by decide) rfl rfl (fun w hS => r_move hK rfl) fun a hK => ?_
    refine sp (k := 2) rfl hK (by decide) rfl rfl (fun w hS => r_nilCheck hK rfl) fun a hK => ?_
    refine sp (k := 3) rfl hK (by decide) rfl rfl (fun w hS => r_fieldAddr Try.underlying77 rfl Try.sizeOf22 hK rfl) fun a hK => ?_
    refine sp (k := 4) rfl hK (by decide) rfl rfl (fun w hS => r_load Try.isAgg22 hK rfl (hS.cell (.tail _ (.head _)) rfl)) fun a hK => ?_
    refine sp (k := 5) rfl hK (by decide) rfl rfl (fun w hS => r_loadA (cs := [.int .i64 a1.Kind, .string a1.S, .int .i64 a1.N, .int .i64 a1.From, .int .i64 a1.To, .int .i64 a1.V.Kind, .int .i64 a1.V.N, .string a1.V.S, .int .i64 a1.V.H.a0, .int .i64 a1.V.H.a1, .int .i64 a1.V.H.a2, .int .i64 a1.V.H.a3, .int .i64 a1.V.H.a4, .int .i64 a1.V.H.a5, .int .i64 a1.V.H.a6, .int .i64 a1.V.H.a7, v1_0, v1_1, v1_2]) Try.isAgg51 Try.sizeOf51 rfl hK rfl (hS.cells_of (m := 19) (.head _) rfl)) fun a hK => ?_
    refine spw (k := 6) rfl rfl (hS.trunc 3) ?_
    refine sl_buildSliceF (zc := [.int .i64 0, .string (⟨#[]⟩ : ByteArray), .int .i64 0, .int .i64 0, .int .i64 0, .int .i64 0, .int .i64 0, .string (⟨#[]⟩ : ByteArray), .int .i64 0, .int .i64 0, .int .i64 0, .int .i64 0, .int .i64 0, .int .i64 0, .int .i64 0, .int .i64 0, .slice none 0 0, .slice none 0 0, .slice none 0 0]) (ps := [(0, .agg #[.int .i64 a1.Kind, .string a1.S, .int .i64 a1.N, .int .i64 a1.From, .int .i64 a1.To, .int .i64 a1.V.Kind, .int .i64 a1.V.N, .string a1.V.S, .int .i64 a1.V.H.a0, .int .i64 a1.V.H.a1, .int .i64 a1.V.H.a2, .int .i64 a1.V.H.a3, .int .i64 a1.V.H.a4, .int .i64 a1.V.H.a5, .int .i64 a1.V.H.a6, .int .i64 a1.V.H.a7, v1_0, v1_1, v1_2])]) (c := [.int .i64 a1.Kind, .string a1.S, .int .i64 a1.N, .int .i64 a1.From, .int .i64 a1.To, .int .i64 a1.V.Kind, .int .i64 a1.V.N, .string a1.V.S, .int .i64 a1.V.H.a0, .int .i64 a1.V.H.a1, .int .i64 a1.V.H.a2, .int .i64 a1.V.H.a3, .int .i64 a1.V.H.a4, .int .i64 a1.V.H.a5, .int .i64 a1.V.H.a6, .int .i64 a1.V.H.a7, v1_0, v1_1, v1_2]) [[.int .i64 a1.Kind, .string a1.S, .int .i64 a1.N, .int .i64 a1.From, .int .i64 a1.To, .int .i64 a1.V.Kind, .int .i64 a1.V.N, .string a1.V.S, .int .i64 a1.V.H.a0, .int .i64 a1.V.H.a1, .int .i64 a1.V.H.a2, .int .i64 a1.V.H.a3, .int .i64 a1.V.H.a4, .int .i64 a1.V.H.a5, .int .i64 a1.V.H.a6, .int .i64 a1.V.H.a7, v1_0, v1_1, v1_2]] Try.underlying22 Try.sizeOf51 Try.zeroValue51 rfl (pc_cons rfl pc_nil) rfl rfl (Nat.le_of_ble_eq_true rfl) rfl (all_cons rfl (all_nil)) rfl hS hK (by decide) rfl fun a w b_10 hS hK => ?_
    refine parK_nil (hS.pk3.pk3.pk3.trunc 3) ?_
    refine spw (k := 7) rfl rfl (hS.pk3.pk3.pk3.trunc 3) ?_
    obtain ⟨y_11, h_12, H⟩ := bind_some H
    have hS := hS.pk4
    refine sl_append_L (ty := ty_api_Node) (ys := [a1]) elT22 (by decide) rfl h0_1 rfl (Reps.cons (show Ty.rep ty_api_Node _ [.int .i64 a1.Kind, .string a1.S, .int .i64 a1.N, .int .i64 a1.From, .int .i64 a1.To, .int .i64 a1.V.Kind, .int .i64 a1.V.N, .string a1.V.S, .int .i64 a1.V.H.a0, .int .i64 a1.V.H.a1, .int .i64 a1.V.H.a2, .int .i64 a1.V.H.a3, .int .i64 a1.V.H.a4, .int .i64 a1.V.H.a5, .int .i64 a1.V.H.a6, .int .i64 a1.V.H.a7, v1_0, v1_1, v1_2] a1 from ⟨_, _, _, rfl, h1_0, h1_1, h1_2⟩) (Reps.nil _ _)) rfl h_12 hS hK (by decide) rfl rfl rfl fun a w v_13 cs_14 hq_15 hS hK => ?_
    refine parK_nil (hS.pk3.pk3.pk3.trunc 3) ?_
    refine thenL_nil ?_
    refine sl hK (by decide) rfl rfl (r_nilCheck hK rfl) fun a hK => ?_
    refine sl hK (by decide) rfl rfl (r_fieldAddr Try.underlying77 rfl Try.sizeOf22 hK rfl) fun a hK => ?_
    have hS := hS.pk2
    refine sl_store1 (c' := [v0_0, .int .i64 a0.At, v_13, .int .i64 a0.E, .int .i64 a0.Depth]) Try.sizeOf22 hS hK rfl rfl rfl (hS.row_one (.tail _ (.head _))) (Nat.le_of_ble_eq_true rfl) rfl fun a w hS hK => ?_
    refine wpList_nil (NoP_nil ?_)
    refine wp_seq ?_
    refine wp_region_lit ?_
    refine sl hK (by decide) rfl rfl (r_move hK rfl) fun a hK => ?_
    refine sl hK (by decide) rfl rfl (r_nilCheck hK rfl) fun a hK => ?_
    refine sl hK (by decide) rfl rfl (r_fieldAddr Try.underlying77 rfl Try.sizeOf22 hK rfl) fun a hK => ?_
    refine sl hK (by decide) rfl rfl (r_load Try.isAgg22 hK rfl (hS.cell (.head _) rfl)) fun a hK => ?_
    refine sl hK (by decide) rfl rfl (r_len_O Try.underlying22 hS (.tail _ (.head _)) hK rfl) fun a hK => ?_
    refine sl hK (by decide) rfl rfl (r_ibin hK rfl rfl rfl) fun a hK => ?_
    refine sl hK (by decide) rfl rfl (r_assign hK rfl) fun a hK => ?_
    refine wpList_nil ?_
    obtain rfl := Option.some.inj H
    refine wp_ret ?_
    repeat (first | refine ret_then ?_ | refine ret_block ?_ | refine ret_scope ?_)
    exact ret_1 Try.results58 hK (rv_tmp hK rfl) ⟨_, rfl, _, _, _, _, _, rfl, (hS.pk1.pk3.pk2.trunc 3), hRL, h0_0, hq_15⟩
  · rw [ifb_f hb_2] at H
    refine wp_skip ?_
    refine wp_seq ?_
    refine wp_region_lit ?_
    refine sl hK (by decide) rfl rfl (r_move hK rfl) fun a hK => ?_
    refine sl hK (by decide) rfl rfl (r_nilCheck hK rfl) fun a hK => ?_
    refine sl hK (by decide) rfl rfl (r_fieldAddr Try.underlying77 rfl Try.sizeOf22 hK rfl) fun a hK => ?_
    refine sl hK (by decide) rfl rfl (r_load Try.isAgg22 hK rfl (hS.cell (.tail _ (.head _)) rfl)) fun a hK => ?_
    refine sl hK (by decide) rfl rfl (r_len_O Try.underlying22 hS (.tail _ (.tail _ (.tail _ (.head _)))) hK rfl) fun a hK => ?_
    refine sl hK (by decide) rfl rfl (r_ibin hK rfl rfl rfl) fun a hK => ?_
    refine sl hK (by decide) rfl rfl (r_assign hK rfl) fun a hK => ?_
    refine wpList_nil ?_
    obtain rfl := Option.some.inj H
    refine wp_ret ?_
    repeat (first | refine ret_then ?_ | refine ret_block ?_ | refine ret_scope ?_)
    exact ret_1 Try.results58 hK (rv_tmp hK rfl) ⟨_, rfl, _, _, _, _, _, rfl, (hS.pk3.pk3.pk3.trunc 3), hRL, h0_0, h0_1⟩

/-! ### (*catchment/catchmentref12.reader).fail: function 59 -/
set_option maxHeartbeats 4000000 in
set_option maxRecDepth 100000 in
theorem ref12_reader_fail.calls (a0 : catchmentref12_reader) {w0 : World} {R : Hp} {M : List Own} {b0 : Nat} {v0_0 : Value} {cs0_0 : List Value} {v0_1 : Value} {cs0_1 : List Value} (hS0 : St M w0 w0 R [.cells b0 [v0_0, .int .i64 a0.At, v0_1, .int .i64 a0.E, .int .i64 a0.Depth] 77, .row 72 4 v0_0 a0.L.length cs0_0, .row 51 19 v0_1 a0.Q.length cs0_1]) (h0_0 : Reps ty_api_Token R cs0_0 a0.L) (h0_1 : Reps ty_api_Node R cs0_1 a0.Q) {r : catchmentref12_reader} (H : ref12_reader_fail a0 = some r) : Calls Try.prog 59 #[.pointer (some ⟨b0, 0, none⟩)] w0 (Rets fun v w' => ∃ (R' : Hp) (u0 : Value) (cu0 : List Value) (u1 : Value) (cu1 : List Value), v = .tuple #[] ∧ St M w0 w' R' [.cells b0 [u0, .int .i64 r.At, u1, .int .i64 r.E, .int .i64 r.Depth] 77, .row 72 4 u0 r.L.length cu0, .row 51 19 u1 r.Q.length cu1] ∧ RLe M w0 R R' ∧ Reps ty_api_Token R' cu0 r.L ∧ Reps ty_api_Node R' cu1 r.Q) := by
  unfold ref12_reader_fail at H
  refine enter (args := [.pointer (some ⟨b0, 0, none⟩)]) Try.func59 rfl Try.ntmps59 rfl fun a hK => ?_
  have hS := hS0
  have hRL := RLe.refl (M := M) w0 R
  refine wp_seq ?_
  refine wp_region_lit ?_
  refine sl hK (by decide) rfl rfl (r_move hK rfl) fun a hK => ?_
  refine sl hK (by decide) rfl rfl (r_nilCheck hK rfl) fun a hK => ?_
  refine sl hK (by decide) rfl rfl (r_fieldAddr Try.underlying77 rfl Try.sizeOf42 hK rfl) fun a hK => ?_
  refine sl hK (by decide) rfl rfl (r_load Try.isAgg42 hK rfl (hS.cell (.head _) rfl)) fun a hK => ?_
  refine sl hK (by decide) rfl rfl (r_ibin hK rfl rfl rfl) fun a hK => ?_
  refine wpList_nil ?_
  refine wp_cond_split (hK.ev rfl) (fun (hb_1 : (a0.E == 0) = true) => ?_) (fun (hb_1 : (a0.E == 0) = false) => ?_)
  · rw [ifb_t hb_1] at H
    refine wp_region_lit ?_
    refine sl hK (by decide) rfl rfl (r_move hK rfl) fun a hK => ?_
    refine sl hK (by decide) rfl rfl (r_nilCheck hK rfl) fun a hK => ?_
    refine sl hK (by decide) rfl rfl (r_fieldAddr Try.underlying77 rfl Try.sizeOf42 hK rfl) fun a hK => ?_
    refine sl_store1 (c' := [v0_0, .int .i64 a0.At, v0_1, .int .i64 120, .int .i64 a0.Depth]) Try.sizeOf42 hS hK rfl rfl rfl rfl (Nat.le_of_ble_eq_true rfl) rfl fun a w hS hK => ?_
    refine wpList_nil ?_
    obtain rfl := Option.some.inj H
    exact ret_0n Try.results59 hK ⟨_, rfl, _, _, _, _, _, rfl, hS, hRL, h0_0, h0_1⟩
  · rw [ifb_f hb_1] at H
    refine wp_skip ?_
    obtain rfl := Option.some.inj H
    exact ret_0n Try.results59 hK ⟨_, rfl, _, _, _, _, _, rfl, hS, hRL, h0_0, h0_1⟩

/-! ### (*catchment/catchmentref12.reader).wants: function 76 -/
set_option maxHeartbeats 4000000 in
set_option maxRecDepth 100000 in
theorem ref12_reader_wants.calls (a0 : catchmentref12_reader) (a1 : ByteArray) {w0 : World} {R : Hp} {M : List Own} {b0 : Nat} {v0_0 : Value} {cs0_0 : List Value} {v0_1 : Value} {cs0_1 : List Value} (hS0 : St M w0 w0 R [.cells b0 [v0_0, .int .i64 a0.At, v0_1, .int .i64 a0.E, .int .i64 a0.Depth] 77, .row 72 4 v0_0 a0.L.length cs0_0, .row 51 19 v0_1 a0.Q.length cs0_1]) (h0_0 : Reps ty_api_Token R cs0_0 a0.L) (h0_1 : Reps ty_api_Node R cs0_1 a0.Q) {r : catchmentref12_reader} (H : ref12_reader_wants a0 a1 = some r) : Calls Try.prog 76 #[.pointer (some ⟨b0, 0, none⟩), .string a1] w0 (Rets fun v w' => ∃ (R' : Hp) (u0 : Value) (cu0 : List Value) (u1 : Value) (cu1 : List Value), v = .tuple #[] ∧ St M w0 w' R' [.cells b0 [u0, .int .i64 r.At, u1, .int .i64 r.E, .int .i64 r.Depth] 77, .row 72 4 u0 r.L.length cu0, .row 51 19 u1 r.Q.length cu1] ∧ RLe M w0 R R' ∧ Reps ty_api_Token R' cu0 r.L ∧ Reps ty_api_Node R' cu1 r.Q) := by
  unfold ref12_reader_wants at H
  refine enter (args := [.pointer (some ⟨b0, 0, none⟩), .string a1]) Try.func76 rfl Try.ntmps76 rfl fun a hK => ?_
  have hS := hS0
  have hRL := RLe.refl (M := M) w0 R
  refine wp_seq ?_
  refine wp_region_lit ?_
  refine sl hK (by decide) rfl rfl (r_move hK rfl) fun a hK => ?_
  refine sl hK (by decide) rfl rfl (r_move hK rfl) fun a hK => ?_
  obtain ⟨y_1, h_2, H⟩ := bind_some H
  have hS := hS.pk2
  have hS := hS.pk2
  have hS := hS.pk2
  have hS1 := hS.sp3
  refine sl_call Try.call57 hK (by decide) rfl rfl rfl (ref12_reader_sees.calls a0 a1 hS1.lend h0_0 h0_1 h_2) fun a v_ w hv_ hK => ?_
  obtain ⟨R_3, v_6, cs_7, v_10, cs_11, hv_, hr_, hl_4, hq_8, hq_12⟩ := hv_
  have hv_ := hv_.symm
  subst hv_
  obtain ⟨hS, hl_4⟩ := hS1.back hr_ hl_4
  have hS := hS.un3
  have hRL := hRL.trans hl_4
  refine sl hK (by decide) rfl rfl (r_un hK rfl (u_not _)) fun a hK => ?_
  refine wpList_nil ?_
  refine wp_cond_split (hK.ev rfl) (fun (hb_13 : (!y_1.1) = true) => ?_) (fun (hb_13 : (!y_1.1) = false) => ?_)
  · rw [ifb_t hb_13] at H
    refine wp_region_lit ?_
    refine sl hK (by decide) rfl rfl (r_move hK rfl) fun a hK => ?_
    obtain ⟨y_14, h_15, H⟩ := bind_some H
    have hS := hS.pk2
    have hS := hS.pk2
    have hS := hS.pk2
    have hS1 := hS.sp3
    refine sl_call Try.call59 hK (by decide) rfl rfl rfl (ref12_reader_fail.calls y_1.2 hS1.lend hq_8 hq_12 h_15) fun a v_ w hv_ hK => ?_
    obtain ⟨R_16, v_19, cs_20, v_23, cs_24, hv_, hr_, hl_17, hq_21, hq_25⟩ := hv_
    have hv_ := hv_.symm
    subst hv_
    obtain ⟨hS, hl_17⟩ := hS1.back hr_ hl_17
    have hS := hS.un3
    have hRL := hRL.trans hl_17
    refine wpList_nil ?_
    obtain rfl := Option.some.inj H
    exact ret_0n Try.results76 hK ⟨_, rfl, _, _, _, _, _, rfl, hS, hRL, hq_21, hq_25⟩
  · rw [ifb_f hb_13] at H
    refine wp_skip ?_
    obtain rfl := Option.some.inj H
    exact ret_0n Try.results76 hK ⟨_, rfl, _, _, _, _, _, rfl, hS, hRL, hq_8, hq_12⟩

/-! ### (*catchment/catchmentref12.reader).kind: function 77 -/
set_option maxHeartbeats 4000000 in
set_option maxRecDepth 100000 in
theorem ref12_reader_kind.calls (a0 : catchmentref12_reader) (a1 : Int) {w0 : World} {R : Hp} {M : List Own} {b0 : Nat} {v0_0 : Value} {cs0_0 : List Value} {v0_1 : Value} {cs0_1 : List Value} (hS0 : St M w0 w0 R [.cells b0 [v0_0, .int .i64 a0.At, v0_1, .int .i64 a0.E, .int .i64 a0.Depth] 77, .row 72 4 v0_0 a0.L.length cs0_0, .row 51 19 v0_1 a0.Q.length cs0_1]) (h0_0 : Reps ty_api_Token R cs0_0 a0.L) (h0_1 : Reps ty_api_Node R cs0_1 a0.Q) {r : api_Token × catchmentref12_reader} (H : ref12_reader_kind a0 a1 = some r) : Calls Try.prog 77 #[.pointer (some ⟨b0, 0, none⟩), .int .i64 a1] w0 (Rets fun v w' => ∃ (R' : Hp) (u0 : Value) (cu0 : List Value) (u1 : Value) (cu1 : List Value), v = .agg #[.int .i64 r.1.Kind, .string r.1.S, .int .i64 r.1.N, .int .i64 r.1.At] ∧ St M w0 w' R' [.cells b0 [u0, .int .i64 r.2.At, u1, .int .i64 r.2.E, .int .i64 r.2.Depth] 77, .row 72 4 u0 r.2.L.length cu0, .row 51 19 u1 r.2.Q.length cu1] ∧ RLe M w0 R R' ∧ Reps ty_api_Token R' cu0 r.2.L ∧ Reps ty_api_Node R' cu1 r.2.Q) := by
  unfold ref12_reader_kind at H
  refine enter (args := [.pointer (some ⟨b0, 0, none⟩), .int .i64 a1]) Try.func77 rfl Try.ntmps77 rfl fun a hK => ?_
  have hS := hS0
  have hRL := RLe.refl (M := M) w0 R
  refine wp_seq ?_
  refine wp_region_lit ?_
  refine sl_alloc Try.zeroValue72 hS hK (by decide) rfl rfl fun a w b_1 hS hK => ?_
  refine wpList_nil ?_
  refine wp_seq ?_
  refine wp_seq ?_
  refine wp_mid (fun a w => ∃ (x_22 : Bool), ref12_reader_kind.j0 a0 x_22 = some r ∧ Kn 58 a [(0, .pointer (some ⟨b0, 0, none⟩)), (4, .pointer (some ⟨b_1, 0, none⟩)), (36, .bool x_22)] ∧ St M w0 w R [.row 72 4 v0_0 a0.L.length cs0_0, .row 51 19 v0_1 a0.Q.length cs0_1, .cells b0 [v0_0, .int .i64 a0.At, v0_1, .int .i64 a0.E, .int .i64 a0.Depth] 77, .cells b_1 [.int .i64 0, .string (⟨#[]⟩ : ByteArray), .int .i64 0, .int .i64 0] 72]) ?_ ?_
  · refine par_region (C := fun w => St M w0 w R [.cells b_1 [.int .i64 0, .string (⟨#[]⟩ : ByteArray), .int .i64 0, .int .i64 0] 72, .cells b0 [v0_0, .int .i64 a0.At, v0_1, .int .i64 a0.E, .int .i64 a0.Depth] 77, .row 72 4 v0_0 a0.L.length cs0_0, .row 51 19 v0_1 a0.Q.length cs0_1]) [(0, true), (1, true), (2, true), (3, true), (4, true), (5, true), (6, true), (7, true), (8, true), (9, true), (10, true), (11, true), (12, true), (13, true), (14, true), (15, true), (16, true), (17, true), (18, true), (19, true), (20, true), (21, true), (22, true), (23, true), (24, true), (25, true), (26, true), (27, true), (28, true), (29, true), (30, true), (31, true)] mixed (by kernel_rfl) hS (fun w hS => hS) fun w hS => ?_
    refine sp (k := 0) rfl hK (by decide) rfl rfl (fun w hS => r_move hK rfl) fun a hK => ?_
    refine sp (k := 1) rfl hK (by decide) rfl rfl (fun w hS => r_nilCheck hK rfl) fun a hK => ?_
    refine sp (k := 2) rfl hK (by decide) rfl rfl (fun w hS => r_fieldAddr Try.underlying77 rfl Try.sizeOf42 hK rfl) fun a hK => ?_
    refine sp (k := 3) rfl hK (by decide) rfl rfl (fun w hS => r_load Try.isAgg42 hK rfl (hS.cell (.tail _ (.head _)) rfl)) fun a hK => ?_
    refine sp (k := 4) rfl hK (by decide) rfl rfl (fun w hS => r_ibin hK rfl rfl rfl) fun a hK => ?_
    refine sp (k := 5) rfl hK (by decide) rfl rfl (fun w hS => r_move hK rfl) fun a hK => ?_
    rcases or_b (a0.E != 0) with hb_34 | hb_34
    · rw [ifb_t hb_34] at H
      refine sp_skip (k := 6) rfl hK (by decide) (wft hb_34) rfl fun a hK => ?_
      refine sp_skip (k := 7) rfl hK (by decide) (wft hb_34) rfl fun a hK => ?_
      refine sp_skip (k := 8) rfl hK (by decide) (wft hb_34) rfl fun a hK => ?_
      refine sp_skip (k := 9) rfl hK (by decide) (wft hb_34) rfl fun a hK => ?_
      refine sp_skip (k := 10) rfl hK (by decide) (wft hb_34) rfl fun a hK => ?_
      refine sp_skip (k := 11) rfl hK (by decide) (wft hb_34) rfl fun a hK => ?_
      refine sp_skip (k := 12) rfl hK (by decide) (wft hb_34) rfl fun a hK => ?_
      refine sp_skip (k := 13) rfl hK (by decide) (wft hb_34) rfl fun a hK => ?_
      refine sp_skip (k := 14) rfl hK (by decide) (wft hb_34) rfl fun a hK => ?_
      refine sp_skip (k := 15) rfl hK (by decide) (wft hb_34) rfl fun a hK => ?_
      refine sp (k := 16) rfl hK (by decide) rfl rfl (fun w hS => r_pick_t hb_34 hK rfl rfl) fun a hK => ?_
      refine sp (k := 17) rfl hK (by decide) rfl rfl (fun w hS => r_move hK rfl) fun a hK => ?_
      refine sp_skip (k := 18) rfl hK (by decide) rfl rfl fun a hK => ?_
      refine sp_skip (k := 19) rfl hK (by decide) rfl rfl fun a hK => ?_
      refine sp_skip (k := 20) rfl hK (by decide) rfl rfl fun a hK => ?_
      refine sp_skip (k := 21) rfl hK (by decide) rfl rfl fun a hK => ?_
      refine sp_skip (k := 22) rfl hK (by decide) rfl rfl fun a hK => ?_
      refine sp_skip (k := 23) rfl hK (by decide) rfl rfl fun a hK => ?_
      refine sp_skip (k := 24) rfl hK (by decide) rfl rfl fun a hK => ?_
      refine sp_skip (k := 25) rfl hK (by decide) rfl rfl fun a hK => ?_
      refine sp_skip (k := 26) rfl hK (by decide) rfl rfl fun a hK => ?_
      refine sp_skip (k := 27) rfl hK (by decide) rfl rfl fun a hK => ?_
      refine sp_skip (k := 28) rfl hK (by decide) rfl rfl fun a hK => ?_
      refine sp_skip (k := 29) rfl hK (by decide) rfl rfl fun a hK => ?_
      refine sp_skip (k := 30) rfl hK (by decide) rfl rfl fun a hK => ?_
      refine sp (k := 31) rfl hK (by decide) rfl rfl (fun w hS => r_pick hK rfl rfl rfl) fun a hK => ?_
      refine wpPar_nil (NoP_nil ?_)
      have hS := hS.pk1
      have hS := hS.pk3
      have hS := hS.pk3
      exact ⟨true, H, hK.sub (all_cons rfl (all_cons rfl (all_cons rfl (all_nil)))), hS⟩
    · rw [ifb_f hb_34] at H
      refine sp (k := 6) rfl hK (by decide) (wff hb_34) rfl (fun w hS => r_move hK rfl) fun a hK => ?_
      refine sp (k := 7) rfl hK (by decide) (wff hb_34) rfl (fun w hS => r_nilCheck hK rfl) fun a hK => ?_
      refine sp (k := 8) rfl hK (by decide) (wff hb_34) rfl (fun w hS => r_fieldAddr Try.underlying77 rfl Try.sizeOf3 hK rfl) fun a hK => ?_
      refine sp (k := 9) rfl hK (by decide) (wff hb_34) rfl (fun w hS => r_load Try.isAgg3 hK rfl (hS.cell (.tail _ (.head _)) rfl)) fun a hK => ?_
      refine sp (k := 10) rfl hK (by decide) (wff hb_34) rfl (fun w hS => r_move hK rfl) fun a hK => ?_
      refine sp (k := 11) rfl hK (by decide) (wff hb_34) rfl (fun w hS => r_nilCheck hK rfl) fun a hK => ?_
      refine sp (k := 12) rfl hK (by decide) (wff hb_34) rfl (fun w hS => r_fieldAddr Try.underlying77 rfl Try.sizeOf41 hK rfl) fun a hK => ?_
      refine sp (k := 13) rfl hK (by decide) (wff hb_34) rfl (fun w hS => r_load Try.isAgg41 hK rfl (hS.cell (.tail _ (.head _)) rfl)) fun a hK => ?_
      refine sp (k := 14) rfl hK (by decide) (wff hb_34) rfl (fun w hS => r_len_O Try.underlying41 hS (.tail _ (.tail _ (.head _))) hK rfl) fun a hK => ?_
      refine sp (k := 15) rfl hK (by decide) (wff hb_34) rfl (fun w hS => r_ibin hK rfl rfl rfl) fun a hK => ?_
      refine sp (k := 16) rfl hK (by decide) rfl rfl (fun w hS => r_pick_f hb_34 hK rfl rfl) fun a hK => ?_
      refine sp (k := 17) rfl hK (by decide) rfl rfl (fun w hS => r_move hK rfl) fun a hK => ?_
      rcases or_b (decide (a0.At ≥ (a0.L.length : Int))) with hb_35 | hb_35
      · rw [ifb_t hb_35] at H
        refine sp_skip (k := 18) rfl hK (by decide) (wft hb_35) rfl fun a hK => ?_
        refine sp_skip (k := 19) rfl hK (by decide) (wft hb_35) rfl fun a hK => ?_
        refine sp_skip (k := 20) rfl hK (by decide) (wft hb_35) rfl fun a hK => ?_
        refine sp_skip (k := 21) rfl hK (by decide) (wft hb_35) rfl fun a hK => ?_
        refine sp_skip (k := 22) rfl hK (by decide) (wft hb_35) rfl fun a hK => ?_
        refine sp_skip (k := 23) rfl hK (by decide) (wft hb_35) rfl fun a hK => ?_
        refine sp_skip (k := 24) rfl hK (by decide) (wft hb_35) rfl fun a hK => ?_
        refine sp_skip (k := 25) rfl hK (by decide) (wft hb_35) rfl fun a hK => ?_
        refine sp_skip (k := 26) rfl hK (by decide) (wft hb_35) rfl fun a hK => ?_
        refine sp_skip (k := 27) rfl hK (by decide) (wft hb_35) rfl fun a hK => ?_
        refine sp_skip (k := 28) rfl hK (by decide) (wft hb_35) rfl fun a hK => ?_
        refine sp_skip (k := 29) rfl hK (by decide) (wft hb_35) rfl fun a hK => ?_
        refine sp_skip (k := 30) rfl hK (by decide) (wft hb_35) rfl fun a hK => ?_
        refine sp (k := 31) rfl hK (by decide) rfl rfl (fun w hS => r_pick_t hb_35 hK rfl rfl) fun a hK => ?_
        refine wpPar_nil (NoP_nil ?_)
        have hS := hS.pk1
        have hS := hS.pk3
        have hS := hS.pk3
        exact ⟨true, H, hK.sub (all_cons rfl (all_cons rfl (all_cons rfl (all_nil)))), hS⟩
      · rw [ifb_f hb_35] at H
        refine sp (k := 18) rfl hK (by decide) (wff hb_35) rfl (fun w hS => r_move hK rfl) fun a hK => ?_
        refine sp (k := 19) rfl hK (by decide) (wff hb_35) rfl (fun w hS => r_nilCheck hK rfl) fun a hK => ?_
        refine sp (k := 20) rfl hK (by decide) (wff hb_35) rfl (fun w hS => r_fieldAddr Try.underlying77 rfl Try.sizeOf41 hK rfl) fun a hK => ?_
        refine sp (k := 21) rfl hK (by decide) (wff hb_35) rfl (fun w hS => r_load Try.isAgg41 hK rfl (hS.cell (.tail _ (.head _)) rfl)) fun a hK => ?_
        refine sp (k := 22) rfl hK (by decide) (wff hb_35) rfl (fun w hS => r_move hK rfl) fun a hK => ?_
        refine sp (k := 23) rfl hK (by decide) (wff hb_35) rfl (fun w hS => r_nilCheck hK rfl) fun a hK => ?_
        refine sp (k := 24) rfl hK (by decide) (wff hb_35) rfl (fun w hS => r_fieldAddr Try.underlying77 rfl Try.sizeOf3 hK rfl) fun a hK => ?_
        refine sp (k := 25) rfl hK (by decide) (wff hb_35) rfl (fun w hS => r_load Try.isAgg3 hK rfl (hS.cell (.tail _ (.head _)) rfl)) fun a hK => ?_
        obtain ⟨y_36, h_37, H⟩ := bind_some H
        obtain ⟨b_39, c_40, cs_41, hv_38, hr_42, hc_43, h_370, h_371⟩ := hS.row_ix (.tail _ (.tail _ (.head _))) h0_0 rfl rfl h_37
        subst hr_42
        refine sp (k := 26) rfl hK (by decide) (wff hb_35) rfl (fun w hS => r_indexAddr_R Try.underlying41 Try.sizeOf72 hv_38 h_370 h_371 hK rfl rfl) fun a hK => ?_
        refine sp (k := 27) rfl hK (by decide) (wff hb_35) rfl (fun w hS => r_fieldAddr Try.underlying72 rfl Try.sizeOf3 hK rfl) fun a hK => ?_
        refine sp (k := 28) rfl hK (by decide) (wff hb_35) rfl (fun w hS => r_load Try.isAgg3 hK rfl (by have h_ := hS.row_cell (.tail _ (.tail _ (.head _))) hv_38 (hc_43 0 _ rfl); simpa [Nat.add_assoc] using h_)) fun a hK => ?_
        refine sp (k := 29) rfl hK (by decide) (wff hb_35) rfl (fun w hS => r_move hK rfl) fun a hK => ?_
        refine sp (k := 30) rfl hK (by decide) (wff hb_35) rfl (fun w hS => r_ibin hK rfl rfl rfl) fun a hK => ?_
        refine sp (k := 31) rfl hK (by decide) rfl rfl (fun w hS => r_pick_f hb_35 hK rfl rfl) fun a hK => ?_
        refine wpPar_nil (NoP_nil ?_)
        have hS := hS.pk1
        have hS := hS.pk3
        have hS := hS.pk3
        exact ⟨(y_36.Kind != a1), H, hK.sub (all_cons rfl (all_cons rfl (all_cons rfl (all_nil)))), hS⟩
  · rintro a w ⟨x_22, H, hK, hS⟩
    unfold ref12_reader_kind.j0 at H
    refine wp_cond_split (hK.ev rfl) (fun (hb_44 : x_22 = true) => ?_) (fun (hb_44 : x_22 = false) => ?_)
    · rw [ifb_t hb_44] at H
      refine wp_seq ?_
      refine wp_region_lit ?_
      refine sl hK (by decide) rfl rfl (r_move hK rfl) fun a hK => ?_
      obtain ⟨y_45, h_46, H⟩ := bind_some H
      have hS := hS.pk1
      have hS := hS.pk1
      have hS := hS.pk2
      have hS1 := hS.sp3
      refine sl_call Try.call59 hK (by decide) rfl rfl rfl (ref12_reader_fail.calls a0 hS1.lend h0_0 h0_1 h_46) fun a v_ w hv_ hK => ?_
      obtain ⟨R_47, v_50, cs_51, v_54, cs_55, hv_, hr_, hl_48, hq_52, hq_56⟩ := hv_
      have hv_ := hv_.symm
      subst hv_
      obtain ⟨hS, hl_48⟩ := hS1.back hr_ hl_48
      have hS := hS.un3
      have hRL := hRL.trans hl_48
      refine wpList_nil ?_
      refine wp_seq ?_
      refine wp_region_lit ?_
      refine sl hK (by decide) rfl rfl (r_buildC (ps := []) (c := [.int .i64 0, .string (⟨#[]⟩ : ByteArray), .int .i64 0, .int .i64 0]) Try.underlying72 Try.zeroValue72 places72 hK rfl pc_nil rfl rfl) fun a hK => ?_
      have hS := hS.pk3
      refine sl_storeA (vs := [.int .i64 0, .string (⟨#[]⟩ : ByteArray), .int .i64 0, .int .i64 0]) (c' := [.int .i64 0, .string (⟨#[]⟩ : ByteArray), .int .i64 0, .int .i64 0]) Try.sizeOf72 hS hK rfl rfl rfl rfl (all_cons rfl (all_cons rfl (all_cons rfl (all_cons rfl (all_nil))))) (Nat.le_of_ble_eq_true rfl) rfl fun a w hS hK => ?_
      refine wpList_nil ?_
      obtain rfl := Option.some.inj H
      refine wp_ret ?_
      repeat (first | refine ret_then ?_ | refine ret_block ?_ | refine ret_scope ?_)
      exact ret_1 Try.results77 hK (rv_cell (c := [.int .i64 0, .string (⟨#[]⟩ : ByteArray), .int .i64 0, .int .i64 0]) Try.isAgg72 Try.sizeOf72 hS (.head _) rfl hK rfl) ⟨_, rfl, _, _, _, _, _, rfl, (hS.pk3.pk3.pk3.trunc 3), hRL, hq_52, hq_56⟩
    · rw [ifb_f hb_44] at H
      refine wp_skip ?_
      refine wp_seq ?_
      refine wp_region_lit ?_
      refine sl hK (by decide) rfl rfl (r_move hK rfl) fun a hK => ?_
      refine sl hK (by decide) rfl rfl (r_nilCheck hK rfl) fun a hK => ?_
      refine sl hK (by decide) rfl rfl (r_fieldAddr Try.underlying77 rfl Try.sizeOf3 hK rfl) fun a hK => ?_
      refine sl hK (by decide) rfl rfl (r_load Try.isAgg3 hK rfl (hS.cell (.tail _ (.tail _ (.head _))) rfl)) fun a hK => ?_
      refine sl hK (by decide) rfl rfl (r_ibin hK rfl rfl rfl) fun a hK => ?_
      refine sl hK (by decide) rfl rfl (r_nilCheck hK rfl) fun a hK => ?_
      refine sl hK (by decide) rfl rfl (r_fieldAddr Try.underlying77 rfl Try.sizeOf3 hK rfl) fun a hK => ?_
      have hS := hS.pk2
      refine sl_store1 (c' := [v0_0, .int .i64 (IntKind.i64.wrap (a0.At + 1)), v0_1, .int .i64 a0.E, .int .i64 a0.Depth]) Try.sizeOf3 hS hK rfl rfl rfl rfl (Nat.le_of_ble_eq_true rfl) rfl fun a w hS hK => ?_
      refine wpList_nil ?_
      refine wp_seq ?_
      refine parT_region (C := fun w => St M w0 w R [.cells b0 [v0_0, .int .i64 (IntKind.i64.wrap (a0.At + 1)), v0_1, .int .i64 a0.E, .int .i64 a0.Depth] 77, .row 72 4 v0_0 a0.L.length cs0_0, .row 51 19 v0_1 a0.Q.length cs0_1, .cells b_1 [.int .i64 0, .string (⟨#[]⟩ : ByteArray), .int .i64 0, .int .i64 0] 72]) 9 [(0, true), (1, true), (2, true), (3, true), (4, true), (5, true), (6, true), (7, true), (8, true)] mixed (by kernel_rfl) hS (fun w hS => hS) fun w hS => ?_
      refine sp (k := 0) rfl hK (by decide) rfl rfl (fun w hS => r_move hK rfl) fun a hK => ?_
      refine sp (k := 1) rfl hK (by decide) rfl rfl (fun w hS => r_nilCheck hK rfl) fun a hK => ?_
      refine sp (k := 2) rfl hK (by decide) rfl rfl (fun w hS => r_fieldAddr Try.underlying77 rfl Try.sizeOf41 hK rfl) fun a hK => ?_
      refine sp (k := 3) rfl hK (by decide) rfl rfl (fun w hS => r_load Try.isAgg41 hK rfl (hS.cell (.head _) rfl)) fun a hK => ?_
      refine sp (k := 4) rfl hK (by decide) rfl rfl (fun w hS => r_move hK rfl) fun a hK => ?_
      refine sp (k := 5) rfl hK (by decide) rfl rfl (fun w hS => r_nilCheck hK rfl) fun a hK => ?_
      refine sp (k := 6) rfl hK (by decide) rfl rfl (fun w hS => r_fieldAddr Try.underlying77 rfl Try.sizeOf3 hK rfl) fun a hK => ?_
      refine sp (k := 7) rfl hK (by decide) rfl rfl (fun w hS => r_load Try.isAgg3 hK rfl (hS.cell (.head _) rfl)) fun a hK => ?_
      refine sp (k := 8) rfl hK (by decide) rfl rfl (fun w hS => r_ibin hK rfl rfl rfl) fun a hK => ?_
      refine thenL_nil ?_
      obtain ⟨y_65, h_66, H⟩ := bind_some H
      obtain ⟨b_68, c_69, cs_70, hv_67, hr_71, hc_72, h_660, h_661⟩ := hS.row_ix (.tail _ (.head _)) h0_0 rfl rfl h_66
      subst hr_71
      refine sl hK (by decide) rfl rfl (r_indexAddr_R Try.underlying41 Try.sizeOf72 hv_67 h_660 h_661 hK rfl rfl) fun a hK => ?_
      refine sl hK (by decide) rfl rfl (r_loadA (cs := [.int .i64 y_65.Kind, .string y_65.S, .int .i64 y_65.N, .int .i64 y_65.At]) Try.isAgg72 Try.sizeOf72 rfl hK rfl (fun j v hv => by have := hS.row_cell (.tail _ (.head _)) hv_67 (hc_72 j v hv); simpa [Nat.add_assoc] using this)) fun a hK => ?_
      have hS := hS.pk3
      refine sl_storeA (vs := [.int .i64 y_65.Kind, .string y_65.S, .int .i64 y_65.N, .int .i64 y_65.At]) (c' := [.int .i64 y_65.Kind, .string y_65.S, .int .i64 y_65.N, .int .i64 y_65.At]) Try.sizeOf72 hS hK rfl rfl rfl rfl (all_cons rfl (all_cons rfl (all_cons rfl (all_cons rfl (all_nil))))) (Nat.le_of_ble_eq_true rfl) rfl fun a w hS hK => ?_
      refine wpList_nil (NoP_nil ?_)
      obtain rfl := Option.some.inj H
      refine wp_ret ?_
      repeat (first | refine ret_then ?_ | refine ret_block ?_ | refine ret_scope ?_)
      exact ret_1 Try.results77 hK (rv_cell (c := [.int .i64 y_65.Kind, .string y_65.S, .int .i64 y_65.N, .int .i64 y_65.At]) Try.isAgg72 Try.sizeOf72 hS (.head _) rfl hK rfl) ⟨_, rfl, _, _, _, _, _, rfl, (hS.pk3.pk3.pk3.trunc 3), hRL, h0_0, h0_1⟩

/-! ### (*catchment/catchmentref12.reader).value: function 78 -/
set_option maxHeartbeats 4000000 in
set_option maxRecDepth 100000 in
theorem ref12_reader_value.calls (a0 : catchmentref12_reader) {w0 : World} {R : Hp} {M : List Own} {b0 : Nat} {v0_0 : Value} {cs0_0 : List Value} {v0_1 : Value} {cs0_1 : List Value} (hS0 : St M w0 w0 R [.cells b0 [v0_0, .int .i64 a0.At, v0_1, .int .i64 a0.E, .int .i64 a0.Depth] 77, .row 72 4 v0_0 a0.L.length cs0_0, .row 51 19 v0_1 a0.Q.length cs0_1]) (h0_0 : Reps ty_api_Token R cs0_0 a0.L) (h0_1 : Reps ty_api_Node R cs0_1 a0.Q) {r : api_Value × catchmentref12_reader} (H : ref12_reader_value a0 = some r) : Calls Try.prog 78 #[.pointer (some ⟨b0, 0, none⟩)] w0 (Rets fun v w' => ∃ (R' : Hp) (u0 : Value) (cu0 : List Value) (u1 : Value) (cu1 : List Value), v = .agg #[.int .i64 r.1.Kind, .int .i64 r.1.N, .string r.1.S, .int .i64 r.1.H.a0, .int .i64 r.1.H.a1, .int .i64 r.1.H.a2, .int .i64 r.1.H.a3, .int .i64 r.1.H.a4, .int .i64 r.1.H.a5, .int .i64 r.1.H.a6, .int .i64 r.1.H.a7] ∧ St M w0 w' R' [.cells b0 [u0, .int .i64 r.2.At, u1, .int .i64 r.2.E, .int .i64 r.2.Depth] 77, .row 72 4 u0 r.2.L.length cu0, .row 51 19 u1 r.2.Q.length cu1] ∧ RLe M w0 R R' ∧ Reps ty_api_Token R' cu0 r.2.L ∧ Reps ty_api_Node R' cu1 r.2.Q) := by
  unfold ref12_reader_value at H
  refine enter (args := [.pointer (some ⟨b0, 0, none⟩)]) Try.func78 rfl Try.ntmps78 rfl fun a hK => ?_
  have hS := hS0
  have hRL := RLe.refl (M := M) w0 R
  refine wp_seq ?_
  refine wp_region_lit ?_
  refine sl_alloc Try.zeroValue39 hS hK (by decide) rfl rfl fun a w b_1 hS hK => ?_
  refine wpList_nil ?_
  refine wp_seq ?_
  refine wp_seq ?_
  refine wp_region_lit ?_
  refine sl hK (by decide) rfl rfl (r_move hK rfl) fun a hK => ?_
  obtain ⟨y_2, h_3, H⟩ := bind_some H
  have hS := hS.pk3
  have hS := hS.pk3
  have hS := hS.pk3
  have hS1 := hS.sp3
  refine sl_call Try.call57 hK (by decide) rfl rfl rfl (ref12_reader_sees.calls a0 (⟨#[116, 114, 117, 101]⟩ : ByteArray) hS1.lend h0_0 h0_1 h_3) fun a v_ w hv_ hK => ?_
  obtain ⟨R_4, v_7, cs_8, v_11, cs_12, hv_, hr_, hl_5, hq_9, hq_13⟩ := hv_
  have hv_ := hv_.symm
  subst hv_
  obtain ⟨hS, hl_5⟩ := hS1.back hr_ hl_5
  have hS := hS.un3
  have hRL := hRL.trans hl_5
  refine wpList_nil ?_
  refine wp_cond_split (hK.ev rfl) (fun (hb_14 : y_2.1 = true) => ?_) (fun (hb_14 : y_2.1 = false) => ?_)
  · rw [ifb_t hb_14] at H
    refine wp_seq ?_
    refine wp_region_lit ?_
    refine sl hK (by decide) rfl rfl (r_buildC (ps := [(0, .int .i64 3), (1, .int .i64 1)]) (c := [.int .i64 3, .int .i64 1, .string (⟨#[]⟩ : ByteArray), .int .i64 0, .int .i64 0, .int .i64 0, .int .i64 0, .int .i64 0, .int .i64 0, .int .i64 0, .int .i64 0]) Try.underlying39 Try.zeroValue39 places39 hK rfl (pc_cons rfl (pc_cons rfl pc_nil)) rfl rfl) fun a hK => ?_
    have hS := hS.pk3
    refine sl_storeA (vs := [.int .i64 3, .int .i64 1, .string (⟨#[]⟩ : ByteArray), .int .i64 0, .int .i64 0, .int .i64 0, .int .i64 0, .int .i64 0, .int .i64 0, .int .i64 0, .int .i64 0]) (c' := [.int .i64 3, .int .i64 1, .string (⟨#[]⟩ : ByteArray), .int .i64 0, .int .i64 0, .int .i64 0, .int .i64 0, .int .i64 0, .int .i64 0, .int .i64 0, .int .i64 0]) Try.sizeOf39 hS hK rfl rfl rfl rfl (all_cons rfl (all_cons rfl (all_cons rfl (all_cons rfl (all_cons rfl (all_cons rfl (all_cons rfl (all_cons rfl (all_cons rfl (all_cons rfl (all_cons rfl (all_nil)))))))))))) (Nat.le_of_ble_eq_true rfl) rfl fun a w hS hK => ?_
    refine wpList_nil ?_
    obtain rfl := Option.some.inj H
    refine wp_ret ?_
    repeat (first | refine ret_then ?_ | refine ret_block ?_ | refine ret_scope ?_)
    exact ret_1 Try.results78 hK (rv_cell (c := [.int .i64 3, .int .i64 1, .string (⟨#[]⟩ : ByteArray), .int .i64 0, .int .i64 0, .int .i64 0, .int .i64 0, .int .i64 0, .int .i64 0, .int .i64 0, .int .i64 0]) Try.isAgg39 Try.sizeOf39 hS (.head _) rfl hK rfl) ⟨_, rfl, _, _, _, _, _, rfl, (hS.pk3.pk3.pk3.trunc 3), hRL, hq_9, hq_13⟩
  · rw [ifb_f hb_14] at H
    refine wp_skip ?_
    refine wp_seq ?_
    refine wp_seq ?_
    refine wp_region_lit ?_
    refine sl hK (by decide) rfl rfl (r_move hK rfl) fun a hK => ?_
    obtain ⟨y_15, h_16, H⟩ := bind_some H
    have hS := hS.pk2
    have hS := hS.pk2
    have hS := hS.pk2
    have hS1 := hS.sp3
    refine sl_call Try.call57 hK (by decide) rfl rfl rfl (ref12_reader_sees.calls y_2.2 (⟨#[102, 97, 108, 115, 101]⟩ : ByteArray) hS1.lend hq_9 hq_13 h_16) fun a v_ w hv_ hK => ?_
    obtain ⟨R_17, v_20, cs_21, v_24, cs_25, hv_, hr_, hl_18, hq_22, hq_26⟩ := hv_
    have hv_ := hv_.symm
    subst hv_
    obtain ⟨hS, hl_18⟩ := hS1.back hr_ hl_18
    have hS := hS.un3
    have hRL := hRL.trans hl_18
    refine wpList_nil ?_
    refine wp_cond_split (hK.ev rfl) (fun (hb_27 : y_15.1 = true) => ?_) (fun (hb_27 : y_15.1 = false) => ?_)
    · rw [ifb_t hb_27] at H
      refine wp_seq ?_
      refine wp_region_lit ?_
      refine sl hK (by decide) rfl rfl (r_buildC (ps := [(0, .int .i64 3)]) (c := [.int .i64 3, .int .i64 0, .string (⟨#[]⟩ : ByteArray), .int .i64 0, .int .i64 0, .int .i64 0, .int .i64 0, .int .i64 0, .int .i64 0, .int .i64 0, .int .i64 0]) Try.underlying39 Try.zeroValue39 places39 hK rfl (pc_cons rfl pc_nil) rfl rfl) fun a hK => ?_
      have hS := hS.pk3
      refine sl_storeA (vs := [.int .i64 3, .int .i64 0, .string (⟨#[]⟩ : ByteArray), .int .i64 0, .int .i64 0, .int .i64 0, .int .i64 0, .int .i64 0, .int .i64 0, .int .i64 0, .int .i64 0]) (c' := [.int .i64 3, .int .i64 0, .string (⟨#[]⟩ : ByteArray), .int .i64 0, .int .i64 0, .int .i64 0, .int .i64 0, .int .i64 0, .int .i64 0, .int .i64 0, .int .i64 0]) Try.sizeOf39 hS hK rfl rfl rfl rfl (all_cons rfl (all_cons rfl (all_cons rfl (all_cons rfl (all_cons rfl (all_cons rfl (all_cons rfl (all_cons rfl (all_cons rfl (all_cons rfl (all_cons rfl (all_nil)))))))))))) (Nat.le_of_ble_eq_true rfl) rfl fun a w hS hK => ?_
      refine wpList_nil ?_
      obtain rfl := Option.some.inj H
      refine wp_ret ?_
      repeat (first | refine ret_then ?_ | refine ret_block ?_ | refine ret_scope ?_)
      exact ret_1 Try.results78 hK (rv_cell (c := [.int .i64 3, .int .i64 0, .string (⟨#[]⟩ : ByteArray), .int .i64 0, .int .i64 0, .int .i64 0, .int .i64 0, .int .i64 0, .int .i64 0, .int .i64 0, .int .i64 0]) Try.isAgg39 Try.sizeOf39 hS (.head _) rfl hK rfl) ⟨_, rfl, _, _, _, _, _, rfl, (hS.pk3.pk3.pk3.trunc 3), hRL, hq_22, hq_26⟩
    · rw [ifb_f hb_27] at H
      refine wp_skip ?_
      refine wp_seq ?_
      refine wp_seq ?_
      refine wp_mid (fun a w => ∃ (x_46 : Bool), ref12_reader_value.j0 y_15 x_46 = some r ∧ Kn 41 a [(0, .pointer (some ⟨b0, 0, none⟩)), (2, .pointer (some ⟨b_1, 0, none⟩)), (32, .bool x_46)] ∧ St M w0 w R_17 [.row 72 4 v_20 y_15.2.L.length cs_21, .row 51 19 v_24 y_15.2.Q.length cs_25, .cells b0 [v_20, .int .i64 y_15.2.At, v_24, .int .i64 y_15.2.E, .int .i64 y_15.2.Depth] 77, .cells b_1 [.int .i64 0, .int .i64 0, .string (⟨#[]⟩ : ByteArray), .int .i64 0, .int .i64 0, .int .i64 0, .int .i64 0, .int .i64 0, .int .i64 0, .int .i64 0, .int .i64 0] 39]) ?_ ?_
      · refine par_region (C := fun w => St M w0 w R_17 [.cells b0 [v_20, .int .i64 y_15.2.At, v_24, .int .i64 y_15.2.E, .int .i64 y_15.2.Depth] 77, .row 72 4 v_20 y_15.2.L.length cs_21, .row 51 19 v_24 y_15.2.Q.length cs_25, .cells b_1 [.int .i64 0, .int .i64 0, .string (⟨#[]⟩ : ByteArray), .int .i64 0, .int .i64 0, .int .i64 0, .int .i64 0, .int .i64 0, .int .i64 0, .int .i64 0, .int .i64 0] 39]) [(0, true), (1, true), (2, true), (3, true), (4, true), (5, true), (6, true), (7, true), (8, true), (9, true), (10, true), (11, true), (12, true), (13, true), (14, true), (15, true), (16, true), (17, true), (18, true), (19, true), (20, true), (21, true), (22, true), (23, true)] mixed (by kernel_rfl) hS (fun w hS => hS) fun w hS => ?_
        refine sp (k := 0) rfl hK (by decide) rfl rfl (fun w hS => r_move hK rfl) fun a hK => ?_
        refine sp (k := 1) rfl hK (by decide) rfl rfl (fun w hS => r_nilCheck hK rfl) fun a hK => ?_
        refine sp (k := 2) rfl hK (by decide) rfl rfl (fun w hS => r_fieldAddr Try.underlying77 rfl Try.sizeOf3 hK rfl) fun a hK => ?_
        refine sp (k := 3) rfl hK (by decide) rfl rfl (fun w hS => r_load Try.isAgg3 hK rfl (hS.cell (.head _) rfl)) fun a hK => ?_
        refine sp (k := 4) rfl hK (by decide) rfl rfl (fun w hS => r_move hK rfl) fun a hK => ?_
        refine sp (k := 5) rfl hK (by decide) rfl rfl (fun w hS => r_nilCheck hK rfl) fun a hK => ?_
        refine sp (k := 6) rfl hK (by decide) rfl rfl (fun w hS => r_fieldAddr Try.underlying77 rfl Try.sizeOf41 hK rfl) fun a hK => ?_
        refine sp (k := 7) rfl hK (by decide) rfl rfl (fun w hS => r_load Try.isAgg41 hK rfl (hS.cell (.head _) rfl)) fun a hK => ?_
        refine sp (k := 8) rfl hK (by decide) rfl rfl (fun w hS => r_len_O Try.underlying41 hS (.tail _ (.head _)) hK rfl) fun a hK => ?_
        refine sp (k := 9) rfl hK (by decide) rfl rfl (fun w hS => r_ibin hK rfl rfl rfl) fun a hK => ?_
        refine sp (k := 10) rfl hK (by decide) rfl rfl (fun w hS => r_move hK rfl) fun a hK => ?_
        rcases or_b (decide (y_15.2.At < (y_15.2.L.length : Int))) with hb_57 | hb_57
        · rw [ifb_t hb_57] at H
          refine sp (k := 11) rfl hK (by decide) (wtt hb_57) rfl (fun w hS => r_move hK rfl) fun a hK => ?_
          refine sp (k := 12) rfl hK (by decide) (wtt hb_57) rfl (fun w hS => r_nilCheck hK rfl) fun a hK => ?_
          refine sp (k := 13) rfl hK (by decide) (wtt hb_57) rfl (fun w hS => r_fieldAddr Try.underlying77 rfl Try.sizeOf41 hK rfl) fun a hK => ?_
          refine sp (k := 14) rfl hK (by decide) (wtt hb_57) rfl (fun w hS => r_load Try.isAgg41 hK rfl (hS.cell (.head _) rfl)) fun a hK => ?_
          refine sp (k := 15) rfl hK (by decide) (wtt hb_57) rfl (fun w hS => r_move hK rfl) fun a hK => ?_
          refine sp (k := 16) rfl hK (by decide) (wtt hb_57) rfl (fun w hS => r_nilCheck hK rfl) fun a hK => ?_
          refine sp (k := 17) rfl hK (by decide) (wtt hb_57) rfl (fun w hS => r_fieldAddr Try.underlying77 rfl Try.sizeOf3 hK rfl) fun a hK => ?_
          refine sp (k := 18) rfl hK (by decide) (wtt hb_57) rfl (fun w hS => r_load Try.isAgg3 hK rfl (hS.cell (.head _) rfl)) fun a hK => ?_
          obtain ⟨y_58, h_59, H⟩ := bind_some H
          obtain ⟨b_61, c_62, cs_63, hv_60, hr_64, hc_65, h_590, h_591⟩ := hS.row_ix (.tail _ (.head _)) hq_22 rfl rfl h_59
          subst hr_64
          refine sp (k := 19) rfl hK (by decide) (wtt hb_57) rfl (fun w hS => r_indexAddr_R Try.underlying41 Try.sizeOf72 hv_60 h_590 h_591 hK rfl rfl) fun a hK => ?_
          refine sp (k := 20) rfl hK (by decide) (wtt hb_57) rfl (fun w hS => r_fieldAddr Try.underlying72 rfl Try.sizeOf3 hK rfl) fun a hK => ?_
          refine sp (k := 21) rfl hK (by decide) (wtt hb_57) rfl (fun w hS => r_load Try.isAgg3 hK rfl (by have h_ := hS.row_cell (.tail _ (.head _)) hv_60 (hc_65 0 _ rfl); simpa [Nat.add_assoc] using h_)) fun a hK => ?_
          refine sp (k := 22) rfl hK (by decide) (wtt hb_57) rfl (fun w hS => r_ibin hK rfl rfl rfl) fun a hK => ?_
          refine sp (k := 23) rfl hK (by decide) rfl rfl (fun w hS => r_pick_t hb_57 hK rfl rfl) fun a hK => ?_
          refine wpPar_nil (NoP_nil ?_)
          have hS := hS.pk3
          have hS := hS.pk1
          have hS := hS.pk3
          have hS := hS.pk3
          exact ⟨(y_58.Kind == 2), H, hK.sub (all_cons rfl (all_cons rfl (all_cons rfl (all_nil)))), hS⟩
        · rw [ifb_f hb_57] at H
          refine sp_skip (k := 11) rfl hK (by decide) (wtf hb_57) rfl fun a hK => ?_
          refine sp_skip (k := 12) rfl hK (by decide) (wtf hb_57) rfl fun a hK => ?_
          refine sp_skip (k := 13) rfl hK (by decide) (wtf hb_57) rfl fun a hK => ?_
          refine sp_skip (k := 14) rfl hK (by decide) (wtf hb_57) rfl fun a hK => ?_
          refine sp_skip (k := 15) rfl hK (by decide) (wtf hb_57) rfl fun a hK => ?_
          refine sp_skip (k := 16) rfl hK (by decide) (wtf hb_57) rfl fun a hK => ?_
          refine sp_skip (k := 17) rfl hK (by decide) (wtf hb_57) rfl fun a hK => ?_
          refine sp_skip (k := 18) rfl hK (by decide) (wtf hb_57) rfl fun a hK => ?_
          refine sp_skip (k := 19) rfl hK (by decide) (wtf hb_57) rfl fun a hK => ?_
          refine sp_skip (k := 20) rfl hK (by decide) (wtf hb_57) rfl fun a hK => ?_
          refine sp_skip (k := 21) rfl hK (by decide) (wtf hb_57) rfl fun a hK => ?_
          refine sp_skip (k := 22) rfl hK (by decide) (wtf hb_57) rfl fun a hK => ?_
          refine sp (k := 23) rfl hK (by decide) rfl rfl (fun w hS => r_pick_f hb_57 hK rfl rfl) fun a hK => ?_
          refine wpPar_nil (NoP_nil ?_)
          have hS := hS.pk3
          have hS := hS.pk1
          have hS := hS.pk3
          have hS := hS.pk3
          exact ⟨false, H, hK.sub (all_cons rfl (all_cons rfl (all_cons rfl (all_nil)))), hS⟩
      · rintro a w ⟨x_46, H, hK, hS⟩
        unfold ref12_reader_value.j0 at H
        refine wp_cond_split (hK.ev rfl) (fun (hb_66 : x_46 = true) => ?_) (fun (hb_66 : x_46 = false) => ?_)
        · rw [ifb_t hb_66] at H
          refine wp_seq ?_
          refine wp_region_lit ?_
          refine sl hK (by decide) rfl rfl (r_move hK rfl) fun a hK => ?_
          obtain ⟨y_67, h_68, H⟩ := bind_some H
          have hS := hS.pk1
          have hS := hS.pk1
          have hS := hS.pk2
          have hS1 := hS.sp3
          refine sl_call Try.call77 hK (by decide) rfl rfl rfl (ref12_reader_kind.calls y_15.2 2 hS1.lend hq_22 hq_26 h_68) fun a v_ w hv_ hK => ?_
          obtain ⟨R_69, v_72, cs_73, v_76, cs_77, hv_, hr_, hl_70, hq_74, hq_78⟩ := hv_
          have hv_ := hv_.symm
          subst hv_
          obtain ⟨hS, hl_70⟩ := hS1.back hr_ hl_70
          have hS := hS.un3
          have hRL := hRL.trans hl_70
          refine sl hK (by decide) rfl rfl (r_field Try.underlying72 rfl Try.isAgg3 hK rfl rfl) fun a hK => ?_
          refine sl hK (by decide) rfl rfl (r_buildC (ps := [(0, .int .i64 1), (1, .int .i64 y_67.1.N)]) (c := [.int .i64 1, .int .i64 y_67.1.N, .string (⟨#[]⟩ : ByteArray), .int .i64 0, .int .i64 0, .int .i64 0, .int .i64 0, .int .i64 0, .int .i64 0, .int .i64 0, .int .i64 0]) Try.underlying39 Try.zeroValue39 places39 hK rfl (pc_cons rfl (pc_cons rfl pc_nil)) rfl rfl) fun a hK => ?_
          have hS := hS.pk3
          refine sl_storeA (vs := [.int .i64 1, .int .i64 y_67.1.N, .string (⟨#[]⟩ : ByteArray), .int .i64 0, .int .i64 0, .int .i64 0, .int .i64 0, .int .i64 0, .int .i64 0, .int .i64 0, .int .i64 0]) (c' := [.int .i64 1, .int .i64 y_67.1.N, .string (⟨#[]⟩ : ByteArray), .int .i64 0, .int .i64 0, .int .i64 0, .int .i64 0, .int .i64 0, .int .i64 0, .int .i64 0, .int .i64 0]) Try.sizeOf39 hS hK rfl rfl rfl rfl (all_cons rfl (all_cons rfl (all_cons rfl (all_cons rfl (all_cons rfl (all_cons rfl (all_cons rfl (all_cons rfl (all_cons rfl (all_cons rfl (all_cons rfl (all_nil)))))))))))) (Nat.le_of_ble_eq_true rfl) rfl fun a w hS hK => ?_
          refine wpList_nil ?_
          obtain rfl := Option.some.inj H
          refine wp_ret ?_
          repeat (first | refine ret_then ?_ | refine ret_block ?_ | refine ret_scope ?_)
          exact ret_1 Try.results78 hK (rv_cell (c := [.int .i64 1, .int .i64 y_67.1.N, .string (⟨#[]⟩ : ByteArray), .int .i64 0, .int .i64 0, .int .i64 0, .int .i64 0, .int .i64 0, .int .i64 0, .int .i64 0, .int .i64 0]) Try.isAgg39 Try.sizeOf39 hS (.head _) rfl hK rfl) ⟨_, rfl, _, _, _, _, _, rfl, (hS.pk3.pk3.pk3.trunc 3), hRL, hq_74, hq_78⟩
        · rw [ifb_f hb_66] at H
          refine wp_skip ?_
          refine wp_seq ?_
          refine wp_region_lit ?_
          refine sl hK (by decide) rfl rfl (r_move hK rfl) fun a hK => ?_
          obtain ⟨y_79, h_80, H⟩ := bind_some H
          have hS := hS.pk1
          have hS := hS.pk1
          have hS := hS.pk2
          have hS1 := hS.sp3
          refine sl_call Try.call77 hK (by decide) rfl rfl rfl (ref12_reader_kind.calls y_15.2 3 hS1.lend hq_22 hq_26 h_80) fun a v_ w hv_ hK => ?_
          obtain ⟨R_81, v_84, cs_85, v_88, cs_89, hv_, hr_, hl_82, hq_86, hq_90⟩ := hv_
          have hv_ := hv_.symm
          subst hv_
          obtain ⟨hS, hl_82⟩ := hS1.back hr_ hl_82
          have hS := hS.un3
          have hRL := hRL.trans hl_82
          refine sl hK (by decide) rfl rfl (r_field Try.underlying72 rfl Try.isAgg9 hK rfl rfl) fun a hK => ?_
          refine sl hK (by decide) rfl rfl (r_buildC (ps := [(0, .int .i64 2), (2, .string y_79.1.S)]) (c := [.int .i64 2, .int .i64 0, .string y_79.1.S, .int .i64 0, .int .i64 0, .int .i64 0, .int .i64 0, .int .i64 0, .int .i64 0, .int .i64 0, .int .i64 0]) Try.underlying39 Try.zeroValue39 places39 hK rfl (pc_cons rfl (pc_cons rfl pc_nil)) rfl rfl) fun a hK => ?_
          have hS := hS.pk3
          refine sl_storeA (vs := [.int .i64 2, .int .i64 0, .string y_79.1.S, .int .i64 0, .int .i64 0, .int .i64 0, .int .i64 0, .int .i64 0, .int .i64 0, .int .i64 0, .int .i64 0]) (c' := [.int .i64 2, .int .i64 0, .string y_79.1.S, .int .i64 0, .int .i64 0, .int .i64 0, .int .i64 0, .int .i64 0, .int .i64 0, .int .i64 0, .int .i64 0]) Try.sizeOf39 hS hK rfl rfl rfl rfl (all_cons rfl (all_cons rfl (all_cons rfl (all_cons rfl (all_cons rfl (all_cons rfl (all_cons rfl (all_cons rfl (all_cons rfl (all_cons rfl (all_cons rfl (all_nil)))))))))))) (Nat.le_of_ble_eq_true rfl) rfl fun a w hS hK => ?_
          refine wpList_nil ?_
          obtain rfl := Option.some.inj H
          refine wp_ret ?_
          repeat (first | refine ret_then ?_ | refine ret_block ?_ | refine ret_scope ?_)
          exact ret_1 Try.results78 hK (rv_cell (c := [.int .i64 2, .int .i64 0, .string y_79.1.S, .int .i64 0, .int .i64 0, .int .i64 0, .int .i64 0, .int .i64 0, .int .i64 0, .int .i64 0, .int .i64 0]) Try.isAgg39 Try.sizeOf39 hS (.head _) rfl hK rfl) ⟨_, rfl, _, _, _, _, _, rfl, (hS.pk3.pk3.pk3.trunc 3), hRL, hq_86, hq_90⟩

/-! ### (*catchment/catchmentref12.reader).not: function 67 -/
set_option maxHeartbeats 4000000 in
set_option maxRecDepth 100000 in
theorem ref12_reader_not.r_calls (kr_38 : catchmentref12_reader → Option (Int × catchmentref12_reader)) (ih_38 : ∀ (a0 : catchmentref12_reader) {w0 : World} {R : Hp} {M : List Own} {b0 : Nat} {v0_0 : Value} {cs0_0 : List Value} {v0_1 : Value} {cs0_1 : List Value} (hS0 : St M w0 w0 R [.cells b0 [v0_0, .int .i64 a0.At, v0_1, .int .i64 a0.E, .int .i64 a0.Depth] 77, .row 72 4 v0_0 a0.L.length cs0_0, .row 51 19 v0_1 a0.Q.length cs0_1]) (h0_0 : Reps ty_api_Token R cs0_0 a0.L) (h0_1 : Reps ty_api_Node R cs0_1 a0.Q) {r : Int × catchmentref12_reader} (H : kr_38 a0 = some r), Calls Try.prog 38 #[.pointer (some ⟨b0, 0, none⟩)] w0 (Rets fun v w' => ∃ (R' : Hp) (u0 : Value) (cu0 : List Value) (u1 : Value) (cu1 : List Value), v = .int .i64 r.1 ∧ St M w0 w' R' [.cells b0 [u0, .int .i64 r.2.At, u1, .int .i64 r.2.E, .int .i64 r.2.Depth] 77, .row 72 4 u0 r.2.L.length cu0, .row 51 19 u1 r.2.Q.length cu1] ∧ RLe M w0 R R' ∧ Reps ty_api_Token R' cu0 r.2.L ∧ Reps ty_api_Node R' cu1 r.2.Q)) (fuel : Nat) : ∀ (a0 : catchmentref12_reader) {w0 : World} {R : Hp} {M : List Own} {b0 : Nat} {v0_0 : Value} {cs0_0 : List Value} {v0_1 : Value} {cs0_1 : List Value} (hS0 : St M w0 w0 R [.cells b0 [v0_0, .int .i64 a0.At, v0_1, .int .i64 a0.E, .int .i64 a0.Depth] 77, .row 72 4 v0_0 a0.L.length cs0_0, .row 51 19 v0_1 a0.Q.length cs0_1]) (h0_0 : Reps ty_api_Token R cs0_0 a0.L) (h0_1 : Reps ty_api_Node R cs0_1 a0.Q) {r : Int × catchmentref12_reader} (H : ref12_reader_not.r kr_38 fuel a0 = some r), Calls Try.prog 67 #[.pointer (some ⟨b0, 0, none⟩)] w0 (Rets fun v w' => ∃ (R' : Hp) (u0 : Value) (cu0 : List Value) (u1 : Value) (cu1 : List Value), v = .int .i64 r.1 ∧ St M w0 w' R' [.cells b0 [u0, .int .i64 r.2.At, u1, .int .i64 r.2.E, .int .i64 r.2.Depth] 77, .row 72 4 u0 r.2.L.length cu0, .row 51 19 u1 r.2.Q.length cu1] ∧ RLe M w0 R R' ∧ Reps ty_api_Token R' cu0 r.2.L ∧ Reps ty_api_Node R' cu1 r.2.Q) := by
  induction fuel with
  | zero => intros; rename_i H; exact nomatch (show (none : Option _) = some _ from H)
  | succ fuel ih_67 =>
    intro a0 w0 R M b0 v0_0 cs0_0 v0_1 cs0_1 hS0 h0_0 h0_1 r H
    rw [ref12_reader_not.r.eq_2] at H
    generalize ref12_reader_not.r kr_38 fuel = kr_67 at ih_67 H
    unfold ref12_reader_not.b at H
    refine enter (args := [.pointer (some ⟨b0, 0, none⟩)]) Try.func67 rfl Try.ntmps67 rfl fun a hK => ?_
    have hS := hS0
    have hRL := RLe.refl (M := M) w0 R
    refine wp_seq ?_
    refine wp_region_lit ?_
    refine sl hK (by decide) rfl rfl (r_assign hK rfl) fun a hK => ?_
    refine wpList_nil ?_
    refine wp_seq ?_
    refine wp_seq ?_
    refine wp_region_lit ?_
    refine sl hK (by decide) rfl rfl (r_move hK rfl) fun a hK => ?_
    refine sl hK (by decide) rfl rfl (r_nilCheck hK rfl) fun a hK => ?_
    refine sl hK (by decide) rfl rfl (r_fieldAddr Try.underlying77 rfl Try.sizeOf42 hK rfl) fun a hK => ?_
    refine sl hK (by decide) rfl rfl (r_load Try.isAgg42 hK rfl (hS.cell (.head _) rfl)) fun a hK => ?_
    refine sl hK (by decide) rfl rfl (r_ibin hK rfl rfl rfl) fun a hK => ?_
    refine wpList_nil ?_
    refine wp_cond_split (hK.ev rfl) (fun (hb_1 : (a0.E != 0) = true) => ?_) (fun (hb_1 : (a0.E != 0) = false) => ?_)
    · rw [ifb_t hb_1] at H
      refine wp_seq ?_
      refine wp_region_lit ?_
      refine sl hK (by decide) rfl rfl (r_assign hK rfl) fun a hK => ?_
      refine wpList_nil ?_
      obtain rfl := Option.some.inj H
      refine wp_ret ?_
      repeat (first | refine ret_then ?_ | refine ret_block ?_ | refine ret_scope ?_)
      exact ret_1 Try.results67 hK (rv_tmp hK rfl) ⟨_, rfl, _, _, _, _, _, rfl, hS, hRL, h0_0, h0_1⟩
    · rw [ifb_f hb_1] at H
      refine wp_skip ?_
      refine wp_seq ?_
      refine wp_seq ?_
      refine wp_region_lit ?_
      refine sl hK (by decide) rfl rfl (r_move hK rfl) fun a hK => ?_
      obtain ⟨y_2, h_3, H⟩ := bind_some H
      have hS := hS.pk2
      have hS := hS.pk2
      have hS := hS.pk2
      have hS1 := hS.sp3
      refine sl_call Try.call57 hK (by decide) rfl rfl rfl (ref12_reader_sees.calls a0 (⟨#[110, 111, 116]⟩ : ByteArray) hS1.lend h0_0 h0_1 h_3) fun a v_ w hv_ hK => ?_
      obtain ⟨R_4, v_7, cs_8, v_11, cs_12, hv_, hr_, hl_5, hq_9, hq_13⟩ := hv_
      have hv_ := hv_.symm
      subst hv_
      obtain ⟨hS, hl_5⟩ := hS1.back hr_ hl_5
      have hS := hS.un3
      have hRL := hRL.trans hl_5
      refine wpList_nil ?_
      refine wp_cond_split (hK.ev rfl) (fun (hb_14 : y_2.1 = true) => ?_) (fun (hb_14 : y_2.1 = false) => ?_)
      · rw [ifb_t hb_14] at H
        refine wp_seq ?_
        refine wp_region_lit ?_
        refine sl hK (by decide) rfl rfl (r_move hK rfl) fun a hK => ?_
        obtain ⟨y_15, h_16, H⟩ := bind_some H
        have hS := hS.pk2
        have hS := hS.pk2
        have hS := hS.pk2
        have hS1 := hS.sp3
        refine sl_call Try.call75 hK (by decide) rfl rfl rfl (ref12_reader_deeper.calls y_2.2 hS1.lend hq_9 hq_13 h_16) fun a v_ w hv_ hK => ?_
        obtain ⟨R_17, v_20, cs_21, v_24, cs_25, hv_, hr_, hl_18, hq_22, hq_26⟩ := hv_
        have hv_ := hv_.symm
        subst hv_
        obtain ⟨hS, hl_18⟩ := hS1.back hr_ hl_18
        have hS := hS.un3
        have hRL := hRL.trans hl_18
        refine wpList_nil ?_
        refine wp_seq ?_
        refine wp_region_lit ?_
        refine sl hK (by decide) rfl rfl (r_move hK rfl) fun a hK => ?_
        obtain ⟨y_27, h_28, H⟩ := bind_some H
        have hS := hS.pk2
        have hS := hS.pk2
        have hS := hS.pk2
        have hS1 := hS.sp3
        refine sl_call Try.call67 hK (by decide) rfl rfl rfl (ih_67 y_15 hS1.lend hq_22 hq_26 h_28) fun a v_ w hv_ hK => ?_
        obtain ⟨R_29, v_32, cs_33, v_36, cs_37, hv_, hr_, hl_30, hq_34, hq_38⟩ := hv_
        have hv_ := hv_.symm
        subst hv_
        obtain ⟨hS, hl_30⟩ := hS1.back hr_ hl_30
        have hS := hS.un3
        have hRL := hRL.trans hl_30
        refine sl hK (by decide) rfl rfl (r_assign hK rfl) fun a hK => ?_
        refine wpList_nil ?_
        refine wp_seq ?_
        refine wp_region_lit ?_
        refine sl hK (by decide) rfl rfl (r_move hK rfl) fun a hK => ?_
        refine sl hK (by decide) rfl rfl (r_nilCheck hK rfl) fun a hK => ?_
        refine sl hK (by decide) rfl rfl (r_fieldAddr Try.underlying77 rfl Try.sizeOf3 hK rfl) fun a hK => ?_
        refine sl hK (by decide) rfl rfl (r_load Try.isAgg3 hK rfl (hS.cell (.head _) rfl)) fun a hK => ?_
        refine sl hK (by decide) rfl rfl (r_ibin hK rfl rfl rfl) fun a hK => ?_
        refine sl hK (by decide) rfl rfl (r_nilCheck hK rfl) fun a hK => ?_
        refine sl hK (by decide) rfl rfl (r_fieldAddr Try.underlying77 rfl Try.sizeOf3 hK rfl) fun a hK => ?_
        refine sl_store1 (c' := [v_32, .int .i64 y_27.2.At, v_36, .int .i64 y_27.2.E, .int .i64 (IntKind.i64.wrap (y_27.2.Depth - 1))]) Try.sizeOf3 hS hK rfl rfl rfl rfl (Nat.le_of_ble_eq_true rfl) rfl fun a w hS hK => ?_
        refine wpList_nil ?_
        refine wp_seq ?_
        refine wp_region_lit ?_
        refine sl hK (by decide) rfl rfl (r_move hK rfl) fun a hK => ?_
        refine sl hK (by decide) rfl rfl (r_move hK rfl) fun a hK => ?_
        refine sl_buildSliceF (zc := [.int .i64 0]) (ps := [(0, .int .i64 y_27.1)]) (c := [.int .i64 y_27.1]) [[.int .i64 y_27.1]] Try.underlying47 Try.sizeOf3 Try.zeroValue3 rfl (pc_cons rfl pc_nil) rfl rfl (Nat.le_of_ble_eq_true rfl) rfl (all_cons rfl (all_nil)) rfl hS hK (by decide) rfl fun a w b_39 hS hK => ?_
        refine sl hK (by decide) rfl rfl (r_buildC (ps := [(0, .int .i64 13), (6, .slice (some ⟨b_39, 0, none⟩) 1 1)]) (c := [.int .i64 13, .string (⟨#[]⟩ : ByteArray), .int .i64 0, .int .i64 0, .int .i64 0, .int .i64 0, .int .i64 0, .string (⟨#[]⟩ : ByteArray), .int .i64 0, .int .i64 0, .int .i64 0, .int .i64 0, .int .i64 0, .int .i64 0, .int .i64 0, .int .i64 0, .slice (some ⟨b_39, 0, none⟩) 1 1, .slice none 0 0, .slice none 0 0]) Try.underlying51 Try.zeroValue51 places51 hK rfl (pc_cons rfl (pc_cons rfl pc_nil)) rfl rfl) fun a hK => ?_
        obtain ⟨R_40, hS, hl_42, hs_41⟩ := hS.fz_lit (ty := (tyInt .i64)) (xs := [y_27.1]) (Reps.cons (show Ty.rep (tyInt .i64) _ [.int .i64 y_27.1] y_27.1 from rfl) (Reps.nil _ _)) rfl
        have hRL := hRL.trans hl_42
        obtain ⟨y_43, h_44, H⟩ := bind_some H
        have hS := hS.pk2
        have hS := hS.pk2
        have hS := hS.pk2
        have hS1 := hS.sp3
        refine sl_call Try.call58 hK (by decide) rfl rfl rfl (ref12_reader_lay.calls (⟨y_27.2.L, y_27.2.At, y_27.2.Q, y_27.2.E, IntKind.i64.wrap (y_27.2.Depth - 1)⟩ : catchmentref12_reader) (⟨13, (⟨#[]⟩ : ByteArray), 0, 0, 0, (⟨0, 0, (⟨#[]⟩ : ByteArray), (⟨0, 0, 0, 0, 0, 0, 0, 0⟩ : Arr8)⟩ : api_Value), [y_27.1], [], []⟩ : api_Node) hS1.lend (hq_34.mono hl_42.le) (hq_38.mono hl_42.le) hs_41 (SlR.nil tyStr _) (SlR.nil ty_api_Agg _) h_44) fun a v_ w hv_ hK => ?_
        obtain ⟨R_45, v_48, cs_49, v_52, cs_53, hv_, hr_, hl_46, hq_50, hq_54⟩ := hv_
        have hv_ := hv_.symm
        subst hv_
        obtain ⟨hS, hl_46⟩ := hS1.back hr_ hl_46
        have hS := hS.un3
        have hRL := hRL.trans hl_46
        refine sl hK (by decide) rfl rfl (r_assign hK rfl) fun a hK => ?_
        refine wpList_nil ?_
        obtain rfl := Option.some.inj H
        refine wp_ret ?_
        repeat (first | refine ret_then ?_ | refine ret_block ?_ | refine ret_scope ?_)
        exact ret_1 Try.results67 hK (rv_tmp hK rfl) ⟨_, rfl, _, _, _, _, _, rfl, hS, hRL, hq_50, hq_54⟩
      · rw [ifb_f hb_14] at H
        refine wp_skip ?_
        refine wp_seq ?_
        refine wp_seq ?_
        refine wp_region_lit ?_
        refine sl hK (by decide) rfl rfl (r_move hK rfl) fun a hK => ?_
        obtain ⟨y_55, h_56, H⟩ := bind_some H
        have hS := hS.pk2
        have hS := hS.pk2
        have hS := hS.pk2
        have hS1 := hS.sp3
        refine sl_call Try.call57 hK (by decide) rfl rfl rfl (ref12_reader_sees.calls y_2.2 (⟨#[40]⟩ : ByteArray) hS1.lend hq_9 hq_13 h_56) fun a v_ w hv_ hK => ?_
        obtain ⟨R_57, v_60, cs_61, v_64, cs_65, hv_, hr_, hl_58, hq_62, hq_66⟩ := hv_
        have hv_ := hv_.symm
        subst hv_
        obtain ⟨hS, hl_58⟩ := hS1.back hr_ hl_58
        have hS := hS.un3
        have hRL := hRL.trans hl_58
        refine wpList_nil ?_
        refine wp_cond_split (hK.ev rfl) (fun (hb_67 : y_55.1 = true) => ?_) (fun (hb_67 : y_55.1 = false) => ?_)
        · rw [ifb_t hb_67] at H
          refine wp_seq ?_
          refine wp_region_lit ?_
          refine sl hK (by decide) rfl rfl (r_move hK rfl) fun a hK => ?_
          obtain ⟨y_68, h_69, H⟩ := bind_some H
          have hS := hS.pk2
          have hS := hS.pk2
          have hS := hS.pk2
          have hS1 := hS.sp3
          refine sl_call Try.call75 hK (by decide) rfl rfl rfl (ref12_reader_deeper.calls y_55.2 hS1.lend hq_62 hq_66 h_69) fun a v_ w hv_ hK => ?_
          obtain ⟨R_70, v_73, cs_74, v_77, cs_78, hv_, hr_, hl_71, hq_75, hq_79⟩ := hv_
          have hv_ := hv_.symm
          subst hv_
          obtain ⟨hS, hl_71⟩ := hS1.back hr_ hl_71
          have hS := hS.un3
          have hRL := hRL.trans hl_71
          refine wpList_nil ?_
          refine wp_seq ?_
          refine wp_region_lit ?_
          refine sl hK (by decide) rfl rfl (r_move hK rfl) fun a hK => ?_
          obtain ⟨y_80, h_81, H⟩ := bind_some H
          have hS := hS.pk2
          have hS := hS.pk2
          have hS := hS.pk2
          have hS1 := hS.sp3
          refine sl_call Try.call38 hK (by decide) rfl rfl rfl (ih_38 y_68 hS1.lend hq_75 hq_79 h_81) fun a v_ w hv_ hK => ?_
          obtain ⟨R_82, v_85, cs_86, v_89, cs_90, hv_, hr_, hl_83, hq_87, hq_91⟩ := hv_
          have hv_ := hv_.symm
          subst hv_
          obtain ⟨hS, hl_83⟩ := hS1.back hr_ hl_83
          have hS := hS.un3
          have hRL := hRL.trans hl_83
          refine sl hK (by decide) rfl rfl (r_assign hK rfl) fun a hK => ?_
          refine wpList_nil ?_
          refine wp_seq ?_
          refine wp_region_lit ?_
          refine sl hK (by decide) rfl rfl (r_move hK rfl) fun a hK => ?_
          obtain ⟨y_92, h_93, H⟩ := bind_some H
          have hS := hS.pk2
          have hS := hS.pk2
          have hS := hS.pk2
          have hS1 := hS.sp3
          refine sl_call Try.call76 hK (by decide) rfl rfl rfl (ref12_reader_wants.calls y_80.2 (⟨#[41]⟩ : ByteArray) hS1.lend hq_87 hq_91 h_93) fun a v_ w hv_ hK => ?_
          obtain ⟨R_94, v_97, cs_98, v_101, cs_102, hv_, hr_, hl_95, hq_99, hq_103⟩ := hv_
          have hv_ := hv_.symm
          subst hv_
          obtain ⟨hS, hl_95⟩ := hS1.back hr_ hl_95
          have hS := hS.un3
          have hRL := hRL.trans hl_95
          refine wpList_nil ?_
          refine wp_seq ?_
          refine wp_region_lit ?_
          refine sl hK (by decide) rfl rfl (r_move hK rfl) fun a hK => ?_
          refine sl hK (by decide) rfl rfl (r_nilCheck hK rfl) fun a hK => ?_
          refine sl hK (by decide) rfl rfl (r_fieldAddr Try.underlying77 rfl Try.sizeOf3 hK rfl) fun a hK => ?_
          refine sl hK (by decide) rfl rfl (r_load Try.isAgg3 hK rfl (hS.cell (.head _) rfl)) fun a hK => ?_
          refine sl hK (by decide) rfl rfl (r_ibin hK rfl rfl rfl) fun a hK => ?_
          refine sl hK (by decide) rfl rfl (r_nilCheck hK rfl) fun a hK => ?_
          refine sl hK (by decide) rfl rfl (r_fieldAddr Try.underlying77 rfl Try.sizeOf3 hK rfl) fun a hK => ?_
          refine sl_store1 (c' := [v_97, .int .i64 y_92.At, v_101, .int .i64 y_92.E, .int .i64 (IntKind.i64.wrap (y_92.Depth - 1))]) Try.sizeOf3 hS hK rfl rfl rfl rfl (Nat.le_of_ble_eq_true rfl) rfl fun a w hS hK => ?_
          refine wpList_nil ?_
          refine wp_seq ?_
          refine wp_region_lit ?_
          refine sl hK (by decide) rfl rfl (r_move hK rfl) fun a hK => ?_
          refine sl hK (by decide) rfl rfl (r_assign hK rfl) fun a hK => ?_
          refine wpList_nil ?_
          obtain rfl := Option.some.inj H
          refine wp_ret ?_
          repeat (first | refine ret_then ?_ | refine ret_block ?_ | refine ret_scope ?_)
          exact ret_1 Try.results67 hK (rv_tmp hK rfl) ⟨_, rfl, _, _, _, _, _, rfl, hS, hRL, hq_99, hq_103⟩
        · rw [ifb_f hb_67] at H
          refine wp_skip ?_
          refine wp_seq ?_
          refine wp_region_lit ?_
          refine sl hK (by decide) rfl rfl (r_move hK rfl) fun a hK => ?_
          obtain ⟨y_104, h_105, H⟩ := bind_some H
          have hS := hS.pk2
          have hS := hS.pk2
          have hS := hS.pk2
          have hS1 := hS.sp3
          refine sl_call Try.call77 hK (by decide) rfl rfl rfl (ref12_reader_kind.calls y_55.2 1 hS1.lend hq_62 hq_66 h_105) fun a v_ w hv_ hK => ?_
          obtain ⟨R_106, v_109, cs_110, v_113, cs_114, hv_, hr_, hl_107, hq_111, hq_115⟩ := hv_
          have hv_ := hv_.symm
          subst hv_
          obtain ⟨hS, hl_107⟩ := hS1.back hr_ hl_107
          have hS := hS.un3
          have hRL := hRL.trans hl_107
          refine sl hK (by decide) rfl rfl (r_field Try.underlying72 rfl Try.isAgg9 hK rfl rfl) fun a hK => ?_
          refine sl hK (by decide) rfl rfl (r_buildC (ps := [(0, .int .i64 14), (1, .string y_104.1.S)]) (c := [.int .i64 14, .string y_104.1.S, .int .i64 0, .int .i64 0, .int .i64 0, .int .i64 0, .int .i64 0, .string (⟨#[]⟩ : ByteArray), .int .i64 0, .int .i64 0, .int .i64 0, .int .i64 0, .int .i64 0, .int .i64 0, .int .i64 0, .int .i64 0, .slice none 0 0, .slice none 0 0, .slice none 0 0]) Try.underlying51 Try.zeroValue51 places51 hK rfl (pc_cons rfl (pc_cons rfl pc_nil)) rfl rfl) fun a hK => ?_
          refine sl_alloc Try.zeroValue51 hS hK (by decide) rfl rfl fun a w b_116 hS hK => ?_
          refine sl_storeA (vs := [.int .i64 14, .string y_104.1.S, .int .i64 0, .int .i64 0, .int .i64 0, .int .i64 0, .int .i64 0, .string (⟨#[]⟩ : ByteArray), .int .i64 0, .int .i64 0, .int .i64 0, .int .i64 0, .int .i64 0, .int .i64 0, .int .i64 0, .int .i64 0, .slice none 0 0, .slice none 0 0, .slice none 0 0]) (c' := [.int .i64 14, .string y_104.1.S, .int .i64 0, .int .i64 0, .int .i64 0, .int .i64 0, .int .i64 0, .string (⟨#[]⟩ : ByteArray), .int .i64 0, .int .i64 0, .int .i64 0, .int .i64 0, .int .i64 0, .int .i64 0, .int .i64 0, .int .i64 0, .slice none 0 0, .slice none 0 0, .slice none 0 0]) Try.sizeOf51 hS hK rfl rfl rfl rfl (all_cons rfl (all_cons rfl (all_cons rfl (all_cons rfl (all_cons rfl (all_cons rfl (all_cons rfl (all_cons rfl (all_cons rfl (all_cons rfl (all_cons rfl (all_cons rfl (all_cons rfl (all_cons rfl (all_cons rfl (all_cons rfl (all_cons rfl (all_cons rfl (all_cons rfl (all_nil)))))))))))))))))))) (Nat.le_of_ble_eq_true rfl) rfl fun a w hS hK => ?_
          refine wpList_nil ?_
          refine wp_seq ?_
          refine wp_seq ?_
          refine wp_region_lit ?_
          refine sl hK (by decide) rfl rfl (r_move hK rfl) fun a hK => ?_
          obtain ⟨y_117, h_118, H⟩ := bind_some H
          have hS := hS.pk3
          have hS := hS.pk3
          have hS := hS.pk3
          have hS1 := hS.sp3
          refine sl_call Try.call57 hK (by decide) rfl rfl rfl (ref12_reader_sees.calls y_104.2 (⟨#[104, 97, 115]⟩ : ByteArray) hS1.lend hq_111 hq_115 h_118) fun a v_ w hv_ hK => ?_
          obtain ⟨R_119, v_122, cs_123, v_126, cs_127, hv_, hr_, hl_120, hq_124, hq_128⟩ := hv_
          have hv_ := hv_.symm
          subst hv_
          obtain ⟨hS, hl_120⟩ := hS1.back hr_ hl_120
          have hS := hS.un3
          have hRL := hRL.trans hl_120
          refine wpList_nil ?_
          refine wp_cond_split (hK.ev rfl) (fun (hb_129 : y_117.1 = true) => ?_) (fun (hb_129 : y_117.1 = false) => ?_)
          · rw [ifb_t hb_129] at H
            refine wp_seq ?_
            refine wp_region_lit ?_
            refine sl hK (by decide) rfl rfl (r_fieldAddr Try.underlying51 rfl Try.sizeOf3 hK rfl) fun a hK => ?_
            have hS := hS.pk3
            refine sl_store1 (c' := [.int .i64 15, .string y_104.1.S, .int .i64 0, .int .i64 0, .int .i64 0, .int .i64 0, .int .i64 0, .string (⟨#[]⟩ : ByteArray), .int .i64 0, .int .i64 0, .int .i64 0, .int .i64 0, .int .i64 0, .int .i64 0, .int .i64 0, .int .i64 0, .slice none 0 0, .slice none 0 0, .slice none 0 0]) Try.sizeOf3 hS hK rfl rfl rfl rfl (Nat.le_of_ble_eq_true rfl) rfl fun a w hS hK => ?_
            refine wpList_nil ?_
            refine wp_seq ?_
            refine wp_region_lit ?_
            refine sl hK (by decide) rfl rfl (r_move hK rfl) fun a hK => ?_
            obtain ⟨y_130, h_131, H⟩ := bind_some H
            have hS := hS.pk3
            have hS := hS.pk3
            have hS := hS.pk3
            have hS1 := hS.sp3
            refine sl_call Try.call77 hK (by decide) rfl rfl rfl (ref12_reader_kind.calls y_117.2 3 hS1.lend hq_124 hq_128 h_131) fun a v_ w hv_ hK => ?_
            obtain ⟨R_132, v_135, cs_136, v_139, cs_140, hv_, hr_, hl_133, hq_137, hq_141⟩ := hv_
            have hv_ := hv_.symm
            subst hv_
            obtain ⟨hS, hl_133⟩ := hS1.back hr_ hl_133
            have hS := hS.un3
            have hRL := hRL.trans hl_133
            refine sl hK (by decide) rfl rfl (r_field Try.underlying72 rfl Try.isAgg9 hK rfl rfl) fun a hK => ?_
            refine sl hK (by decide) rfl rfl (r_buildC (ps := [(0, .int .i64 2), (2, .string y_130.1.S)]) (c := [.int .i64 2, .int .i64 0, .string y_130.1.S, .int .i64 0, .int .i64 0, .int .i64 0, .int .i64 0, .int .i64 0, .int .i64 0, .int .i64 0, .int .i64 0]) Try.underlying39 Try.zeroValue39 places39 hK rfl (pc_cons rfl (pc_cons rfl pc_nil)) rfl rfl) fun a hK => ?_
            refine sl hK (by decide) rfl rfl (r_fieldAddr Try.underlying51 rfl Try.sizeOf39 hK rfl) fun a hK => ?_
            have hS := hS.pk3
            refine sl_storeA (vs := [.int .i64 2, .int .i64 0, .string y_130.1.S, .int .i64 0, .int .i64 0, .int .i64 0, .int .i64 0, .int .i64 0, .int .i64 0, .int .i64 0, .int .i64 0]) (c' := [.int .i64 15, .string y_104.1.S, .int .i64 0, .int .i64 0, .int .i64 0, .int .i64 2, .int .i64 0, .string y_130.1.S, .int .i64 0, .int .i64 0, .int .i64 0, .int .i64 0, .int .i64 0, .int .i64 0, .int .i64 0, .int .i64 0, .slice none 0 0, .slice none 0 0, .slice none 0 0]) Try.sizeOf39 hS hK rfl rfl rfl rfl (all_cons rfl (all_cons rfl (all_cons rfl (all_cons rfl (all_cons rfl (all_cons rfl (all_cons rfl (all_cons rfl (all_cons rfl (all_cons rfl (all_cons rfl (all_nil)))))))))))) (Nat.le_of_ble_eq_true rfl) rfl fun a w hS hK => ?_
            refine wpList_nil ?_
            refine wp_seq ?_
            refine wp_region_lit ?_
            refine sl hK (by decide) rfl rfl (r_move hK rfl) fun a hK => ?_
            refine sl hK (by decide) rfl rfl (r_loadA (cs := [.int .i64 15, .string y_104.1.S, .int .i64 0, .int .i64 0, .int .i64 0, .int .i64 2, .int .i64 0, .string y_130.1.S, .int .i64 0, .int .i64 0, .int .i64 0, .int .i64 0, .int .i64 0, .int .i64 0, .int .i64 0, .int .i64 0, .slice none 0 0, .slice none 0 0, .slice none 0 0]) Try.isAgg51 Try.sizeOf51 rfl hK rfl (hS.cells_of (m := 19) (.head _) rfl)) fun a hK => ?_
            obtain ⟨y_142, h_143, H⟩ := bind_some H
            have hS := hS.pk3
            have hS := hS.pk3
            have hS := hS.pk3
            have hS1 := hS.sp3
            refine sl_call Try.call58 hK (by decide) rfl rfl rfl (ref12_reader_lay.calls y_130.2 (⟨15, y_104.1.S, 0, 0, 0, (⟨2, 0, y_130.1.S, (⟨0, 0, 0, 0, 0, 0, 0, 0⟩ : Arr8)⟩ : api_Value), [], [], []⟩ : api_Node) hS1.lend hq_137 hq_141 (SlR.nil (tyInt .i64) _) (SlR.nil tyStr _) (SlR.nil ty_api_Agg _) h_143) fun a v_ w hv_ hK => ?_
            obtain ⟨R_144, v_147, cs_148, v_151, cs_152, hv_, hr_, hl_145, hq_149, hq_153⟩ := hv_
            have hv_ := hv_.symm
            subst hv_
            obtain ⟨hS, hl_145⟩ := hS1.back hr_ hl_145
            have hS := hS.un3
            have hRL := hRL.trans hl_145
            refine sl hK (by decide) rfl rfl (r_assign hK rfl) fun a hK => ?_
            refine wpList_nil ?_
            obtain rfl := Option.some.inj H
            refine wp_ret ?_
            repeat (first | refine ret_then ?_ | refine ret_block ?_ | refine ret_scope ?_)
            exact ret_1 Try.results67 hK (rv_tmp hK rfl) ⟨_, rfl, _, _, _, _, _, rfl, (hS.trunc 3), hRL, hq_149, hq_153⟩
          · rw [ifb_f hb_129] at H
            refine wp_skip ?_
            refine wp_seq ?_
            refine wp_region_lit ?_
            refine sl_buildSliceF (zc := [.string (⟨#[]⟩ : ByteArray)]) (ps := [(0, .string (⟨#[]⟩ : ByteArray)), (1, .string (⟨#[61]⟩ : ByteArray)), (2, .string (⟨#[33, 61]⟩ : ByteArray)), (3, .string (⟨#[60]⟩ : ByteArray)), (4, .string (⟨#[60, 61]⟩ : ByteArray)), (5, .string (⟨#[62]⟩ : ByteArray)), (6, .string (⟨#[62, 61]⟩ : ByteArray))]) (c := [.string (⟨#[]⟩ : ByteArray), .string (⟨#[61]⟩ : ByteArray), .string (⟨#[33, 61]⟩ : ByteArray), .string (⟨#[60]⟩ : ByteArray), .string (⟨#[60, 61]⟩ : ByteArray), .string (⟨#[62]⟩ : ByteArray), .string (⟨#[62, 61]⟩ : ByteArray)]) [[.string (⟨#[]⟩ : ByteArray)], [.string (⟨#[61]⟩ : ByteArray)], [.string (⟨#[33, 61]⟩ : ByteArray)], [.string (⟨#[60]⟩ : ByteArray)], [.string (⟨#[60, 61]⟩ : ByteArray)], [.string (⟨#[62]⟩ : ByteArray)], [.string (⟨#[62, 61]⟩ : ByteArray)]] Try.underlying48 Try.sizeOf9 Try.zeroValue9 rfl (pc_cons rfl (pc_cons rfl (pc_cons rfl (pc_cons rfl (pc_cons rfl (pc_cons rfl (pc_cons rfl pc_nil))))))) rfl rfl (Nat.le_of_ble_eq_true rfl) rfl (all_cons rfl (all_cons rfl (all_cons rfl (all_cons rfl (all_cons rfl (all_cons rfl (all_cons rfl (all_nil)))))))) rfl hS hK (by decide) rfl fun a w b_154 hS hK => ?_
            refine sl hK (by decide) rfl rfl (r_assign hK rfl) fun a hK => ?_
            refine wpList_nil ?_
            refine wp_seq ?_
            refine wp_seq ?_
            refine wp_region_lit ?_
            refine sl hK (by decide) rfl rfl (r_assign hK rfl) fun a hK => ?_
            refine wpList_nil ?_
            refine wp_block ?_
            refine wp_loop_k (fun k_l0 a w => ∃ (x_186 : List api_Token) (x_190 : Int) (x_192 : List api_Node) (x_196 : Int) (x_197 : Int) (x_198 : Int) (x_200 : List ByteArray) (x_204 : Int) (R_205 : Hp) (v_187 : Value) (cs_188 : List Value) (v_193 : Value) (cs_194 : List Value) (v_201 : Value) (cs_202 : List Value), ref12_reader_not.l0 y_104 k_l0 x_186 x_190 x_192 x_196 x_197 x_198 x_200 x_204 = some r ∧ RLe M w0 R_119 R_205 ∧ Reps ty_api_Token R_205 cs_188 x_186 ∧ Reps ty_api_Node R_205 cs_194 x_192 ∧ Reps tyStr R_205 cs_202 x_200 ∧ Kn 91 a [(0, .pointer (some ⟨b0, 0, none⟩)), (5, .pointer (some ⟨b_116, 0, none⟩)), (6, v_201), (7, .int .i64 x_204)] ∧ St M w0 w R_205 [.row 72 4 v_187 x_186.length cs_188, .row 51 19 v_193 x_192.length cs_194, .cells b0 [v_187, .int .i64 x_190, v_193, .int .i64 x_196, .int .i64 x_197] 77, .cells b_116 [.int .i64 14, .string y_104.1.S, .int .i64 x_198, .int .i64 0, .int .i64 0, .int .i64 0, .int .i64 0, .string (⟨#[]⟩ : ByteArray), .int .i64 0, .int .i64 0, .int .i64 0, .int .i64 0, .int .i64 0, .int .i64 0, .int .i64 0, .int .i64 0, .slice none 0 0, .slice none 0 0, .slice none 0 0] 51, .row 9 1 v_201 x_200.length cs_202]) (((7 : Int) - 1).toNat + 1) ?_ ?_
            · have hS := hS.row_lit (size := 1) (m := 7) rfl (by decide)
              have hq_237 : Reps tyStr R_119 [.string (⟨#[]⟩ : ByteArray), .string (⟨#[61]⟩ : ByteArray), .string (⟨#[33, 61]⟩ : ByteArray), .string (⟨#[60]⟩ : ByteArray), .string (⟨#[60, 61]⟩ : ByteArray), .string (⟨#[62]⟩ : ByteArray), .string (⟨#[62, 61]⟩ : ByteArray)] [(⟨#[]⟩ : ByteArray), (⟨#[61]⟩ : ByteArray), (⟨#[33, 61]⟩ : ByteArray), (⟨#[60]⟩ : ByteArray), (⟨#[60, 61]⟩ : ByteArray), (⟨#[62]⟩ : ByteArray), (⟨#[62, 61]⟩ : ByteArray)] := (Reps.cons (show Ty.rep tyStr _ [.string (⟨#[]⟩ : ByteArray)] (⟨#[]⟩ : ByteArray) from rfl) (Reps.cons (show Ty.rep tyStr _ [.string (⟨#[61]⟩ : ByteArray)] (⟨#[61]⟩ : ByteArray) from rfl) (Reps.cons (show Ty.rep tyStr _ [.string (⟨#[33, 61]⟩ : ByteArray)] (⟨#[33, 61]⟩ : ByteArray) from rfl) (Reps.cons (show Ty.rep tyStr _ [.string (⟨#[60]⟩ : ByteArray)] (⟨#[60]⟩ : ByteArray) from rfl) (Reps.cons (show Ty.rep tyStr _ [.string (⟨#[60, 61]⟩ : ByteArray)] (⟨#[60, 61]⟩ : ByteArray) from rfl) (Reps.cons (show Ty.rep tyStr _ [.string (⟨#[62]⟩ : ByteArray)] (⟨#[62]⟩ : ByteArray) from rfl) (Reps.cons (show Ty.rep tyStr _ [.string (⟨#[62, 61]⟩ : ByteArray)] (⟨#[62, 61]⟩ : ByteArray) from rfl) (Reps.nil _ _))))))))
              have hS := hS.pk4
              have hS := hS.pk2
              have hS := hS.pk4
              have hS := hS.pk4
              exact ⟨y_117.2.L, y_117.2.At, y_117.2.Q, y_117.2.E, y_117.2.Depth, 0, [(⟨#[]⟩ : ByteArray), (⟨#[61]⟩ : ByteArray), (⟨#[33, 61]⟩ : ByteArray), (⟨#[60]⟩ : ByteArray), (⟨#[60, 61]⟩ : ByteArray), (⟨#[62]⟩ : ByteArray), (⟨#[62, 61]⟩ : ByteArray)], 1, _, _, _, _, _, _, _, H, (RLe.refl _ _), hq_124, hq_128, hq_237, hK.sub (all_cons rfl (all_cons rfl (all_cons rfl (all_cons rfl (all_nil))))), hS⟩
            · rintro k_l0 a w ⟨x_186, x_190, x_192, x_196, x_197, x_198, x_200, x_204, R_205, v_187, cs_188, v_193, cs_194, v_201, cs_202, H, hl_206, hq_189, hq_195, hq_203, hK, hS⟩
              cases k_l0 with
              | zero => cases H
              | succ k_l0 =>
              rw [ref12_reader_not.l0.eq_2] at H
              have hRL := hRL.trans hl_206
              refine wp_seq ?_
              refine wp_seq ?_
              refine wp_mid (fun a w => ∃ (x_239 : Bool), ref12_reader_not.j1 (ref12_reader_not.l0 y_104 k_l0) y_104 x_186 x_190 x_192 x_196 x_197 x_198 x_200 x_204 x_239 = some r ∧ Kn 91 a [(0, .pointer (some ⟨b0, 0, none⟩)), (5, .pointer (some ⟨b_116, 0, none⟩)), (6, v_201), (7, .int .i64 x_204), (69, .bool x_239)] ∧ St M w0 w R_205 [.row 72 4 v_187 x_186.length cs_188, .row 51 19 v_193 x_192.length cs_194, .cells b0 [v_187, .int .i64 x_190, v_193, .int .i64 x_196, .int .i64 x_197] 77, .cells b_116 [.int .i64 14, .string y_104.1.S, .int .i64 x_198, .int .i64 0, .int .i64 0, .int .i64 0, .int .i64 0, .string (⟨#[]⟩ : ByteArray), .int .i64 0, .int .i64 0, .int .i64 0, .int .i64 0, .int .i64 0, .int .i64 0, .int .i64 0, .int .i64 0, .slice none 0 0, .slice none 0 0, .slice none 0 0] 51, .row 9 1 v_201 x_200.length cs_202]) ?_ ?_
              · refine wp_region_lit ?_
                refine sl hK (by decide) rfl rfl (r_move hK rfl) fun a hK => ?_
                refine sl hK (by decide) rfl rfl (r_ibin hK rfl rfl rfl) fun a hK => ?_
                refine sl hK (by decide) rfl rfl (r_move hK rfl) fun a hK => ?_
                rcases or_b (decide (x_204 < 7)) with hb_241 | hb_241
                · rw [ifb_t hb_241] at H
                  refine sl hK (by decide) (wtt hb_241) rfl (r_fieldAddr Try.underlying51 rfl Try.sizeOf3 hK rfl) fun a hK => ?_
                  refine sl hK (by decide) (wtt hb_241) rfl (r_load Try.isAgg3 hK rfl (hS.cell (.tail _ (.tail _ (.tail _ (.head _)))) rfl)) fun a hK => ?_
                  refine sl hK (by decide) (wtt hb_241) rfl (r_ibin hK rfl rfl rfl) fun a hK => ?_
                  refine sl hK (by decide) rfl rfl (r_pick_t hb_241 hK rfl rfl) fun a hK => ?_
                  refine wpList_nil ?_
                  have hS := hS.pk4
                  have hS := hS.pk4
                  have hS := hS.pk4
                  have hS := hS.pk4
                  have hS := hS.pk4
                  exact ⟨(x_198 == 0), H, hK.sub (all_cons rfl (all_cons rfl (all_cons rfl (all_cons rfl (all_cons rfl (all_nil)))))), hS⟩
                · rw [ifb_f hb_241] at H
                  refine sl_skip hK (by decide) (wtf hb_241) rfl fun a hK => ?_
                  refine sl_skip hK (by decide) (wtf hb_241) rfl fun a hK => ?_
                  refine sl_skip hK (by decide) (wtf hb_241) rfl fun a hK => ?_
                  refine sl hK (by decide) rfl rfl (r_pick_f hb_241 hK rfl rfl) fun a hK => ?_
                  refine wpList_nil ?_
                  have hS := hS.pk4
                  have hS := hS.pk4
                  have hS := hS.pk4
                  have hS := hS.pk4
                  have hS := hS.pk4
                  exact ⟨false, H, hK.sub (all_cons rfl (all_cons rfl (all_cons rfl (all_cons rfl (all_cons rfl (all_nil)))))), hS⟩
              · rintro a w ⟨x_239, H, hK, hS⟩
                unfold ref12_reader_not.j1 at H
                refine wp_cond_split (hK.ev rfl) (fun (hb_242 : x_239 = true) => ?_) (fun (hb_242 : x_239 = false) => ?_)
                · rw [ifb_t hb_242] at H
                  refine wp_skip ?_
                  refine wp_seq ?_
                  refine wp_block ?_
                  refine wp_seq ?_
                  refine wp_region_lit ?_
                  refine sl hK (by decide) rfl rfl (r_move hK rfl) fun a hK => ?_
                  refine sl hK (by decide) rfl rfl (r_move hK rfl) fun a hK => ?_
                  refine sl hK (by decide) rfl rfl (r_move hK rfl) fun a hK => ?_
                  obtain ⟨y_243, h_244, H⟩ := bind_some H
                  obtain ⟨b_246, c_247, cs_248, hv_245, hr_249, hc_250, h_2440, h_2441⟩ := hS.row_ix (.tail _ (.tail _ (.tail _ (.tail _ (.head _))))) hq_203 rfl rfl h_244
                  subst hr_249
                  refine sl hK (by decide) rfl rfl (r_indexAddr_R Try.underlying48 Try.sizeOf9 hv_245 h_2440 h_2441 hK rfl rfl) fun a hK => ?_
                  refine sl hK (by decide) rfl rfl (r_load Try.isAgg9 hK rfl (hS.row_cell (.tail _ (.tail _ (.tail _ (.tail _ (.head _))))) hv_245 (hc_250 0 _ rfl))) fun a hK => ?_
                  obtain ⟨y_251, h_252, H⟩ := bind_some H
                  have hS := hS.pk1
                  have hS := hS.pk1
                  have hS := hS.pk2
                  have hS1 := hS.sp3
                  refine sl_call Try.call57 hK (by decide) rfl rfl rfl (ref12_reader_sees.calls (⟨x_186, x_190, x_192, x_196, x_197⟩ : catchmentref12_reader) y_243 hS1.lend hq_189 hq_195 h_252) fun a v_ w hv_ hK => ?_
                  obtain ⟨R_253, v_256, cs_257, v_260, cs_261, hv_, hr_, hl_254, hq_258, hq_262⟩ := hv_
                  have hv_ := hv_.symm
                  subst hv_
                  obtain ⟨hS, hl_254⟩ := hS1.back hr_ hl_254
                  have hS := hS.un3
                  have hRL := hRL.trans hl_254
                  refine wpList_nil ?_
                  refine wp_mid (fun a w => ∃ (x_264 : Int), ref12_reader_not.j2 (ref12_reader_not.l0 y_104 k_l0) x_200 x_204 y_251 x_264 = some r ∧ Kn 91 a [(0, .pointer (some ⟨b0, 0, none⟩)), (5, .pointer (some ⟨b_116, 0, none⟩)), (6, v_201), (7, .int .i64 x_204)] ∧ St M w0 w R_253 [.row 72 4 v_256 y_251.2.L.length cs_257, .row 51 19 v_260 y_251.2.Q.length cs_261, .cells b0 [v_256, .int .i64 y_251.2.At, v_260, .int .i64 y_251.2.E, .int .i64 y_251.2.Depth] 77, .cells b_116 [.int .i64 14, .string y_104.1.S, .int .i64 x_264, .int .i64 0, .int .i64 0, .int .i64 0, .int .i64 0, .string (⟨#[]⟩ : ByteArray), .int .i64 0, .int .i64 0, .int .i64 0, .int .i64 0, .int .i64 0, .int .i64 0, .int .i64 0, .int .i64 0, .slice none 0 0, .slice none 0 0, .slice none 0 0] 51, .row 9 1 v_201 x_200.length cs_202]) ?_ ?_
                  · refine wp_cond_split (hK.ev rfl) (fun (hb_266 : y_251.1 = true) => ?_) (fun (hb_266 : y_251.1 = false) => ?_)
                    · rw [ifb_t hb_266] at H
                      refine wp_region_lit ?_
                      refine sl hK (by decide) rfl rfl (r_move hK rfl) fun a hK => ?_
                      refine sl hK (by decide) rfl rfl (r_fieldAddr Try.underlying51 rfl Try.sizeOf3 hK rfl) fun a hK => ?_
                      have hS := hS.pk3
                      refine sl_store1 (c' := [.int .i64 14, .string y_104.1.S, .int .i64 x_204, .int .i64 0, .int .i64 0, .int .i64 0, .int .i64 0, .string (⟨#[]⟩ : ByteArray), .int .i64 0, .int .i64 0, .int .i64 0, .int .i64 0, .int .i64 0, .int .i64 0, .int .i64 0, .int .i64 0, .slice none 0 0, .slice none 0 0, .slice none 0 0]) Try.sizeOf3 hS hK rfl rfl rfl rfl (Nat.le_of_ble_eq_true rfl) rfl fun a w hS hK => ?_
                      refine wpList_nil ?_
                      have hS := hS.pk4
                      have hS := hS.pk1
                      have hS := hS.pk2
                      have hS := hS.pk4
                      have hS := hS.pk4
                      exact ⟨x_204, H, hK.sub (all_cons rfl (all_cons rfl (all_cons rfl (all_cons rfl (all_nil))))), hS⟩
                    · rw [ifb_f hb_266] at H
                      refine wp_skip ?_
                      have hS := hS.pk4
                      have hS := hS.pk4
                      have hS := hS.pk2
                      have hS := hS.pk4
                      have hS := hS.pk4
                      exact ⟨x_198, H, hK.sub (all_cons rfl (all_cons rfl (all_cons rfl (all_cons rfl (all_nil))))), hS⟩
                  · rintro a w ⟨x_264, H, hK, hS⟩
                    unfold ref12_reader_not.j2 at H
                    refine wp_region_lit ?_
                    refine sl hK (by decide) rfl rfl (r_move hK rfl) fun a hK => ?_
                    refine sl hK (by decide) rfl rfl (r_ibin hK rfl rfl rfl) fun a hK => ?_
                    refine sl hK (by decide) rfl rfl (r_assign hK rfl) fun a hK => ?_
                    refine wpList_nil ?_
                    have hS := hS.pk4
                    have hS := hS.pk4
                    have hS := hS.pk4
                    have hS := hS.pk4
                    have hS := hS.pk4
                    exact ⟨_, Nat.lt_succ_self _, y_251.2.L, y_251.2.At, y_251.2.Q, y_251.2.E, y_251.2.Depth, x_264, x_200, (IntKind.i64.wrap (x_204 + 1)), _, _, _, _, _, _, _, H, (hl_206.trans hl_254), hq_258, hq_262, (hq_203.mono hl_254.le), hK.sub (all_cons rfl (all_cons rfl (all_cons rfl (all_cons rfl (all_nil))))), hS⟩
                · rw [ifb_f hb_242] at H
                  refine wp_exit ?_
                  refine wp_seq ?_
                  refine wp_seq ?_
                  refine wp_region_lit ?_
                  refine sl hK (by decide) rfl rfl (r_fieldAddr Try.underlying51 rfl Try.sizeOf3 hK rfl) fun a hK => ?_
                  refine sl hK (by decide) rfl rfl (r_load Try.isAgg3 hK rfl (hS.cell (.tail _ (.tail _ (.tail _ (.head _)))) rfl)) fun a hK => ?_
                  refine sl hK (by decide) rfl rfl (r_ibin hK rfl rfl rfl) fun a hK => ?_
                  refine wpList_nil ?_
                  refine wp_cond_split (hK.ev rfl) (fun (hb_267 : (x_198 == 0) = true) => ?_) (fun (hb_267 : (x_198 == 0) = false) => ?_)
                  · rw [ifb_t hb_267] at H
                    refine wp_seq ?_
                    refine wp_region_lit ?_
                    refine sl hK (by decide) rfl rfl (r_move hK rfl) fun a hK => ?_
                    obtain ⟨y_268, h_269, H⟩ := bind_some H
                    have hS := hS.pk1
                    have hS := hS.pk1
                    have hS := hS.pk2
                    have hS1 := hS.sp3
                    refine sl_call Try.call59 hK (by decide) rfl rfl rfl (ref12_reader_fail.calls (⟨x_186, x_190, x_192, x_196, x_197⟩ : catchmentref12_reader) hS1.lend hq_189 hq_195 h_269) fun a v_ w hv_ hK => ?_
                    obtain ⟨R_270, v_273, cs_274, v_277, cs_278, hv_, hr_, hl_271, hq_275, hq_279⟩ := hv_
                    have hv_ := hv_.symm
                    subst hv_
                    obtain ⟨hS, hl_271⟩ := hS1.back hr_ hl_271
                    have hS := hS.un3
                    have hRL := hRL.trans hl_271
                    refine wpList_nil ?_
                    refine wp_seq ?_
                    refine wp_region_lit ?_
                    refine sl hK (by decide) rfl rfl (r_assign hK rfl) fun a hK => ?_
                    refine wpList_nil ?_
                    obtain rfl := Option.some.inj H
                    refine wp_ret ?_
                    repeat (first | refine ret_then ?_ | refine ret_block ?_ | refine ret_scope ?_)
                    exact ret_1 Try.results67 hK (rv_tmp hK rfl) ⟨_, rfl, _, _, _, _, _, rfl, (hS.trunc 3), hRL, hq_275, hq_279⟩
                  · rw [ifb_f hb_267] at H
                    refine wp_skip ?_
                    refine wp_seq ?_
                    refine wp_region_lit ?_
                    refine sl hK (by decide) rfl rfl (r_move hK rfl) fun a hK => ?_
                    obtain ⟨y_280, h_281, H⟩ := bind_some H
                    have hS := hS.pk1
                    have hS := hS.pk1
                    have hS := hS.pk2
                    have hS1 := hS.sp3
                    refine sl_call Try.call78 hK (by decide) rfl rfl rfl (ref12_reader_value.calls (⟨x_186, x_190, x_192, x_196, x_197⟩ : catchmentref12_reader) hS1.lend hq_189 hq_195 h_281) fun a v_ w hv_ hK => ?_
                    obtain ⟨R_282, v_285, cs_286, v_289, cs_290, hv_, hr_, hl_283, hq_287, hq_291⟩ := hv_
                    have hv_ := hv_.symm
                    subst hv_
                    obtain ⟨hS, hl_283⟩ := hS1.back hr_ hl_283
                    have hS := hS.un3
                    have hRL := hRL.trans hl_283
                    refine sl hK (by decide) rfl rfl (r_fieldAddr Try.underlying51 rfl Try.sizeOf39 hK rfl) fun a hK => ?_
                    have hS := hS.pk3
                    refine sl_storeA (vs := [.int .i64 y_280.1.Kind, .int .i64 y_280.1.N, .string y_280.1.S, .int .i64 y_280.1.H.a0, .int .i64 y_280.1.H.a1, .int .i64 y_280.1.H.a2, .int .i64 y_280.1.H.a3, .int .i64 y_280.1.H.a4, .int .i64 y_280.1.H.a5, .int .i64 y_280.1.H.a6, .int .i64 y_280.1.H.a7]) (c' := [.int .i64 14, .string y_104.1.S, .int .i64 x_198, .int .i64 0, .int .i64 0, .int .i64 y_280.1.Kind, .int .i64 y_280.1.N, .string y_280.1.S, .int .i64 y_280.1.H.a0, .int .i64 y_280.1.H.a1, .int .i64 y_280.1.H.a2, .int .i64 y_280.1.H.a3, .int .i64 y_280.1.H.a4, .int .i64 y_280.1.H.a5, .int .i64 y_280.1.H.a6, .int .i64 y_280.1.H.a7, .slice none 0 0, .slice none 0 0, .slice none 0 0]) Try.sizeOf39 hS hK rfl rfl rfl rfl (all_cons rfl (all_cons rfl (all_cons rfl (all_cons rfl (all_cons rfl (all_cons rfl (all_cons rfl (all_cons rfl (all_cons rfl (all_cons rfl (all_cons rfl (all_nil)))))))))))) (Nat.le_of_ble_eq_true rfl) rfl fun a w hS hK => ?_
                    refine wpList_nil ?_
                    refine wp_seq ?_
                    refine wp_region_lit ?_
                    refine sl hK (by decide) rfl rfl (r_move hK rfl) fun a hK => ?_
                    refine sl hK (by decide) rfl rfl (r_loadA (cs := [.int .i64 14, .string y_104.1.S, .int .i64 x_198, .int .i64 0, .int .i64 0, .int .i64 y_280.1.Kind, .int .i64 y_280.1.N, .string y_280.1.S, .int .i64 y_280.1.H.a0, .int .i64 y_280.1.H.a1, .int .i64 y_280.1.H.a2, .int .i64 y_280.1.H.a3, .int .i64 y_280.1.H.a4, .int .i64 y_280.1.H.a5, .int .i64 y_280.1.H.a6, .int .i64 y_280.1.H.a7, .slice none 0 0, .slice none 0 0, .slice none 0 0]) Try.isAgg51 Try.sizeOf51 rfl hK rfl (hS.cells_of (m := 19) (.head _) rfl)) fun a hK => ?_
                    obtain ⟨y_292, h_293, H⟩ := bind_some H
                    have hS := hS.pk3
                    have hS := hS.pk3
                    have hS := hS.pk3
                    have hS1 := hS.sp3
                    refine sl_call Try.call58 hK (by decide) rfl rfl rfl (ref12_reader_lay.calls y_280.2 (⟨14, y_104.1.S, x_198, 0, 0, y_280.1, [], [], []⟩ : api_Node) hS1.lend hq_287 hq_291 (SlR.nil (tyInt .i64) _) (SlR.nil tyStr _) (SlR.nil ty_api_Agg _) h_293) fun a v_ w hv_ hK => ?_
                    obtain ⟨R_294, v_297, cs_298, v_301, cs_302, hv_, hr_, hl_295, hq_299, hq_303⟩ := hv_
                    have hv_ := hv_.symm
                    subst hv_
                    obtain ⟨hS, hl_295⟩ := hS1.back hr_ hl_295
                    have hS := hS.un3
                    have hRL := hRL.trans hl_295
                    refine sl hK (by decide) rfl rfl (r_assign hK rfl) fun a hK => ?_
                    refine wpList_nil ?_
                    obtain rfl := Option.some.inj H
                    refine wp_ret ?_
                    repeat (first | refine ret_then ?_ | refine ret_block ?_ | refine ret_scope ?_)
                    exact ret_1 Try.results67 hK (rv_tmp hK rfl) ⟨_, rfl, _, _, _, _, _, rfl, (hS.trunc 3), hRL, hq_299, hq_303⟩
theorem ref12_reader_not.calls (kr_38 : catchmentref12_reader → Option (Int × catchmentref12_reader)) (ih_38 : ∀ (a0 : catchmentref12_reader) {w0 : World} {R : Hp} {M : List Own} {b0 : Nat} {v0_0 : Value} {cs0_0 : List Value} {v0_1 : Value} {cs0_1 : List Value} (hS0 : St M w0 w0 R [.cells b0 [v0_0, .int .i64 a0.At, v0_1, .int .i64 a0.E, .int .i64 a0.Depth] 77, .row 72 4 v0_0 a0.L.length cs0_0, .row 51 19 v0_1 a0.Q.length cs0_1]) (h0_0 : Reps ty_api_Token R cs0_0 a0.L) (h0_1 : Reps ty_api_Node R cs0_1 a0.Q) {r : Int × catchmentref12_reader} (H : kr_38 a0 = some r), Calls Try.prog 38 #[.pointer (some ⟨b0, 0, none⟩)] w0 (Rets fun v w' => ∃ (R' : Hp) (u0 : Value) (cu0 : List Value) (u1 : Value) (cu1 : List Value), v = .int .i64 r.1 ∧ St M w0 w' R' [.cells b0 [u0, .int .i64 r.2.At, u1, .int .i64 r.2.E, .int .i64 r.2.Depth] 77, .row 72 4 u0 r.2.L.length cu0, .row 51 19 u1 r.2.Q.length cu1] ∧ RLe M w0 R R' ∧ Reps ty_api_Token R' cu0 r.2.L ∧ Reps ty_api_Node R' cu1 r.2.Q)) (a0 : catchmentref12_reader) {w0 : World} {R : Hp} {M : List Own} {b0 : Nat} {v0_0 : Value} {cs0_0 : List Value} {v0_1 : Value} {cs0_1 : List Value} (hS0 : St M w0 w0 R [.cells b0 [v0_0, .int .i64 a0.At, v0_1, .int .i64 a0.E, .int .i64 a0.Depth] 77, .row 72 4 v0_0 a0.L.length cs0_0, .row 51 19 v0_1 a0.Q.length cs0_1]) (h0_0 : Reps ty_api_Token R cs0_0 a0.L) (h0_1 : Reps ty_api_Node R cs0_1 a0.Q) {r : Int × catchmentref12_reader} (H : ref12_reader_not kr_38 a0 = some r) : Calls Try.prog 67 #[.pointer (some ⟨b0, 0, none⟩)] w0 (Rets fun v w' => ∃ (R' : Hp) (u0 : Value) (cu0 : List Value) (u1 : Value) (cu1 : List Value), v = .int .i64 r.1 ∧ St M w0 w' R' [.cells b0 [u0, .int .i64 r.2.At, u1, .int .i64 r.2.E, .int .i64 r.2.Depth] 77, .row 72 4 u0 r.2.L.length cu0, .row 51 19 u1 r.2.Q.length cu1] ∧ RLe M w0 R R' ∧ Reps ty_api_Token R' cu0 r.2.L ∧ Reps ty_api_Node R' cu1 r.2.Q) := ref12_reader_not.r_calls kr_38 ih_38 _ a0 hS0 h0_0 h0_1 H

/-! ### (*catchment/catchmentref12.reader).both: function 56 -/
set_option maxHeartbeats 4000000 in
set_option maxRecDepth 100000 in
theorem ref12_reader_both.calls (kr_38 : catchmentref12_reader → Option (Int × catchmentref12_reader)) (ih_38 : ∀ (a0 : catchmentref12_reader) {w0 : World} {R : Hp} {M : List Own} {b0 : Nat} {v0_0 : Value} {cs0_0 : List Value} {v0_1 : Value} {cs0_1 : List Value} (hS0 : St M w0 w0 R [.cells b0 [v0_0, .int .i64 a0.At, v0_1, .int .i64 a0.E, .int .i64 a0.Depth] 77, .row 72 4 v0_0 a0.L.length cs0_0, .row 51 19 v0_1 a0.Q.length cs0_1]) (h0_0 : Reps ty_api_Token R cs0_0 a0.L) (h0_1 : Reps ty_api_Node R cs0_1 a0.Q) {r : Int × catchmentref12_reader} (H : kr_38 a0 = some r), Calls Try.prog 38 #[.pointer (some ⟨b0, 0, none⟩)] w0 (Rets fun v w' => ∃ (R' : Hp) (u0 : Value) (cu0 : List Value) (u1 : Value) (cu1 : List Value), v = .int .i64 r.1 ∧ St M w0 w' R' [.cells b0 [u0, .int .i64 r.2.At, u1, .int .i64 r.2.E, .int .i64 r.2.Depth] 77, .row 72 4 u0 r.2.L.length cu0, .row 51 19 u1 r.2.Q.length cu1] ∧ RLe M w0 R R' ∧ Reps ty_api_Token R' cu0 r.2.L ∧ Reps ty_api_Node R' cu1 r.2.Q)) (a0 : catchmentref12_reader) {w0 : World} {R : Hp} {M : List Own} {b0 : Nat} {v0_0 : Value} {cs0_0 : List Value} {v0_1 : Value} {cs0_1 : List Value} (hS0 : St M w0 w0 R [.cells b0 [v0_0, .int .i64 a0.At, v0_1, .int .i64 a0.E, .int .i64 a0.Depth] 77, .row 72 4 v0_0 a0.L.length cs0_0, .row 51 19 v0_1 a0.Q.length cs0_1]) (h0_0 : Reps ty_api_Token R cs0_0 a0.L) (h0_1 : Reps ty_api_Node R cs0_1 a0.Q) {r : Int × catchmentref12_reader} (H : ref12_reader_both kr_38 a0 = some r) : Calls Try.prog 56 #[.pointer (some ⟨b0, 0, none⟩)] w0 (Rets fun v w' => ∃ (R' : Hp) (u0 : Value) (cu0 : List Value) (u1 : Value) (cu1 : List Value), v = .int .i64 r.1 ∧ St M w0 w' R' [.cells b0 [u0, .int .i64 r.2.At, u1, .int .i64 r.2.E, .int .i64 r.2.Depth] 77, .row 72 4 u0 r.2.L.length cu0, .row 51 19 u1 r.2.Q.length cu1] ∧ RLe M w0 R R' ∧ Reps ty_api_Token R' cu0 r.2.L ∧ Reps ty_api_Node R' cu1 r.2.Q) := by
  unfold ref12_reader_both at H
  refine enter (args := [.pointer (some ⟨b0, 0, none⟩)]) Try.func56 rfl Try.ntmps56 rfl fun a hK => ?_
  have hS := hS0
  have hRL := RLe.refl (M := M) w0 R
  refine wp_seq ?_
  refine wp_region_lit ?_
  refine sl hK (by decide) rfl rfl (r_assign hK rfl) fun a hK => ?_
  refine wpList_nil ?_
  refine wp_seq ?_
  refine wp_region_lit ?_
  refine sl hK (by decide) rfl rfl (r_move hK rfl) fun a hK => ?_
  obtain ⟨y_1, h_2, H⟩ := bind_some H
  have hS := hS.pk2
  have hS := hS.pk2
  have hS := hS.pk2
  have hS1 := hS.sp3
  refine sl_call Try.call67 hK (by decide) rfl rfl rfl (ref12_reader_not.calls kr_38 ih_38 a0 hS1.lend h0_0 h0_1 h_2) fun a v_ w hv_ hK => ?_
  obtain ⟨R_3, v_6, cs_7, v_10, cs_11, hv_, hr_, hl_4, hq_8, hq_12⟩ := hv_
  have hv_ := hv_.symm
  subst hv_
  obtain ⟨hS, hl_4⟩ := hS1.back hr_ hl_4
  have hS := hS.un3
  have hRL := hRL.trans hl_4
  refine sl hK (by decide) rfl rfl (r_assign hK rfl) fun a hK => ?_
  refine wpList_nil ?_
  refine wp_seq ?_
  refine wp_block ?_
  refine wp_loop_k (fun k_l0 a w => ∃ (x_56 : List api_Token) (x_60 : Int) (x_62 : List api_Node) (x_66 : Int) (x_67 : Int) (x_68 : Int) (R_69 : Hp) (v_57 : Value) (cs_58 : List Value) (v_63 : Value) (cs_64 : List Value), ref12_reader_both.l0 a0 kr_38 k_l0 x_56 x_60 x_62 x_66 x_67 x_68 = some r ∧ RLe M w0 R_3 R_69 ∧ Reps ty_api_Token R_69 cs_58 x_56 ∧ Reps ty_api_Node R_69 cs_64 x_62 ∧ Kn 18 a [(0, .pointer (some ⟨b0, 0, none⟩)), (3, .int .i64 x_68)] ∧ St M w0 w R_69 [.row 72 4 v_57 x_56.length cs_58, .row 51 19 v_63 x_62.length cs_64, .cells b0 [v_57, .int .i64 x_60, v_63, .int .i64 x_66, .int .i64 x_67] 77]) (a0.L.length + 1) ?_ ?_
  · have hS := hS.pk2
    have hS := hS.pk2
    exact ⟨y_1.2.L, y_1.2.At, y_1.2.Q, y_1.2.E, y_1.2.Depth, y_1.1, _, _, _, _, _, H, (RLe.refl _ _), hq_8, hq_12, hK.sub (all_cons rfl (all_cons rfl (all_nil))), hS⟩
  · rintro k_l0 a w ⟨x_56, x_60, x_62, x_66, x_67, x_68, R_69, v_57, cs_58, v_63, cs_64, H, hl_70, hq_59, hq_65, hK, hS⟩
    cases k_l0 with
    | zero => cases H
    | succ k_l0 =>
    rw [ref12_reader_both.l0.eq_2] at H
    have hRL := hRL.trans hl_70
    refine wp_seq ?_
    refine wp_seq ?_
    refine wp_region_lit ?_
    refine sl hK (by decide) rfl rfl (r_move hK rfl) fun a hK => ?_
    obtain ⟨y_112, h_113, H⟩ := bind_some H
    have hS := hS.pk1
    have hS := hS.pk1
    have hS := hS.pk2
    have hS1 := hS.sp3
    refine sl_call Try.call57 hK (by decide) rfl rfl rfl (ref12_reader_sees.calls (⟨x_56, x_60, x_62, x_66, x_67⟩ : catchmentref12_reader) (⟨#[97, 110, 100]⟩ : ByteArray) hS1.lend hq_59 hq_65 h_113) fun a v_ w hv_ hK => ?_
    obtain ⟨R_114, v_117, cs_118, v_121, cs_122, hv_, hr_, hl_115, hq_119, hq_123⟩ := hv_
    have hv_ := hv_.symm
    subst hv_
    obtain ⟨hS, hl_115⟩ := hS1.back hr_ hl_115
    have hS := hS.un3
    have hRL := hRL.trans hl_115
    refine wpList_nil ?_
    refine wp_cond_split (hK.ev rfl) (fun (hb_124 : y_112.1 = true) => ?_) (fun (hb_124 : y_112.1 = false) => ?_)
    · rw [ifb_t hb_124] at H
      refine wp_skip ?_
      refine wp_block ?_
      refine wp_seq ?_
      refine wp_region_lit ?_
      refine sl hK (by decide) rfl rfl (r_move hK rfl) fun a hK => ?_
      obtain ⟨y_125, h_126, H⟩ := bind_some H
      have hS := hS.pk2
      have hS := hS.pk2
      have hS := hS.pk2
      have hS1 := hS.sp3
      refine sl_call Try.call67 hK (by decide) rfl rfl rfl (ref12_reader_not.calls kr_38 ih_38 y_112.2 hS1.lend hq_119 hq_123 h_126) fun a v_ w hv_ hK => ?_
      obtain ⟨R_127, v_130, cs_131, v_134, cs_135, hv_, hr_, hl_128, hq_132, hq_136⟩ := hv_
      have hv_ := hv_.symm
      subst hv_
      obtain ⟨hS, hl_128⟩ := hS1.back hr_ hl_128
      have hS := hS.un3
      have hRL := hRL.trans hl_128
      refine sl hK (by decide) rfl rfl (r_assign hK rfl) fun a hK => ?_
      refine wpList_nil ?_
      refine wp_region_lit ?_
      refine sl hK (by decide) rfl rfl (r_move hK rfl) fun a hK => ?_
      refine sl hK (by decide) rfl rfl (r_move hK rfl) fun a hK => ?_
      refine sl hK (by decide) rfl rfl (r_move hK rfl) fun a hK => ?_
      refine sl_buildSliceF (zc := [.int .i64 0]) (ps := [(0, .int .i64 x_68), (1, .int .i64 y_125.1)]) (c := [.int .i64 x_68, .int .i64 y_125.1]) [[.int .i64 x_68], [.int .i64 y_125.1]] Try.underlying47 Try.sizeOf3 Try.zeroValue3 rfl (pc_cons rfl (pc_cons rfl pc_nil)) rfl rfl (Nat.le_of_ble_eq_true rfl) rfl (all_cons rfl (all_cons rfl (all_nil))) rfl hS hK (by decide) rfl fun a w b_137 hS hK => ?_
      refine sl hK (by decide) rfl rfl (r_buildC (ps := [(0, .int .i64 11), (6, .slice (some ⟨b_137, 0, none⟩) 2 2)]) (c := [.int .i64 11, .string (⟨#[]⟩ : ByteArray), .int .i64 0, .int .i64 0, .int .i64 0, .int .i64 0, .int .i64 0, .string (⟨#[]⟩ : ByteArray), .int .i64 0, .int .i64 0, .int .i64 0, .int .i64 0, .int .i64 0, .int .i64 0, .int .i64 0, .int .i64 0, .slice (some ⟨b_137, 0, none⟩) 2 2, .slice none 0 0, .slice none 0 0]) Try.underlying51 Try.zeroValue51 places51 hK rfl (pc_cons rfl (pc_cons rfl pc_nil)) rfl rfl) fun a hK => ?_
      obtain ⟨R_138, hS, hl_140, hs_139⟩ := hS.fz_lit (ty := (tyInt .i64)) (xs := [x_68, y_125.1]) (Reps.cons (show Ty.rep (tyInt .i64) _ [.int .i64 x_68] x_68 from rfl) (Reps.cons (show Ty.rep (tyInt .i64) _ [.int .i64 y_125.1] y_125.1 from rfl) (Reps.nil _ _))) rfl
      have hRL := hRL.trans hl_140
      obtain ⟨y_141, h_142, H⟩ := bind_some H
      have hS := hS.pk2
      have hS := hS.pk2
      have hS := hS.pk2
      have hS1 := hS.sp3
      refine sl_call Try.call58 hK (by decide) rfl rfl rfl (ref12_reader_lay.calls y_125.2 (⟨11, (⟨#[]⟩ : ByteArray), 0, 0, 0, (⟨0, 0, (⟨#[]⟩ : ByteArray), (⟨0, 0, 0, 0, 0, 0, 0, 0⟩ : Arr8)⟩ : api_Value), [x_68, y_125.1], [], []⟩ : api_Node) hS1.lend (hq_132.mono hl_140.le) (hq_136.mono hl_140.le) hs_139 (SlR.nil tyStr _) (SlR.nil ty_api_Agg _) h_142) fun a v_ w hv_ hK => ?_
      obtain ⟨R_143, v_146, cs_147, v_150, cs_151, hv_, hr_, hl_144, hq_148, hq_152⟩ := hv_
      have hv_ := hv_.symm
      subst hv_
      obtain ⟨hS, hl_144⟩ := hS1.back hr_ hl_144
      have hS := hS.un3
      have hRL := hRL.trans hl_144
      refine sl hK (by decide) rfl rfl (r_assign hK rfl) fun a hK => ?_
      refine wpList_nil ?_
      have hS := hS.pk2
      have hS := hS.pk2
      exact ⟨_, Nat.lt_succ_self _, y_141.2.L, y_141.2.At, y_141.2.Q, y_141.2.E, y_141.2.Depth, y_141.1, _, _, _, _, _, H, (hl_70.trans (hl_115.trans (hl_128.trans (hl_140.trans hl_144)))), hq_148, hq_152, hK.sub (all_cons rfl (all_cons rfl (all_nil))), hS⟩
    · rw [ifb_f hb_124] at H
      refine wp_exit ?_
      refine wp_seq ?_
      refine wp_region_lit ?_
      refine sl hK (by decide) rfl rfl (r_move hK rfl) fun a hK => ?_
      refine sl hK (by decide) rfl rfl (r_assign hK rfl) fun a hK => ?_
      refine wpList_nil ?_
      obtain rfl := Option.some.inj H
      refine wp_ret ?_
      repeat (first | refine ret_then ?_ | refine ret_block ?_ | refine ret_scope ?_)
      exact ret_1 Try.results56 hK (rv_tmp hK rfl) ⟨_, rfl, _, _, _, _, _, rfl, hS, hRL, hq_119, hq_123⟩

/-! ### (*catchment/catchmentref12.reader).cond: function 38 -/
set_option maxHeartbeats 4000000 in
set_option maxRecDepth 100000 in
theorem ref12_reader_cond.r_calls (fuel : Nat) : ∀ (a0 : catchmentref12_reader) {w0 : World} {R : Hp} {M : List Own} {b0 : Nat} {v0_0 : Value} {cs0_0 : List Value} {v0_1 : Value} {cs0_1 : List Value} (hS0 : St M w0 w0 R [.cells b0 [v0_0, .int .i64 a0.At, v0_1, .int .i64 a0.E, .int .i64 a0.Depth] 77, .row 72 4 v0_0 a0.L.length cs0_0, .row 51 19 v0_1 a0.Q.length cs0_1]) (h0_0 : Reps ty_api_Token R cs0_0 a0.L) (h0_1 : Reps ty_api_Node R cs0_1 a0.Q) {r : Int × catchmentref12_reader} (H : ref12_reader_cond.r fuel a0 = some r), Calls Try.prog 38 #[.pointer (some ⟨b0, 0, none⟩)] w0 (Rets fun v w' => ∃ (R' : Hp) (u0 : Value) (cu0 : List Value) (u1 : Value) (cu1 : List Value), v = .int .i64 r.1 ∧ St M w0 w' R' [.cells b0 [u0, .int .i64 r.2.At, u1, .int .i64 r.2.E, .int .i64 r.2.Depth] 77, .row 72 4 u0 r.2.L.length cu0, .row 51 19 u1 r.2.Q.length cu1] ∧ RLe M w0 R R' ∧ Reps ty_api_Token R' cu0 r.2.L ∧ Reps ty_api_Node R' cu1 r.2.Q) := by
  induction fuel with
  | zero => intros; rename_i H; exact nomatch (show (none : Option _) = some _ from H)
  | succ fuel ih_38 =>
    intro a0 w0 R M b0 v0_0 cs0_0 v0_1 cs0_1 hS0 h0_0 h0_1 r H
    rw [ref12_reader_cond.r.eq_2] at H
    generalize ref12_reader_cond.r fuel = kr_38 at ih_38 H
    unfold ref12_reader_cond.b at H
    refine enter (args := [.pointer (some ⟨b0, 0, none⟩)]) Try.func38 rfl Try.ntmps38 rfl fun a hK => ?_
    have hS := hS0
    have hRL := RLe.refl (M := M) w0 R
    refine wp_seq ?_
    refine wp_region_lit ?_
    refine sl hK (by decide) rfl rfl (r_assign hK rfl) fun a hK => ?_
    refine wpList_nil ?_
    refine wp_seq ?_
    refine wp_region_lit ?_
    refine sl hK (by decide) rfl rfl (r_move hK rfl) fun a hK => ?_
    obtain ⟨y_1, h_2, H⟩ := bind_some H
    have hS := hS.pk2
    have hS := hS.pk2
    have hS := hS.pk2
    have hS1 := hS.sp3
    refine sl_call Try.call56 hK (by decide) rfl rfl rfl (ref12_reader_both.calls kr_38 ih_38 a0 hS1.lend h0_0 h0_1 h_2) fun a v_ w hv_ hK => ?_
    obtain ⟨R_3, v_6, cs_7, v_10, cs_11, hv_, hr_, hl_4, hq_8, hq_12⟩ := hv_
    have hv_ := hv_.symm
    subst hv_
    obtain ⟨hS, hl_4⟩ := hS1.back hr_ hl_4
    have hS := hS.un3
    have hRL := hRL.trans hl_4
    refine sl hK (by decide) rfl rfl (r_assign hK rfl) fun a hK => ?_
    refine wpList_nil ?_
    refine wp_seq ?_
    refine wp_block ?_
    refine wp_loop_k (fun k_l0 a w => ∃ (x_56 : List api_Token) (x_60 : Int) (x_62 : List api_Node) (x_66 : Int) (x_67 : Int) (x_68 : Int) (R_69 : Hp) (v_57 : Value) (cs_58 : List Value) (v_63 : Value) (cs_64 : List Value), ref12_reader_cond.l0 a0 kr_38 k_l0 x_56 x_60 x_62 x_66 x_67 x_68 = some r ∧ RLe M w0 R_3 R_69 ∧ Reps ty_api_Token R_69 cs_58 x_56 ∧ Reps ty_api_Node R_69 cs_64 x_62 ∧ Kn 18 a [(0, .pointer (some ⟨b0, 0, none⟩)), (3, .int .i64 x_68)] ∧ St M w0 w R_69 [.row 72 4 v_57 x_56.length cs_58, .row 51 19 v_63 x_62.length cs_64, .cells b0 [v_57, .int .i64 x_60, v_63, .int .i64 x_66, .int .i64 x_67] 77]) (a0.L.length + 1) ?_ ?_
    · have hS := hS.pk2
      have hS := hS.pk2
      exact ⟨y_1.2.L, y_1.2.At, y_1.2.Q, y_1.2.E, y_1.2.Depth, y_1.1, _, _, _, _, _, H, (RLe.refl _ _), hq_8, hq_12, hK.sub (all_cons rfl (all_cons rfl (all_nil))), hS⟩
    · rintro k_l0 a w ⟨x_56, x_60, x_62, x_66, x_67, x_68, R_69, v_57, cs_58, v_63, cs_64, H, hl_70, hq_59, hq_65, hK, hS⟩
      cases k_l0 with
      | zero => cases H
      | succ k_l0 =>
      rw [ref12_reader_cond.l0.eq_2] at H
      have hRL := hRL.trans hl_70
      refine wp_seq ?_
      refine wp_seq ?_
      refine wp_region_lit ?_
      refine sl hK (by decide) rfl rfl (r_move hK rfl) fun a hK => ?_
      obtain ⟨y_112, h_113, H⟩ := bind_some H
      have hS := hS.pk1
      have hS := hS.pk1
      have hS := hS.pk2
      have hS1 := hS.sp3
      refine sl_call Try.call57 hK (by decide) rfl rfl rfl (ref12_reader_sees.calls (⟨x_56, x_60, x_62, x_66, x_67⟩ : catchmentref12_reader) (⟨#[111, 114]⟩ : ByteArray) hS1.lend hq_59 hq_65 h_113) fun a v_ w hv_ hK => ?_
      obtain ⟨R_114, v_117, cs_118, v_121, cs_122, hv_, hr_, hl_115, hq_119, hq_123⟩ := hv_
      have hv_ := hv_.symm
      subst hv_
      obtain ⟨hS, hl_115⟩ := hS1.back hr_ hl_115
      have hS := hS.un3
      have hRL := hRL.trans hl_115
      refine wpList_nil ?_
      refine wp_cond_split (hK.ev rfl) (fun (hb_124 : y_112.1 = true) => ?_) (fun (hb_124 : y_112.1 = false) => ?_)
      · rw [ifb_t hb_124] at H
        refine wp_skip ?_
        refine wp_block ?_
        refine wp_seq ?_
        refine wp_region_lit ?_
        refine sl hK (by decide) rfl rfl (r_move hK rfl) fun a hK => ?_
        obtain ⟨y_125, h_126, H⟩ := bind_some H
        have hS := hS.pk2
        have hS := hS.pk2
        have hS := hS.pk2
        have hS1 := hS.sp3
        refine sl_call Try.call56 hK (by decide) rfl rfl rfl (ref12_reader_both.calls kr_38 ih_38 y_112.2 hS1.lend hq_119 hq_123 h_126) fun a v_ w hv_ hK => ?_
        obtain ⟨R_127, v_130, cs_131, v_134, cs_135, hv_, hr_, hl_128, hq_132, hq_136⟩ := hv_
        have hv_ := hv_.symm
        subst hv_
        obtain ⟨hS, hl_128⟩ := hS1.back hr_ hl_128
        have hS := hS.un3
        have hRL := hRL.trans hl_128
        refine sl hK (by decide) rfl rfl (r_assign hK rfl) fun a hK => ?_
        refine wpList_nil ?_
        refine wp_region_lit ?_
        refine sl hK (by decide) rfl rfl (r_move hK rfl) fun a hK => ?_
        refine sl hK (by decide) rfl rfl (r_move hK rfl) fun a hK => ?_
        refine sl hK (by decide) rfl rfl (r_move hK rfl) fun a hK => ?_
        refine sl_buildSliceF (zc := [.int .i64 0]) (ps := [(0, .int .i64 x_68), (1, .int .i64 y_125.1)]) (c := [.int .i64 x_68, .int .i64 y_125.1]) [[.int .i64 x_68], [.int .i64 y_125.1]] Try.underlying47 Try.sizeOf3 Try.zeroValue3 rfl (pc_cons rfl (pc_cons rfl pc_nil)) rfl rfl (Nat.le_of_ble_eq_true rfl) rfl (all_cons rfl (all_cons rfl (all_nil))) rfl hS hK (by decide) rfl fun a w b_137 hS hK => ?_
        refine sl hK (by decide) rfl rfl (r_buildC (ps := [(0, .int .i64 12), (6, .slice (some ⟨b_137, 0, none⟩) 2 2)]) (c := [.int .i64 12, .string (⟨#[]⟩ : ByteArray), .int .i64 0, .int .i64 0, .int .i64 0, .int .i64 0, .int .i64 0, .string (⟨#[]⟩ : ByteArray), .int .i64 0, .int .i64 0, .int .i64 0, .int .i64 0, .int .i64 0, .int .i64 0, .int .i64 0, .int .i64 0, .slice (some ⟨b_137, 0, none⟩) 2 2, .slice none 0 0, .slice none 0 0]) Try.underlying51 Try.zeroValue51 places51 hK rfl (pc_cons rfl (pc_cons rfl pc_nil)) rfl rfl) fun a hK => ?_
        obtain ⟨R_138, hS, hl_140, hs_139⟩ := hS.fz_lit (ty := (tyInt .i64)) (xs := [x_68, y_125.1]) (Reps.cons (show Ty.rep (tyInt .i64) _ [.int .i64 x_68] x_68 from rfl) (Reps.cons (show Ty.rep (tyInt .i64) _ [.int .i64 y_125.1] y_125.1 from rfl) (Reps.nil _ _))) rfl
        have hRL := hRL.trans hl_140
        obtain ⟨y_141, h_142, H⟩ := bind_some H
        have hS := hS.pk2
        have hS := hS.pk2
        have hS := hS.pk2
        have hS1 := hS.sp3
        refine sl_call Try.call58 hK (by decide) rfl rfl rfl (ref12_reader_lay.calls y_125.2 (⟨12, (⟨#[]⟩ : ByteArray), 0, 0, 0, (⟨0, 0, (⟨#[]⟩ : ByteArray), (⟨0, 0, 0, 0, 0, 0, 0, 0⟩ : Arr8)⟩ : api_Value), [x_68, y_125.1], [], []⟩ : api_Node) hS1.lend (hq_132.mono hl_140.le) (hq_136.mono hl_140.le) hs_139 (SlR.nil tyStr _) (SlR.nil ty_api_Agg _) h_142) fun a v_ w hv_ hK => ?_
        obtain ⟨R_143, v_146, cs_147, v_150, cs_151, hv_, hr_, hl_144, hq_148, hq_152⟩ := hv_
        have hv_ := hv_.symm
        subst hv_
        obtain ⟨hS, hl_144⟩ := hS1.back hr_ hl_144
        have hS := hS.un3
        have hRL := hRL.trans hl_144
        refine sl hK (by decide) rfl rfl (r_assign hK rfl) fun a hK => ?_
        refine wpList_nil ?_
        have hS := hS.pk2
        have hS := hS.pk2
        exact ⟨_, Nat.lt_succ_self _, y_141.2.L, y_141.2.At, y_141.2.Q, y_141.2.E, y_141.2.Depth, y_141.1, _, _, _, _, _, H, (hl_70.trans (hl_115.trans (hl_128.trans (hl_140.trans hl_144)))), hq_148, hq_152, hK.sub (all_cons rfl (all_cons rfl (all_nil))), hS⟩
      · rw [ifb_f hb_124] at H
        refine wp_exit ?_
        refine wp_seq ?_
        refine wp_region_lit ?_
        refine sl hK (by decide) rfl rfl (r_move hK rfl) fun a hK => ?_
        refine sl hK (by decide) rfl rfl (r_assign hK rfl) fun a hK => ?_
        refine wpList_nil ?_
        obtain rfl := Option.some.inj H
        refine wp_ret ?_
        repeat (first | refine ret_then ?_ | refine ret_block ?_ | refine ret_scope ?_)
        exact ret_1 Try.results38 hK (rv_tmp hK rfl) ⟨_, rfl, _, _, _, _, _, rfl, hS, hRL, hq_119, hq_123⟩
theorem ref12_reader_cond.calls (a0 : catchmentref12_reader) {w0 : World} {R : Hp} {M : List Own} {b0 : Nat} {v0_0 : Value} {cs0_0 : List Value} {v0_1 : Value} {cs0_1 : List Value} (hS0 : St M w0 w0 R [.cells b0 [v0_0, .int .i64 a0.At, v0_1, .int .i64 a0.E, .int .i64 a0.Depth] 77, .row 72 4 v0_0 a0.L.length cs0_0, .row 51 19 v0_1 a0.Q.length cs0_1]) (h0_0 : Reps ty_api_Token R cs0_0 a0.L) (h0_1 : Reps ty_api_Node R cs0_1 a0.Q) {r : Int × catchmentref12_reader} (H : ref12_reader_cond a0 = some r) : Calls Try.prog 38 #[.pointer (some ⟨b0, 0, none⟩)] w0 (Rets fun v w' => ∃ (R' : Hp) (u0 : Value) (cu0 : List Value) (u1 : Value) (cu1 : List Value), v = .int .i64 r.1 ∧ St M w0 w' R' [.cells b0 [u0, .int .i64 r.2.At, u1, .int .i64 r.2.E, .int .i64 r.2.Depth] 77, .row 72 4 u0 r.2.L.length cu0, .row 51 19 u1 r.2.Q.length cu1] ∧ RLe M w0 R R' ∧ Reps ty_api_Token R' cu0 r.2.L ∧ Reps ty_api_Node R' cu1 r.2.Q) := ref12_reader_cond.r_calls _ a0 hS0 h0_0 h0_1 H

/-! ### (*catchment/catchmentref12.reader).end: function 39 -/
set_option maxHeartbeats 4000000 in
set_option maxRecDepth 100000 in
theorem ref12_reader_end.calls (a0 : catchmentref12_reader) {w0 : World} {R : Hp} {M : List Own} {b0 : Nat} {v0_0 : Value} {cs0_0 : List Value} {v0_1 : Value} {cs0_1 : List Value} (hS0 : St M w0 w0 R [.cells b0 [v0_0, .int .i64 a0.At, v0_1, .int .i64 a0.E, .int .i64 a0.Depth] 77, .row 72 4 v0_0 a0.L.length cs0_0, .row 51 19 v0_1 a0.Q.length cs0_1]) (h0_0 : Reps ty_api_Token R cs0_0 a0.L) (h0_1 : Reps ty_api_Node R cs0_1 a0.Q) {r : api_Query × Int × Int} (H : ref12_reader_end a0 = some r) : Calls Try.prog 39 #[.pointer (some ⟨b0, 0, none⟩)] w0 (Rets fun v w' => ∃ (R' : Hp) (u0 : Value) (cu0 : List Value), v = .tuple #[.agg #[u0], .int .i64 r.2.1, .int .i64 r.2.2] ∧ St M w0 w' R' [.row 51 19 u0 r.1.N.length cu0] ∧ RLe M w0 R R' ∧ Reps ty_api_Node R' cu0 r.1.N) := by
  unfold ref12_reader_end at H
  refine enter (args := [.pointer (some ⟨b0, 0, none⟩)]) Try.func39 rfl Try.ntmps39 rfl fun a hK => ?_
  have hS := hS0
  have hRL := RLe.refl (M := M) w0 R
  refine wp_seq ?_
  refine wp_region_lit ?_
  refine sl_alloc Try.zeroValue24 hS hK (by decide) rfl rfl fun a w b_1 hS hK => ?_
  refine sl hK (by decide) rfl rfl (r_assign hK rfl) fun a hK => ?_
  refine sl hK (by decide) rfl rfl (r_assign hK rfl) fun a hK => ?_
  refine wpList_nil ?_
  refine wp_seq ?_
  refine wp_seq ?_
  refine wp_mid (fun a w => ∃ (x_4 : Bool), ref12_reader_end.j0 a0 x_4 = some r ∧ Kn 50 a [(0, .pointer (some ⟨b0, 0, none⟩)), (2, .pointer (some ⟨b_1, 0, none⟩)), (21, .bool x_4)] ∧ St M w0 w R [.row 72 4 v0_0 a0.L.length cs0_0, .row 51 19 v0_1 a0.Q.length cs0_1, .cells b0 [v0_0, .int .i64 a0.At, v0_1, .int .i64 a0.E, .int .i64 a0.Depth] 77, .cells b_1 [.slice none 0 0] 24]) ?_ ?_
  · refine par_region (C := fun w => St M w0 w R [.cells b_1 [.slice none 0 0] 24, .cells b0 [v0_0, .int .i64 a0.At, v0_1, .int .i64 a0.E, .int .i64 a0.Depth] 77, .row 72 4 v0_0 a0.L.length cs0_0, .row 51 19 v0_1 a0.Q.length cs0_1]) [(0, true), (1, true), (2, true), (3, true), (4, true), (5, true), (6, true), (7, true), (8, true), (9, true), (10, true), (11, true), (12, true), (13, true), (14, true), (15, true), (16, true)] mixed (by kernel_rfl) hS (fun w hS => hS) fun w hS => ?_
    refine sp (k := 0) rfl hK (by decide) rfl rfl (fun w hS => r_move hK rfl) fun a hK => ?_
    refine sp (k := 1) rfl hK (by decide) rfl rfl (fun w hS => r_nilCheck hK rfl) fun a hK => ?_
    refine sp (k := 2) rfl hK (by decide) rfl rfl (fun w hS => r_fieldAddr Try.underlying77 rfl Try.sizeOf42 hK rfl) fun a hK => ?_
    refine sp (k := 3) rfl hK (by decide) rfl rfl (fun w hS => r_load Try.isAgg42 hK rfl (hS.cell (.tail _ (.head _)) rfl)) fun a hK => ?_
    refine sp (k := 4) rfl hK (by decide) rfl rfl (fun w hS => r_ibin hK rfl rfl rfl) fun a hK => ?_
    refine sp (k := 5) rfl hK (by decide) rfl rfl (fun w hS => r_move hK rfl) fun a hK => ?_
    rcases or_b (a0.E == 0) with hb_7 | hb_7
    · rw [ifb_t hb_7] at H
      refine sp (k := 6) rfl hK (by decide) (wtt hb_7) rfl (fun w hS => r_move hK rfl) fun a hK => ?_
      refine sp (k := 7) rfl hK (by decide) (wtt hb_7) rfl (fun w hS => r_nilCheck hK rfl) fun a hK => ?_
      refine sp (k := 8) rfl hK (by decide) (wtt hb_7) rfl (fun w hS => r_fieldAddr Try.underlying77 rfl Try.sizeOf3 hK rfl) fun a hK => ?_
      refine sp (k := 9) rfl hK (by decide) (wtt hb_7) rfl (fun w hS => r_load Try.isAgg3 hK rfl (hS.cell (.tail _ (.head _)) rfl)) fun a hK => ?_
      refine sp (k := 10) rfl hK (by decide) (wtt hb_7) rfl (fun w hS => r_move hK rfl) fun a hK => ?_
      refine sp (k := 11) rfl hK (by decide) (wtt hb_7) rfl (fun w hS => r_nilCheck hK rfl) fun a hK => ?_
      refine sp (k := 12) rfl hK (by decide) (wtt hb_7) rfl (fun w hS => r_fieldAddr Try.underlying77 rfl Try.sizeOf41 hK rfl) fun a hK => ?_
      refine sp (k := 13) rfl hK (by decide) (wtt hb_7) rfl (fun w hS => r_load Try.isAgg41 hK rfl (hS.cell (.tail _ (.head _)) rfl)) fun a hK => ?_
      refine sp (k := 14) rfl hK (by decide) (wtt hb_7) rfl (fun w hS => r_len_O Try.underlying41 hS (.tail _ (.tail _ (.head _))) hK rfl) fun a hK => ?_
      refine sp (k := 15) rfl hK (by decide) (wtt hb_7) rfl (fun w hS => r_ibin hK rfl rfl rfl) fun a hK => ?_
      refine sp (k := 16) rfl hK (by decide) rfl rfl (fun w hS => r_pick_t hb_7 hK rfl rfl) fun a hK => ?_
      refine wpPar_nil (NoP_nil ?_)
      have hS := hS.pk1
      have hS := hS.pk3
      have hS := hS.pk3
      exact ⟨(decide (a0.At < (a0.L.length : Int))), H, hK.sub (all_cons rfl (all_cons rfl (all_cons rfl (all_nil)))), hS⟩
    · rw [ifb_f hb_7] at H
      refine sp_skip (k := 6) rfl hK (by decide) (wtf hb_7) rfl fun a hK => ?_
      refine sp_skip (k := 7) rfl hK (by decide) (wtf hb_7) rfl fun a hK => ?_
      refine sp_skip (k := 8) rfl hK (by decide) (wtf hb_7) rfl fun a hK => ?_
      refine sp_skip (k := 9) rfl hK (by decide) (wtf hb_7) rfl fun a hK => ?_
      refine sp_skip (k := 10) rfl hK (by decide) (wtf hb_7) rfl fun a hK => ?_
      refine sp_skip (k := 11) rfl hK (by decide) (wtf hb_7) rfl fun a hK => ?_
      refine sp_skip (k := 12) rfl hK (by decide) (wtf hb_7) rfl fun a hK => ?_
      refine sp_skip (k := 13) rfl hK (by decide) (wtf hb_7) rfl fun a hK => ?_
      refine sp_skip (k := 14) rfl hK (by decide) (wtf hb_7) rfl fun a hK => ?_
      refine sp_skip (k := 15) rfl hK (by decide) (wtf hb_7) rfl fun a hK => ?_
      refine sp (k := 16) rfl hK (by decide) rfl rfl (fun w hS => r_pick_f hb_7 hK rfl rfl) fun a hK => ?_
      refine wpPar_nil (NoP_nil ?_)
      have hS := hS.pk1
      have hS := hS.pk3
      have hS := hS.pk3
      exact ⟨false, H, hK.sub (all_cons rfl (all_cons rfl (all_cons rfl (all_nil)))), hS⟩
  · rintro a w ⟨x_4, H, hK, hS⟩
    unfold ref12_reader_end.j0 at H
    refine wp_mid (fun a w => ∃ (x_22 : List api_Token) (x_26 : Int) (x_28 : List api_Node) (x_32 : Int) (x_33 : Int) (R_34 : Hp) (v_23 : Value) (cs_24 : List Value) (v_29 : Value) (cs_30 : List Value), ref12_reader_end.j1 x_22 x_26 x_28 x_32 x_33 = some r ∧ RLe M w0 R R_34 ∧ Reps ty_api_Token R_34 cs_24 x_22 ∧ Reps ty_api_Node R_34 cs_30 x_28 ∧ Kn 50 a [(0, .pointer (some ⟨b0, 0, none⟩)), (2, .pointer (some ⟨b_1, 0, none⟩))] ∧ St M w0 w R_34 [.row 72 4 v_23 x_22.length cs_24, .row 51 19 v_29 x_28.length cs_30, .cells b0 [v_23, .int .i64 x_26, v_29, .int .i64 x_32, .int .i64 x_33] 77, .cells b_1 [.slice none 0 0] 24]) ?_ ?_
    · refine wp_cond_split (hK.ev rfl) (fun (hb_36 : x_4 = true) => ?_) (fun (hb_36 : x_4 = false) => ?_)
      · rw [ifb_t hb_36] at H
        refine wp_region_lit ?_
        refine sl hK (by decide) rfl rfl (r_move hK rfl) fun a hK => ?_
        obtain ⟨y_37, h_38, H⟩ := bind_some H
        have hS := hS.pk1
        have hS := hS.pk1
        have hS := hS.pk2
        have hS1 := hS.sp3
        refine sl_call Try.call59 hK (by decide) rfl rfl rfl (ref12_reader_fail.calls a0 hS1.lend h0_0 h0_1 h_38) fun a v_ w hv_ hK => ?_
        obtain ⟨R_39, v_42, cs_43, v_46, cs_47, hv_, hr_, hl_40, hq_44, hq_48⟩ := hv_
        have hv_ := hv_.symm
        subst hv_
        obtain ⟨hS, hl_40⟩ := hS1.back hr_ hl_40
        have hS := hS.un3
        have hRL := hRL.trans hl_40
        refine wpList_nil ?_
        have hS := hS.pk3
        have hS := hS.pk1
        have hS := hS.pk3
        have hS := hS.pk3
        exact ⟨y_37.L, y_37.At, y_37.Q, y_37.E, y_37.Depth, _, _, _, _, _, H, hl_40, hq_44, hq_48, hK.sub (all_cons rfl (all_cons rfl (all_nil))), hS⟩
      · rw [ifb_f hb_36] at H
        refine wp_skip ?_
        have hS := hS.pk3
        have hS := hS.pk3
        have hS := hS.pk3
        have hS := hS.pk3
        exact ⟨a0.L, a0.At, a0.Q, a0.E, a0.Depth, _, _, _, _, _, H, (RLe.refl _ _), h0_0, h0_1, hK.sub (all_cons rfl (all_cons rfl (all_nil))), hS⟩
    · rintro a w ⟨x_22, x_26, x_28, x_32, x_33, R_34, v_23, cs_24, v_29, cs_30, H, hl_35, hq_25, hq_31, hK, hS⟩
      unfold ref12_reader_end.j1 at H
      have hRL := hRL.trans hl_35
      refine wp_seq ?_
      refine wp_seq ?_
      refine wp_region_lit ?_
      refine sl hK (by decide) rfl rfl (r_move hK rfl) fun a hK => ?_
      refine sl hK (by decide) rfl rfl (r_nilCheck hK rfl) fun a hK => ?_
      refine sl hK (by decide) rfl rfl (r_fieldAddr Try.underlying77 rfl Try.sizeOf42 hK rfl) fun a hK => ?_
      refine sl hK (by decide) rfl rfl (r_load Try.isAgg42 hK rfl (hS.cell (.tail _ (.tail _ (.head _))) rfl)) fun a hK => ?_
      refine sl hK (by decide) rfl rfl (r_ibin hK rfl rfl rfl) fun a hK => ?_
      refine wpList_nil ?_
      refine wp_cond_split (hK.ev rfl) (fun (hb_49 : (x_32 != 0) = true) => ?_) (fun (hb_49 : (x_32 != 0) = false) => ?_)
      · rw [ifb_t hb_49] at H
        refine wp_seq ?_
        refine parT_region (C := fun w => St M w0 w R_34 [.row 72 4 v_23 x_22.length cs_24, .row 51 19 v_29 x_28.length cs_30, .cells b0 [v_23, .int .i64 x_26, v_29, .int .i64 x_32, .int .i64 x_33] 77, .cells b_1 [.slice none 0 0] 24]) 11 [(0, true), (1, true), (2, true), (3, true), (4, true), (5, true), (6, true), (7, true), (8, true), (9, false), (10, true)] mixed (by kernel_rfl) hS (fun w hS => hS) fun w hS => ?_
        refine sp (k := 0) rfl hK (by decide) rfl rfl (fun w hS => r_buildC (ps := []) (c := [.slice none 0 0]) Try.underlying24 Try.zeroValue24 places24 hK rfl pc_nil rfl rfl) fun a hK => ?_
        refine sp (k := 1) rfl hK (by decide) rfl rfl (fun w hS => r_move hK rfl) fun a hK => ?_
        refine sp (k := 2) rfl hK (by decide) rfl rfl (fun w hS => r_nilCheck hK rfl) fun a hK => ?_
        refine sp (k := 3) rfl hK (by decide) rfl rfl (fun w hS => r_fieldAddr Try.underlying77 rfl Try.sizeOf3 hK rfl) fun a hK => ?_
        refine sp (k := 4) rfl hK (by decide) rfl rfl (fun w hS => r_load Try.isAgg3 hK rfl (hS.cell (.tail _ (.tail _ (.head _))) rfl)) fun a hK => ?_
        refine sp (k := 5) rfl hK (by decide) rfl rfl (fun w hS => r_move hK rfl) fun a hK => ?_
        refine sp (k := 6) rfl hK (by decide) rfl rfl (fun w hS => r_nilCheck hK rfl) fun a hK => ?_
        refine sp (k := 7) rfl hK (by decide) rfl rfl (fun w hS => r_fieldAddr Try.underlying77 rfl Try.sizeOf42 hK rfl) fun a hK => ?_
        refine sp (k := 8) rfl hK (by decide) rfl rfl (fun w hS => r_load Try.isAgg42 hK rfl (hS.cell (.tail _ (.tail _ (.head _))) rfl)) fun a hK => ?_
        refine spw (k := 9) rfl rfl hS ?_
        have hS := hS.pk3
        refine sl_storeA (vs := [.slice none 0 0]) (c' := [.slice none 0 0]) Try.sizeOf24 hS hK rfl rfl rfl rfl (all_cons rfl (all_nil)) (Nat.le_of_ble_eq_true rfl) rfl fun a w hS hK => ?_
        refine parK_nil hS.pk3.pk3.pk3 ?_
        refine sp (k := 10) rfl hK (by decide) rfl rfl (fun w hS => r_assign hK rfl) fun a hK => ?_
        refine thenL_nil ?_
        refine sl hK (by decide) rfl rfl (r_assign hK rfl) fun a hK => ?_
        refine wpList_nil (NoP_nil ?_)
        have hS := hS.row_nil 51 19
        have hq_51 : Reps ty_api_Node R_34 [] ([] : List api_Node) := Reps.nil _ _
        obtain rfl := Option.some.inj H
        refine wp_ret ?_
        repeat (first | refine ret_then ?_ | refine ret_block ?_ | refine ret_scope ?_)
        exact ret_3 Try.results39 hK (rv_cell (c := [(.slice none 0 0)]) Try.isAgg24 Try.sizeOf24 hS (.tail _ (.head _)) rfl hK rfl) (rv_tmp hK rfl) (rv_tmp hK rfl) ⟨_, rfl, _, _, _, rfl, (hS.trunc 1), hRL, hq_51⟩
      · rw [ifb_f hb_49] at H
        refine wp_skip ?_
        refine wp_seq ?_
        refine wp_seq ?_
        refine wp_region_lit ?_
        refine sl hK (by decide) rfl rfl (r_move hK rfl) fun a hK => ?_
        refine sl hK (by decide) rfl rfl (r_nilCheck hK rfl) fun a hK => ?_
        refine sl hK (by decide) rfl rfl (r_fieldAddr Try.underlying77 rfl Try.sizeOf22 hK rfl) fun a hK => ?_
        refine sl hK (by decide) rfl rfl (r_load Try.isAgg22 hK rfl (hS.cell (.tail _ (.tail _ (.head _))) rfl)) fun a hK => ?_
        refine sl hK (by decide) rfl rfl (r_len_O Try.underlying22 hS (.tail _ (.head _)) hK rfl) fun a hK => ?_
        refine sl hK (by decide) rfl rfl (r_ibin hK rfl rfl rfl) fun a hK => ?_
        refine wpList_nil ?_
        refine wp_cond_split (hK.ev rfl) (fun (hb_52 : (decide ((x_28.length : Int) > 128)) = true) => ?_) (fun (hb_52 : (decide ((x_28.length : Int) > 128)) = false) => ?_)
        · rw [ifb_t hb_52] at H
          refine wp_seq ?_
          refine wp_region_lit ?_
          refine sl hK (by decide) rfl rfl (r_buildC (ps := []) (c := [.slice none 0 0]) Try.underlying24 Try.zeroValue24 places24 hK rfl pc_nil rfl rfl) fun a hK => ?_
          have hS := hS.pk3
          refine sl_storeA (vs := [.slice none 0 0]) (c' := [.slice none 0 0]) Try.sizeOf24 hS hK rfl rfl rfl rfl (all_cons rfl (all_nil)) (Nat.le_of_ble_eq_true rfl) rfl fun a w hS hK => ?_
          refine sl hK (by decide) rfl rfl (r_assign hK rfl) fun a hK => ?_
          refine sl hK (by decide) rfl rfl (r_assign hK rfl) fun a hK => ?_
          refine wpList_nil ?_
          have hS := hS.row_nil 51 19
          have hq_54 : Reps ty_api_Node R_34 [] ([] : List api_Node) := Reps.nil _ _
          obtain rfl := Option.some.inj H
          refine wp_ret ?_
          repeat (first | refine ret_then ?_ | refine ret_block ?_ | refine ret_scope ?_)
          exact ret_3 Try.results39 hK (rv_cell (c := [(.slice none 0 0)]) Try.isAgg24 Try.sizeOf24 hS (.tail _ (.head _)) rfl hK rfl) (rv_tmp hK rfl) (rv_tmp hK rfl) ⟨_, rfl, _, _, _, rfl, (hS.trunc 1), hRL, hq_54⟩
        · rw [ifb_f hb_52] at H
          refine wp_skip ?_
          refine wp_seq ?_
          refine wp_region_lit ?_
          refine sl hK (by decide) rfl rfl (r_move hK rfl) fun a hK => ?_
          refine sl hK (by decide) rfl rfl (r_nilCheck hK rfl) fun a hK => ?_
          refine sl hK (by decide) rfl rfl (r_fieldAddr Try.underlying77 rfl Try.sizeOf22 hK rfl) fun a hK => ?_
          refine sl hK (by decide) rfl rfl (r_load Try.isAgg22 hK rfl (hS.cell (.tail _ (.tail _ (.head _))) rfl)) fun a hK => ?_
          have ho_55 := hS.row_one (.tail _ (.head _))
          refine sl hK (by decide) rfl rfl (r_buildC (ps := [(0, v_29)]) (c := [v_29]) Try.underlying24 Try.zeroValue24 places24 hK rfl (pc_cons (cells1 ho_55) pc_nil) rfl rfl) fun a hK => ?_
          have hS := hS.pk3
          refine sl_storeA (vs := [v_29]) (c' := [v_29]) Try.sizeOf24 hS hK rfl rfl rfl rfl (all_cons (hS.row_one (.tail _ (.tail _ (.head _)))) (all_nil)) (Nat.le_of_ble_eq_true rfl) rfl fun a w hS hK => ?_
          refine sl hK (by decide) rfl rfl (r_assign hK rfl) fun a hK => ?_
          refine sl hK (by decide) rfl rfl (r_assign hK rfl) fun a hK => ?_
          refine wpList_nil ?_
          obtain rfl := Option.some.inj H
          refine wp_ret ?_
          repeat (first | refine ret_then ?_ | refine ret_block ?_ | refine ret_scope ?_)
          exact ret_3 Try.results39 hK (rv_cell (c := [v_29]) Try.isAgg24 Try.sizeOf24 hS (.head _) rfl hK rfl) (rv_tmp hK rfl) (rv_tmp hK rfl) ⟨_, rfl, _, _, _, rfl, (hS.pk2.trunc 1), hRL, hq_31⟩

end Go.Proofs.Ytjklfkiaebipnaa.M
