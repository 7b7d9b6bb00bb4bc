/- Each Go function of the laws answers as its plain Lean function tells, wherever that tells something. Printed by wip/eng/gen.py. -/
import Derived.Test.YtmohocmmelaeaaaDoorPure
import Derived.Test.YtmohocmmelaeaaaDoorProg
import Derived.Shelf.Strconv.Itoa3
import Derived.Shelf.Strings.OnBuilder
import Derived.Shelf.Strings.Replace
namespace Go.Proofs.YtmohocmmelaeaaaDoor.M
open Go Go.Eng Go.Proofs Go.RowKit
set_option linter.unusedVariables false
set_option linter.unusedSimpArgs false

theorem mixed : Tryd.prog.follows .mixedOrders = true := by kernel_rfl
def GF (RA : Hp) : Prop := (∀ w, RA.sub w → ∃ m, w.cell? ⟨0, 0, none⟩ = some (.int .i64 m)) ∧ (∀ w, RA.sub w → Lib.TabIs Tryd.prog w "internal/strconv.uint64pow10" .u64 Lib.pow10Tab)
theorem GF.mono {R R' : Hp} (h : R.le R') (g : GF R) : GF R' := ⟨fun w hw => g.1 w (fun k u hk => hw k u (h k u hk)), fun w hw => g.2 w (fun k u hk => hw k u (h k u hk))⟩
theorem GF_maxlen {RA : Hp} {w : World} (g : GF RA) (h : RA.sub w) : ∃ m, w.cell? ⟨0, 0, none⟩ = some (.int .i64 m) := g.1 w h
theorem GF_pow10 {RA : Hp} {w : World} (g : GF RA) (h : RA.sub w) : Lib.TabIs Tryd.prog w "internal/strconv.uint64pow10" .u64 Lib.pow10Tab := g.2 w h
theorem elT45 : ElT Tryd.prog 45 9 1 16 := ⟨Tryd.underlying45, ⟨Tryd.t9, _, Tryd.type9, rfl, rfl, rfl, rfl⟩, by decide⟩
theorem elT48 : ElT Tryd.prog 48 5 1 1 := ⟨Tryd.underlying48, ⟨Tryd.t5, _, Tryd.type5, rfl, rfl, rfl, rfl⟩, by decide⟩
theorem ext56 (a b : ByteArray) (w : World) : (callFunc 56 #[.string a, .string b]).run Tryd.prog w = .ok (.value (.int .i64 (Lib.compareBytes a.data.toList b.data.toList))) w := by
  rw [run_callFunc_extern Tryd.func56 (by kernel_rfl) (by kernel_rfl) (by kernel_rfl) (e := Extern.BytealgCompare.compare) (by kernel_rfl), Lib.run_compareString]
  rfl
theorem places24 (w : World) : (placesOf Tryd.prog 24).run Tryd.prog w = .ok #[(0, 1), (1, 1), (2, 1), (3, 8)] w := by
  unfold placesOf
  rw [Tryd.underlying24]
  simp [Tryd.sizeOf22, Tryd.sizeOf3, Tryd.sizeOf9]
theorem eqs24 (x y : api_Value) : EqS Tryd.prog 24 #[.int .i64 x.Kind, .int .i64 x.N, .string x.S, .int .i64 x.H.a0, .int .i64 x.H.a1, .int .i64 x.H.a2, .int .i64 x.H.a3, .int .i64 x.H.a4, .int .i64 x.H.a5, .int .i64 x.H.a6, .int .i64 x.H.a7] #[.int .i64 y.Kind, .int .i64 y.N, .string y.S, .int .i64 y.H.a0, .int .i64 y.H.a1, .int .i64 y.H.a2, .int .i64 y.H.a3, .int .i64 y.H.a4, .int .i64 y.H.a5, .int .i64 y.H.a6, .int .i64 y.H.a7] (decide (x = y)) := by
  refine eqS_of (by kernel_rfl) (by kernel_rfl) (fun w => by
    simp only [Program.fieldsOf, Tryd.underlying24]
    exact eqF_cons (by decide) (run_part1 Tryd.isAgg3 rfl) (run_part1 Tryd.isAgg3 rfl) (run_equalIn_int w _ _ _ _ _ _ Tryd.underlying3) (eqF_cons (by decide) (run_part1 Tryd.isAgg3 rfl) (run_part1 Tryd.isAgg3 rfl) (run_equalIn_int w _ _ _ _ _ _ Tryd.underlying3) (eqF_cons (by decide) (run_part1 Tryd.isAgg9 rfl) (run_part1 Tryd.isAgg9 rfl) (run_equalIn_string w _ _ _ _ Tryd.underlying9) (eqF_cons (by decide) (run_partA (ys := (x.H.list.map (Value.int .i64)).toArray) Tryd.isAgg22 Tryd.sizeOf22 rfl) (run_partA (ys := (y.H.list.map (Value.int .i64)).toArray) Tryd.isAgg22 Tryd.sizeOf22 rfl) (eq_arr' (q := 9998) Tryd.underlying22 (fun a b w => run_equalIn_int w 9997 _ _ _ a b Tryd.underlying3) Tryd.isAgg3 Tryd.sizeOf3 x.H.list y.H.list rfl rfl w) (eqF_nil))))) ?_
  simp only [beq_bytes, Arr8.list_inj, Arr2.list_inj, Bool.and_true]
  cases x; cases y; simp <;> rfl
theorem eqs22 (x y : Arr8) : EqS Tryd.prog 22 (x.list.map (Value.int .i64)).toArray (y.list.map (Value.int .i64)).toArray (decide (x = y)) := eqA_of Tryd.underlying22 Tryd.underlying3 Tryd.isAgg3 Tryd.sizeOf3 rfl rfl rfl rfl Arr8.list_inj
def itoL32_ren : Go.Shelf.Ren := ⟨fun | 171 => 32 | 243 => 42 | 246 => 50 | 283 => 57 | 284 => 58 | 285 => 59 | 286 => 60 | 129 => 68 | 317 => 67 | 318 => 69 | 319 => 70 | 320 => 71 | 337 => 76 | 338 => 77 | n => n, fun | 3 => 3 | 9 => 9 | 2 => 2 | 4 => 4 | 171 => 69 | 0 => 0 | 53 => 70 | 37 => 48 | 5 => 5 | 173 => 73 | 212 => 82 | 51 => 83 | 20 => 20 | 213 => 84 | 46 => 85 | 232 => 94 | 233 => 95 | n => n, fun | 17 => 1 | 18 => 4 | 19 => 5 | n => n⟩
theorem itoL32 : Go.Proofs.LaysM.n171 Tryd.prog itoL32_ren := {
  mixed := by kernel_rfl
  f129 := Tryd.func68.trans (congrArg some (by kernel_rfl))
  f171 := Tryd.func32.trans (congrArg some (by kernel_rfl))
  f243 := Tryd.func42.trans (congrArg some (by kernel_rfl))
  f246 := Tryd.func50.trans (congrArg some (by kernel_rfl))
  f283 := Tryd.func57.trans (congrArg some (by kernel_rfl))
  f284 := Tryd.func58.trans (congrArg some (by kernel_rfl))
  f285 := Tryd.func59.trans (congrArg some (by kernel_rfl))
  f286 := Tryd.func60.trans (congrArg some (by kernel_rfl))
  f317 := Tryd.func67.trans (congrArg some (by kernel_rfl))
  f318 := Tryd.func69.trans (congrArg some (by kernel_rfl))
  f319 := Tryd.func70.trans (congrArg some (by kernel_rfl))
  f320 := Tryd.func71.trans (congrArg some (by kernel_rfl))
  f337 := Tryd.func76.trans (congrArg some (by kernel_rfl))
  f338 := Tryd.func77.trans (congrArg some (by kernel_rfl))
  t0 := Tryd.underlying0
  a0 := Tryd.isAgg0
  z0 := Tryd.sizeOf0
  v0 := Tryd.zeroValue0
  t2 := Tryd.underlying2
  a2 := Tryd.isAgg2
  z2 := Tryd.sizeOf2
  v2 := Tryd.zeroValue2
  t3 := Tryd.underlying3
  a3 := Tryd.isAgg3
  z3 := Tryd.sizeOf3
  v3 := Tryd.zeroValue3
  t4 := Tryd.underlying4
  a4 := Tryd.isAgg4
  z4 := Tryd.sizeOf4
  v4 := Tryd.zeroValue4
  t5 := Tryd.underlying5
  a5 := Tryd.isAgg5
  z5 := Tryd.sizeOf5
  v5 := Tryd.zeroValue5
  t9 := Tryd.underlying9
  a9 := Tryd.isAgg9
  z9 := Tryd.sizeOf9
  v9 := Tryd.zeroValue9
  t20 := Tryd.underlying20
  a20 := Tryd.isAgg20
  z20 := Tryd.sizeOf20
  v20 := Tryd.zeroValue20
  t37 := Tryd.underlying48
  a37 := Tryd.isAgg48
  z37 := Tryd.sizeOf48
  v37 := Tryd.zeroValue48
  t46 := Tryd.underlying85
  a46 := Tryd.isAgg85
  z46 := Tryd.sizeOf85
  v46 := Tryd.zeroValue85
  t51 := Tryd.underlying83
  a51 := Tryd.isAgg83
  z51 := Tryd.sizeOf83
  v51 := Tryd.zeroValue83
  t53 := Tryd.underlying70
  a53 := Tryd.isAgg70
  z53 := Tryd.sizeOf70
  v53 := Tryd.zeroValue70
  t171 := Tryd.underlying69
  a171 := Tryd.isAgg69
  z171 := Tryd.sizeOf69
  v171 := Tryd.zeroValue69
  t173 := Tryd.underlying73
  a173 := Tryd.isAgg73
  z173 := Tryd.sizeOf73
  v173 := Tryd.zeroValue73
  t212 := Tryd.underlying82
  a212 := Tryd.isAgg82
  z212 := Tryd.sizeOf82
  v212 := Tryd.zeroValue82
  t213 := Tryd.underlying84
  a213 := Tryd.isAgg84
  z213 := Tryd.sizeOf84
  t232 := Tryd.underlying94
  a232 := Tryd.isAgg94
  z232 := Tryd.sizeOf94
  v232 := Tryd.zeroValue94
  t233 := Tryd.underlying95
  a233 := Tryd.isAgg95
  z233 := Tryd.sizeOf95
  v233 := Tryd.zeroValue95
  g17 := by kernel_rfl
  g18 := by kernel_rfl
  g19 := by kernel_rfl
  i0 := by kernel_rfl
  i2 := by kernel_rfl
  i3 := by kernel_rfl
  i4 := by kernel_rfl
  i5 := by kernel_rfl
  i9 := by kernel_rfl
  i20 := by kernel_rfl
  i37 := by kernel_rfl
  i46 := by kernel_rfl
  i51 := by kernel_rfl
  i53 := by kernel_rfl
  i171 := by kernel_rfl
  i173 := by kernel_rfl
  i212 := by kernel_rfl
  i232 := by kernel_rfl
  i233 := by kernel_rfl
  m17 := by kernel_rfl
  m18 := by kernel_rfl
  m19 := by kernel_rfl }
def joiL34_ren : Go.Shelf.Ren := ⟨fun | 156 => 34 | 165 => 44 | 166 => 45 | 169 => 46 | 240 => 51 | 241 => 52 | 276 => 61 | 277 => 62 | n => n, fun | 31 => 45 | 9 => 9 | 3 => 3 | 4 => 4 | 0 => 0 | 20 => 20 | 72 => 56 | 76 => 60 | 70 => 54 | 37 => 48 | 75 => 59 | 127 => 66 | 164 => 75 | 5 => 5 | 80 => 62 | n => n, fun | n => n⟩
theorem joiL34 : Go.Proofs.Lays.n156 Tryd.prog joiL34_ren := {
  mixed := by kernel_rfl
  f156 := Tryd.func34.trans (congrArg some (by kernel_rfl))
  f165 := Tryd.func44.trans (congrArg some (by kernel_rfl))
  f166 := Tryd.func45.trans (congrArg some (by kernel_rfl))
  f169 := Tryd.func46.trans (congrArg some (by kernel_rfl))
  f240 := Tryd.func51.trans (congrArg some (by kernel_rfl))
  f241 := Tryd.func52.trans (congrArg some (by kernel_rfl))
  f276 := Tryd.func61.trans (congrArg some (by kernel_rfl))
  f277 := Tryd.func62.trans (congrArg some (by kernel_rfl))
  t0 := Tryd.underlying0
  a0 := Tryd.isAgg0
  z0 := Tryd.sizeOf0
  v0 := Tryd.zeroValue0
  t3 := Tryd.underlying3
  a3 := Tryd.isAgg3
  z3 := Tryd.sizeOf3
  v3 := Tryd.zeroValue3
  t4 := Tryd.underlying4
  a4 := Tryd.isAgg4
  z4 := Tryd.sizeOf4
  v4 := Tryd.zeroValue4
  t9 := Tryd.underlying9
  a9 := Tryd.isAgg9
  z9 := Tryd.sizeOf9
  v9 := Tryd.zeroValue9
  t20 := Tryd.underlying20
  a20 := Tryd.isAgg20
  z20 := Tryd.sizeOf20
  v20 := Tryd.zeroValue20
  t31 := Tryd.underlying45
  a31 := Tryd.isAgg45
  z31 := Tryd.sizeOf45
  v31 := Tryd.zeroValue45
  t37 := Tryd.underlying48
  a37 := Tryd.isAgg48
  z37 := Tryd.sizeOf48
  v37 := Tryd.zeroValue48
  t70 := Tryd.underlying54
  a70 := Tryd.isAgg54
  z70 := Tryd.sizeOf54
  v70 := Tryd.zeroValue54
  t72 := Tryd.underlying56
  a72 := Tryd.isAgg56
  z72 := Tryd.sizeOf56
  v72 := Tryd.zeroValue56
  t75 := Tryd.underlying59
  a75 := Tryd.isAgg59
  z75 := Tryd.sizeOf59
  v75 := Tryd.zeroValue59
  t76 := Tryd.underlying60
  a76 := Tryd.isAgg60
  z76 := Tryd.sizeOf60
  v76 := Tryd.zeroValue60
  t127 := Tryd.underlying66
  a127 := Tryd.isAgg66
  z127 := Tryd.sizeOf66
  v127 := Tryd.zeroValue66
  t164 := Tryd.underlying75
  a164 := Tryd.isAgg75
  z164 := Tryd.sizeOf75
  v164 := Tryd.zeroValue75 }
theorem joiL34_x : Builder.Extra Tryd.prog joiL34_ren where
  sizeBuilder := by kernel_rfl
  liesBuilder := by kernel_rfl
  t5 := Tryd.underlying5
  a5 := Tryd.isAgg5
  z5 := Tryd.sizeOf5
  v5 := Tryd.zeroValue5
  infoByte := by kernel_rfl
  cellsByte := by kernel_rfl
  sizeByte := by kernel_rfl
  neB5 := by decide
def repL35_ren : Go.Shelf.Ren := ⟨fun | 155 => 35 | 154 => 47 | 138 => 53 | 165 => 44 | 143 => 54 | 166 => 45 | 197 => 55 | 169 => 46 | 195 => 63 | 218 => 64 | 240 => 51 | 241 => 52 | 219 => 65 | 260 => 66 | 276 => 61 | 277 => 62 | 217 => 72 | 225 => 73 | 224 => 74 | 267 => 75 | 266 => 78 | 314 => 79 | n => n, fun | 9 => 9 | 3 => 3 | 4 => 4 | 72 => 56 | 0 => 0 | 76 => 60 | 105 => 67 | 21 => 21 | 5 => 5 | 70 => 54 | 20 => 20 | 37 => 48 | 75 => 59 | 127 => 66 | 164 => 75 | 46 => 85 | 119 => 87 | 139 => 90 | 138 => 89 | 146 => 92 | 51 => 83 | 80 => 62 | n => n, fun | 1 => 0 | 3 => 2 | 4 => 3 | n => n⟩
theorem repL35 : Go.Proofs.Lays.n155 Tryd.prog repL35_ren := {
  mixed := by kernel_rfl
  f138 := Tryd.func53.trans (congrArg some (by kernel_rfl))
  f143 := Tryd.func54.trans (congrArg some (by kernel_rfl))
  f154 := Tryd.func47.trans (congrArg some (by kernel_rfl))
  f155 := Tryd.func35.trans (congrArg some (by kernel_rfl))
  f165 := Tryd.func44.trans (congrArg some (by kernel_rfl))
  f166 := Tryd.func45.trans (congrArg some (by kernel_rfl))
  f169 := Tryd.func46.trans (congrArg some (by kernel_rfl))
  f195 := Tryd.func63.trans (congrArg some (by kernel_rfl))
  f197 := Tryd.func55.trans (congrArg some (by kernel_rfl))
  f217 := Tryd.func72.trans (congrArg some (by kernel_rfl))
  f218 := Tryd.func64.trans (congrArg some (by kernel_rfl))
  f219 := Tryd.func65.trans (congrArg some (by kernel_rfl))
  f224 := Tryd.func74.trans (congrArg some (by kernel_rfl))
  f225 := Tryd.func73.trans (congrArg some (by kernel_rfl))
  f240 := Tryd.func51.trans (congrArg some (by kernel_rfl))
  f241 := Tryd.func52.trans (congrArg some (by kernel_rfl))
  f260 := Tryd.func66.trans (congrArg some (by kernel_rfl))
  f266 := Tryd.func78.trans (congrArg some (by kernel_rfl))
  f267 := Tryd.func75.trans (congrArg some (by kernel_rfl))
  f276 := Tryd.func61.trans (congrArg some (by kernel_rfl))
  f277 := Tryd.func62.trans (congrArg some (by kernel_rfl))
  f314 := Tryd.func79.trans (congrArg some (by kernel_rfl))
  t0 := Tryd.underlying0
  a0 := Tryd.isAgg0
  z0 := Tryd.sizeOf0
  v0 := Tryd.zeroValue0
  t3 := Tryd.underlying3
  a3 := Tryd.isAgg3
  z3 := Tryd.sizeOf3
  v3 := Tryd.zeroValue3
  t4 := Tryd.underlying4
  a4 := Tryd.isAgg4
  z4 := Tryd.sizeOf4
  v4 := Tryd.zeroValue4
  t5 := Tryd.underlying5
  a5 := Tryd.isAgg5
  z5 := Tryd.sizeOf5
  v5 := Tryd.zeroValue5
  t9 := Tryd.underlying9
  a9 := Tryd.isAgg9
  z9 := Tryd.sizeOf9
  v9 := Tryd.zeroValue9
  t20 := Tryd.underlying20
  a20 := Tryd.isAgg20
  z20 := Tryd.sizeOf20
  v20 := Tryd.zeroValue20
  t21 := Tryd.underlying21
  a21 := Tryd.isAgg21
  z21 := Tryd.sizeOf21
  v21 := Tryd.zeroValue21
  t37 := Tryd.underlying48
  a37 := Tryd.isAgg48
  z37 := Tryd.sizeOf48
  v37 := Tryd.zeroValue48
  t46 := Tryd.underlying85
  a46 := Tryd.isAgg85
  z46 := Tryd.sizeOf85
  v46 := Tryd.zeroValue85
  t51 := Tryd.underlying83
  a51 := Tryd.isAgg83
  z51 := Tryd.sizeOf83
  v51 := Tryd.zeroValue83
  t70 := Tryd.underlying54
  a70 := Tryd.isAgg54
  z70 := Tryd.sizeOf54
  v70 := Tryd.zeroValue54
  t72 := Tryd.underlying56
  a72 := Tryd.isAgg56
  z72 := Tryd.sizeOf56
  v72 := Tryd.zeroValue56
  t75 := Tryd.underlying59
  a75 := Tryd.isAgg59
  z75 := Tryd.sizeOf59
  v75 := Tryd.zeroValue59
  t76 := Tryd.underlying60
  a76 := Tryd.isAgg60
  z76 := Tryd.sizeOf60
  v76 := Tryd.zeroValue60
  t105 := Tryd.underlying67
  a105 := Tryd.isAgg67
  z105 := Tryd.sizeOf67
  v105 := Tryd.zeroValue67
  t119 := Tryd.underlying87
  a119 := Tryd.isAgg87
  z119 := Tryd.sizeOf87
  t127 := Tryd.underlying66
  a127 := Tryd.isAgg66
  z127 := Tryd.sizeOf66
  v127 := Tryd.zeroValue66
  t138 := Tryd.underlying89
  a138 := Tryd.isAgg89
  z138 := Tryd.sizeOf89
  v138 := Tryd.zeroValue89
  t139 := Tryd.underlying90
  a139 := Tryd.isAgg90
  z139 := Tryd.sizeOf90
  v139 := Tryd.zeroValue90
  t146 := Tryd.underlying92
  a146 := Tryd.isAgg92
  z146 := Tryd.sizeOf92
  v146 := Tryd.zeroValue92
  t164 := Tryd.underlying75
  a164 := Tryd.isAgg75
  z164 := Tryd.sizeOf75
  v164 := Tryd.zeroValue75
  g1 := by kernel_rfl
  g3 := by kernel_rfl
  g4 := by kernel_rfl }
theorem repL35_x : Builder.Extra Tryd.prog repL35_ren where
  sizeBuilder := by kernel_rfl
  liesBuilder := by kernel_rfl
  t5 := Tryd.underlying5
  a5 := Tryd.isAgg5
  z5 := Tryd.sizeOf5
  v5 := Tryd.zeroValue5
  infoByte := by kernel_rfl
  cellsByte := by kernel_rfl
  sizeByte := by kernel_rfl
  neB5 := by decide

/-! ### catchment/value.OfInt: function 24 -/
set_option maxHeartbeats 4000000 in
set_option maxRecDepth 100000 in
theorem value_OfInt.calls (a0 : Int) {r : api_Value} (H : value_OfInt a0 = some r) (w0 : World) : CallsV Tryd.prog 24 #[.int .i64 a0] w0 (.agg #[.int .i64 r.Kind, .int .i64 r.N, .string r.S, .int .i64 r.H.a0, .int .i64 r.H.a1, .int .i64 r.H.a2, .int .i64 r.H.a3, .int .i64 r.H.a4, .int .i64 r.H.a5, .int .i64 r.H.a6, .int .i64 r.H.a7]) := by
  unfold value_OfInt at H
  refine enter (args := [.int .i64 a0]) Tryd.func24 rfl Tryd.ntmps24 rfl fun a hK => ?_
  have hS := St.init (R := fun _ => none) (w := w0) (fun _ _ h => by cases h)
  have hRL := RLe.refl (M := []) w0 (fun _ => none)
  refine wp_seq ?_
  refine wp_region_lit ?_
  refine sl_alloc Tryd.zeroValue24 hS hK (by decide) rfl rfl fun a w b_1 hS hK => ?_
  refine wpList_nil ?_
  refine wp_seq ?_
  refine wp_region_lit ?_
  refine sl hK (by decide) rfl rfl (r_move hK rfl) fun a hK => ?_
  refine sl hK (by decide) rfl rfl (r_buildC (ps := [(0, .int .i64 1), (1, .int .i64 a0)]) (c := [.int .i64 1, .int .i64 a0, .string (⟨#[]⟩ : ByteArray), .int .i64 0, .int .i64 0, .int .i64 0, .int .i64 0, .int .i64 0, .int .i64 0, .int .i64 0, .int .i64 0]) Tryd.underlying24 Tryd.zeroValue24 places24 hK rfl (pc_cons rfl (pc_cons rfl pc_nil)) rfl rfl) fun a hK => ?_
  refine sl_storeA (vs := [.int .i64 1, .int .i64 a0, .string (⟨#[]⟩ : ByteArray), .int .i64 0, .int .i64 0, .int .i64 0, .int .i64 0, .int .i64 0, .int .i64 0, .int .i64 0, .int .i64 0]) (c' := [.int .i64 1, .int .i64 a0, .string (⟨#[]⟩ : ByteArray), .int .i64 0, .int .i64 0, .int .i64 0, .int .i64 0, .int .i64 0, .int .i64 0, .int .i64 0, .int .i64 0]) Tryd.sizeOf24 hS hK rfl rfl rfl rfl (all_cons rfl (all_cons rfl (all_cons rfl (all_cons rfl (all_cons rfl (all_cons rfl (all_cons rfl (all_cons rfl (all_cons rfl (all_cons rfl (all_cons rfl (all_nil)))))))))))) (Nat.le_of_ble_eq_true rfl) rfl fun a w hS hK => ?_
  refine wpList_nil ?_
  obtain rfl := Option.some.inj H
  refine wp_ret ?_
  repeat (first | refine ret_then ?_ | refine ret_block ?_ | refine ret_scope ?_)
  exact ret_1 Tryd.results24 hK (rv_cell (c := [.int .i64 1, .int .i64 a0, .string (⟨#[]⟩ : ByteArray), .int .i64 0, .int .i64 0, .int .i64 0, .int .i64 0, .int .i64 0, .int .i64 0, .int .i64 0, .int .i64 0]) Tryd.isAgg24 Tryd.sizeOf24 hS (.head _) rfl hK rfl) ⟨rfl, hS.bel⟩

/-! ### catchment/value.OfStr: function 27 -/
set_option maxHeartbeats 4000000 in
set_option maxRecDepth 100000 in
theorem value_OfStr.calls (a0 : ByteArray) {r : api_Value} (H : value_OfStr a0 = some r) (w0 : World) : CallsV Tryd.prog 27 #[.string a0] w0 (.agg #[.int .i64 r.Kind, .int .i64 r.N, .string r.S, .int .i64 r.H.a0, .int .i64 r.H.a1, .int .i64 r.H.a2, .int .i64 r.H.a3, .int .i64 r.H.a4, .int .i64 r.H.a5, .int .i64 r.H.a6, .int .i64 r.H.a7]) := by
  unfold value_OfStr at H
  refine enter (args := [.string a0]) Tryd.func27 rfl Tryd.ntmps27 rfl fun a hK => ?_
  have hS := St.init (R := fun _ => none) (w := w0) (fun _ _ h => by cases h)
  have hRL := RLe.refl (M := []) w0 (fun _ => none)
  refine wp_seq ?_
  refine wp_region_lit ?_
  refine sl_alloc Tryd.zeroValue24 hS hK (by decide) rfl rfl fun a w b_1 hS hK => ?_
  refine wpList_nil ?_
  refine wp_seq ?_
  refine wp_region_lit ?_
  refine sl hK (by decide) rfl rfl (r_move hK rfl) fun a hK => ?_
  refine sl hK (by decide) rfl rfl (r_move hK rfl) fun a hK => ?_
  refine sl hK (by decide) rfl rfl (r_len_str Tryd.underlying9 hK rfl) fun a hK => ?_
  refine sl hK (by decide) rfl rfl (r_min2 hK rfl rfl) fun a hK => ?_
  obtain ⟨y_2, h_3, H⟩ := bind_some H
  refine sl hK (by decide) rfl rfl (r_slice_s (lo := none) (hi := some (.tmp 6)) Tryd.underlying9 h_3 hK rfl rfl ⟨_, rfl⟩) fun a hK => ?_
  refine sl hK (by decide) rfl rfl (r_buildC (ps := [(0, .int .i64 2), (2, .string y_2)]) (c := [.int .i64 2, .int .i64 0, .string y_2, .int .i64 0, .int .i64 0, .int .i64 0, .int .i64 0, .int .i64 0, .int .i64 0, .int .i64 0, .int .i64 0]) Tryd.underlying24 Tryd.zeroValue24 places24 hK rfl (pc_cons rfl (pc_cons rfl pc_nil)) rfl rfl) fun a hK => ?_
  refine sl_storeA (vs := [.int .i64 2, .int .i64 0, .string y_2, .int .i64 0, .int .i64 0, .int .i64 0, .int .i64 0, .int .i64 0, .int .i64 0, .int .i64 0, .int .i64 0]) (c' := [.int .i64 2, .int .i64 0, .string y_2, .int .i64 0, .int .i64 0, .int .i64 0, .int .i64 0, .int .i64 0, .int .i64 0, .int .i64 0, .int .i64 0]) Tryd.sizeOf24 hS hK rfl rfl rfl rfl (all_cons rfl (all_cons rfl (all_cons rfl (all_cons rfl (all_cons rfl (all_cons rfl (all_cons rfl (all_cons rfl (all_cons rfl (all_cons rfl (all_cons rfl (all_nil)))))))))))) (Nat.le_of_ble_eq_true rfl) rfl fun a w hS hK => ?_
  refine wpList_nil ?_
  obtain rfl := Option.some.inj H
  refine wp_ret ?_
  repeat (first | refine ret_then ?_ | refine ret_block ?_ | refine ret_scope ?_)
  exact ret_1 Tryd.results27 hK (rv_cell (c := [.int .i64 2, .int .i64 0, .string y_2, .int .i64 0, .int .i64 0, .int .i64 0, .int .i64 0, .int .i64 0, .int .i64 0, .int .i64 0, .int .i64 0]) Tryd.isAgg24 Tryd.sizeOf24 hS (.head _) rfl hK rfl) ⟨rfl, hS.bel⟩

/-! ### catchment/value.Valid: function 14 -/
set_option maxHeartbeats 4000000 in
set_option maxRecDepth 100000 in
theorem value_Valid.calls (a0 : api_Value) {r : Bool} (H : value_Valid a0 = some r) (w0 : World) : CallsV Tryd.prog 14 #[.agg #[.int .i64 a0.Kind, .int .i64 a0.N, .string a0.S, .int .i64 a0.H.a0, .int .i64 a0.H.a1, .int .i64 a0.H.a2, .int .i64 a0.H.a3, .int .i64 a0.H.a4, .int .i64 a0.H.a5, .int .i64 a0.H.a6, .int .i64 a0.H.a7]] w0 (.bool r) := by
  unfold value_Valid at H
  refine enter (args := [.agg #[.int .i64 a0.Kind, .int .i64 a0.N, .string a0.S, .int .i64 a0.H.a0, .int .i64 a0.H.a1, .int .i64 a0.H.a2, .int .i64 a0.H.a3, .int .i64 a0.H.a4, .int .i64 a0.H.a5, .int .i64 a0.H.a6, .int .i64 a0.H.a7]]) Tryd.func14 rfl Tryd.ntmps14 rfl fun a hK => ?_
  have hS := St.init (R := fun _ => none) (w := w0) (fun _ _ h => by cases h)
  have hRL := RLe.refl (M := []) w0 (fun _ => none)
  refine wp_seq ?_
  refine wp_region_lit ?_
  refine sl_box hS hK (by decide) rfl rfl (c := [.int .i64 a0.Kind, .int .i64 a0.N, .string a0.S, .int .i64 a0.H.a0, .int .i64 a0.H.a1, .int .i64 a0.H.a2, .int .i64 a0.H.a3, .int .i64 a0.H.a4, .int .i64 a0.H.a5, .int .i64 a0.H.a6, .int .i64 a0.H.a7]) rfl fun a w b_1 hS hK => ?_
  refine sl hK (by decide) rfl rfl (r_assign hK rfl) fun a hK => ?_
  refine wpList_nil ?_
  refine wp_seq ?_
  refine wp_region_lit ?_
  refine sl hK (by decide) rfl rfl (r_loadA (cs := [.int .i64 a0.Kind, .int .i64 a0.N, .string a0.S, .int .i64 a0.H.a0, .int .i64 a0.H.a1, .int .i64 a0.H.a2, .int .i64 a0.H.a3, .int .i64 a0.H.a4, .int .i64 a0.H.a5, .int .i64 a0.H.a6, .int .i64 a0.H.a7]) Tryd.isAgg24 Tryd.sizeOf24 rfl hK rfl (hS.cells_of (m := 11) (.head _) rfl)) fun a hK => ?_
  refine sl_alloc Tryd.zeroValue24 hS hK (by decide) rfl rfl fun a w b_2 hS hK => ?_
  refine sl_storeA (vs := [.int .i64 a0.Kind, .int .i64 a0.N, .string a0.S, .int .i64 a0.H.a0, .int .i64 a0.H.a1, .int .i64 a0.H.a2, .int .i64 a0.H.a3, .int .i64 a0.H.a4, .int .i64 a0.H.a5, .int .i64 a0.H.a6, .int .i64 a0.H.a7]) (c' := [.int .i64 a0.Kind, .int .i64 a0.N, .string a0.S, .int .i64 a0.H.a0, .int .i64 a0.H.a1, .int .i64 a0.H.a2, .int .i64 a0.H.a3, .int .i64 a0.H.a4, .int .i64 a0.H.a5, .int .i64 a0.H.a6, .int .i64 a0.H.a7]) Tryd.sizeOf24 hS hK rfl rfl rfl rfl (all_cons rfl (all_cons rfl (all_cons rfl (all_cons rfl (all_cons rfl (all_cons rfl (all_cons rfl (all_cons rfl (all_cons rfl (all_cons rfl (all_cons rfl (all_nil)))))))))))) (Nat.le_of_ble_eq_true rfl) rfl fun a w hS hK => ?_
  refine wpList_nil ?_
  refine wp_seq ?_
  refine wp_region_lit ?_
  refine sl hK (by decide) rfl rfl (r_fieldAddr Tryd.underlying24 rfl Tryd.sizeOf3 hK rfl) fun a hK => ?_
  refine sl_store1 (c' := [.int .i64 0, .int .i64 a0.N, .string a0.S, .int .i64 a0.H.a0, .int .i64 a0.H.a1, .int .i64 a0.H.a2, .int .i64 a0.H.a3, .int .i64 a0.H.a4, .int .i64 a0.H.a5, .int .i64 a0.H.a6, .int .i64 a0.H.a7]) Tryd.sizeOf3 hS hK rfl rfl rfl rfl (Nat.le_of_ble_eq_true rfl) rfl fun a w hS hK => ?_
  refine wpList_nil ?_
  refine wp_seq ?_
  refine wp_region_lit ?_
  refine sl hK (by decide) rfl rfl (r_assign hK rfl) fun a hK => ?_
  refine wpList_nil ?_
  refine wp_seq ?_
  refine wp_seq ?_
  refine wp_region_lit ?_
  refine sl hK (by decide) rfl rfl (r_fieldAddr Tryd.underlying24 rfl Tryd.sizeOf3 hK rfl) fun a hK => ?_
  refine sl hK (by decide) rfl rfl (r_load Tryd.isAgg3 hK rfl (hS.cell (.tail _ (.head _)) rfl)) fun a hK => ?_
  refine wpList_nil ?_
  refine wp_block ?_
  refine wp_seq ?_
  refine wp_region_lit ?_
  refine sl hK (by decide) rfl rfl (r_ibin hK rfl rfl rfl) fun a hK => ?_
  refine sl hK (by decide) rfl rfl (r_assign hK rfl) fun a hK => ?_
  refine wpList_nil ?_
  refine wp_mid (fun a w => ∃ (x_59 : Int) (x_60 : ByteArray) (x_61 : Arr8) (x_62 : Bool), value_Valid.j0 x_59 x_60 x_61 x_62 = some r ∧ Kn 40 a [(3, .pointer (some ⟨b_2, 0, none⟩)), (4, .bool x_62)] ∧ St [] w0 w (fun _ => none) [.cells b_2 [.int .i64 0, .int .i64 x_59, .string x_60, .int .i64 x_61.a0, .int .i64 x_61.a1, .int .i64 x_61.a2, .int .i64 x_61.a3, .int .i64 x_61.a4, .int .i64 x_61.a5, .int .i64 x_61.a6, .int .i64 x_61.a7] 24]) ?_ ?_
  · refine wp_cond_split (hK.ev rfl) (fun (hb_64 : (a0.Kind == 1) = true) => ?_) (fun (hb_64 : (a0.Kind == 1) = false) => ?_)
    · rw [ifb_t hb_64] at H
      refine wp_region_lit ?_
      refine sl hK (by decide) rfl rfl (r_fieldAddr Tryd.underlying24 rfl Tryd.sizeOf3 hK rfl) fun a hK => ?_
      refine sl_store1 (c' := [.int .i64 0, .int .i64 0, .string a0.S, .int .i64 a0.H.a0, .int .i64 a0.H.a1, .int .i64 a0.H.a2, .int .i64 a0.H.a3, .int .i64 a0.H.a4, .int .i64 a0.H.a5, .int .i64 a0.H.a6, .int .i64 a0.H.a7]) Tryd.sizeOf3 hS hK rfl rfl rfl rfl (Nat.le_of_ble_eq_true rfl) rfl fun a w hS hK => ?_
      refine wpList_nil ?_
      exact ⟨0, a0.S, a0.H, true, H, hK.sub (all_cons rfl (all_cons rfl (all_nil))), hS.trunc 1⟩
    · rw [ifb_f hb_64] at H
      refine wp_seq ?_
      refine wp_region_lit ?_
      refine sl hK (by decide) rfl rfl (r_ibin hK rfl rfl rfl) fun a hK => ?_
      refine sl hK (by decide) rfl rfl (r_assign hK rfl) fun a hK => ?_
      refine wpList_nil ?_
      refine wp_mid (fun a w => ∃ (x_90 : Int) (x_91 : ByteArray) (x_92 : Arr8) (x_93 : Bool), value_Valid.j1 x_90 x_91 x_92 x_93 = some r ∧ Kn 40 a [(3, .pointer (some ⟨b_2, 0, none⟩)), (4, .bool x_93)] ∧ St [] w0 w (fun _ => none) [.cells b_2 [.int .i64 0, .int .i64 x_90, .string x_91, .int .i64 x_92.a0, .int .i64 x_92.a1, .int .i64 x_92.a2, .int .i64 x_92.a3, .int .i64 x_92.a4, .int .i64 x_92.a5, .int .i64 x_92.a6, .int .i64 x_92.a7] 24]) ?_ ?_
      · refine wp_cond_split (hK.ev rfl) (fun (hb_95 : (a0.Kind == 2) = true) => ?_) (fun (hb_95 : (a0.Kind == 2) = false) => ?_)
        · rw [ifb_t hb_95] at H
          refine wp_seq ?_
          refine wp_region_lit ?_
          refine sl hK (by decide) rfl rfl (r_fieldAddr Tryd.underlying24 rfl Tryd.sizeOf9 hK rfl) fun a hK => ?_
          refine sl_store1 (c' := [.int .i64 0, .int .i64 a0.N, .string (⟨#[]⟩ : ByteArray), .int .i64 a0.H.a0, .int .i64 a0.H.a1, .int .i64 a0.H.a2, .int .i64 a0.H.a3, .int .i64 a0.H.a4, .int .i64 a0.H.a5, .int .i64 a0.H.a6, .int .i64 a0.H.a7]) Tryd.sizeOf9 hS hK rfl rfl rfl rfl (Nat.le_of_ble_eq_true rfl) rfl fun a w hS hK => ?_
          refine wpList_nil ?_
          refine wp_region_lit ?_
          refine sl hK (by decide) rfl rfl (r_fieldAddr Tryd.underlying24 rfl Tryd.sizeOf9 hK rfl) fun a hK => ?_
          refine sl hK (by decide) rfl rfl (r_load Tryd.isAgg9 hK rfl (hS.cell (.tail _ (.head _)) rfl)) fun a hK => ?_
          refine sl hK (by decide) rfl rfl (r_len_str Tryd.underlying9 hK rfl) fun a hK => ?_
          refine sl hK (by decide) rfl rfl (r_ibin hK rfl rfl rfl) fun a hK => ?_
          refine sl hK (by decide) rfl rfl (r_assign hK rfl) fun a hK => ?_
          refine wpList_nil ?_
          exact ⟨a0.N, (⟨#[]⟩ : ByteArray), a0.H, (decide ((a0.S.size : Int) ≤ 64)), H, hK.sub (all_cons rfl (all_cons rfl (all_nil))), hS.trunc 1⟩
        · rw [ifb_f hb_95] at H
          refine wp_seq ?_
          refine wp_region_lit ?_
          refine sl hK (by decide) rfl rfl (r_ibin hK rfl rfl rfl) fun a hK => ?_
          refine sl hK (by decide) rfl rfl (r_assign hK rfl) fun a hK => ?_
          refine wpList_nil ?_
          refine wp_mid (fun a w => ∃ (x_106 : Int) (x_107 : Arr8) (x_108 : Bool), value_Valid.j2 a0 x_106 x_107 x_108 = some r ∧ Kn 40 a [(3, .pointer (some ⟨b_2, 0, none⟩)), (4, .bool x_108)] ∧ St [] w0 w (fun _ => none) [.cells b_2 [.int .i64 0, .int .i64 x_106, .string a0.S, .int .i64 x_107.a0, .int .i64 x_107.a1, .int .i64 x_107.a2, .int .i64 x_107.a3, .int .i64 x_107.a4, .int .i64 x_107.a5, .int .i64 x_107.a6, .int .i64 x_107.a7] 24]) ?_ ?_
          · refine wp_cond_split (hK.ev rfl) (fun (hb_110 : (a0.Kind == 3) = true) => ?_) (fun (hb_110 : (a0.Kind == 3) = false) => ?_)
            · rw [ifb_t hb_110] at H
              refine wp_seq ?_
              refine wp_region_lit ?_
              refine sl hK (by decide) rfl rfl (r_fieldAddr Tryd.underlying24 rfl Tryd.sizeOf3 hK rfl) fun a hK => ?_
              refine sl_store1 (c' := [.int .i64 0, .int .i64 0, .string a0.S, .int .i64 a0.H.a0, .int .i64 a0.H.a1, .int .i64 a0.H.a2, .int .i64 a0.H.a3, .int .i64 a0.H.a4, .int .i64 a0.H.a5, .int .i64 a0.H.a6, .int .i64 a0.H.a7]) Tryd.sizeOf3 hS hK rfl rfl rfl rfl (Nat.le_of_ble_eq_true rfl) rfl fun a w hS hK => ?_
              refine wpList_nil ?_
              refine wp_mid (fun a w => ∃ (x_112 : Bool), value_Valid.j3 a0 x_112 = some r ∧ Kn 40 a [(3, .pointer (some ⟨b_2, 0, none⟩)), (4, .bool x_112)] ∧ St [] w0 w (fun _ => none) [.cells b_2 [.int .i64 0, .int .i64 0, .string a0.S, .int .i64 a0.H.a0, .int .i64 a0.H.a1, .int .i64 a0.H.a2, .int .i64 a0.H.a3, .int .i64 a0.H.a4, .int .i64 a0.H.a5, .int .i64 a0.H.a6, .int .i64 a0.H.a7] 24]) ?_ ?_
              · refine wp_region_lit ?_
                refine sl hK (by decide) rfl rfl (r_fieldAddr Tryd.underlying24 rfl Tryd.sizeOf3 hK rfl) fun a hK => ?_
                refine sl hK (by decide) rfl rfl (r_load Tryd.isAgg3 hK rfl (hS.cell (.tail _ (.head _)) rfl)) fun a hK => ?_
                refine sl hK (by decide) rfl rfl (r_ibin hK rfl rfl rfl) fun a hK => ?_
                refine sl hK (by decide) rfl rfl (r_move hK rfl) fun a hK => ?_
                rcases or_b (a0.N == 0) with hb_114 | hb_114
                · rw [ifb_t hb_114] at H
                  refine sl_skip hK (by decide) (wft hb_114) rfl fun a hK => ?_
                  refine sl_skip hK (by decide) (wft hb_114) rfl fun a hK => ?_
                  refine sl_skip hK (by decide) (wft hb_114) rfl fun a hK => ?_
                  refine sl hK (by decide) rfl rfl (r_pick_t hb_114 hK rfl rfl) fun a hK => ?_
                  refine sl hK (by decide) rfl rfl (r_assign hK rfl) fun a hK => ?_
                  refine wpList_nil ?_
                  exact ⟨true, H, hK.sub (all_cons rfl (all_cons rfl (all_nil))), hS.trunc 1⟩
                · rw [ifb_f hb_114] at H
                  refine sl hK (by decide) (wff hb_114) rfl (r_fieldAddr Tryd.underlying24 rfl Tryd.sizeOf3 hK rfl) fun a hK => ?_
                  refine sl hK (by decide) (wff hb_114) rfl (r_load Tryd.isAgg3 hK rfl (hS.cell (.tail _ (.head _)) rfl)) fun a hK => ?_
                  refine sl hK (by decide) (wff hb_114) rfl (r_ibin hK rfl rfl rfl) fun a hK => ?_
                  refine sl hK (by decide) rfl rfl (r_pick_f hb_114 hK rfl rfl) fun a hK => ?_
                  refine sl hK (by decide) rfl rfl (r_assign hK rfl) fun a hK => ?_
                  refine wpList_nil ?_
                  exact ⟨(a0.N == 1), H, hK.sub (all_cons rfl (all_cons rfl (all_nil))), hS.trunc 1⟩
              · rintro a w ⟨x_112, H, hK, hS⟩
                unfold value_Valid.j3 at H
                exact ⟨0, a0.H, x_112, H, hK.sub (all_cons rfl (all_cons rfl (all_nil))), hS⟩
            · rw [ifb_f hb_110] at H
              refine wp_seq ?_
              refine wp_region_lit ?_
              refine sl hK (by decide) rfl rfl (r_ibin hK rfl rfl rfl) fun a hK => ?_
              refine sl hK (by decide) rfl rfl (r_assign hK rfl) fun a hK => ?_
              refine wpList_nil ?_
              refine wp_mid (fun a w => ∃ (x_116 : Arr8) (x_117 : Bool), value_Valid.j4 a0 x_116 x_117 = some r ∧ Kn 40 a [(3, .pointer (some ⟨b_2, 0, none⟩)), (4, .bool x_117)] ∧ St [] w0 w (fun _ => none) [.cells b_2 [.int .i64 0, .int .i64 a0.N, .string a0.S, .int .i64 x_116.a0, .int .i64 x_116.a1, .int .i64 x_116.a2, .int .i64 x_116.a3, .int .i64 x_116.a4, .int .i64 x_116.a5, .int .i64 x_116.a6, .int .i64 x_116.a7] 24]) ?_ ?_
              · refine wp_cond_split (hK.ev rfl) (fun (hb_119 : (a0.Kind == 4) = true) => ?_) (fun (hb_119 : (a0.Kind == 4) = false) => ?_)
                · rw [ifb_t hb_119] at H
                  refine wp_region_lit ?_
                  refine sl hK (by decide) rfl rfl (r_buildAC (ps := []) (c := [.int .i64 0, .int .i64 0, .int .i64 0, .int .i64 0, .int .i64 0, .int .i64 0, .int .i64 0, .int .i64 0]) Tryd.underlying22 Tryd.zeroValue22 Tryd.sizeOf3 hK rfl pc_nil rfl rfl) fun a hK => ?_
                  refine sl hK (by decide) rfl rfl (r_fieldAddr Tryd.underlying24 rfl Tryd.sizeOf22 hK rfl) fun a hK => ?_
                  refine sl_storeA (vs := [.int .i64 0, .int .i64 0, .int .i64 0, .int .i64 0, .int .i64 0, .int .i64 0, .int .i64 0, .int .i64 0]) (c' := [.int .i64 0, .int .i64 a0.N, .string a0.S, .int .i64 0, .int .i64 0, .int .i64 0, .int .i64 0, .int .i64 0, .int .i64 0, .int .i64 0, .int .i64 0]) Tryd.sizeOf22 hS hK rfl rfl rfl rfl (all_cons rfl (all_cons rfl (all_cons rfl (all_cons rfl (all_cons rfl (all_cons rfl (all_cons rfl (all_cons rfl (all_nil))))))))) (Nat.le_of_ble_eq_true rfl) rfl fun a w hS hK => ?_
                  refine wpList_nil ?_
                  exact ⟨(⟨0, 0, 0, 0, 0, 0, 0, 0⟩ : Arr8), true, H, hK.sub (all_cons rfl (all_cons rfl (all_nil))), hS.trunc 1⟩
                · rw [ifb_f hb_119] at H
                  refine wp_region_lit ?_
                  refine sl hK (by decide) rfl rfl (r_assign hK rfl) fun a hK => ?_
                  refine wpList_nil ?_
                  exact ⟨a0.H, false, H, hK.sub (all_cons rfl (all_cons rfl (all_nil))), hS.trunc 1⟩
              · rintro a w ⟨x_116, x_117, H, hK, hS⟩
                unfold value_Valid.j4 at H
                exact ⟨a0.N, x_116, x_117, H, hK.sub (all_cons rfl (all_cons rfl (all_nil))), hS⟩
          · rintro a w ⟨x_106, x_107, x_108, H, hK, hS⟩
            unfold value_Valid.j2 at H
            exact ⟨x_106, a0.S, x_107, x_108, H, hK.sub (all_cons rfl (all_cons rfl (all_nil))), hS⟩
      · rintro a w ⟨x_90, x_91, x_92, x_93, H, hK, hS⟩
        unfold value_Valid.j1 at H
        exact ⟨x_90, x_91, x_92, x_93, H, hK.sub (all_cons rfl (all_cons rfl (all_nil))), hS⟩
  · rintro a w ⟨x_59, x_60, x_61, x_62, H, hK, hS⟩
    unfold value_Valid.j0 at H
    refine wp_seq ?_
    refine wp_region_lit ?_
    refine sl hK (by decide) rfl rfl (r_move hK rfl) fun a hK => ?_
    refine sl hK (by decide) rfl rfl (r_move hK rfl) fun a hK => ?_
    rcases or_b x_62 with hb_120 | hb_120
    · rw [ifb_t hb_120] at H
      refine sl hK (by decide) (wtt hb_120) rfl (r_loadA (cs := [.int .i64 0, .int .i64 x_59, .string x_60, .int .i64 x_61.a0, .int .i64 x_61.a1, .int .i64 x_61.a2, .int .i64 x_61.a3, .int .i64 x_61.a4, .int .i64 x_61.a5, .int .i64 x_61.a6, .int .i64 x_61.a7]) Tryd.isAgg24 Tryd.sizeOf24 rfl hK rfl (hS.cells_of (m := 11) (.head _) rfl)) fun a hK => ?_
      refine sl hK (by decide) (wtt hb_120) rfl (r_buildC (ps := []) (c := [.int .i64 0, .int .i64 0, .string (⟨#[]⟩ : ByteArray), .int .i64 0, .int .i64 0, .int .i64 0, .int .i64 0, .int .i64 0, .int .i64 0, .int .i64 0, .int .i64 0]) Tryd.underlying24 Tryd.zeroValue24 places24 hK rfl pc_nil rfl rfl) fun a hK => ?_
      refine sl hK (by decide) (wtt hb_120) rfl (r_seq (by kernel_rfl) (eqs24 (⟨0, x_59, x_60, x_61⟩ : api_Value) (⟨0, 0, (⟨#[]⟩ : ByteArray), (⟨0, 0, 0, 0, 0, 0, 0, 0⟩ : Arr8)⟩ : api_Value)) hK rfl rfl) fun a hK => ?_
      refine sl hK (by decide) rfl rfl (r_pick_t hb_120 hK rfl rfl) fun a hK => ?_
      refine sl hK (by decide) rfl rfl (r_assign hK rfl) fun a hK => ?_
      refine wpList_nil ?_
      obtain rfl := Option.some.inj H
      refine wp_ret ?_
      repeat (first | refine ret_then ?_ | refine ret_block ?_ | refine ret_scope ?_)
      exact ret_1 Tryd.results14 hK (rv_tmp hK rfl) ⟨rfl, hS.bel⟩
    · rw [ifb_f hb_120] at H
      refine sl_skip hK (by decide) (wtf hb_120) rfl fun a hK => ?_
      refine sl_skip hK (by decide) (wtf hb_120) rfl fun a hK => ?_
      refine sl_skip hK (by decide) (wtf hb_120) rfl fun a hK => ?_
      refine sl hK (by decide) rfl rfl (r_pick_f hb_120 hK rfl rfl) fun a hK => ?_
      refine sl hK (by decide) rfl rfl (r_assign hK rfl) fun a hK => ?_
      refine wpList_nil ?_
      obtain rfl := Option.some.inj H
      refine wp_ret ?_
      repeat (first | refine ret_then ?_ | refine ret_block ?_ | refine ret_scope ?_)
      exact ret_1 Tryd.results14 hK (rv_tmp hK rfl) ⟨rfl, hS.bel⟩

/-! ### catchment/value.Add: function 22 -/
set_option maxHeartbeats 4000000 in
set_option maxRecDepth 100000 in
theorem value_Add.calls (a0 : api_Value) (a1 : api_Value) {r : api_Value × Int} (H : value_Add a0 a1 = some r) (w0 : World) : CallsV Tryd.prog 22 #[.agg #[.int .i64 a0.Kind, .int .i64 a0.N, .string a0.S, .int .i64 a0.H.a0, .int .i64 a0.H.a1, .int .i64 a0.H.a2, .int .i64 a0.H.a3, .int .i64 a0.H.a4, .int .i64 a0.H.a5, .int .i64 a0.H.a6, .int .i64 a0.H.a7], .agg #[.int .i64 a1.Kind, .int .i64 a1.N, .string a1.S, .int .i64 a1.H.a0, .int .i64 a1.H.a1, .int .i64 a1.H.a2, .int .i64 a1.H.a3, .int .i64 a1.H.a4, .int .i64 a1.H.a5, .int .i64 a1.H.a6, .int .i64 a1.H.a7]] w0 (.tuple #[.agg #[.int .i64 r.1.Kind, .int .i64 r.1.N, .string r.1.S, .int .i64 r.1.H.a0, .int .i64 r.1.H.a1, .int .i64 r.1.H.a2, .int .i64 r.1.H.a3, .int .i64 r.1.H.a4, .int .i64 r.1.H.a5, .int .i64 r.1.H.a6, .int .i64 r.1.H.a7], .int .i64 r.2]) := by
  unfold value_Add at H
  refine enter (args := [.agg #[.int .i64 a0.Kind, .int .i64 a0.N, .string a0.S, .int .i64 a0.H.a0, .int .i64 a0.H.a1, .int .i64 a0.H.a2, .int .i64 a0.H.a3, .int .i64 a0.H.a4, .int .i64 a0.H.a5, .int .i64 a0.H.a6, .int .i64 a0.H.a7], .agg #[.int .i64 a1.Kind, .int .i64 a1.N, .string a1.S, .int .i64 a1.H.a0, .int .i64 a1.H.a1, .int .i64 a1.H.a2, .int .i64 a1.H.a3, .int .i64 a1.H.a4, .int .i64 a1.H.a5, .int .i64 a1.H.a6, .int .i64 a1.H.a7]]) Tryd.func22 rfl Tryd.ntmps22 rfl fun a hK => ?_
  have hS := St.init (R := fun _ => none) (w := w0) (fun _ _ h => by cases h)
  have hRL := RLe.refl (M := []) w0 (fun _ => none)
  refine wp_seq ?_
  refine wp_region_lit ?_
  refine sl_box hS hK (by decide) rfl rfl (c := [.int .i64 a0.Kind, .int .i64 a0.N, .string a0.S, .int .i64 a0.H.a0, .int .i64 a0.H.a1, .int .i64 a0.H.a2, .int .i64 a0.H.a3, .int .i64 a0.H.a4, .int .i64 a0.H.a5, .int .i64 a0.H.a6, .int .i64 a0.H.a7]) rfl fun a w b_1 hS hK => ?_
  refine sl_box hS hK (by decide) rfl rfl (c := [.int .i64 a1.Kind, .int .i64 a1.N, .string a1.S, .int .i64 a1.H.a0, .int .i64 a1.H.a1, .int .i64 a1.H.a2, .int .i64 a1.H.a3, .int .i64 a1.H.a4, .int .i64 a1.H.a5, .int .i64 a1.H.a6, .int .i64 a1.H.a7]) rfl fun a w b_2 hS hK => ?_
  refine sl_alloc Tryd.zeroValue24 hS hK (by decide) rfl rfl fun a w b_3 hS hK => ?_
  refine sl hK (by decide) rfl rfl (r_assign hK rfl) fun a hK => ?_
  refine wpList_nil ?_
  refine wp_seq ?_
  refine wp_seq ?_
  refine wp_mid (fun a w => ∃ (x_10 : Bool), value_Add.j0 a0 a1 x_10 = some r ∧ Kn 52 a [(2, .pointer (some ⟨b_1, 0, none⟩)), (3, .pointer (some ⟨b_2, 0, none⟩)), (4, .pointer (some ⟨b_3, 0, none⟩)), (21, .bool x_10)] ∧ St [] w0 w (fun _ => none) [.cells b_1 [.int .i64 a0.Kind, .int .i64 a0.N, .string a0.S, .int .i64 a0.H.a0, .int .i64 a0.H.a1, .int .i64 a0.H.a2, .int .i64 a0.H.a3, .int .i64 a0.H.a4, .int .i64 a0.H.a5, .int .i64 a0.H.a6, .int .i64 a0.H.a7] 24, .cells b_2 [.int .i64 a1.Kind, .int .i64 a1.N, .string a1.S, .int .i64 a1.H.a0, .int .i64 a1.H.a1, .int .i64 a1.H.a2, .int .i64 a1.H.a3, .int .i64 a1.H.a4, .int .i64 a1.H.a5, .int .i64 a1.H.a6, .int .i64 a1.H.a7] 24, .cells b_3 [.int .i64 0, .int .i64 0, .string (⟨#[]⟩ : ByteArray), .int .i64 0, .int .i64 0, .int .i64 0, .int .i64 0, .int .i64 0, .int .i64 0, .int .i64 0, .int .i64 0] 24]) ?_ ?_
  · refine wp_region_lit ?_
    refine sl hK (by decide) rfl rfl (r_loadA (cs := [.int .i64 a0.Kind, .int .i64 a0.N, .string a0.S, .int .i64 a0.H.a0, .int .i64 a0.H.a1, .int .i64 a0.H.a2, .int .i64 a0.H.a3, .int .i64 a0.H.a4, .int .i64 a0.H.a5, .int .i64 a0.H.a6, .int .i64 a0.H.a7]) Tryd.isAgg24 Tryd.sizeOf24 rfl hK rfl (hS.cells_of (m := 11) (.tail _ (.tail _ (.head _))) rfl)) fun a hK => ?_
    obtain ⟨y_12, h_13, H⟩ := bind_some H
    refine sl_callV Tryd.call14 hS hK (by decide) rfl rfl rfl (value_Valid.calls a0 h_13 _) fun a w hS hK => ?_
    refine sl hK (by decide) rfl rfl (r_un hK rfl (u_not _)) fun a hK => ?_
    refine sl hK (by decide) rfl rfl (r_move hK rfl) fun a hK => ?_
    rcases or_b (!y_12) with hb_14 | hb_14
    · rw [ifb_t hb_14] at H
      refine sl_skip hK (by decide) (wft hb_14) rfl fun a hK => ?_
      refine sl_skip hK (by decide) (wft hb_14) rfl fun a hK => ?_
      refine sl_skip hK (by decide) (wft hb_14) rfl fun a hK => ?_
      refine sl hK (by decide) rfl rfl (r_pick_t hb_14 hK rfl rfl) fun a hK => ?_
      refine sl hK (by decide) rfl rfl (r_move hK rfl) fun a hK => ?_
      refine sl_skip hK (by decide) rfl rfl fun a hK => ?_
      refine sl_skip hK (by decide) rfl rfl fun a hK => ?_
      refine sl_skip hK (by decide) rfl rfl fun a hK => ?_
      refine sl_skip hK (by decide) rfl rfl fun a hK => ?_
      refine sl_skip hK (by decide) rfl rfl fun a hK => ?_
      refine sl hK (by decide) rfl rfl (r_pick hK rfl rfl rfl) fun a hK => ?_
      refine wpList_nil ?_
      have hS := hS.pk1
      have hS := hS.pk2
      exact ⟨true, H, hK.sub (all_cons rfl (all_cons rfl (all_cons rfl (all_cons rfl (all_nil))))), hS⟩
    · rw [ifb_f hb_14] at H
      refine sl hK (by decide) (wff hb_14) rfl (r_loadA (cs := [.int .i64 a1.Kind, .int .i64 a1.N, .string a1.S, .int .i64 a1.H.a0, .int .i64 a1.H.a1, .int .i64 a1.H.a2, .int .i64 a1.H.a3, .int .i64 a1.H.a4, .int .i64 a1.H.a5, .int .i64 a1.H.a6, .int .i64 a1.H.a7]) Tryd.isAgg24 Tryd.sizeOf24 rfl hK rfl (hS.cells_of (m := 11) (.tail _ (.head _)) rfl)) fun a hK => ?_
      obtain ⟨y_15, h_16, H⟩ := bind_some H
      refine sl_callV Tryd.call14 hS hK (by decide) (wff hb_14) rfl rfl (value_Valid.calls a1 h_16 _) fun a w hS hK => ?_
      refine sl hK (by decide) (wff hb_14) rfl (r_un hK rfl (u_not _)) fun a hK => ?_
      refine sl hK (by decide) rfl rfl (r_pick_f hb_14 hK rfl rfl) fun a hK => ?_
      refine sl hK (by decide) rfl rfl (r_move hK rfl) fun a hK => ?_
      rcases or_b (!y_15) with hb_17 | hb_17
      · rw [ifb_t hb_17] at H
        refine sl_skip hK (by decide) (wft hb_17) rfl fun a hK => ?_
        refine sl_skip hK (by decide) (wft hb_17) rfl fun a hK => ?_
        refine sl_skip hK (by decide) (wft hb_17) rfl fun a hK => ?_
        refine sl_skip hK (by decide) (wft hb_17) rfl fun a hK => ?_
        refine sl_skip hK (by decide) (wft hb_17) rfl fun a hK => ?_
        refine sl hK (by decide) rfl rfl (r_pick_t hb_17 hK rfl rfl) fun a hK => ?_
        refine wpList_nil ?_
        have hS := hS.pk1
        have hS := hS.pk2
        exact ⟨true, H, hK.sub (all_cons rfl (all_cons rfl (all_cons rfl (all_cons rfl (all_nil))))), hS⟩
      · rw [ifb_f hb_17] at H
        refine sl hK (by decide) (wff hb_17) rfl (r_fieldAddr Tryd.underlying24 rfl Tryd.sizeOf3 hK rfl) fun a hK => ?_
        refine sl hK (by decide) (wff hb_17) rfl (r_load Tryd.isAgg3 hK rfl (hS.cell (.tail _ (.tail _ (.head _))) rfl)) fun a hK => ?_
        refine sl hK (by decide) (wff hb_17) rfl (r_fieldAddr Tryd.underlying24 rfl Tryd.sizeOf3 hK rfl) fun a hK => ?_
        refine sl hK (by decide) (wff hb_17) rfl (r_load Tryd.isAgg3 hK rfl (hS.cell (.tail _ (.head _)) rfl)) fun a hK => ?_
        refine sl hK (by decide) (wff hb_17) rfl (r_ibin hK rfl rfl rfl) fun a hK => ?_
        refine sl hK (by decide) rfl rfl (r_pick_f hb_17 hK rfl rfl) fun a hK => ?_
        refine wpList_nil ?_
        have hS := hS.pk1
        have hS := hS.pk2
        exact ⟨(a0.Kind != a1.Kind), H, hK.sub (all_cons rfl (all_cons rfl (all_cons rfl (all_cons rfl (all_nil))))), hS⟩
  · rintro a w ⟨x_10, H, hK, hS⟩
    unfold value_Add.j0 at H
    refine wp_cond_split (hK.ev rfl) (fun (hb_18 : x_10 = true) => ?_) (fun (hb_18 : x_10 = false) => ?_)
    · rw [ifb_t hb_18] at H
      refine wp_seq ?_
      refine wp_region_lit ?_
      refine sl hK (by decide) rfl rfl (r_buildC (ps := []) (c := [.int .i64 0, .int .i64 0, .string (⟨#[]⟩ : ByteArray), .int .i64 0, .int .i64 0, .int .i64 0, .int .i64 0, .int .i64 0, .int .i64 0, .int .i64 0, .int .i64 0]) Tryd.underlying24 Tryd.zeroValue24 places24 hK rfl pc_nil rfl rfl) fun a hK => ?_
      have hS := hS.pk2
      refine sl_storeA (vs := [.int .i64 0, .int .i64 0, .string (⟨#[]⟩ : ByteArray), .int .i64 0, .int .i64 0, .int .i64 0, .int .i64 0, .int .i64 0, .int .i64 0, .int .i64 0, .int .i64 0]) (c' := [.int .i64 0, .int .i64 0, .string (⟨#[]⟩ : ByteArray), .int .i64 0, .int .i64 0, .int .i64 0, .int .i64 0, .int .i64 0, .int .i64 0, .int .i64 0, .int .i64 0]) Tryd.sizeOf24 hS hK rfl rfl rfl rfl (all_cons rfl (all_cons rfl (all_cons rfl (all_cons rfl (all_cons rfl (all_cons rfl (all_cons rfl (all_cons rfl (all_cons rfl (all_cons rfl (all_cons rfl (all_nil)))))))))))) (Nat.le_of_ble_eq_true rfl) rfl fun a w hS hK => ?_
      refine sl hK (by decide) rfl rfl (r_assign hK rfl) fun a hK => ?_
      refine wpList_nil ?_
      obtain rfl := Option.some.inj H
      refine wp_ret ?_
      repeat (first | refine ret_then ?_ | refine ret_block ?_ | refine ret_scope ?_)
      exact ret_2 Tryd.results22 hK (rv_cell (c := [.int .i64 0, .int .i64 0, .string (⟨#[]⟩ : ByteArray), .int .i64 0, .int .i64 0, .int .i64 0, .int .i64 0, .int .i64 0, .int .i64 0, .int .i64 0, .int .i64 0]) Tryd.isAgg24 Tryd.sizeOf24 hS (.head _) rfl hK rfl) (rv_tmp hK rfl) ⟨rfl, hS.bel⟩
    · rw [ifb_f hb_18] at H
      refine wp_skip ?_
      refine wp_seq ?_
      refine wp_seq ?_
      refine wp_region_lit ?_
      refine sl hK (by decide) rfl rfl (r_fieldAddr Tryd.underlying24 rfl Tryd.sizeOf3 hK rfl) fun a hK => ?_
      refine sl hK (by decide) rfl rfl (r_load Tryd.isAgg3 hK rfl (hS.cell (.head _) rfl)) fun a hK => ?_
      refine wpList_nil ?_
      refine wp_block ?_
      refine wp_seq ?_
      refine wp_region_lit ?_
      refine sl hK (by decide) rfl rfl (r_ibin hK rfl rfl rfl) fun a hK => ?_
      refine sl hK (by decide) rfl rfl (r_assign hK rfl) fun a hK => ?_
      refine wpList_nil ?_
      refine wp_cond_split (hK.ev rfl) (fun (hb_19 : (a0.Kind == 1) = true) => ?_) (fun (hb_19 : (a0.Kind == 1) = false) => ?_)
      · rw [ifb_t hb_19] at H
        refine wp_seq ?_
        refine wp_region_lit ?_
        refine sl hK (by decide) rfl rfl (r_fieldAddr Tryd.underlying24 rfl Tryd.sizeOf3 hK rfl) fun a hK => ?_
        refine sl hK (by decide) rfl rfl (r_load Tryd.isAgg3 hK rfl (hS.cell (.head _) rfl)) fun a hK => ?_
        refine sl hK (by decide) rfl rfl (r_fieldAddr Tryd.underlying24 rfl Tryd.sizeOf3 hK rfl) fun a hK => ?_
        refine sl hK (by decide) rfl rfl (r_load Tryd.isAgg3 hK rfl (hS.cell (.tail _ (.head _)) rfl)) fun a hK => ?_
        refine sl hK (by decide) rfl rfl (r_ibin hK rfl rfl rfl) fun a hK => ?_
        obtain ⟨y_20, h_21, H⟩ := bind_some H
        refine sl_callV Tryd.call24 hS hK (by decide) rfl rfl rfl (value_OfInt.calls (IntKind.i64.wrap (a0.N + a1.N)) h_21 _) fun a w hS hK => ?_
        have hS := hS.pk2
        refine sl_storeA (vs := [.int .i64 y_20.Kind, .int .i64 y_20.N, .string y_20.S, .int .i64 y_20.H.a0, .int .i64 y_20.H.a1, .int .i64 y_20.H.a2, .int .i64 y_20.H.a3, .int .i64 y_20.H.a4, .int .i64 y_20.H.a5, .int .i64 y_20.H.a6, .int .i64 y_20.H.a7]) (c' := [.int .i64 y_20.Kind, .int .i64 y_20.N, .string y_20.S, .int .i64 y_20.H.a0, .int .i64 y_20.H.a1, .int .i64 y_20.H.a2, .int .i64 y_20.H.a3, .int .i64 y_20.H.a4, .int .i64 y_20.H.a5, .int .i64 y_20.H.a6, .int .i64 y_20.H.a7]) Tryd.sizeOf24 hS hK rfl rfl rfl rfl (all_cons rfl (all_cons rfl (all_cons rfl (all_cons rfl (all_cons rfl (all_cons rfl (all_cons rfl (all_cons rfl (all_cons rfl (all_cons rfl (all_cons rfl (all_nil)))))))))))) (Nat.le_of_ble_eq_true rfl) rfl fun a w hS hK => ?_
        refine sl hK (by decide) rfl rfl (r_assign hK rfl) fun a hK => ?_
        refine wpList_nil ?_
        obtain rfl := Option.some.inj H
        refine wp_ret ?_
        repeat (first | refine ret_then ?_ | refine ret_block ?_ | refine ret_scope ?_)
        exact ret_2 Tryd.results22 hK (rv_cell (c := [.int .i64 y_20.Kind, .int .i64 y_20.N, .string y_20.S, .int .i64 y_20.H.a0, .int .i64 y_20.H.a1, .int .i64 y_20.H.a2, .int .i64 y_20.H.a3, .int .i64 y_20.H.a4, .int .i64 y_20.H.a5, .int .i64 y_20.H.a6, .int .i64 y_20.H.a7]) Tryd.isAgg24 Tryd.sizeOf24 hS (.head _) rfl hK rfl) (rv_tmp hK rfl) ⟨rfl, hS.bel⟩
      · rw [ifb_f hb_19] at H
        refine wp_seq ?_
        refine wp_region_lit ?_
        refine sl hK (by decide) rfl rfl (r_ibin hK rfl rfl rfl) fun a hK => ?_
        refine sl hK (by decide) rfl rfl (r_assign hK rfl) fun a hK => ?_
        refine wpList_nil ?_
        refine wp_cond_split (hK.ev rfl) (fun (hb_22 : (a0.Kind == 4) = true) => ?_) (fun (hb_22 : (a0.Kind == 4) = false) => ?_)
        · rw [ifb_t hb_22] at H
          refine wp_seq ?_
          refine wp_seq ?_
          refine wp_region_lit ?_
          refine sl hK (by decide) rfl rfl (r_move hK rfl) fun a hK => ?_
          refine wpList_nil ?_
          refine wp_block ?_
          refine wp_loop_k (fun k_l1 a w => ∃ (x_24 : Arr8) (x_25 : Int), value_Add.l1 a0 a1 k_l1 x_24 x_25 = some r ∧ Kn 52 a [(2, .pointer (some ⟨b_1, 0, none⟩)), (3, .pointer (some ⟨b_2, 0, none⟩)), (4, .pointer (some ⟨b_3, 0, none⟩)), (35, .int .i64 x_25)] ∧ St [] w0 w (fun _ => none) [.cells b_1 [.int .i64 a0.Kind, .int .i64 a0.N, .string a0.S, .int .i64 x_24.a0, .int .i64 x_24.a1, .int .i64 x_24.a2, .int .i64 x_24.a3, .int .i64 x_24.a4, .int .i64 x_24.a5, .int .i64 x_24.a6, .int .i64 x_24.a7] 24, .cells b_2 [.int .i64 a1.Kind, .int .i64 a1.N, .string a1.S, .int .i64 a1.H.a0, .int .i64 a1.H.a1, .int .i64 a1.H.a2, .int .i64 a1.H.a3, .int .i64 a1.H.a4, .int .i64 a1.H.a5, .int .i64 a1.H.a6, .int .i64 a1.H.a7] 24, .cells b_3 [.int .i64 0, .int .i64 0, .string (⟨#[]⟩ : ByteArray), .int .i64 0, .int .i64 0, .int .i64 0, .int .i64 0, .int .i64 0, .int .i64 0, .int .i64 0, .int .i64 0] 24]) (((8 : Int) - 0).toNat + 1) ?_ ?_
          · have hS := hS.pk2
            have hS := hS.pk2
            have hS := hS.pk2
            exact ⟨a0.H, 0, H, hK.sub (all_cons rfl (all_cons rfl (all_cons rfl (all_cons rfl (all_nil))))), hS⟩
          · rintro k_l1 a w ⟨x_24, x_25, H, hK, hS⟩
            cases k_l1 with
            | zero => cases H
            | succ k_l1 =>
            rw [value_Add.l1.eq_2] at H
            refine wp_seq ?_
            refine wp_region_lit ?_
            refine sl hK (by decide) rfl rfl (r_ibin hK rfl rfl rfl) fun a hK => ?_
            refine wpList_nil ?_
            refine wp_seq ?_
            refine wp_cond_split (hK.ev rfl) (fun (hb_44 : (decide (x_25 < 8)) = true) => ?_) (fun (hb_44 : (decide (x_25 < 8)) = false) => ?_)
            · rw [ifb_t hb_44] at H
              refine wp_skip ?_
              refine wp_seq ?_
              refine wp_block ?_
              refine wp_seq ?_
              refine wp_region_lit ?_
              refine sl hK (by decide) rfl rfl (r_move hK rfl) fun a hK => ?_
              refine sl hK (by decide) rfl rfl (r_assign hK rfl) fun a hK => ?_
              refine wpList_nil ?_
              refine parT_region (C := fun w => St [] w0 w (fun _ => none) [.cells b_1 [.int .i64 a0.Kind, .int .i64 a0.N, .string a0.S, .int .i64 x_24.a0, .int .i64 x_24.a1, .int .i64 x_24.a2, .int .i64 x_24.a3, .int .i64 x_24.a4, .int .i64 x_24.a5, .int .i64 x_24.a6, .int .i64 x_24.a7] 24, .cells b_2 [.int .i64 a1.Kind, .int .i64 a1.N, .string a1.S, .int .i64 a1.H.a0, .int .i64 a1.H.a1, .int .i64 a1.H.a2, .int .i64 a1.H.a3, .int .i64 a1.H.a4, .int .i64 a1.H.a5, .int .i64 a1.H.a6, .int .i64 a1.H.a7] 24, .cells b_3 [.int .i64 0, .int .i64 0, .string (⟨#[]⟩ : ByteArray), .int .i64 0, .int .i64 0, .int .i64 0, .int .i64 0, .int .i64 0, .int .i64 0, .int .i64 0, .int .i64 0] 24]) 10 [(0, true), (1, true), (2, true), (3, true), (4, true), (5, true), (6, true), (7, true), (8, true), (9, true)] mixed (by kernel_rfl) hS (fun w hS => hS) fun w hS => ?_
              refine sp (k := 0) rfl hK (by decide) rfl rfl (fun w hS => r_move hK rfl) fun a hK => ?_
              refine sp (k := 1) rfl hK (by decide) rfl rfl (fun w hS => r_fieldAddr Tryd.underlying24 rfl Tryd.sizeOf22 hK rfl) fun a hK => ?_
              obtain ⟨y_53, h_54, H⟩ := bind_some H
              refine sp (k := 2) rfl hK (by decide) rfl rfl (fun w hS => r_indexAddr_arr Tryd.underlying22 Tryd.sizeOf3 hK rfl rfl (Arr8.ix_lt h_54).1 (Arr8.ix_lt h_54).2) fun a hK => ?_
              refine sp (k := 3) rfl hK (by decide) rfl rfl (fun w hS => r_load Tryd.isAgg3 hK rfl (hS.cell (.head _) (Arr8.ix_cells h_54 [.int .i64 a0.Kind, .int .i64 a0.N, .string a0.S] [] rfl))) fun a hK => ?_
              refine sp (k := 4) rfl hK (by decide) rfl rfl (fun w hS => r_move hK rfl) fun a hK => ?_
              refine sp (k := 5) rfl hK (by decide) rfl rfl (fun w hS => r_fieldAddr Tryd.underlying24 rfl Tryd.sizeOf22 hK rfl) fun a hK => ?_
              obtain ⟨y_55, h_56, H⟩ := bind_some H
              refine sp (k := 6) rfl hK (by decide) rfl rfl (fun w hS => r_indexAddr_arr Tryd.underlying22 Tryd.sizeOf3 hK rfl rfl (Arr8.ix_lt h_56).1 (Arr8.ix_lt h_56).2) fun a hK => ?_
              refine sp (k := 7) rfl hK (by decide) rfl rfl (fun w hS => r_load Tryd.isAgg3 hK rfl (hS.cell (.tail _ (.head _)) (Arr8.ix_cells h_56 [.int .i64 a1.Kind, .int .i64 a1.N, .string a1.S] [] rfl))) fun a hK => ?_
              refine sp (k := 8) rfl hK (by decide) rfl rfl (fun w hS => r_ibin hK rfl rfl rfl) fun a hK => ?_
              refine sp (k := 9) rfl hK (by decide) rfl rfl (fun w hS => r_fieldAddr Tryd.underlying24 rfl Tryd.sizeOf22 hK rfl) fun a hK => ?_
              refine thenL_nil ?_
              obtain ⟨y_57, h_58, H⟩ := bind_some H
              refine sl hK (by decide) rfl rfl (r_indexAddr_arr Tryd.underlying22 Tryd.sizeOf3 hK rfl rfl (Arr8.ix_lt h_58).1 (Arr8.ix_lt h_58).2) fun a hK => ?_
              obtain ⟨y_59, h_60, H⟩ := bind_some H
              refine sl_store1 (c' := [.int .i64 a0.Kind, .int .i64 a0.N, .string a0.S, .int .i64 y_59.a0, .int .i64 y_59.a1, .int .i64 y_59.a2, .int .i64 y_59.a3, .int .i64 y_59.a4, .int .i64 y_59.a5, .int .i64 y_59.a6, .int .i64 y_59.a7]) Tryd.sizeOf3 hS hK rfl rfl rfl rfl (Arr8.put_lt h_60 (Nat.le_of_ble_eq_true rfl)) (Arr8.put_cells h_60 [.int .i64 a0.Kind, .int .i64 a0.N, .string a0.S] [] rfl) fun a w hS hK => ?_
              refine wpList_nil (NoP_nil ?_)
              refine wp_region_lit ?_
              refine sl hK (by decide) rfl rfl (r_ibin hK rfl rfl rfl) fun a hK => ?_
              refine sl hK (by decide) rfl rfl (r_move hK rfl) fun a hK => ?_
              refine wpList_nil ?_
              have hS := hS.pk2
              have hS := hS.pk2
              have hS := hS.pk2
              exact ⟨_, Nat.lt_succ_self _, y_59, (IntKind.i64.wrap (x_25 + 1)), H, hK.sub (all_cons rfl (all_cons rfl (all_cons rfl (all_cons rfl (all_nil))))), hS⟩
            · rw [ifb_f hb_44] at H
              refine wp_exit ?_
              refine wp_seq ?_
              refine wp_region_lit ?_
              refine sl hK (by decide) rfl rfl (r_loadA (cs := [.int .i64 a0.Kind, .int .i64 a0.N, .string a0.S, .int .i64 x_24.a0, .int .i64 x_24.a1, .int .i64 x_24.a2, .int .i64 x_24.a3, .int .i64 x_24.a4, .int .i64 x_24.a5, .int .i64 x_24.a6, .int .i64 x_24.a7]) Tryd.isAgg24 Tryd.sizeOf24 rfl hK rfl (hS.cells_of (m := 11) (.head _) rfl)) fun a hK => ?_
              have hS := hS.pk2
              refine sl_storeA (vs := [.int .i64 a0.Kind, .int .i64 a0.N, .string a0.S, .int .i64 x_24.a0, .int .i64 x_24.a1, .int .i64 x_24.a2, .int .i64 x_24.a3, .int .i64 x_24.a4, .int .i64 x_24.a5, .int .i64 x_24.a6, .int .i64 x_24.a7]) (c' := [.int .i64 a0.Kind, .int .i64 a0.N, .string a0.S, .int .i64 x_24.a0, .int .i64 x_24.a1, .int .i64 x_24.a2, .int .i64 x_24.a3, .int .i64 x_24.a4, .int .i64 x_24.a5, .int .i64 x_24.a6, .int .i64 x_24.a7]) Tryd.sizeOf24 hS hK rfl rfl rfl rfl (all_cons rfl (all_cons rfl (all_cons rfl (all_cons rfl (all_cons rfl (all_cons rfl (all_cons rfl (all_cons rfl (all_cons rfl (all_cons rfl (all_cons rfl (all_nil)))))))))))) (Nat.le_of_ble_eq_true rfl) rfl fun a w hS hK => ?_
              refine sl hK (by decide) rfl rfl (r_assign hK rfl) fun a hK => ?_
              refine wpList_nil ?_
              obtain rfl := Option.some.inj H
              refine wp_ret ?_
              repeat (first | refine ret_then ?_ | refine ret_block ?_ | refine ret_scope ?_)
              exact ret_2 Tryd.results22 hK (rv_cell (c := [.int .i64 a0.Kind, .int .i64 a0.N, .string a0.S, .int .i64 x_24.a0, .int .i64 x_24.a1, .int .i64 x_24.a2, .int .i64 x_24.a3, .int .i64 x_24.a4, .int .i64 x_24.a5, .int .i64 x_24.a6, .int .i64 x_24.a7]) Tryd.isAgg24 Tryd.sizeOf24 hS (.head _) rfl hK rfl) (rv_tmp hK rfl) ⟨rfl, hS.bel⟩
        · rw [ifb_f hb_22] at H
          refine wp_skip ?_
          refine wp_seq ?_
          refine wp_region_lit ?_
          refine sl hK (by decide) rfl rfl (r_buildC (ps := []) (c := [.int .i64 0, .int .i64 0, .string (⟨#[]⟩ : ByteArray), .int .i64 0, .int .i64 0, .int .i64 0, .int .i64 0, .int .i64 0, .int .i64 0, .int .i64 0, .int .i64 0]) Tryd.underlying24 Tryd.zeroValue24 places24 hK rfl pc_nil rfl rfl) fun a hK => ?_
          have hS := hS.pk2
          refine sl_storeA (vs := [.int .i64 0, .int .i64 0, .string (⟨#[]⟩ : ByteArray), .int .i64 0, .int .i64 0, .int .i64 0, .int .i64 0, .int .i64 0, .int .i64 0, .int .i64 0, .int .i64 0]) (c' := [.int .i64 0, .int .i64 0, .string (⟨#[]⟩ : ByteArray), .int .i64 0, .int .i64 0, .int .i64 0, .int .i64 0, .int .i64 0, .int .i64 0, .int .i64 0, .int .i64 0]) Tryd.sizeOf24 hS hK rfl rfl rfl rfl (all_cons rfl (all_cons rfl (all_cons rfl (all_cons rfl (all_cons rfl (all_cons rfl (all_cons rfl (all_cons rfl (all_cons rfl (all_cons rfl (all_cons rfl (all_nil)))))))))))) (Nat.le_of_ble_eq_true rfl) rfl fun a w hS hK => ?_
          refine sl hK (by decide) rfl rfl (r_assign hK rfl) fun a hK => ?_
          refine wpList_nil ?_
          obtain rfl := Option.some.inj H
          refine wp_ret ?_
          repeat (first | refine ret_then ?_ | refine ret_block ?_ | refine ret_scope ?_)
          exact ret_2 Tryd.results22 hK (rv_cell (c := [.int .i64 0, .int .i64 0, .string (⟨#[]⟩ : ByteArray), .int .i64 0, .int .i64 0, .int .i64 0, .int .i64 0, .int .i64 0, .int .i64 0, .int .i64 0, .int .i64 0]) Tryd.isAgg24 Tryd.sizeOf24 hS (.head _) rfl hK rfl) (rv_tmp hK rfl) ⟨rfl, hS.bel⟩

/-! ### cmp.isNaN[int]: function 48 -/
set_option maxHeartbeats 4000000 in
set_option maxRecDepth 100000 in
theorem cmp_isNaN_int.calls (a0 : Int) {r : Bool} (H : cmp_isNaN_int a0 = some r) (w0 : World) : CallsV Tryd.prog 48 #[.int .i64 a0] w0 (.bool r) := by
  unfold cmp_isNaN_int at H
  refine enter (args := [.int .i64 a0]) Tryd.func48 rfl Tryd.ntmps48 rfl fun a hK => ?_
  have hS := St.init (R := fun _ => none) (w := w0) (fun _ _ h => by cases h)
  have hRL := RLe.refl (M := []) w0 (fun _ => none)
  refine wp_seq ?_
  refine wp_region_lit ?_
  refine sl hK (by decide) rfl rfl (r_assign hK rfl) fun a hK => ?_
  refine wpList_nil ?_
  refine wp_seq ?_
  refine wp_region_lit ?_
  refine sl hK (by decide) rfl rfl (r_move hK rfl) fun a hK => ?_
  refine sl hK (by decide) rfl rfl (r_move hK rfl) fun a hK => ?_
  refine sl hK (by decide) rfl rfl (r_ibin hK rfl rfl rfl) fun a hK => ?_
  refine sl hK (by decide) rfl rfl (r_assign hK rfl) fun a hK => ?_
  refine wpList_nil ?_
  obtain rfl := Option.some.inj H
  refine wp_ret ?_
  repeat (first | refine ret_then ?_ | refine ret_block ?_ | refine ret_scope ?_)
  exact ret_1 Tryd.results48 hK (rv_tmp hK rfl) ⟨rfl, hS.bel⟩

/-! ### cmp.Compare[int]: function 38 -/
set_option maxHeartbeats 4000000 in
set_option maxRecDepth 100000 in
theorem cmp_Compare_int.calls (a0 : Int) (a1 : Int) {r : Int} (H : cmp_Compare_int a0 a1 = some r) (w0 : World) : CallsV Tryd.prog 38 #[.int .i64 a0, .int .i64 a1] w0 (.int .i64 r) := by
  unfold cmp_Compare_int at H
  refine enter (args := [.int .i64 a0, .int .i64 a1]) Tryd.func38 rfl Tryd.ntmps38 rfl fun a hK => ?_
  have hS := St.init (R := fun _ => none) (w := w0) (fun _ _ h => by cases h)
  have hRL := RLe.refl (M := []) w0 (fun _ => none)
  refine wp_seq ?_
  refine wp_region_lit ?_
  refine sl hK (by decide) rfl rfl (r_assign hK rfl) fun a hK => ?_
  refine wpList_nil ?_
  refine wp_seq ?_
  refine wp_region_lit ?_
  refine sl hK (by decide) rfl rfl (r_move hK rfl) fun a hK => ?_
  obtain ⟨y_1, h_2, H⟩ := bind_some H
  refine sl_callV Tryd.call48 hS hK (by decide) rfl rfl rfl (cmp_isNaN_int.calls a0 h_2 _) fun a w hS hK => ?_
  refine sl hK (by decide) rfl rfl (r_assign hK rfl) fun a hK => ?_
  refine wpList_nil ?_
  refine wp_seq ?_
  refine wp_region_lit ?_
  refine sl hK (by decide) rfl rfl (r_move hK rfl) fun a hK => ?_
  obtain ⟨y_3, h_4, H⟩ := bind_some H
  refine sl_callV Tryd.call48 hS hK (by decide) rfl rfl rfl (cmp_isNaN_int.calls a1 h_4 _) fun a w hS hK => ?_
  refine sl hK (by decide) rfl rfl (r_assign hK rfl) fun a hK => ?_
  refine wpList_nil ?_
  refine wp_seq ?_
  refine wp_seq ?_
  refine wp_region_lit ?_
  refine sl hK (by decide) rfl rfl (r_move hK rfl) fun a hK => ?_
  refine wpList_nil ?_
  refine wp_cond_split (hK.ev rfl) (fun (hb_5 : y_1 = true) => ?_) (fun (hb_5 : y_1 = false) => ?_)
  · rw [ifb_t hb_5] at H
    refine wp_seq ?_
    refine wp_seq ?_
    refine wp_region_lit ?_
    refine sl hK (by decide) rfl rfl (r_move hK rfl) fun a hK => ?_
    refine wpList_nil ?_
    refine wp_cond_split (hK.ev rfl) (fun (hb_6 : y_3 = true) => ?_) (fun (hb_6 : y_3 = false) => ?_)
    · rw [ifb_t hb_6] at H
      refine wp_seq ?_
      refine wp_region_lit ?_
      refine sl hK (by decide) rfl rfl (r_assign hK rfl) fun a hK => ?_
      refine wpList_nil ?_
      obtain rfl := Option.some.inj H
      refine wp_ret ?_
      repeat (first | refine ret_then ?_ | refine ret_block ?_ | refine ret_scope ?_)
      exact ret_1 Tryd.results38 hK (rv_tmp hK rfl) ⟨rfl, hS.bel⟩
    · rw [ifb_f hb_6] at H
      refine wp_skip ?_
      refine wp_seq ?_
      refine wp_region_lit ?_
      refine sl hK (by decide) rfl rfl (r_assign hK rfl) fun a hK => ?_
      refine wpList_nil ?_
      obtain rfl := Option.some.inj H
      refine wp_ret ?_
      repeat (first | refine ret_then ?_ | refine ret_block ?_ | refine ret_scope ?_)
      exact ret_1 Tryd.results38 hK (rv_tmp hK rfl) ⟨rfl, hS.bel⟩
  · rw [ifb_f hb_5] at H
    refine wp_skip ?_
    refine wp_seq ?_
    refine wp_seq ?_
    refine wp_region_lit ?_
    refine sl hK (by decide) rfl rfl (r_move hK rfl) fun a hK => ?_
    refine wpList_nil ?_
    refine wp_cond_split (hK.ev rfl) (fun (hb_7 : y_3 = true) => ?_) (fun (hb_7 : y_3 = false) => ?_)
    · rw [ifb_t hb_7] at H
      refine wp_seq ?_
      refine wp_region_lit ?_
      refine sl hK (by decide) rfl rfl (r_assign hK rfl) fun a hK => ?_
      refine wpList_nil ?_
      obtain rfl := Option.some.inj H
      refine wp_ret ?_
      repeat (first | refine ret_then ?_ | refine ret_block ?_ | refine ret_scope ?_)
      exact ret_1 Tryd.results38 hK (rv_tmp hK rfl) ⟨rfl, hS.bel⟩
    · rw [ifb_f hb_7] at H
      refine wp_skip ?_
      refine wp_seq ?_
      refine wp_seq ?_
      refine wp_region_lit ?_
      refine sl hK (by decide) rfl rfl (r_move hK rfl) fun a hK => ?_
      refine sl hK (by decide) rfl rfl (r_move hK rfl) fun a hK => ?_
      refine sl hK (by decide) rfl rfl (r_ibin hK rfl rfl rfl) fun a hK => ?_
      refine wpList_nil ?_
      refine wp_cond_split (hK.ev rfl) (fun (hb_8 : (decide (a0 < a1)) = true) => ?_) (fun (hb_8 : (decide (a0 < a1)) = false) => ?_)
      · rw [ifb_t hb_8] at H
        refine wp_seq ?_
        refine wp_region_lit ?_
        refine sl hK (by decide) rfl rfl (r_assign hK rfl) fun a hK => ?_
        refine wpList_nil ?_
        obtain rfl := Option.some.inj H
        refine wp_ret ?_
        repeat (first | refine ret_then ?_ | refine ret_block ?_ | refine ret_scope ?_)
        exact ret_1 Tryd.results38 hK (rv_tmp hK rfl) ⟨rfl, hS.bel⟩
      · rw [ifb_f hb_8] at H
        refine wp_skip ?_
        refine wp_seq ?_
        refine wp_seq ?_
        refine wp_region_lit ?_
        refine sl hK (by decide) rfl rfl (r_move hK rfl) fun a hK => ?_
        refine sl hK (by decide) rfl rfl (r_move hK rfl) fun a hK => ?_
        refine sl hK (by decide) rfl rfl (r_ibin hK rfl rfl rfl) fun a hK => ?_
        refine wpList_nil ?_
        refine wp_cond_split (hK.ev rfl) (fun (hb_9 : (decide (a0 > a1)) = true) => ?_) (fun (hb_9 : (decide (a0 > a1)) = false) => ?_)
        · rw [ifb_t hb_9] at H
          refine wp_seq ?_
          refine wp_region_lit ?_
          refine sl hK (by decide) rfl rfl (r_assign hK rfl) fun a hK => ?_
          refine wpList_nil ?_
          obtain rfl := Option.some.inj H
          refine wp_ret ?_
          repeat (first | refine ret_then ?_ | refine ret_block ?_ | refine ret_scope ?_)
          exact ret_1 Tryd.results38 hK (rv_tmp hK rfl) ⟨rfl, hS.bel⟩
        · rw [ifb_f hb_9] at H
          refine wp_skip ?_
          refine wp_seq ?_
          refine wp_region_lit ?_
          refine sl hK (by decide) rfl rfl (r_assign hK rfl) fun a hK => ?_
          refine wpList_nil ?_
          obtain rfl := Option.some.inj H
          refine wp_ret ?_
          repeat (first | refine ret_then ?_ | refine ret_block ?_ | refine ret_scope ?_)
          exact ret_1 Tryd.results38 hK (rv_tmp hK rfl) ⟨rfl, hS.bel⟩

/-! ### internal/bytealg.CompareString: function 49 -/
set_option maxHeartbeats 4000000 in
set_option maxRecDepth 100000 in
theorem internal_bytealg_CompareString.calls (a0 : ByteArray) (a1 : ByteArray) {r : Int} (H : internal_bytealg_CompareString a0 a1 = some r) (w0 : World) : CallsV Tryd.prog 49 #[.string a0, .string a1] w0 (.int .i64 r) := by
  unfold internal_bytealg_CompareString at H
  refine enter (args := [.string a0, .string a1]) Tryd.func49 rfl Tryd.ntmps49 rfl fun a hK => ?_
  have hS := St.init (R := fun _ => none) (w := w0) (fun _ _ h => by cases h)
  have hRL := RLe.refl (M := []) w0 (fun _ => none)
  refine wp_seq ?_
  refine wp_region_lit ?_
  refine sl hK (by decide) rfl rfl (r_assign hK rfl) fun a hK => ?_
  refine wpList_nil ?_
  refine wp_seq ?_
  refine wp_region_lit ?_
  refine sl hK (by decide) rfl rfl (r_move hK rfl) fun a hK => ?_
  refine sl hK (by decide) rfl rfl (r_move hK rfl) fun a hK => ?_
  refine sl hK (by decide) rfl rfl (r_ext (ext56 a0 a1 _) hK rfl rfl) fun a hK => ?_
  refine sl hK (by decide) rfl rfl (r_assign hK rfl) fun a hK => ?_
  refine wpList_nil ?_
  obtain rfl := Option.some.inj H
  refine wp_ret ?_
  repeat (first | refine ret_then ?_ | refine ret_block ?_ | refine ret_scope ?_)
  exact ret_1 Tryd.results49 hK (rv_tmp hK rfl) ⟨rfl, hS.bel⟩

/-! ### strings.Compare: function 39 -/
set_option maxHeartbeats 4000000 in
set_option maxRecDepth 100000 in
theorem strings_Compare.calls (a0 : ByteArray) (a1 : ByteArray) {r : Int} (H : strings_Compare a0 a1 = some r) (w0 : World) : CallsV Tryd.prog 39 #[.string a0, .string a1] w0 (.int .i64 r) := by
  unfold strings_Compare at H
  refine enter (args := [.string a0, .string a1]) Tryd.func39 rfl Tryd.ntmps39 rfl fun a hK => ?_
  have hS := St.init (R := fun _ => none) (w := w0) (fun _ _ h => by cases h)
  have hRL := RLe.refl (M := []) w0 (fun _ => none)
  refine wp_seq ?_
  refine wp_region_lit ?_
  refine sl hK (by decide) rfl rfl (r_assign hK rfl) fun a hK => ?_
  refine wpList_nil ?_
  refine wp_seq ?_
  refine wp_region_lit ?_
  refine sl hK (by decide) rfl rfl (r_move hK rfl) fun a hK => ?_
  refine sl hK (by decide) rfl rfl (r_move hK rfl) fun a hK => ?_
  obtain ⟨y_1, h_2, H⟩ := bind_some H
  refine sl_callV Tryd.call49 hS hK (by decide) rfl rfl rfl (internal_bytealg_CompareString.calls a0 a1 h_2 _) fun a w hS hK => ?_
  refine sl hK (by decide) rfl rfl (r_assign hK rfl) fun a hK => ?_
  refine wpList_nil ?_
  obtain rfl := Option.some.inj H
  refine wp_ret ?_
  repeat (first | refine ret_then ?_ | refine ret_block ?_ | refine ret_scope ?_)
  exact ret_1 Tryd.results39 hK (rv_tmp hK rfl) ⟨rfl, hS.bel⟩

/-! ### slices.Compare[[]int,int]: function 40 -/
set_option maxHeartbeats 4000000 in
set_option maxRecDepth 100000 in
theorem slices_Compare_int_int.calls (a0 : List Int) (a1 : List Int) {w0 : World} {RA : Hp} {v0_0 : Value} {v1_0 : Value} (hRA : RA.sub w0) (h0_0 : SlR (tyInt .i64) RA v0_0 a0) (h1_0 : SlR (tyInt .i64) RA v1_0 a1) {r : Int} (H : slices_Compare_int_int a0 a1 = some r) : CallsV Tryd.prog 40 #[v0_0, v1_0] w0 (.int .i64 r) := by
  unfold slices_Compare_int_int at H
  refine enter (args := [v0_0, v1_0]) Tryd.func40 rfl Tryd.ntmps40 rfl fun a hK => ?_
  have hS := St.init (R := fun _ => none) (w := w0) (fun _ _ h => by cases h)
  have hRL := RLe.refl (M := []) w0 (fun _ => none)
  refine wp_seq ?_
  refine wp_region_lit ?_
  refine sl hK (by decide) rfl rfl (r_assign hK rfl) fun a hK => ?_
  refine wpList_nil ?_
  refine wp_seq ?_
  refine wp_seq ?_
  refine wp_region_lit ?_
  refine sl hK (by decide) rfl rfl (r_move hK rfl) fun a hK => ?_
  refine sl hK (by decide) rfl rfl (r_len_R Tryd.underlying53 h0_0 hK rfl) fun a hK => ?_
  refine sl hK (by decide) rfl rfl (r_move hK rfl) fun a hK => ?_
  refine wpList_nil ?_
  refine wp_block ?_
  refine wp_loop_k (fun k_l0 a w => ∃ (x_25 : Int), slices_Compare_int_int.l0 a0 a1 k_l0 x_25 = some r ∧ Kn 36 a [(0, v0_0), (1, v1_0), (9, v0_0), (10, .int .i64 (a0.length : Int)), (11, .int .i64 x_25)] ∧ St [] w0 w (fun _ => none) []) (((a0.length : Int) - 0).toNat + 1) ?_ ?_
  · exact ⟨0, H, hK.sub (all_cons rfl (all_cons rfl (all_cons rfl (all_cons rfl (all_cons rfl (all_nil)))))), hS⟩
  · rintro k_l0 a w ⟨x_25, H, hK, hS⟩
    cases k_l0 with
    | zero => cases H
    | succ k_l0 =>
    rw [slices_Compare_int_int.l0.eq_2] at H
    refine wp_seq ?_
    refine wp_region_lit ?_
    refine sl hK (by decide) rfl rfl (r_ibin hK rfl rfl rfl) fun a hK => ?_
    refine wpList_nil ?_
    refine wp_seq ?_
    refine wp_cond_split (hK.ev rfl) (fun (hb_50 : (decide (x_25 < (a0.length : Int))) = true) => ?_) (fun (hb_50 : (decide (x_25 < (a0.length : Int))) = false) => ?_)
    · rw [ifb_t hb_50] at H
      refine wp_skip ?_
      refine wp_seq ?_
      refine wp_block ?_
      refine wp_seq ?_
      refine wp_region_lit ?_
      refine sl hK (by decide) rfl rfl (r_move hK rfl) fun a hK => ?_
      obtain ⟨y_51, h_52, H⟩ := bind_some H
      obtain ⟨b_53, o_54, c_55, cs_56, hv_57, hr_58, hc_59, h_520, h_521⟩ := h0_0.ix h_52
      subst hr_58
      refine sl hK (by decide) rfl rfl (r_indexAddr_R Tryd.underlying53 Tryd.sizeOf3 hv_57 h_520 h_521 hK rfl rfl) fun a hK => ?_
      refine sl hK (by decide) rfl rfl (r_load Tryd.isAgg3 hK rfl ((hS.ra hRA nil_not).cell (hc_59 0 _ rfl))) fun a hK => ?_
      refine sl hK (by decide) rfl rfl (r_assign hK rfl) fun a hK => ?_
      refine sl hK (by decide) rfl rfl (r_assign hK rfl) fun a hK => ?_
      refine wpList_nil ?_
      refine wp_seq ?_
      refine wp_seq ?_
      refine wp_region_lit ?_
      refine sl hK (by decide) rfl rfl (r_move hK rfl) fun a hK => ?_
      refine sl hK (by decide) rfl rfl (r_move hK rfl) fun a hK => ?_
      refine sl hK (by decide) rfl rfl (r_len_R Tryd.underlying53 h1_0 hK rfl) fun a hK => ?_
      refine sl hK (by decide) rfl rfl (r_ibin hK rfl rfl rfl) fun a hK => ?_
      refine wpList_nil ?_
      refine wp_cond_split (hK.ev rfl) (fun (hb_60 : (decide (x_25 ≥ (a1.length : Int))) = true) => ?_) (fun (hb_60 : (decide (x_25 ≥ (a1.length : Int))) = false) => ?_)
      · rw [ifb_t hb_60] at H
        refine wp_seq ?_
        refine wp_region_lit ?_
        refine sl hK (by decide) rfl rfl (r_assign hK rfl) fun a hK => ?_
        refine wpList_nil ?_
        obtain rfl := Option.some.inj H
        refine wp_ret ?_
        repeat (first | refine ret_then ?_ | refine ret_block ?_ | refine ret_scope ?_)
        exact ret_1 Tryd.results40 hK (rv_tmp hK rfl) ⟨rfl, hS.bel⟩
      · rw [ifb_f hb_60] at H
        refine wp_skip ?_
        refine wp_seq ?_
        refine wp_region_lit ?_
        refine sl hK (by decide) rfl rfl (r_move hK rfl) fun a hK => ?_
        refine sl hK (by decide) rfl rfl (r_move hK rfl) fun a hK => ?_
        obtain ⟨y_61, h_62, H⟩ := bind_some H
        obtain ⟨b_63, o_64, c_65, cs_66, hv_67, hr_68, hc_69, h_620, h_621⟩ := h1_0.ix h_62
        subst hr_68
        refine sl hK (by decide) rfl rfl (r_indexAddr_R Tryd.underlying53 Tryd.sizeOf3 hv_67 h_620 h_621 hK rfl rfl) fun a hK => ?_
        refine sl hK (by decide) rfl rfl (r_load Tryd.isAgg3 hK rfl ((hS.ra hRA nil_not).cell (hc_69 0 _ rfl))) fun a hK => ?_
        refine sl hK (by decide) rfl rfl (r_assign hK rfl) fun a hK => ?_
        refine wpList_nil ?_
        refine wp_seq ?_
        refine wp_region_lit ?_
        refine sl hK (by decide) rfl rfl (r_move hK rfl) fun a hK => ?_
        refine sl hK (by decide) rfl rfl (r_move hK rfl) fun a hK => ?_
        obtain ⟨y_70, h_71, H⟩ := bind_some H
        refine sl_callV Tryd.call38 hS hK (by decide) rfl rfl rfl (cmp_Compare_int.calls y_51 y_61 h_71 _) fun a w hS hK => ?_
        refine sl hK (by decide) rfl rfl (r_assign hK rfl) fun a hK => ?_
        refine wpList_nil ?_
        refine wp_seq ?_
        refine wp_region_lit ?_
        refine sl hK (by decide) rfl rfl (r_move hK rfl) fun a hK => ?_
        refine sl hK (by decide) rfl rfl (r_ibin hK rfl rfl rfl) fun a hK => ?_
        refine wpList_nil ?_
        refine wp_cond_split (hK.ev rfl) (fun (hb_72 : (y_70 != 0) = true) => ?_) (fun (hb_72 : (y_70 != 0) = false) => ?_)
        · rw [ifb_t hb_72] at H
          refine wp_seq ?_
          refine wp_region_lit ?_
          refine sl hK (by decide) rfl rfl (r_move hK rfl) fun a hK => ?_
          refine sl hK (by decide) rfl rfl (r_assign hK rfl) fun a hK => ?_
          refine wpList_nil ?_
          obtain rfl := Option.some.inj H
          refine wp_ret ?_
          repeat (first | refine ret_then ?_ | refine ret_block ?_ | refine ret_scope ?_)
          exact ret_1 Tryd.results40 hK (rv_tmp hK rfl) ⟨rfl, hS.bel⟩
        · rw [ifb_f hb_72] at H
          refine wp_skip ?_
          refine wp_region_lit ?_
          refine sl hK (by decide) rfl rfl (r_ibin hK rfl rfl rfl) fun a hK => ?_
          refine sl hK (by decide) rfl rfl (r_move hK rfl) fun a hK => ?_
          refine wpList_nil ?_
          exact ⟨_, Nat.lt_succ_self _, (IntKind.i64.wrap (x_25 + 1)), H, hK.sub (all_cons rfl (all_cons rfl (all_cons rfl (all_cons rfl (all_cons rfl (all_nil)))))), hS⟩
    · rw [ifb_f hb_50] at H
      refine wp_exit ?_
      refine wp_seq ?_
      refine wp_seq ?_
      refine wp_region_lit ?_
      refine sl hK (by decide) rfl rfl (r_move hK rfl) fun a hK => ?_
      refine sl hK (by decide) rfl rfl (r_len_R Tryd.underlying53 h0_0 hK rfl) fun a hK => ?_
      refine sl hK (by decide) rfl rfl (r_move hK rfl) fun a hK => ?_
      refine sl hK (by decide) rfl rfl (r_len_R Tryd.underlying53 h1_0 hK rfl) fun a hK => ?_
      refine sl hK (by decide) rfl rfl (r_ibin hK rfl rfl rfl) fun a hK => ?_
      refine wpList_nil ?_
      refine wp_cond_split (hK.ev rfl) (fun (hb_73 : (decide ((a0.length : Int) < (a1.length : Int))) = true) => ?_) (fun (hb_73 : (decide ((a0.length : Int) < (a1.length : Int))) = false) => ?_)
      · rw [ifb_t hb_73] at H
        refine wp_seq ?_
        refine wp_region_lit ?_
        refine sl hK (by decide) rfl rfl (r_assign hK rfl) fun a hK => ?_
        refine wpList_nil ?_
        obtain rfl := Option.some.inj H
        refine wp_ret ?_
        repeat (first | refine ret_then ?_ | refine ret_block ?_ | refine ret_scope ?_)
        exact ret_1 Tryd.results40 hK (rv_tmp hK rfl) ⟨rfl, hS.bel⟩
      · rw [ifb_f hb_73] at H
        refine wp_skip ?_
        refine wp_seq ?_
        refine wp_region_lit ?_
        refine sl hK (by decide) rfl rfl (r_assign hK rfl) fun a hK => ?_
        refine wpList_nil ?_
        obtain rfl := Option.some.inj H
        refine wp_ret ?_
        repeat (first | refine ret_then ?_ | refine ret_block ?_ | refine ret_scope ?_)
        exact ret_1 Tryd.results40 hK (rv_tmp hK rfl) ⟨rfl, hS.bel⟩

/-! ### cmp.Or[int]: function 37 -/
set_option maxHeartbeats 4000000 in
set_option maxRecDepth 100000 in
theorem cmp_Or_int.calls (a0 : List Int) {w0 : World} {RA : Hp} {v0_0 : Value} (hRA : RA.sub w0) (h0_0 : SlR (tyInt .i64) RA v0_0 a0) {r : Int} (H : cmp_Or_int a0 = some r) : CallsV Tryd.prog 37 #[v0_0] w0 (.int .i64 r) := by
  unfold cmp_Or_int at H
  refine enter (args := [v0_0]) Tryd.func37 rfl Tryd.ntmps37 rfl fun a hK => ?_
  have hS := St.init (R := fun _ => none) (w := w0) (fun _ _ h => by cases h)
  have hRL := RLe.refl (M := []) w0 (fun _ => none)
  refine wp_seq ?_
  refine wp_region_lit ?_
  refine sl hK (by decide) rfl rfl (r_assign hK rfl) fun a hK => ?_
  refine wpList_nil ?_
  refine wp_seq ?_
  refine wp_region_lit ?_
  refine sl hK (by decide) rfl rfl (r_assign hK rfl) fun a hK => ?_
  refine wpList_nil ?_
  refine wp_seq ?_
  refine wp_seq ?_
  refine wp_region_lit ?_
  refine sl hK (by decide) rfl rfl (r_move hK rfl) fun a hK => ?_
  refine sl hK (by decide) rfl rfl (r_len_R Tryd.underlying53 h0_0 hK rfl) fun a hK => ?_
  refine sl hK (by decide) rfl rfl (r_move hK rfl) fun a hK => ?_
  refine wpList_nil ?_
  refine wp_block ?_
  refine wp_loop_k (fun k_l0 a w => ∃ (x_13 : Int), cmp_Or_int.l0 a0 k_l0 x_13 = some r ∧ Kn 18 a [(3, .int .i64 0), (6, v0_0), (7, .int .i64 (a0.length : Int)), (8, .int .i64 x_13)] ∧ St [] w0 w (fun _ => none) []) (((a0.length : Int) - 0).toNat + 1) ?_ ?_
  · exact ⟨0, H, hK.sub (all_cons rfl (all_cons rfl (all_cons rfl (all_cons rfl (all_nil))))), hS⟩
  · rintro k_l0 a w ⟨x_13, H, hK, hS⟩
    cases k_l0 with
    | zero => cases H
    | succ k_l0 =>
    rw [cmp_Or_int.l0.eq_2] at H
    refine wp_seq ?_
    refine wp_region_lit ?_
    refine sl hK (by decide) rfl rfl (r_ibin hK rfl rfl rfl) fun a hK => ?_
    refine wpList_nil ?_
    refine wp_seq ?_
    refine wp_cond_split (hK.ev rfl) (fun (hb_26 : (decide (x_13 < (a0.length : Int))) = true) => ?_) (fun (hb_26 : (decide (x_13 < (a0.length : Int))) = false) => ?_)
    · rw [ifb_t hb_26] at H
      refine wp_skip ?_
      refine wp_seq ?_
      refine wp_block ?_
      refine wp_seq ?_
      refine wp_region_lit ?_
      obtain ⟨y_27, h_28, H⟩ := bind_some H
      obtain ⟨b_29, o_30, c_31, cs_32, hv_33, hr_34, hc_35, h_280, h_281⟩ := h0_0.ix h_28
      subst hr_34
      refine sl hK (by decide) rfl rfl (r_indexAddr_R Tryd.underlying53 Tryd.sizeOf3 hv_33 h_280 h_281 hK rfl rfl) fun a hK => ?_
      refine sl hK (by decide) rfl rfl (r_load Tryd.isAgg3 hK rfl ((hS.ra hRA nil_not).cell (hc_35 0 _ rfl))) fun a hK => ?_
      refine sl hK (by decide) rfl rfl (r_assign hK rfl) fun a hK => ?_
      refine wpList_nil ?_
      refine wp_seq ?_
      refine wp_region_lit ?_
      refine sl hK (by decide) rfl rfl (r_move hK rfl) fun a hK => ?_
      refine sl hK (by decide) rfl rfl (r_move hK rfl) fun a hK => ?_
      refine sl hK (by decide) rfl rfl (r_ibin hK rfl rfl rfl) fun a hK => ?_
      refine wpList_nil ?_
      refine wp_cond_split (hK.ev rfl) (fun (hb_36 : (y_27 != 0) = true) => ?_) (fun (hb_36 : (y_27 != 0) = false) => ?_)
      · rw [ifb_t hb_36] at H
        refine wp_seq ?_
        refine wp_region_lit ?_
        refine sl hK (by decide) rfl rfl (r_move hK rfl) fun a hK => ?_
        refine sl hK (by decide) rfl rfl (r_assign hK rfl) fun a hK => ?_
        refine wpList_nil ?_
        obtain rfl := Option.some.inj H
        refine wp_ret ?_
        repeat (first | refine ret_then ?_ | refine ret_block ?_ | refine ret_scope ?_)
        exact ret_1 Tryd.results37 hK (rv_tmp hK rfl) ⟨rfl, hS.bel⟩
      · rw [ifb_f hb_36] at H
        refine wp_skip ?_
        refine wp_region_lit ?_
        refine sl hK (by decide) rfl rfl (r_ibin hK rfl rfl rfl) fun a hK => ?_
        refine sl hK (by decide) rfl rfl (r_move hK rfl) fun a hK => ?_
        refine wpList_nil ?_
        exact ⟨_, Nat.lt_succ_self _, (IntKind.i64.wrap (x_13 + 1)), H, hK.sub (all_cons rfl (all_cons rfl (all_cons rfl (all_cons rfl (all_nil))))), hS⟩
    · rw [ifb_f hb_26] at H
      refine wp_exit ?_
      refine wp_seq ?_
      refine wp_region_lit ?_
      refine sl hK (by decide) rfl rfl (r_move hK rfl) fun a hK => ?_
      refine sl hK (by decide) rfl rfl (r_assign hK rfl) fun a hK => ?_
      refine wpList_nil ?_
      obtain rfl := Option.some.inj H
      refine wp_ret ?_
      repeat (first | refine ret_then ?_ | refine ret_block ?_ | refine ret_scope ?_)
      exact ret_1 Tryd.results37 hK (rv_tmp hK rfl) ⟨rfl, hS.bel⟩

/-! ### catchment/value.Compare: function 18 -/
set_option maxHeartbeats 4000000 in
set_option maxRecDepth 100000 in
theorem value_Compare.calls (a0 : api_Value) (a1 : api_Value) {r : Int} (H : value_Compare a0 a1 = some r) (w0 : World) : CallsV Tryd.prog 18 #[.agg #[.int .i64 a0.Kind, .int .i64 a0.N, .string a0.S, .int .i64 a0.H.a0, .int .i64 a0.H.a1, .int .i64 a0.H.a2, .int .i64 a0.H.a3, .int .i64 a0.H.a4, .int .i64 a0.H.a5, .int .i64 a0.H.a6, .int .i64 a0.H.a7], .agg #[.int .i64 a1.Kind, .int .i64 a1.N, .string a1.S, .int .i64 a1.H.a0, .int .i64 a1.H.a1, .int .i64 a1.H.a2, .int .i64 a1.H.a3, .int .i64 a1.H.a4, .int .i64 a1.H.a5, .int .i64 a1.H.a6, .int .i64 a1.H.a7]] w0 (.int .i64 r) := by
  unfold value_Compare at H
  refine enter (args := [.agg #[.int .i64 a0.Kind, .int .i64 a0.N, .string a0.S, .int .i64 a0.H.a0, .int .i64 a0.H.a1, .int .i64 a0.H.a2, .int .i64 a0.H.a3, .int .i64 a0.H.a4, .int .i64 a0.H.a5, .int .i64 a0.H.a6, .int .i64 a0.H.a7], .agg #[.int .i64 a1.Kind, .int .i64 a1.N, .string a1.S, .int .i64 a1.H.a0, .int .i64 a1.H.a1, .int .i64 a1.H.a2, .int .i64 a1.H.a3, .int .i64 a1.H.a4, .int .i64 a1.H.a5, .int .i64 a1.H.a6, .int .i64 a1.H.a7]]) Tryd.func18 rfl Tryd.ntmps18 rfl fun a hK => ?_
  have hS := St.init (R := fun _ => none) (w := w0) (fun _ _ h => by cases h)
  have hRL := RLe.refl (M := []) w0 (fun _ => none)
  refine wp_seq ?_
  refine wp_region_lit ?_
  refine sl_box hS hK (by decide) rfl rfl (c := [.int .i64 a0.Kind, .int .i64 a0.N, .string a0.S, .int .i64 a0.H.a0, .int .i64 a0.H.a1, .int .i64 a0.H.a2, .int .i64 a0.H.a3, .int .i64 a0.H.a4, .int .i64 a0.H.a5, .int .i64 a0.H.a6, .int .i64 a0.H.a7]) rfl fun a w b_1 hS hK => ?_
  refine sl_box hS hK (by decide) rfl rfl (c := [.int .i64 a1.Kind, .int .i64 a1.N, .string a1.S, .int .i64 a1.H.a0, .int .i64 a1.H.a1, .int .i64 a1.H.a2, .int .i64 a1.H.a3, .int .i64 a1.H.a4, .int .i64 a1.H.a5, .int .i64 a1.H.a6, .int .i64 a1.H.a7]) rfl fun a w b_2 hS hK => ?_
  refine sl hK (by decide) rfl rfl (r_assign hK rfl) fun a hK => ?_
  refine wpList_nil ?_
  refine wp_seq ?_
  refine parT_region (C := fun w => St [] w0 w (fun _ => none) [.cells b_2 [.int .i64 a1.Kind, .int .i64 a1.N, .string a1.S, .int .i64 a1.H.a0, .int .i64 a1.H.a1, .int .i64 a1.H.a2, .int .i64 a1.H.a3, .int .i64 a1.H.a4, .int .i64 a1.H.a5, .int .i64 a1.H.a6, .int .i64 a1.H.a7] 24, .cells b_1 [.int .i64 a0.Kind, .int .i64 a0.N, .string a0.S, .int .i64 a0.H.a0, .int .i64 a0.H.a1, .int .i64 a0.H.a2, .int .i64 a0.H.a3, .int .i64 a0.H.a4, .int .i64 a0.H.a5, .int .i64 a0.H.a6, .int .i64 a0.H.a7] 24]) 19 [(0, true), (1, true), (2, true), (3, true), (5, true), (6, true), (7, true), (8, true), (10, true), (11, true), (12, true), (13, true), (15, true), (16, true), (17, true), (18, true), (4, false), (9, false), (14, false)] mixed (by kernel_rfl) hS (fun w hS => hS) fun w hS => ?_
  refine sp (k := 0) rfl hK (by decide) rfl rfl (fun w hS => r_fieldAddr Tryd.underlying24 rfl Tryd.sizeOf3 hK rfl) fun a hK => ?_
  refine sp (k := 1) rfl hK (by decide) rfl rfl (fun w hS => r_load Tryd.isAgg3 hK rfl (hS.cell (.tail _ (.head _)) rfl)) fun a hK => ?_
  refine sp (k := 2) rfl hK (by decide) rfl rfl (fun w hS => r_fieldAddr Tryd.underlying24 rfl Tryd.sizeOf3 hK rfl) fun a hK => ?_
  refine sp (k := 3) rfl hK (by decide) rfl rfl (fun w hS => r_load Tryd.isAgg3 hK rfl (hS.cell (.head _) rfl)) fun a hK => ?_
  refine sp (k := 5) rfl hK (by decide) rfl rfl (fun w hS => r_fieldAddr Tryd.underlying24 rfl Tryd.sizeOf3 hK rfl) fun a hK => ?_
  refine sp (k := 6) rfl hK (by decide) rfl rfl (fun w hS => r_load Tryd.isAgg3 hK rfl (hS.cell (.tail _ (.head _)) rfl)) fun a hK => ?_
  refine sp (k := 7) rfl hK (by decide) rfl rfl (fun w hS => r_fieldAddr Tryd.underlying24 rfl Tryd.sizeOf3 hK rfl) fun a hK => ?_
  refine sp (k := 8) rfl hK (by decide) rfl rfl (fun w hS => r_load Tryd.isAgg3 hK rfl (hS.cell (.head _) rfl)) fun a hK => ?_
  refine sp (k := 10) rfl hK (by decide) rfl rfl (fun w hS => r_fieldAddr Tryd.underlying24 rfl Tryd.sizeOf9 hK rfl) fun a hK => ?_
  refine sp (k := 11) rfl hK (by decide) rfl rfl (fun w hS => r_load Tryd.isAgg9 hK rfl (hS.cell (.tail _ (.head _)) rfl)) fun a hK => ?_
  refine sp (k := 12) rfl hK (by decide) rfl rfl (fun w hS => r_fieldAddr Tryd.underlying24 rfl Tryd.sizeOf9 hK rfl) fun a hK => ?_
  refine sp (k := 13) rfl hK (by decide) rfl rfl (fun w hS => r_load Tryd.isAgg9 hK rfl (hS.cell (.head _) rfl)) fun a hK => ?_
  refine sp (k := 15) rfl hK (by decide) rfl rfl (fun w hS => r_fieldAddr Tryd.underlying24 rfl Tryd.sizeOf22 hK rfl) fun a hK => ?_
  refine sp (k := 16) rfl hK (by decide) rfl rfl (fun w hS => r_slice_arr0 Tryd.underlying22 Tryd.sizeOf3 hK rfl) fun a hK => ?_
  refine sp (k := 17) rfl hK (by decide) rfl rfl (fun w hS => r_fieldAddr Tryd.underlying24 rfl Tryd.sizeOf22 hK rfl) fun a hK => ?_
  refine sp (k := 18) rfl hK (by decide) rfl rfl (fun w hS => r_slice_arr0 Tryd.underlying22 Tryd.sizeOf3 hK rfl) fun a hK => ?_
  refine spw (k := 4) rfl rfl hS ?_
  obtain ⟨y_14, h_15, H⟩ := bind_some H
  refine sl_callV Tryd.call38 hS hK (by decide) rfl rfl rfl (cmp_Compare_int.calls a0.Kind a1.Kind h_15 _) fun a w hS hK => ?_
  refine parK_nil hS ?_
  refine spw (k := 9) rfl rfl hS ?_
  obtain ⟨y_16, h_17, H⟩ := bind_some H
  refine sl_callV Tryd.call38 hS hK (by decide) rfl rfl rfl (cmp_Compare_int.calls a0.N a1.N h_17 _) fun a w hS hK => ?_
  refine parK_nil hS ?_
  refine spw (k := 14) rfl rfl hS ?_
  obtain ⟨y_18, h_19, H⟩ := bind_some H
  refine sl_callV Tryd.call39 hS hK (by decide) rfl rfl rfl (strings_Compare.calls a0.S a1.S h_19 _) fun a w hS hK => ?_
  refine parK_nil hS ?_
  refine thenL_nil ?_
  obtain ⟨y_20, h_21, H⟩ := bind_some H
  refine sl_callV Tryd.call40 hS hK (by decide) rfl rfl rfl (slices_Compare_int_int.calls a0.H.list a1.H.list (lentOf_sub [] _) (hS.lend_part0 (.tail _ (.head _)) (xs := a0.H.list) rfl (Nat.le_refl _)) (hS.lend_part0 (.head _) (xs := a1.H.list) rfl (Nat.le_refl _)) h_21) fun a w hS hK => ?_
  refine sl_buildSliceF (zc := [.int .i64 0]) (ps := [(0, .int .i64 y_14), (1, .int .i64 y_16), (2, .int .i64 y_18), (3, .int .i64 y_20)]) (c := [.int .i64 y_14, .int .i64 y_16, .int .i64 y_18, .int .i64 y_20]) [[.int .i64 y_14], [.int .i64 y_16], [.int .i64 y_18], [.int .i64 y_20]] Tryd.underlying53 Tryd.sizeOf3 Tryd.zeroValue3 rfl (pc_cons rfl (pc_cons rfl (pc_cons rfl (pc_cons rfl pc_nil)))) rfl rfl (Nat.le_of_ble_eq_true rfl) rfl (all_cons rfl (all_cons rfl (all_cons rfl (all_cons rfl (all_nil))))) rfl hS hK (by decide) rfl fun a w b_22 hS hK => ?_
  obtain ⟨y_23, h_24, H⟩ := bind_some H
  refine sl_callV Tryd.call37 hS hK (by decide) rfl rfl rfl (cmp_Or_int.calls [y_14, y_16, y_18, y_20] (lentOf_sub [] _) (hS.lend_lit0 (ty := (tyInt .i64)) (xs := [y_14, y_16, y_18, y_20]) (.head _) (Reps.cons (show Ty.rep (tyInt .i64) _ [.int .i64 y_14] y_14 from rfl) (Reps.cons (show Ty.rep (tyInt .i64) _ [.int .i64 y_16] y_16 from rfl) (Reps.cons (show Ty.rep (tyInt .i64) _ [.int .i64 y_18] y_18 from rfl) (Reps.cons (show Ty.rep (tyInt .i64) _ [.int .i64 y_20] y_20 from rfl) (Reps.nil _ _))))) rfl) h_24) fun a w hS hK => ?_
  refine sl hK (by decide) rfl rfl (r_assign hK rfl) fun a hK => ?_
  refine wpList_nil (NoP_nil ?_)
  obtain rfl := Option.some.inj H
  refine wp_ret ?_
  repeat (first | refine ret_then ?_ | refine ret_block ?_ | refine ret_scope ?_)
  exact ret_1 Tryd.results18 hK (rv_tmp hK rfl) ⟨rfl, hS.bel⟩

/-! ### catchment/value.OfBool: function 28 -/
set_option maxHeartbeats 4000000 in
set_option maxRecDepth 100000 in
theorem value_OfBool.calls (a0 : Bool) {r : api_Value} (H : value_OfBool a0 = some r) (w0 : World) : CallsV Tryd.prog 28 #[.bool a0] w0 (.agg #[.int .i64 r.Kind, .int .i64 r.N, .string r.S, .int .i64 r.H.a0, .int .i64 r.H.a1, .int .i64 r.H.a2, .int .i64 r.H.a3, .int .i64 r.H.a4, .int .i64 r.H.a5, .int .i64 r.H.a6, .int .i64 r.H.a7]) := by
  unfold value_OfBool at H
  refine enter (args := [.bool a0]) Tryd.func28 rfl Tryd.ntmps28 rfl fun a hK => ?_
  have hS := St.init (R := fun _ => none) (w := w0) (fun _ _ h => by cases h)
  have hRL := RLe.refl (M := []) w0 (fun _ => none)
  refine wp_seq ?_
  refine wp_region_lit ?_
  refine sl_alloc Tryd.zeroValue24 hS hK (by decide) rfl rfl fun a w b_1 hS hK => ?_
  refine wpList_nil ?_
  refine wp_seq ?_
  refine wp_region_lit ?_
  refine sl hK (by decide) rfl rfl (r_buildC (ps := [(0, .int .i64 3)]) (c := [.int .i64 3, .int .i64 0, .string (⟨#[]⟩ : ByteArray), .int .i64 0, .int .i64 0, .int .i64 0, .int .i64 0, .int .i64 0, .int .i64 0, .int .i64 0, .int .i64 0]) Tryd.underlying24 Tryd.zeroValue24 places24 hK rfl (pc_cons rfl pc_nil) rfl rfl) fun a hK => ?_
  refine sl_alloc Tryd.zeroValue24 hS hK (by decide) rfl rfl fun a w b_2 hS hK => ?_
  refine sl_storeA (vs := [.int .i64 3, .int .i64 0, .string (⟨#[]⟩ : ByteArray), .int .i64 0, .int .i64 0, .int .i64 0, .int .i64 0, .int .i64 0, .int .i64 0, .int .i64 0, .int .i64 0]) (c' := [.int .i64 3, .int .i64 0, .string (⟨#[]⟩ : ByteArray), .int .i64 0, .int .i64 0, .int .i64 0, .int .i64 0, .int .i64 0, .int .i64 0, .int .i64 0, .int .i64 0]) Tryd.sizeOf24 hS hK rfl rfl rfl rfl (all_cons rfl (all_cons rfl (all_cons rfl (all_cons rfl (all_cons rfl (all_cons rfl (all_cons rfl (all_cons rfl (all_cons rfl (all_cons rfl (all_cons rfl (all_nil)))))))))))) (Nat.le_of_ble_eq_true rfl) rfl fun a w hS hK => ?_
  refine wpList_nil ?_
  refine wp_seq ?_
  refine wp_seq ?_
  refine wp_region_lit ?_
  refine sl hK (by decide) rfl rfl (r_move hK rfl) fun a hK => ?_
  refine wpList_nil ?_
  refine wp_cond_split (hK.ev rfl) (fun (hb_3 : a0 = true) => ?_) (fun (hb_3 : a0 = false) => ?_)
  · rw [ifb_t hb_3] at H
    refine wp_region_lit ?_
    refine sl hK (by decide) rfl rfl (r_fieldAddr Tryd.underlying24 rfl Tryd.sizeOf3 hK rfl) fun a hK => ?_
    refine sl_store1 (c' := [.int .i64 3, .int .i64 1, .string (⟨#[]⟩ : ByteArray), .int .i64 0, .int .i64 0, .int .i64 0, .int .i64 0, .int .i64 0, .int .i64 0, .int .i64 0, .int .i64 0]) Tryd.sizeOf3 hS hK rfl rfl rfl rfl (Nat.le_of_ble_eq_true rfl) rfl fun a w hS hK => ?_
    refine wpList_nil ?_
    refine wp_seq ?_
    refine wp_region_lit ?_
    refine sl hK (by decide) rfl rfl (r_loadA (cs := [.int .i64 3, .int .i64 1, .string (⟨#[]⟩ : ByteArray), .int .i64 0, .int .i64 0, .int .i64 0, .int .i64 0, .int .i64 0, .int .i64 0, .int .i64 0, .int .i64 0]) Tryd.isAgg24 Tryd.sizeOf24 rfl hK rfl (hS.cells_of (m := 11) (.head _) rfl)) fun a hK => ?_
    have hS := hS.pk1
    refine sl_storeA (vs := [.int .i64 3, .int .i64 1, .string (⟨#[]⟩ : ByteArray), .int .i64 0, .int .i64 0, .int .i64 0, .int .i64 0, .int .i64 0, .int .i64 0, .int .i64 0, .int .i64 0]) (c' := [.int .i64 3, .int .i64 1, .string (⟨#[]⟩ : ByteArray), .int .i64 0, .int .i64 0, .int .i64 0, .int .i64 0, .int .i64 0, .int .i64 0, .int .i64 0, .int .i64 0]) Tryd.sizeOf24 hS hK rfl rfl rfl rfl (all_cons rfl (all_cons rfl (all_cons rfl (all_cons rfl (all_cons rfl (all_cons rfl (all_cons rfl (all_cons rfl (all_cons rfl (all_cons rfl (all_cons rfl (all_nil)))))))))))) (Nat.le_of_ble_eq_true rfl) rfl fun a w hS hK => ?_
    refine wpList_nil ?_
    obtain rfl := Option.some.inj H
    refine wp_ret ?_
    repeat (first | refine ret_then ?_ | refine ret_block ?_ | refine ret_scope ?_)
    exact ret_1 Tryd.results28 hK (rv_cell (c := [.int .i64 3, .int .i64 1, .string (⟨#[]⟩ : ByteArray), .int .i64 0, .int .i64 0, .int .i64 0, .int .i64 0, .int .i64 0, .int .i64 0, .int .i64 0, .int .i64 0]) Tryd.isAgg24 Tryd.sizeOf24 hS (.head _) rfl hK rfl) ⟨rfl, hS.bel⟩
  · rw [ifb_f hb_3] at H
    refine wp_skip ?_
    refine wp_seq ?_
    refine wp_region_lit ?_
    refine sl hK (by decide) rfl rfl (r_loadA (cs := [.int .i64 3, .int .i64 0, .string (⟨#[]⟩ : ByteArray), .int .i64 0, .int .i64 0, .int .i64 0, .int .i64 0, .int .i64 0, .int .i64 0, .int .i64 0, .int .i64 0]) Tryd.isAgg24 Tryd.sizeOf24 rfl hK rfl (hS.cells_of (m := 11) (.head _) rfl)) fun a hK => ?_
    have hS := hS.pk1
    refine sl_storeA (vs := [.int .i64 3, .int .i64 0, .string (⟨#[]⟩ : ByteArray), .int .i64 0, .int .i64 0, .int .i64 0, .int .i64 0, .int .i64 0, .int .i64 0, .int .i64 0, .int .i64 0]) (c' := [.int .i64 3, .int .i64 0, .string (⟨#[]⟩ : ByteArray), .int .i64 0, .int .i64 0, .int .i64 0, .int .i64 0, .int .i64 0, .int .i64 0, .int .i64 0, .int .i64 0]) Tryd.sizeOf24 hS hK rfl rfl rfl rfl (all_cons rfl (all_cons rfl (all_cons rfl (all_cons rfl (all_cons rfl (all_cons rfl (all_cons rfl (all_cons rfl (all_cons rfl (all_cons rfl (all_cons rfl (all_nil)))))))))))) (Nat.le_of_ble_eq_true rfl) rfl fun a w hS hK => ?_
    refine wpList_nil ?_
    obtain rfl := Option.some.inj H
    refine wp_ret ?_
    repeat (first | refine ret_then ?_ | refine ret_block ?_ | refine ret_scope ?_)
    exact ret_1 Tryd.results28 hK (rv_cell (c := [.int .i64 3, .int .i64 0, .string (⟨#[]⟩ : ByteArray), .int .i64 0, .int .i64 0, .int .i64 0, .int .i64 0, .int .i64 0, .int .i64 0, .int .i64 0, .int .i64 0]) Tryd.isAgg24 Tryd.sizeOf24 hS (.head _) rfl hK rfl) ⟨rfl, hS.bel⟩

/-! ### catchment/value.Bucket: function 25 -/
set_option maxHeartbeats 4000000 in
set_option maxRecDepth 100000 in
theorem value_Bucket.calls (a0 : Int) {r : api_Value} (H : value_Bucket a0 = some r) (w0 : World) : CallsV Tryd.prog 25 #[.int .i64 a0] w0 (.agg #[.int .i64 r.Kind, .int .i64 r.N, .string r.S, .int .i64 r.H.a0, .int .i64 r.H.a1, .int .i64 r.H.a2, .int .i64 r.H.a3, .int .i64 r.H.a4, .int .i64 r.H.a5, .int .i64 r.H.a6, .int .i64 r.H.a7]) := by
  unfold value_Bucket at H
  refine enter (args := [.int .i64 a0]) Tryd.func25 rfl Tryd.ntmps25 rfl fun a hK => ?_
  have hS := St.init (R := fun _ => none) (w := w0) (fun _ _ h => by cases h)
  have hRL := RLe.refl (M := []) w0 (fun _ => none)
  refine wp_seq ?_
  refine wp_region_lit ?_
  refine sl_alloc Tryd.zeroValue24 hS hK (by decide) rfl rfl fun a w b_1 hS hK => ?_
  refine wpList_nil ?_
  refine wp_seq ?_
  refine wp_region_lit ?_
  refine sl hK (by decide) rfl rfl (r_buildC (ps := [(0, .int .i64 4)]) (c := [.int .i64 4, .int .i64 0, .string (⟨#[]⟩ : ByteArray), .int .i64 0, .int .i64 0, .int .i64 0, .int .i64 0, .int .i64 0, .int .i64 0, .int .i64 0, .int .i64 0]) Tryd.underlying24 Tryd.zeroValue24 places24 hK rfl (pc_cons rfl pc_nil) rfl rfl) fun a hK => ?_
  refine sl_alloc Tryd.zeroValue24 hS hK (by decide) rfl rfl fun a w b_2 hS hK => ?_
  refine sl_storeA (vs := [.int .i64 4, .int .i64 0, .string (⟨#[]⟩ : ByteArray), .int .i64 0, .int .i64 0, .int .i64 0, .int .i64 0, .int .i64 0, .int .i64 0, .int .i64 0, .int .i64 0]) (c' := [.int .i64 4, .int .i64 0, .string (⟨#[]⟩ : ByteArray), .int .i64 0, .int .i64 0, .int .i64 0, .int .i64 0, .int .i64 0, .int .i64 0, .int .i64 0, .int .i64 0]) Tryd.sizeOf24 hS hK rfl rfl rfl rfl (all_cons rfl (all_cons rfl (all_cons rfl (all_cons rfl (all_cons rfl (all_cons rfl (all_cons rfl (all_cons rfl (all_cons rfl (all_cons rfl (all_cons rfl (all_nil)))))))))))) (Nat.le_of_ble_eq_true rfl) rfl fun a w hS hK => ?_
  refine wpList_nil ?_
  refine wp_seq ?_
  refine wp_region_lit ?_
  refine sl hK (by decide) rfl rfl (r_assign hK rfl) fun a hK => ?_
  refine wpList_nil ?_
  refine wp_seq ?_
  refine wp_seq ?_
  refine wp_region_lit ?_
  refine sl hK (by decide) rfl rfl (r_assign hK rfl) fun a hK => ?_
  refine wpList_nil ?_
  refine wp_block ?_
  refine wp_loop_k (fun k_l0 a w => ∃ (x_5 : Int) (x_6 : Int), value_Bucket.l0 a0 k_l0 x_5 x_6 = some r ∧ Kn 22 a [(0, .int .i64 a0), (2, .pointer (some ⟨b_1, 0, none⟩)), (3, .pointer (some ⟨b_2, 0, none⟩)), (4, .int .i64 x_5), (5, .int .i64 x_6)] ∧ St [] w0 w (fun _ => none) [.cells b_1 [.int .i64 0, .int .i64 0, .string (⟨#[]⟩ : ByteArray), .int .i64 0, .int .i64 0, .int .i64 0, .int .i64 0, .int .i64 0, .int .i64 0, .int .i64 0, .int .i64 0] 24, .cells b_2 [.int .i64 4, .int .i64 0, .string (⟨#[]⟩ : ByteArray), .int .i64 0, .int .i64 0, .int .i64 0, .int .i64 0, .int .i64 0, .int .i64 0, .int .i64 0, .int .i64 0] 24]) (((7 : Int) - 0).toNat + 1) ?_ ?_
  · have hS := hS.pk1
    exact ⟨0, 1, H, hK.sub (all_cons rfl (all_cons rfl (all_cons rfl (all_cons rfl (all_cons rfl (all_nil)))))), hS⟩
  · rintro k_l0 a w ⟨x_5, x_6, H, hK, hS⟩
    cases k_l0 with
    | zero => cases H
    | succ k_l0 =>
    rw [value_Bucket.l0.eq_2] at H
    refine wp_seq ?_
    refine wp_seq ?_
    refine wp_mid (fun a w => ∃ (x_14 : Bool), value_Bucket.j1 (value_Bucket.l0 a0 k_l0) x_5 x_6 x_14 = some r ∧ Kn 22 a [(0, .int .i64 a0), (2, .pointer (some ⟨b_1, 0, none⟩)), (3, .pointer (some ⟨b_2, 0, none⟩)), (4, .int .i64 x_5), (5, .int .i64 x_6), (13, .bool x_14)] ∧ St [] w0 w (fun _ => none) [.cells b_1 [.int .i64 0, .int .i64 0, .string (⟨#[]⟩ : ByteArray), .int .i64 0, .int .i64 0, .int .i64 0, .int .i64 0, .int .i64 0, .int .i64 0, .int .i64 0, .int .i64 0] 24, .cells b_2 [.int .i64 4, .int .i64 0, .string (⟨#[]⟩ : ByteArray), .int .i64 0, .int .i64 0, .int .i64 0, .int .i64 0, .int .i64 0, .int .i64 0, .int .i64 0, .int .i64 0] 24]) ?_ ?_
    · refine wp_region_lit ?_
      refine sl hK (by decide) rfl rfl (r_move hK rfl) fun a hK => ?_
      refine sl hK (by decide) rfl rfl (r_ibin hK rfl rfl rfl) fun a hK => ?_
      refine sl hK (by decide) rfl rfl (r_move hK rfl) fun a hK => ?_
      rcases or_b (decide (x_5 < 7)) with hb_16 | hb_16
      · rw [ifb_t hb_16] at H
        refine sl hK (by decide) (wtt hb_16) rfl (r_move hK rfl) fun a hK => ?_
        refine sl hK (by decide) (wtt hb_16) rfl (r_move hK rfl) fun a hK => ?_
        refine sl hK (by decide) (wtt hb_16) rfl (r_ibin hK rfl rfl rfl) fun a hK => ?_
        refine sl hK (by decide) rfl rfl (r_pick_t hb_16 hK rfl rfl) fun a hK => ?_
        refine wpList_nil ?_
        have hS := hS.pk1
        have hS := hS.pk1
        exact ⟨(decide (a0 ≥ x_6)), H, hK.sub (all_cons rfl (all_cons rfl (all_cons rfl (all_cons rfl (all_cons rfl (all_cons rfl (all_nil))))))), hS⟩
      · rw [ifb_f hb_16] at H
        refine sl_skip hK (by decide) (wtf hb_16) rfl fun a hK => ?_
        refine sl_skip hK (by decide) (wtf hb_16) rfl fun a hK => ?_
        refine sl_skip hK (by decide) (wtf hb_16) rfl fun a hK => ?_
        refine sl hK (by decide) rfl rfl (r_pick_f hb_16 hK rfl rfl) fun a hK => ?_
        refine wpList_nil ?_
        have hS := hS.pk1
        have hS := hS.pk1
        exact ⟨false, H, hK.sub (all_cons rfl (all_cons rfl (all_cons rfl (all_cons rfl (all_cons rfl (all_cons rfl (all_nil))))))), hS⟩
    · rintro a w ⟨x_14, H, hK, hS⟩
      unfold value_Bucket.j1 at H
      refine wp_cond_split (hK.ev rfl) (fun (hb_17 : x_14 = true) => ?_) (fun (hb_17 : x_14 = false) => ?_)
      · rw [ifb_t hb_17] at H
        refine wp_skip ?_
        refine wp_seq ?_
        refine wp_block ?_
        refine wp_region_lit ?_
        refine sl hK (by decide) rfl rfl (r_move hK rfl) fun a hK => ?_
        refine sl hK (by decide) rfl rfl (r_ibin hK rfl rfl rfl) fun a hK => ?_
        refine sl hK (by decide) rfl rfl (r_assign hK rfl) fun a hK => ?_
        refine wpList_nil ?_
        refine wp_region_lit ?_
        refine sl hK (by decide) rfl rfl (r_move hK rfl) fun a hK => ?_
        refine sl hK (by decide) rfl rfl (r_ibin hK rfl rfl rfl) fun a hK => ?_
        refine sl hK (by decide) rfl rfl (r_assign hK rfl) fun a hK => ?_
        refine wpList_nil ?_
        have hS := hS.pk1
        have hS := hS.pk1
        exact ⟨_, Nat.lt_succ_self _, (IntKind.i64.wrap (x_5 + 1)), (IntKind.i64.wrap (x_6 * 10)), H, hK.sub (all_cons rfl (all_cons rfl (all_cons rfl (all_cons rfl (all_cons rfl (all_nil)))))), hS⟩
      · rw [ifb_f hb_17] at H
        refine wp_exit ?_
        refine wp_seq ?_
        refine wp_region_lit ?_
        refine sl hK (by decide) rfl rfl (r_move hK rfl) fun a hK => ?_
        refine sl hK (by decide) rfl rfl (r_fieldAddr Tryd.underlying24 rfl Tryd.sizeOf22 hK rfl) fun a hK => ?_
        obtain ⟨y_18, h_19, H⟩ := bind_some H
        refine sl hK (by decide) rfl rfl (r_indexAddr_arr Tryd.underlying22 Tryd.sizeOf3 hK rfl rfl (Arr8.ix_lt h_19).1 (Arr8.ix_lt h_19).2) fun a hK => ?_
        obtain ⟨y_20, h_21, H⟩ := bind_some H
        have hS := hS.pk1
        refine sl_store1 (c' := [.int .i64 4, .int .i64 0, .string (⟨#[]⟩ : ByteArray), .int .i64 y_20.a0, .int .i64 y_20.a1, .int .i64 y_20.a2, .int .i64 y_20.a3, .int .i64 y_20.a4, .int .i64 y_20.a5, .int .i64 y_20.a6, .int .i64 y_20.a7]) Tryd.sizeOf3 hS hK rfl rfl rfl rfl (Arr8.put_lt h_21 (Nat.le_of_ble_eq_true rfl)) (Arr8.put_cells h_21 [.int .i64 4, .int .i64 0, .string (⟨#[]⟩ : ByteArray)] [] rfl) fun a w hS hK => ?_
        refine wpList_nil ?_
        refine wp_seq ?_
        refine wp_region_lit ?_
        refine sl hK (by decide) rfl rfl (r_loadA (cs := [.int .i64 4, .int .i64 0, .string (⟨#[]⟩ : ByteArray), .int .i64 y_20.a0, .int .i64 y_20.a1, .int .i64 y_20.a2, .int .i64 y_20.a3, .int .i64 y_20.a4, .int .i64 y_20.a5, .int .i64 y_20.a6, .int .i64 y_20.a7]) Tryd.isAgg24 Tryd.sizeOf24 rfl hK rfl (hS.cells_of (m := 11) (.head _) rfl)) fun a hK => ?_
        have hS := hS.pk1
        refine sl_storeA (vs := [.int .i64 4, .int .i64 0, .string (⟨#[]⟩ : ByteArray), .int .i64 y_20.a0, .int .i64 y_20.a1, .int .i64 y_20.a2, .int .i64 y_20.a3, .int .i64 y_20.a4, .int .i64 y_20.a5, .int .i64 y_20.a6, .int .i64 y_20.a7]) (c' := [.int .i64 4, .int .i64 0, .string (⟨#[]⟩ : ByteArray), .int .i64 y_20.a0, .int .i64 y_20.a1, .int .i64 y_20.a2, .int .i64 y_20.a3, .int .i64 y_20.a4, .int .i64 y_20.a5, .int .i64 y_20.a6, .int .i64 y_20.a7]) Tryd.sizeOf24 hS hK rfl rfl rfl rfl (all_cons rfl (all_cons rfl (all_cons rfl (all_cons rfl (all_cons rfl (all_cons rfl (all_cons rfl (all_cons rfl (all_cons rfl (all_cons rfl (all_cons rfl (all_nil)))))))))))) (Nat.le_of_ble_eq_true rfl) rfl fun a w hS hK => ?_
        refine wpList_nil ?_
        obtain rfl := Option.some.inj H
        refine wp_ret ?_
        repeat (first | refine ret_then ?_ | refine ret_block ?_ | refine ret_scope ?_)
        exact ret_1 Tryd.results25 hK (rv_cell (c := [.int .i64 4, .int .i64 0, .string (⟨#[]⟩ : ByteArray), .int .i64 y_20.a0, .int .i64 y_20.a1, .int .i64 y_20.a2, .int .i64 y_20.a3, .int .i64 y_20.a4, .int .i64 y_20.a5, .int .i64 y_20.a6, .int .i64 y_20.a7]) Tryd.isAgg24 Tryd.sizeOf24 hS (.head _) rfl hK rfl) ⟨rfl, hS.bel⟩

/-! ### strconv.Itoa: function 32 -/
set_option maxHeartbeats 4000000 in
set_option maxRecDepth 100000 in
theorem strconv_Itoa.calls (a0 : Int) {w0 : World} {RA : Hp} (hRA : RA.sub w0) (hG : GF RA) {r : ByteArray} (H : strconv_Itoa a0 = some r) : CallsV Tryd.prog 32 #[.int .i64 a0] w0 (.string r) := by
  unfold strconv_Itoa at H
  split at H
  · rename_i hs
    obtain rfl := Option.some.inj H
    exact (Any.strconv_Itoa itoL32 a0 hs.1 hs.2 w0 (GF_pow10 hG hRA)).mono fun e w' ⟨he, k, os, hw⟩ => ⟨he, by subst hw; exact Bel.of_grow _ _ _⟩
  · cases H

/-! ### internal/strconv.FormatBool: function 43 -/
set_option maxHeartbeats 4000000 in
set_option maxRecDepth 100000 in
theorem internal_strconv_FormatBool.calls (a0 : Bool) {r : ByteArray} (H : internal_strconv_FormatBool a0 = some r) (w0 : World) : CallsV Tryd.prog 43 #[.bool a0] w0 (.string r) := by
  unfold internal_strconv_FormatBool at H
  refine enter (args := [.bool a0]) Tryd.func43 rfl Tryd.ntmps43 rfl fun a hK => ?_
  have hS := St.init (R := fun _ => none) (w := w0) (fun _ _ h => by cases h)
  have hRL := RLe.refl (M := []) w0 (fun _ => none)
  refine wp_seq ?_
  refine wp_region_lit ?_
  refine sl hK (by decide) rfl rfl (r_assign hK rfl) fun a hK => ?_
  refine wpList_nil ?_
  refine wp_seq ?_
  refine wp_seq ?_
  refine wp_region_lit ?_
  refine sl hK (by decide) rfl rfl (r_move hK rfl) fun a hK => ?_
  refine wpList_nil ?_
  refine wp_cond_split (hK.ev rfl) (fun (hb_1 : a0 = true) => ?_) (fun (hb_1 : a0 = false) => ?_)
  · rw [ifb_t hb_1] at H
    refine wp_seq ?_
    refine wp_region_lit ?_
    refine sl hK (by decide) rfl rfl (r_assign hK rfl) fun a hK => ?_
    refine wpList_nil ?_
    obtain rfl := Option.some.inj H
    refine wp_ret ?_
    repeat (first | refine ret_then ?_ | refine ret_block ?_ | refine ret_scope ?_)
    exact ret_1 Tryd.results43 hK (rv_tmp hK rfl) ⟨rfl, hS.bel⟩
  · rw [ifb_f hb_1] at H
    refine wp_skip ?_
    refine wp_seq ?_
    refine wp_region_lit ?_
    refine sl hK (by decide) rfl rfl (r_assign hK rfl) fun a hK => ?_
    refine wpList_nil ?_
    obtain rfl := Option.some.inj H
    refine wp_ret ?_
    repeat (first | refine ret_then ?_ | refine ret_block ?_ | refine ret_scope ?_)
    exact ret_1 Tryd.results43 hK (rv_tmp hK rfl) ⟨rfl, hS.bel⟩

/-! ### strconv.FormatBool: function 33 -/
set_option maxHeartbeats 4000000 in
set_option maxRecDepth 100000 in
theorem strconv_FormatBool.calls (a0 : Bool) {r : ByteArray} (H : strconv_FormatBool a0 = some r) (w0 : World) : CallsV Tryd.prog 33 #[.bool a0] w0 (.string r) := by
  unfold strconv_FormatBool at H
  refine enter (args := [.bool a0]) Tryd.func33 rfl Tryd.ntmps33 rfl fun a hK => ?_
  have hS := St.init (R := fun _ => none) (w := w0) (fun _ _ h => by cases h)
  have hRL := RLe.refl (M := []) w0 (fun _ => none)
  refine wp_seq ?_
  refine wp_region_lit ?_
  refine sl hK (by decide) rfl rfl (r_assign hK rfl) fun a hK => ?_
  refine wpList_nil ?_
  refine wp_seq ?_
  refine wp_region_lit ?_
  refine sl hK (by decide) rfl rfl (r_move hK rfl) fun a hK => ?_
  obtain ⟨y_1, h_2, H⟩ := bind_some H
  refine sl_callV Tryd.call43 hS hK (by decide) rfl rfl rfl (internal_strconv_FormatBool.calls a0 h_2 _) fun a w hS hK => ?_
  refine sl hK (by decide) rfl rfl (r_assign hK rfl) fun a hK => ?_
  refine wpList_nil ?_
  obtain rfl := Option.some.inj H
  refine wp_ret ?_
  repeat (first | refine ret_then ?_ | refine ret_block ?_ | refine ret_scope ?_)
  exact ret_1 Tryd.results33 hK (rv_tmp hK rfl) ⟨rfl, hS.bel⟩

/-! ### strings.Join: function 34 -/
set_option maxHeartbeats 4000000 in
set_option maxRecDepth 100000 in
theorem strings_Join.calls (a0 : List ByteArray) (a1 : ByteArray) {w0 : World} {RA : Hp} {v0_0 : Value} (hRA : RA.sub w0) (h0_0 : SlR tyStr RA v0_0 a0) {r : ByteArray} (H : strings_Join a0 a1 = some r) : CallsV Tryd.prog 34 #[v0_0, .string a1] w0 (.string r) := by
  unfold strings_Join at H
  split at H
  · rename_i hs
    obtain rfl := Option.some.inj H
    obtain ⟨ad, c, rfl, hc, hcell⟩ := h0_0
    by_cases hne : a0 = []
    · subst hne
      exact (Any.strings_Join_none joiL34 joiL34_x ad c a1 w0).mono fun e w' ⟨he, hw⟩ => ⟨by rw [he]; rfl, by rw [hw]; exact Bel.refl _ _⟩
    · obtain ⟨b, o, rfl, hx⟩ := hcell hne
      have hcs : ∀ (j : Nat) x, a0[j]? = some x → w0.cell? ⟨b, o + j, none⟩ = some (.string x) := fun j x hj => by
        obtain ⟨cs, h1, h2⟩ := hx j x hj
        cases h1
        have := hRA.cell (h2 0 _ rfl)
        simpa [tyStr, Ty.flat] using this
      have hb : b < w0.heap.size := by
        obtain ⟨x, hx0⟩ : ∃ x, a0[0]? = some x := by cases a0 with
          | nil => exact absurd rfl hne
          | cons x r => exact ⟨x, rfl⟩
        exact Eng.cell_lt (hcs 0 x hx0)
      exact (Any.strings_Join joiL34 joiL34_x b o c a0 a1 w0 hcs hb hs.1 hc hs.2).mono fun e w' ⟨he, hw⟩ => ⟨he, Bel.of_below hw trivial⟩
  · cases H

/-! ### strings.ReplaceAll: function 35 -/
set_option maxHeartbeats 4000000 in
set_option maxRecDepth 100000 in
theorem strings_ReplaceAll.calls (a0 : ByteArray) (a1 : ByteArray) (a2 : ByteArray) {w0 : World} {RA : Hp} (hRA : RA.sub w0) (hG : GF RA) {r : ByteArray} (H : strings_ReplaceAll a0 a1 a2 = some r) : CallsV Tryd.prog 35 #[.string a0, .string a1, .string a2] w0 (.string r) := by
  unfold strings_ReplaceAll at H
  split at H
  · rename_i hs
    obtain rfl := Option.some.inj H
    obtain ⟨gm, hgm⟩ := GF_maxlen hG hRA
    exact (Any.strings_ReplaceAll repL35 repL35_x a0 a1 a2 gm w0 hs.1 hgm hs.2.1 hs.2.2).mono fun e w' ⟨he, hw⟩ => ⟨he, Bel.of_below hw trivial⟩
  · cases H

/-! ### catchment/value.Text: function 16 -/
set_option maxHeartbeats 4000000 in
set_option maxRecDepth 100000 in
theorem value_Text.calls (a0 : api_Value) {w0 : World} {RA : Hp} (hRA : RA.sub w0) (hG : GF RA) {r : ByteArray} (H : value_Text a0 = some r) : CallsV Tryd.prog 16 #[.agg #[.int .i64 a0.Kind, .int .i64 a0.N, .string a0.S, .int .i64 a0.H.a0, .int .i64 a0.H.a1, .int .i64 a0.H.a2, .int .i64 a0.H.a3, .int .i64 a0.H.a4, .int .i64 a0.H.a5, .int .i64 a0.H.a6, .int .i64 a0.H.a7]] w0 (.string r) := by
  unfold value_Text at H
  refine enter (args := [.agg #[.int .i64 a0.Kind, .int .i64 a0.N, .string a0.S, .int .i64 a0.H.a0, .int .i64 a0.H.a1, .int .i64 a0.H.a2, .int .i64 a0.H.a3, .int .i64 a0.H.a4, .int .i64 a0.H.a5, .int .i64 a0.H.a6, .int .i64 a0.H.a7]]) Tryd.func16 rfl Tryd.ntmps16 rfl fun a hK => ?_
  have hS := St.init (R := fun _ => none) (w := w0) (fun _ _ h => by cases h)
  have hRL := RLe.refl (M := []) w0 (fun _ => none)
  refine wp_seq ?_
  refine wp_region_lit ?_
  refine sl_box hS hK (by decide) rfl rfl (c := [.int .i64 a0.Kind, .int .i64 a0.N, .string a0.S, .int .i64 a0.H.a0, .int .i64 a0.H.a1, .int .i64 a0.H.a2, .int .i64 a0.H.a3, .int .i64 a0.H.a4, .int .i64 a0.H.a5, .int .i64 a0.H.a6, .int .i64 a0.H.a7]) rfl fun a w b_1 hS hK => ?_
  refine sl hK (by decide) rfl rfl (r_assign hK rfl) fun a hK => ?_
  refine wpList_nil ?_
  refine wp_seq ?_
  refine wp_seq ?_
  refine wp_region_lit ?_
  refine sl hK (by decide) rfl rfl (r_loadA (cs := [.int .i64 a0.Kind, .int .i64 a0.N, .string a0.S, .int .i64 a0.H.a0, .int .i64 a0.H.a1, .int .i64 a0.H.a2, .int .i64 a0.H.a3, .int .i64 a0.H.a4, .int .i64 a0.H.a5, .int .i64 a0.H.a6, .int .i64 a0.H.a7]) Tryd.isAgg24 Tryd.sizeOf24 rfl hK rfl (hS.cells_of (m := 11) (.head _) rfl)) fun a hK => ?_
  obtain ⟨y_2, h_3, H⟩ := bind_some H
  refine sl_callV Tryd.call14 hS hK (by decide) rfl rfl rfl (value_Valid.calls a0 h_3 _) fun a w hS hK => ?_
  refine sl hK (by decide) rfl rfl (r_un hK rfl (u_not _)) fun a hK => ?_
  refine wpList_nil ?_
  refine wp_cond_split (hK.ev rfl) (fun (hb_4 : (!y_2) = true) => ?_) (fun (hb_4 : (!y_2) = false) => ?_)
  · rw [ifb_t hb_4] at H
    refine wp_seq ?_
    refine wp_region_lit ?_
    refine sl hK (by decide) rfl rfl (r_assign hK rfl) fun a hK => ?_
    refine wpList_nil ?_
    obtain rfl := Option.some.inj H
    refine wp_ret ?_
    repeat (first | refine ret_then ?_ | refine ret_block ?_ | refine ret_scope ?_)
    exact ret_1 Tryd.results16 hK (rv_tmp hK rfl) ⟨rfl, hS.bel⟩
  · rw [ifb_f hb_4] at H
    refine wp_skip ?_
    refine wp_seq ?_
    refine wp_seq ?_
    refine wp_region_lit ?_
    refine sl hK (by decide) rfl rfl (r_fieldAddr Tryd.underlying24 rfl Tryd.sizeOf3 hK rfl) fun a hK => ?_
    refine sl hK (by decide) rfl rfl (r_load Tryd.isAgg3 hK rfl (hS.cell (.head _) rfl)) fun a hK => ?_
    refine wpList_nil ?_
    refine wp_block ?_
    refine wp_seq ?_
    refine wp_region_lit ?_
    refine sl hK (by decide) rfl rfl (r_ibin hK rfl rfl rfl) fun a hK => ?_
    refine sl hK (by decide) rfl rfl (r_assign hK rfl) fun a hK => ?_
    refine wpList_nil ?_
    refine wp_cond_split (hK.ev rfl) (fun (hb_5 : (a0.Kind == 1) = true) => ?_) (fun (hb_5 : (a0.Kind == 1) = false) => ?_)
    · rw [ifb_t hb_5] at H
      refine wp_seq ?_
      refine wp_region_lit ?_
      refine sl hK (by decide) rfl rfl (r_fieldAddr Tryd.underlying24 rfl Tryd.sizeOf3 hK rfl) fun a hK => ?_
      refine sl hK (by decide) rfl rfl (r_load Tryd.isAgg3 hK rfl (hS.cell (.head _) rfl)) fun a hK => ?_
      obtain ⟨y_6, h_7, H⟩ := bind_some H
      refine sl_callV Tryd.call32 hS hK (by decide) rfl rfl rfl (strconv_Itoa.calls a0.N (lentOf_sub [] _) (GF.mono (hS.raLe0 hRA nil_not) hG) h_7) fun a w hS hK => ?_
      refine sl hK (by decide) rfl rfl (r_assign hK rfl) fun a hK => ?_
      refine wpList_nil ?_
      obtain rfl := Option.some.inj H
      refine wp_ret ?_
      repeat (first | refine ret_then ?_ | refine ret_block ?_ | refine ret_scope ?_)
      exact ret_1 Tryd.results16 hK (rv_tmp hK rfl) ⟨rfl, hS.bel⟩
    · rw [ifb_f hb_5] at H
      refine wp_seq ?_
      refine wp_region_lit ?_
      refine sl hK (by decide) rfl rfl (r_ibin hK rfl rfl rfl) fun a hK => ?_
      refine sl hK (by decide) rfl rfl (r_assign hK rfl) fun a hK => ?_
      refine wpList_nil ?_
      refine wp_cond_split (hK.ev rfl) (fun (hb_8 : (a0.Kind == 3) = true) => ?_) (fun (hb_8 : (a0.Kind == 3) = false) => ?_)
      · rw [ifb_t hb_8] at H
        refine wp_seq ?_
        refine wp_region_lit ?_
        refine sl hK (by decide) rfl rfl (r_fieldAddr Tryd.underlying24 rfl Tryd.sizeOf3 hK rfl) fun a hK => ?_
        refine sl hK (by decide) rfl rfl (r_load Tryd.isAgg3 hK rfl (hS.cell (.head _) rfl)) fun a hK => ?_
        refine sl hK (by decide) rfl rfl (r_ibin hK rfl rfl rfl) fun a hK => ?_
        obtain ⟨y_9, h_10, H⟩ := bind_some H
        refine sl_callV Tryd.call33 hS hK (by decide) rfl rfl rfl (strconv_FormatBool.calls (a0.N == 1) h_10 _) fun a w hS hK => ?_
        refine sl hK (by decide) rfl rfl (r_assign hK rfl) fun a hK => ?_
        refine wpList_nil ?_
        obtain rfl := Option.some.inj H
        refine wp_ret ?_
        repeat (first | refine ret_then ?_ | refine ret_block ?_ | refine ret_scope ?_)
        exact ret_1 Tryd.results16 hK (rv_tmp hK rfl) ⟨rfl, hS.bel⟩
      · rw [ifb_f hb_8] at H
        refine wp_seq ?_
        refine wp_region_lit ?_
        refine sl hK (by decide) rfl rfl (r_ibin hK rfl rfl rfl) fun a hK => ?_
        refine sl hK (by decide) rfl rfl (r_assign hK rfl) fun a hK => ?_
        refine wpList_nil ?_
        refine wp_cond_split (hK.ev rfl) (fun (hb_11 : (a0.Kind == 4) = true) => ?_) (fun (hb_11 : (a0.Kind == 4) = false) => ?_)
        · rw [ifb_t hb_11] at H
          refine wp_seq ?_
          refine wp_region_lit ?_
          refine sl hK (by decide) rfl rfl (r_assign hK rfl) fun a hK => ?_
          refine wpList_nil ?_
          refine wp_seq ?_
          refine wp_seq ?_
          refine wp_region_lit ?_
          refine sl hK (by decide) rfl rfl (r_fieldAddr Tryd.underlying24 rfl Tryd.sizeOf22 hK rfl) fun a hK => ?_
          refine sl hK (by decide) rfl rfl (r_loadA (cs := [.int .i64 a0.H.a0, .int .i64 a0.H.a1, .int .i64 a0.H.a2, .int .i64 a0.H.a3, .int .i64 a0.H.a4, .int .i64 a0.H.a5, .int .i64 a0.H.a6, .int .i64 a0.H.a7]) Tryd.isAgg22 Tryd.sizeOf22 rfl hK rfl (hS.cells_of (m := 8) (.head _) rfl)) fun a hK => ?_
          refine sl hK (by decide) rfl rfl (r_move hK rfl) fun a hK => ?_
          refine wpList_nil ?_
          refine wp_block ?_
          refine wp_loop_k (fun k_l0 a w => ∃ (x_25 : List ByteArray) (x_29 : Int) (v_26 : Value) (cs_27 : List Value), value_Text.l0 a0 k_l0 x_25 x_29 = some r ∧ Reps tyStr (fun _ => none) cs_27 x_25 ∧ Kn 47 a [(3, v_26), (26, .agg #[.int .i64 a0.H.a0, .int .i64 a0.H.a1, .int .i64 a0.H.a2, .int .i64 a0.H.a3, .int .i64 a0.H.a4, .int .i64 a0.H.a5, .int .i64 a0.H.a6, .int .i64 a0.H.a7]), (27, .int .i64 x_29)] ∧ St [] w0 w (fun _ => none) [.row 9 1 v_26 x_25.length cs_27]) (((8 : Int) - 0).toNat + 1) ?_ ?_
          · have hS := hS.row_nil 9 1
            have hq_44 : Reps tyStr (fun _ => none) [] ([] : List ByteArray) := Reps.nil _ _
            exact ⟨[], 0, _, _, H, hq_44, hK.sub (all_cons rfl (all_cons rfl (all_cons rfl (all_nil)))), hS.trunc 1⟩
          · rintro k_l0 a w ⟨x_25, x_29, v_26, cs_27, H, hq_28, hK, hS⟩
            cases k_l0 with
            | zero => cases H
            | succ k_l0 =>
            rw [value_Text.l0.eq_2] at H
            refine wp_seq ?_
            refine wp_region_lit ?_
            refine sl hK (by decide) rfl rfl (r_ibin hK rfl rfl rfl) fun a hK => ?_
            refine wpList_nil ?_
            refine wp_seq ?_
            refine wp_cond_split (hK.ev rfl) (fun (hb_45 : (decide (x_29 < 8)) = true) => ?_) (fun (hb_45 : (decide (x_29 < 8)) = false) => ?_)
            · rw [ifb_t hb_45] at H
              refine wp_skip ?_
              refine wp_seq ?_
              refine wp_block ?_
              refine wp_seq ?_
              refine wp_region_lit ?_
              obtain ⟨y_46, h_47, H⟩ := bind_some H
              refine sl hK (by decide) rfl rfl (r_index_arr Tryd.underlying22 Tryd.isAgg3 Tryd.sizeOf3 (Arr8.ix_lt h_47).1 (Arr8.ix_lt h_47).2 (Arr8.ix_agg h_47) hK rfl rfl) fun a hK => ?_
              refine sl hK (by decide) rfl rfl (r_assign hK rfl) fun a hK => ?_
              refine wpList_nil ?_
              refine wp_region_lit ?_
              refine sl hK (by decide) rfl rfl (r_move hK rfl) fun a hK => ?_
              refine sl hK (by decide) rfl rfl (r_move hK rfl) fun a hK => ?_
              obtain ⟨y_48, h_49, H⟩ := bind_some H
              refine sl_callV Tryd.call32 hS hK (by decide) rfl rfl rfl (strconv_Itoa.calls y_46 (lentOf_sub [] _) (GF.mono (hS.raLe0 hRA nil_not) hG) h_49) fun a w hS hK => ?_
              refine sl_buildSliceF (zc := [.string (⟨#[]⟩ : ByteArray)]) (ps := [(0, .string y_48)]) (c := [.string y_48]) [[.string y_48]] Tryd.underlying45 Tryd.sizeOf9 Tryd.zeroValue9 rfl (pc_cons rfl pc_nil) rfl rfl (Nat.le_of_ble_eq_true rfl) rfl (all_cons rfl (all_nil)) rfl hS hK (by decide) rfl fun a w b_50 hS hK => ?_
              obtain ⟨y_51, h_52, H⟩ := bind_some H
              have hS := hS.pk1
              refine sl_append_L (ty := tyStr) (ys := [y_48]) elT45 (by decide) rfl hq_28 rfl (Reps.cons (show Ty.rep tyStr _ [.string y_48] y_48 from rfl) (Reps.nil _ _)) rfl h_52 hS hK (by decide) rfl rfl rfl fun a w v_53 cs_54 hq_55 hS hK => ?_
              refine sl hK (by decide) rfl rfl (r_assign hK rfl) fun a hK => ?_
              refine wpList_nil ?_
              refine wp_region_lit ?_
              refine sl hK (by decide) rfl rfl (r_ibin hK rfl rfl rfl) fun a hK => ?_
              refine sl hK (by decide) rfl rfl (r_move hK rfl) fun a hK => ?_
              refine wpList_nil ?_
              exact ⟨_, Nat.lt_succ_self _, y_51, (IntKind.i64.wrap (x_29 + 1)), _, _, H, hq_55, hK.sub (all_cons rfl (all_cons rfl (all_cons rfl (all_nil)))), hS⟩
            · rw [ifb_f hb_45] at H
              refine wp_exit ?_
              refine wp_seq ?_
              refine wp_region_lit ?_
              refine sl hK (by decide) rfl rfl (r_move hK rfl) fun a hK => ?_
              obtain ⟨y_57, h_58, H⟩ := bind_some H
              refine sl_callV Tryd.call34 hS hK (by decide) rfl rfl rfl (strings_Join.calls x_25 (⟨#[32]⟩ : ByteArray) (lentOf_sub [] _) (hS.lend_row0 (.head _) hq_28 rfl rfl) h_58) fun a w hS hK => ?_
              rcases or_b (decide ((⟨#[91]⟩ : ByteArray).size + y_57.size ≤ 9223372036854775807)) with hn_59 | hn_59
              · rw [ifb_t hn_59] at H
                refine sl hK (by decide) rfl rfl (r_sadd hK rfl rfl (of_decide_eq_true hn_59)) fun a hK => ?_
                rcases or_b (decide (((⟨#[91]⟩ : ByteArray) ++ y_57).size + (⟨#[93]⟩ : ByteArray).size ≤ 9223372036854775807)) with hn_60 | hn_60
                · rw [ifb_t hn_60] at H
                  refine sl hK (by decide) rfl rfl (r_sadd hK rfl rfl (of_decide_eq_true hn_60)) fun a hK => ?_
                  refine sl hK (by decide) rfl rfl (r_assign hK rfl) fun a hK => ?_
                  refine wpList_nil ?_
                  obtain rfl := Option.some.inj H
                  refine wp_ret ?_
                  repeat (first | refine ret_then ?_ | refine ret_block ?_ | refine ret_scope ?_)
                  exact ret_1 Tryd.results16 hK (rv_tmp hK rfl) ⟨rfl, hS.bel⟩
                · rw [ifb_f hn_60] at H
                  cases H
              · rw [ifb_f hn_59] at H
                cases H
        · rw [ifb_f hb_11] at H
          refine wp_skip ?_
          refine wp_seq ?_
          refine wp_region_lit ?_
          refine sl hK (by decide) rfl rfl (r_fieldAddr Tryd.underlying24 rfl Tryd.sizeOf9 hK rfl) fun a hK => ?_
          refine sl hK (by decide) rfl rfl (r_load Tryd.isAgg9 hK rfl (hS.cell (.head _) rfl)) fun a hK => ?_
          obtain ⟨y_61, h_62, H⟩ := bind_some H
          refine sl_callV Tryd.call35 hS hK (by decide) rfl rfl rfl (strings_ReplaceAll.calls a0.S (⟨#[92]⟩ : ByteArray) (⟨#[92, 92]⟩ : ByteArray) (lentOf_sub [] _) (GF.mono (hS.raLe0 hRA nil_not) hG) h_62) fun a w hS hK => ?_
          refine sl hK (by decide) rfl rfl (r_assign hK rfl) fun a hK => ?_
          refine wpList_nil ?_
          refine wp_seq ?_
          refine wp_region_lit ?_
          refine sl hK (by decide) rfl rfl (r_move hK rfl) fun a hK => ?_
          obtain ⟨y_63, h_64, H⟩ := bind_some H
          refine sl_callV Tryd.call35 hS hK (by decide) rfl rfl rfl (strings_ReplaceAll.calls y_61 (⟨#[34]⟩ : ByteArray) (⟨#[92, 34]⟩ : ByteArray) (lentOf_sub [] _) (GF.mono (hS.raLe0 hRA nil_not) hG) h_64) fun a w hS hK => ?_
          rcases or_b (decide ((⟨#[34]⟩ : ByteArray).size + y_63.size ≤ 9223372036854775807)) with hn_65 | hn_65
          · rw [ifb_t hn_65] at H
            refine sl hK (by decide) rfl rfl (r_sadd hK rfl rfl (of_decide_eq_true hn_65)) fun a hK => ?_
            rcases or_b (decide (((⟨#[34]⟩ : ByteArray) ++ y_63).size + (⟨#[34]⟩ : ByteArray).size ≤ 9223372036854775807)) with hn_66 | hn_66
            · rw [ifb_t hn_66] at H
              refine sl hK (by decide) rfl rfl (r_sadd hK rfl rfl (of_decide_eq_true hn_66)) fun a hK => ?_
              refine sl hK (by decide) rfl rfl (r_assign hK rfl) fun a hK => ?_
              refine wpList_nil ?_
              obtain rfl := Option.some.inj H
              refine wp_ret ?_
              repeat (first | refine ret_then ?_ | refine ret_block ?_ | refine ret_scope ?_)
              exact ret_1 Tryd.results16 hK (rv_tmp hK rfl) ⟨rfl, hS.bel⟩
            · rw [ifb_f hn_66] at H
              cases H
          · rw [ifb_f hn_65] at H
            cases H

/-! ### catchment/value.Holds: function 20 -/
set_option maxHeartbeats 4000000 in
set_option maxRecDepth 100000 in
theorem value_Holds.calls (a0 : Int) (a1 : api_Value) (a2 : api_Value) {r : Bool} (H : value_Holds a0 a1 a2 = some r) (w0 : World) : CallsV Tryd.prog 20 #[.int .i64 a0, .agg #[.int .i64 a1.Kind, .int .i64 a1.N, .string a1.S, .int .i64 a1.H.a0, .int .i64 a1.H.a1, .int .i64 a1.H.a2, .int .i64 a1.H.a3, .int .i64 a1.H.a4, .int .i64 a1.H.a5, .int .i64 a1.H.a6, .int .i64 a1.H.a7], .agg #[.int .i64 a2.Kind, .int .i64 a2.N, .string a2.S, .int .i64 a2.H.a0, .int .i64 a2.H.a1, .int .i64 a2.H.a2, .int .i64 a2.H.a3, .int .i64 a2.H.a4, .int .i64 a2.H.a5, .int .i64 a2.H.a6, .int .i64 a2.H.a7]] w0 (.bool r) := by
  unfold value_Holds at H
  refine enter (args := [.int .i64 a0, .agg #[.int .i64 a1.Kind, .int .i64 a1.N, .string a1.S, .int .i64 a1.H.a0, .int .i64 a1.H.a1, .int .i64 a1.H.a2, .int .i64 a1.H.a3, .int .i64 a1.H.a4, .int .i64 a1.H.a5, .int .i64 a1.H.a6, .int .i64 a1.H.a7], .agg #[.int .i64 a2.Kind, .int .i64 a2.N, .string a2.S, .int .i64 a2.H.a0, .int .i64 a2.H.a1, .int .i64 a2.H.a2, .int .i64 a2.H.a3, .int .i64 a2.H.a4, .int .i64 a2.H.a5, .int .i64 a2.H.a6, .int .i64 a2.H.a7]]) Tryd.func20 rfl Tryd.ntmps20 rfl fun a hK => ?_
  have hS := St.init (R := fun _ => none) (w := w0) (fun _ _ h => by cases h)
  have hRL := RLe.refl (M := []) w0 (fun _ => none)
  refine wp_seq ?_
  refine wp_region_lit ?_
  refine sl_box hS hK (by decide) rfl rfl (c := [.int .i64 a1.Kind, .int .i64 a1.N, .string a1.S, .int .i64 a1.H.a0, .int .i64 a1.H.a1, .int .i64 a1.H.a2, .int .i64 a1.H.a3, .int .i64 a1.H.a4, .int .i64 a1.H.a5, .int .i64 a1.H.a6, .int .i64 a1.H.a7]) rfl fun a w b_1 hS hK => ?_
  refine sl_box hS hK (by decide) rfl rfl (c := [.int .i64 a2.Kind, .int .i64 a2.N, .string a2.S, .int .i64 a2.H.a0, .int .i64 a2.H.a1, .int .i64 a2.H.a2, .int .i64 a2.H.a3, .int .i64 a2.H.a4, .int .i64 a2.H.a5, .int .i64 a2.H.a6, .int .i64 a2.H.a7]) rfl fun a w b_2 hS hK => ?_
  refine sl hK (by decide) rfl rfl (r_assign hK rfl) fun a hK => ?_
  refine wpList_nil ?_
  refine wp_seq ?_
  refine wp_region_lit ?_
  refine sl hK (by decide) rfl rfl (r_loadA (cs := [.int .i64 a1.Kind, .int .i64 a1.N, .string a1.S, .int .i64 a1.H.a0, .int .i64 a1.H.a1, .int .i64 a1.H.a2, .int .i64 a1.H.a3, .int .i64 a1.H.a4, .int .i64 a1.H.a5, .int .i64 a1.H.a6, .int .i64 a1.H.a7]) Tryd.isAgg24 Tryd.sizeOf24 rfl hK rfl (hS.cells_of (m := 11) (.tail _ (.head _)) rfl)) fun a hK => ?_
  refine sl hK (by decide) rfl rfl (r_loadA (cs := [.int .i64 a2.Kind, .int .i64 a2.N, .string a2.S, .int .i64 a2.H.a0, .int .i64 a2.H.a1, .int .i64 a2.H.a2, .int .i64 a2.H.a3, .int .i64 a2.H.a4, .int .i64 a2.H.a5, .int .i64 a2.H.a6, .int .i64 a2.H.a7]) Tryd.isAgg24 Tryd.sizeOf24 rfl hK rfl (hS.cells_of (m := 11) (.head _) rfl)) fun a hK => ?_
  obtain ⟨y_3, h_4, H⟩ := bind_some H
  refine sl_callV Tryd.call18 hS hK (by decide) rfl rfl rfl (value_Compare.calls a1 a2 h_4 _) fun a w hS hK => ?_
  refine sl hK (by decide) rfl rfl (r_assign hK rfl) fun a hK => ?_
  refine wpList_nil ?_
  refine wp_seq ?_
  refine wp_seq ?_
  refine wp_region_lit ?_
  refine sl hK (by decide) rfl rfl (r_fieldAddr Tryd.underlying24 rfl Tryd.sizeOf3 hK rfl) fun a hK => ?_
  refine sl hK (by decide) rfl rfl (r_load Tryd.isAgg3 hK rfl (hS.cell (.tail _ (.head _)) rfl)) fun a hK => ?_
  refine sl hK (by decide) rfl rfl (r_fieldAddr Tryd.underlying24 rfl Tryd.sizeOf3 hK rfl) fun a hK => ?_
  refine sl hK (by decide) rfl rfl (r_load Tryd.isAgg3 hK rfl (hS.cell (.head _) rfl)) fun a hK => ?_
  refine sl hK (by decide) rfl rfl (r_ibin hK rfl rfl rfl) fun a hK => ?_
  refine wpList_nil ?_
  refine wp_cond_split (hK.ev rfl) (fun (hb_5 : (a1.Kind != a2.Kind) = true) => ?_) (fun (hb_5 : (a1.Kind != a2.Kind) = false) => ?_)
  · rw [ifb_t hb_5] at H
    refine wp_seq ?_
    refine wp_region_lit ?_
    refine sl hK (by decide) rfl rfl (r_assign hK rfl) fun a hK => ?_
    refine wpList_nil ?_
    obtain rfl := Option.some.inj H
    refine wp_ret ?_
    repeat (first | refine ret_then ?_ | refine ret_block ?_ | refine ret_scope ?_)
    exact ret_1 Tryd.results20 hK (rv_tmp hK rfl) ⟨rfl, hS.bel⟩
  · rw [ifb_f hb_5] at H
    refine wp_skip ?_
    refine wp_seq ?_
    refine wp_seq ?_
    refine wp_region_lit ?_
    refine sl hK (by decide) rfl rfl (r_move hK rfl) fun a hK => ?_
    refine wpList_nil ?_
    refine wp_block ?_
    refine wp_seq ?_
    refine wp_region_lit ?_
    refine sl hK (by decide) rfl rfl (r_ibin hK rfl rfl rfl) fun a hK => ?_
    refine sl hK (by decide) rfl rfl (r_assign hK rfl) fun a hK => ?_
    refine wpList_nil ?_
    refine wp_cond_split (hK.ev rfl) (fun (hb_6 : (a0 == 1) = true) => ?_) (fun (hb_6 : (a0 == 1) = false) => ?_)
    · rw [ifb_t hb_6] at H
      refine wp_seq ?_
      refine wp_region_lit ?_
      refine sl hK (by decide) rfl rfl (r_move hK rfl) fun a hK => ?_
      refine sl hK (by decide) rfl rfl (r_ibin hK rfl rfl rfl) fun a hK => ?_
      refine sl hK (by decide) rfl rfl (r_assign hK rfl) fun a hK => ?_
      refine wpList_nil ?_
      obtain rfl := Option.some.inj H
      refine wp_ret ?_
      repeat (first | refine ret_then ?_ | refine ret_block ?_ | refine ret_scope ?_)
      exact ret_1 Tryd.results20 hK (rv_tmp hK rfl) ⟨rfl, hS.bel⟩
    · rw [ifb_f hb_6] at H
      refine wp_seq ?_
      refine wp_region_lit ?_
      refine sl hK (by decide) rfl rfl (r_ibin hK rfl rfl rfl) fun a hK => ?_
      refine sl hK (by decide) rfl rfl (r_assign hK rfl) fun a hK => ?_
      refine wpList_nil ?_
      refine wp_cond_split (hK.ev rfl) (fun (hb_7 : (a0 == 2) = true) => ?_) (fun (hb_7 : (a0 == 2) = false) => ?_)
      · rw [ifb_t hb_7] at H
        refine wp_seq ?_
        refine wp_region_lit ?_
        refine sl hK (by decide) rfl rfl (r_move hK rfl) fun a hK => ?_
        refine sl hK (by decide) rfl rfl (r_ibin hK rfl rfl rfl) fun a hK => ?_
        refine sl hK (by decide) rfl rfl (r_assign hK rfl) fun a hK => ?_
        refine wpList_nil ?_
        obtain rfl := Option.some.inj H
        refine wp_ret ?_
        repeat (first | refine ret_then ?_ | refine ret_block ?_ | refine ret_scope ?_)
        exact ret_1 Tryd.results20 hK (rv_tmp hK rfl) ⟨rfl, hS.bel⟩
      · rw [ifb_f hb_7] at H
        refine wp_seq ?_
        refine wp_region_lit ?_
        refine sl hK (by decide) rfl rfl (r_ibin hK rfl rfl rfl) fun a hK => ?_
        refine sl hK (by decide) rfl rfl (r_assign hK rfl) fun a hK => ?_
        refine wpList_nil ?_
        refine wp_cond_split (hK.ev rfl) (fun (hb_8 : (a0 == 3) = true) => ?_) (fun (hb_8 : (a0 == 3) = false) => ?_)
        · rw [ifb_t hb_8] at H
          refine wp_seq ?_
          refine wp_region_lit ?_
          refine sl hK (by decide) rfl rfl (r_move hK rfl) fun a hK => ?_
          refine sl hK (by decide) rfl rfl (r_ibin hK rfl rfl rfl) fun a hK => ?_
          refine sl hK (by decide) rfl rfl (r_assign hK rfl) fun a hK => ?_
          refine wpList_nil ?_
          obtain rfl := Option.some.inj H
          refine wp_ret ?_
          repeat (first | refine ret_then ?_ | refine ret_block ?_ | refine ret_scope ?_)
          exact ret_1 Tryd.results20 hK (rv_tmp hK rfl) ⟨rfl, hS.bel⟩
        · rw [ifb_f hb_8] at H
          refine wp_seq ?_
          refine wp_region_lit ?_
          refine sl hK (by decide) rfl rfl (r_ibin hK rfl rfl rfl) fun a hK => ?_
          refine sl hK (by decide) rfl rfl (r_assign hK rfl) fun a hK => ?_
          refine wpList_nil ?_
          refine wp_cond_split (hK.ev rfl) (fun (hb_9 : (a0 == 4) = true) => ?_) (fun (hb_9 : (a0 == 4) = false) => ?_)
          · rw [ifb_t hb_9] at H
            refine wp_seq ?_
            refine wp_region_lit ?_
            refine sl hK (by decide) rfl rfl (r_move hK rfl) fun a hK => ?_
            refine sl hK (by decide) rfl rfl (r_ibin hK rfl rfl rfl) fun a hK => ?_
            refine sl hK (by decide) rfl rfl (r_assign hK rfl) fun a hK => ?_
            refine wpList_nil ?_
            obtain rfl := Option.some.inj H
            refine wp_ret ?_
            repeat (first | refine ret_then ?_ | refine ret_block ?_ | refine ret_scope ?_)
            exact ret_1 Tryd.results20 hK (rv_tmp hK rfl) ⟨rfl, hS.bel⟩
          · rw [ifb_f hb_9] at H
            refine wp_seq ?_
            refine wp_region_lit ?_
            refine sl hK (by decide) rfl rfl (r_ibin hK rfl rfl rfl) fun a hK => ?_
            refine sl hK (by decide) rfl rfl (r_assign hK rfl) fun a hK => ?_
            refine wpList_nil ?_
            refine wp_cond_split (hK.ev rfl) (fun (hb_10 : (a0 == 5) = true) => ?_) (fun (hb_10 : (a0 == 5) = false) => ?_)
            · rw [ifb_t hb_10] at H
              refine wp_seq ?_
              refine wp_region_lit ?_
              refine sl hK (by decide) rfl rfl (r_move hK rfl) fun a hK => ?_
              refine sl hK (by decide) rfl rfl (r_ibin hK rfl rfl rfl) fun a hK => ?_
              refine sl hK (by decide) rfl rfl (r_assign hK rfl) fun a hK => ?_
              refine wpList_nil ?_
              obtain rfl := Option.some.inj H
              refine wp_ret ?_
              repeat (first | refine ret_then ?_ | refine ret_block ?_ | refine ret_scope ?_)
              exact ret_1 Tryd.results20 hK (rv_tmp hK rfl) ⟨rfl, hS.bel⟩
            · rw [ifb_f hb_10] at H
              refine wp_seq ?_
              refine wp_region_lit ?_
              refine sl hK (by decide) rfl rfl (r_ibin hK rfl rfl rfl) fun a hK => ?_
              refine sl hK (by decide) rfl rfl (r_assign hK rfl) fun a hK => ?_
              refine wpList_nil ?_
              refine wp_cond_split (hK.ev rfl) (fun (hb_11 : (a0 == 6) = true) => ?_) (fun (hb_11 : (a0 == 6) = false) => ?_)
              · rw [ifb_t hb_11] at H
                refine wp_seq ?_
                refine wp_region_lit ?_
                refine sl hK (by decide) rfl rfl (r_move hK rfl) fun a hK => ?_
                refine sl hK (by decide) rfl rfl (r_ibin hK rfl rfl rfl) fun a hK => ?_
                refine sl hK (by decide) rfl rfl (r_assign hK rfl) fun a hK => ?_
                refine wpList_nil ?_
                obtain rfl := Option.some.inj H
                refine wp_ret ?_
                repeat (first | refine ret_then ?_ | refine ret_block ?_ | refine ret_scope ?_)
                exact ret_1 Tryd.results20 hK (rv_tmp hK rfl) ⟨rfl, hS.bel⟩
              · rw [ifb_f hb_11] at H
                refine wp_skip ?_
                refine wp_seq ?_
                refine wp_region_lit ?_
                refine sl hK (by decide) rfl rfl (r_assign hK rfl) fun a hK => ?_
                refine wpList_nil ?_
                obtain rfl := Option.some.inj H
                refine wp_ret ?_
                repeat (first | refine ret_then ?_ | refine ret_block ?_ | refine ret_scope ?_)
                exact ret_1 Tryd.results20 hK (rv_tmp hK rfl) ⟨rfl, hS.bel⟩

/-! ### catchment/catchmentlaw01.shown: function 13 -/
set_option maxHeartbeats 4000000 in
set_option maxRecDepth 100000 in
theorem law01_shown.calls {w0 : World} {RA : Hp} (hRA : RA.sub w0) (hG : GF RA) {r : Bool} (H : law01_shown  = some r) : CallsV Tryd.prog 13 #[] w0 (.bool r) := by
  unfold law01_shown at H
  refine enter (args := []) Tryd.func13 rfl Tryd.ntmps13 rfl fun a hK => ?_
  have hS := St.init (R := fun _ => none) (w := w0) (fun _ _ h => by cases h)
  have hRL := RLe.refl (M := []) w0 (fun _ => none)
  refine wp_seq ?_
  refine wp_region_lit ?_
  refine sl hK (by decide) rfl rfl (r_assign hK rfl) fun a hK => ?_
  refine wpList_nil ?_
  refine wp_seq ?_
  refine wp_region_lit ?_
  obtain ⟨y_1, h_2, H⟩ := bind_some H
  refine sl_callV Tryd.call24 hS hK (by decide) rfl rfl rfl (value_OfInt.calls 1 h_2 _) fun a w hS hK => ?_
  refine sl_alloc Tryd.zeroValue24 hS hK (by decide) rfl rfl fun a w b_3 hS hK => ?_
  refine sl_storeA (vs := [.int .i64 y_1.Kind, .int .i64 y_1.N, .string y_1.S, .int .i64 y_1.H.a0, .int .i64 y_1.H.a1, .int .i64 y_1.H.a2, .int .i64 y_1.H.a3, .int .i64 y_1.H.a4, .int .i64 y_1.H.a5, .int .i64 y_1.H.a6, .int .i64 y_1.H.a7]) (c' := [.int .i64 y_1.Kind, .int .i64 y_1.N, .string y_1.S, .int .i64 y_1.H.a0, .int .i64 y_1.H.a1, .int .i64 y_1.H.a2, .int .i64 y_1.H.a3, .int .i64 y_1.H.a4, .int .i64 y_1.H.a5, .int .i64 y_1.H.a6, .int .i64 y_1.H.a7]) Tryd.sizeOf24 hS hK rfl rfl rfl rfl (all_cons rfl (all_cons rfl (all_cons rfl (all_cons rfl (all_cons rfl (all_cons rfl (all_cons rfl (all_cons rfl (all_cons rfl (all_cons rfl (all_cons rfl (all_nil)))))))))))) (Nat.le_of_ble_eq_true rfl) rfl fun a w hS hK => ?_
  refine wpList_nil ?_
  refine wp_seq ?_
  refine wp_region_lit ?_
  obtain ⟨y_4, h_5, H⟩ := bind_some H
  refine sl_callV Tryd.call27 hS hK (by decide) rfl rfl rfl (value_OfStr.calls (⟨#[97]⟩ : ByteArray) h_5 _) fun a w hS hK => ?_
  refine sl_alloc Tryd.zeroValue24 hS hK (by decide) rfl rfl fun a w b_6 hS hK => ?_
  refine sl_storeA (vs := [.int .i64 y_4.Kind, .int .i64 y_4.N, .string y_4.S, .int .i64 y_4.H.a0, .int .i64 y_4.H.a1, .int .i64 y_4.H.a2, .int .i64 y_4.H.a3, .int .i64 y_4.H.a4, .int .i64 y_4.H.a5, .int .i64 y_4.H.a6, .int .i64 y_4.H.a7]) (c' := [.int .i64 y_4.Kind, .int .i64 y_4.N, .string y_4.S, .int .i64 y_4.H.a0, .int .i64 y_4.H.a1, .int .i64 y_4.H.a2, .int .i64 y_4.H.a3, .int .i64 y_4.H.a4, .int .i64 y_4.H.a5, .int .i64 y_4.H.a6, .int .i64 y_4.H.a7]) Tryd.sizeOf24 hS hK rfl rfl rfl rfl (all_cons rfl (all_cons rfl (all_cons rfl (all_cons rfl (all_cons rfl (all_cons rfl (all_cons rfl (all_cons rfl (all_cons rfl (all_cons rfl (all_cons rfl (all_nil)))))))))))) (Nat.le_of_ble_eq_true rfl) rfl fun a w hS hK => ?_
  refine wpList_nil ?_
  refine wp_seq ?_
  refine wp_mid (fun a w => ∃ (x_34 : Int) (x_35 : Int) (x_36 : ByteArray) (x_37 : Arr8) (x_38 : Int) (b_33 : Nat), law01_shown.j0 y_1 y_4 x_34 x_35 x_36 x_37 x_38 = some r ∧ Kn 87 a [(1, .pointer (some ⟨b_3, 0, none⟩)), (2, .pointer (some ⟨b_6, 0, none⟩)), (3, .pointer (some ⟨b_33, 0, none⟩)), (4, .int .i64 x_38)] ∧ St [] w0 w (fun _ => none) [.cells b_3 [.int .i64 y_1.Kind, .int .i64 y_1.N, .string y_1.S, .int .i64 y_1.H.a0, .int .i64 y_1.H.a1, .int .i64 y_1.H.a2, .int .i64 y_1.H.a3, .int .i64 y_1.H.a4, .int .i64 y_1.H.a5, .int .i64 y_1.H.a6, .int .i64 y_1.H.a7] 24, .cells b_6 [.int .i64 y_4.Kind, .int .i64 y_4.N, .string y_4.S, .int .i64 y_4.H.a0, .int .i64 y_4.H.a1, .int .i64 y_4.H.a2, .int .i64 y_4.H.a3, .int .i64 y_4.H.a4, .int .i64 y_4.H.a5, .int .i64 y_4.H.a6, .int .i64 y_4.H.a7] 24, .cells b_33 [.int .i64 x_34, .int .i64 x_35, .string x_36, .int .i64 x_37.a0, .int .i64 x_37.a1, .int .i64 x_37.a2, .int .i64 x_37.a3, .int .i64 x_37.a4, .int .i64 x_37.a5, .int .i64 x_37.a6, .int .i64 x_37.a7] 24]) ?_ ?_
  · refine treeT_region (C := fun w => St [] w0 w (fun _ => none) [.cells b_6 [.int .i64 y_4.Kind, .int .i64 y_4.N, .string y_4.S, .int .i64 y_4.H.a0, .int .i64 y_4.H.a1, .int .i64 y_4.H.a2, .int .i64 y_4.H.a3, .int .i64 y_4.H.a4, .int .i64 y_4.H.a5, .int .i64 y_4.H.a6, .int .i64 y_4.H.a7] 24, .cells b_3 [.int .i64 y_1.Kind, .int .i64 y_1.N, .string y_1.S, .int .i64 y_1.H.a0, .int .i64 y_1.H.a1, .int .i64 y_1.H.a2, .int .i64 y_1.H.a3, .int .i64 y_1.H.a4, .int .i64 y_1.H.a5, .int .i64 y_1.H.a6, .int .i64 y_1.H.a7] 24]) 8 (.br [(1, true)] 0 (.br [] 2 (.list [(3, true), (4, true), (5, true), (6, false), (7, false)]) 6 (.list [(2, false), (3, true), (4, true), (5, true), (7, false)])) 6 (.list [(0, false), (2, false), (3, true), (4, true), (5, true), (7, false)])) mixed (by kernel_rfl) hS (fun w hS => hS) fun w hS => ?_
    refine tree_fork ?_
    refine sp (k := 1) rfl hK (by decide) rfl rfl (fun w hS => r_loadA (cs := [.int .i64 y_1.Kind, .int .i64 y_1.N, .string y_1.S, .int .i64 y_1.H.a0, .int .i64 y_1.H.a1, .int .i64 y_1.H.a2, .int .i64 y_1.H.a3, .int .i64 y_1.H.a4, .int .i64 y_1.H.a5, .int .i64 y_1.H.a6, .int .i64 y_1.H.a7]) Tryd.isAgg24 Tryd.sizeOf24 rfl hK rfl (hS.cells_of (m := 11) (.tail _ (.head _)) rfl)) fun a hK => ?_
    refine wpPar_nil (tree_br ?_ ?_)
    · refine spwB (k := 0) rfl rfl hS ?_
      obtain ⟨y_53, h_54, H⟩ := bind_some H
      refine sl_callV Tryd.call24 hS hK (by decide) rfl rfl rfl (value_OfInt.calls 9223372036854775807 h_54 _) fun a w hS hK => ?_
      refine parKK_nil hS ?_
      refine tree_fork ?_
      refine wpPar_nil (tree_br ?_ ?_)
      · refine spwB (k := 2) rfl rfl hS ?_
        obtain ⟨y_55, h_56, H⟩ := bind_some H
        refine sl_callV Tryd.call22 hS hK (by decide) rfl rfl rfl (value_Add.calls y_53 y_1 h_56 _) fun a w hS hK => ?_
        refine parKK_nil hS ?_
        refine tree_list ?_
        refine sp (k := 3) rfl hK (by decide) rfl rfl (fun w hS => r_move hK rfl) fun a hK => ?_
        refine sp (k := 4) rfl hK (by decide) rfl rfl (fun w hS => r_extract hK rfl rfl) fun a hK => ?_
        refine sp (k := 5) rfl hK (by decide) rfl rfl (fun w hS => r_extract hK rfl rfl) fun a hK => ?_
        refine spw (k := 6) rfl rfl hS ?_
        refine sl_alloc Tryd.zeroValue24 hS hK (by decide) rfl rfl fun a w b_57 hS hK => ?_
        refine parK_nil (hS.pk2.pk2.trunc 2) ?_
        refine spw (k := 7) rfl rfl (hS.pk2.pk2.trunc 2) ?_
        refine sl_storeA (vs := [.int .i64 y_55.1.Kind, .int .i64 y_55.1.N, .string y_55.1.S, .int .i64 y_55.1.H.a0, .int .i64 y_55.1.H.a1, .int .i64 y_55.1.H.a2, .int .i64 y_55.1.H.a3, .int .i64 y_55.1.H.a4, .int .i64 y_55.1.H.a5, .int .i64 y_55.1.H.a6, .int .i64 y_55.1.H.a7]) (c' := [.int .i64 y_55.1.Kind, .int .i64 y_55.1.N, .string y_55.1.S, .int .i64 y_55.1.H.a0, .int .i64 y_55.1.H.a1, .int .i64 y_55.1.H.a2, .int .i64 y_55.1.H.a3, .int .i64 y_55.1.H.a4, .int .i64 y_55.1.H.a5, .int .i64 y_55.1.H.a6, .int .i64 y_55.1.H.a7]) Tryd.sizeOf24 hS hK rfl rfl rfl rfl (all_cons rfl (all_cons rfl (all_cons rfl (all_cons rfl (all_cons rfl (all_cons rfl (all_cons rfl (all_cons rfl (all_cons rfl (all_cons rfl (all_cons rfl (all_nil)))))))))))) (Nat.le_of_ble_eq_true rfl) rfl fun a w hS hK => ?_
        refine parK_nil (hS.pk2.pk2.trunc 2) ?_
        refine thenL_nil ?_
        refine sl hK (by decide) rfl rfl (r_assign hK rfl) fun a hK => ?_
        refine wpList_nil (NoP_nil ?_)
        have hS := hS.pk1
        have hS := hS.pk2
        exact ⟨y_55.1.Kind, y_55.1.N, y_55.1.S, y_55.1.H, y_55.2, _, H, hK.sub (all_cons rfl (all_cons rfl (all_cons rfl (all_cons rfl (all_nil))))), hS⟩
      · refine spwB (k := 6) rfl rfl hS ?_
        refine sl_alloc Tryd.zeroValue24 hS hK (by decide) rfl rfl fun a w b_58 hS hK => ?_
        refine parKK_nil (hS.pk2.pk2.trunc 2) ?_
        refine tree_list ?_
        refine spw (k := 2) rfl rfl (hS.pk2.pk2.trunc 2) ?_
        obtain ⟨y_59, h_60, H⟩ := bind_some H
        refine sl_callV Tryd.call22 hS hK (by decide) rfl rfl rfl (value_Add.calls y_53 y_1 h_60 _) fun a w hS hK => ?_
        refine parK_nil (hS.pk2.pk2.trunc 2) ?_
        refine sp (k := 3) rfl hK (by decide) rfl rfl (fun w hS => r_move hK rfl) fun a hK => ?_
        refine sp (k := 4) rfl hK (by decide) rfl rfl (fun w hS => r_extract hK rfl rfl) fun a hK => ?_
        refine sp (k := 5) rfl hK (by decide) rfl rfl (fun w hS => r_extract hK rfl rfl) fun a hK => ?_
        refine spw (k := 7) rfl rfl (hS.pk2.pk2.trunc 2) ?_
        refine sl_storeA (vs := [.int .i64 y_59.1.Kind, .int .i64 y_59.1.N, .string y_59.1.S, .int .i64 y_59.1.H.a0, .int .i64 y_59.1.H.a1, .int .i64 y_59.1.H.a2, .int .i64 y_59.1.H.a3, .int .i64 y_59.1.H.a4, .int .i64 y_59.1.H.a5, .int .i64 y_59.1.H.a6, .int .i64 y_59.1.H.a7]) (c' := [.int .i64 y_59.1.Kind, .int .i64 y_59.1.N, .string y_59.1.S, .int .i64 y_59.1.H.a0, .int .i64 y_59.1.H.a1, .int .i64 y_59.1.H.a2, .int .i64 y_59.1.H.a3, .int .i64 y_59.1.H.a4, .int .i64 y_59.1.H.a5, .int .i64 y_59.1.H.a6, .int .i64 y_59.1.H.a7]) Tryd.sizeOf24 hS hK rfl rfl rfl rfl (all_cons rfl (all_cons rfl (all_cons rfl (all_cons rfl (all_cons rfl (all_cons rfl (all_cons rfl (all_cons rfl (all_cons rfl (all_cons rfl (all_cons rfl (all_nil)))))))))))) (Nat.le_of_ble_eq_true rfl) rfl fun a w hS hK => ?_
        refine parK_nil (hS.pk2.pk2.trunc 2) ?_
        refine thenL_nil ?_
        refine sl hK (by decide) rfl rfl (r_assign hK rfl) fun a hK => ?_
        refine wpList_nil (NoP_nil ?_)
        have hS := hS.pk1
        have hS := hS.pk2
        exact ⟨y_59.1.Kind, y_59.1.N, y_59.1.S, y_59.1.H, y_59.2, _, H, hK.sub (all_cons rfl (all_cons rfl (all_cons rfl (all_cons rfl (all_nil))))), hS⟩
    · refine spwB (k := 6) rfl rfl hS ?_
      refine sl_alloc Tryd.zeroValue24 hS hK (by decide) rfl rfl fun a w b_61 hS hK => ?_
      refine parKK_nil (hS.pk2.pk2.trunc 2) ?_
      refine tree_list ?_
      refine spw (k := 0) rfl rfl (hS.pk2.pk2.trunc 2) ?_
      obtain ⟨y_62, h_63, H⟩ := bind_some H
      refine sl_callV Tryd.call24 hS hK (by decide) rfl rfl rfl (value_OfInt.calls 9223372036854775807 h_63 _) fun a w hS hK => ?_
      refine parK_nil (hS.pk2.pk2.trunc 2) ?_
      refine spw (k := 2) rfl rfl (hS.pk2.pk2.trunc 2) ?_
      obtain ⟨y_64, h_65, H⟩ := bind_some H
      refine sl_callV Tryd.call22 hS hK (by decide) rfl rfl rfl (value_Add.calls y_62 y_1 h_65 _) fun a w hS hK => ?_
      refine parK_nil (hS.pk2.pk2.trunc 2) ?_
      refine sp (k := 3) rfl hK (by decide) rfl rfl (fun w hS => r_move hK rfl) fun a hK => ?_
      refine sp (k := 4) rfl hK (by decide) rfl rfl (fun w hS => r_extract hK rfl rfl) fun a hK => ?_
      refine sp (k := 5) rfl hK (by decide) rfl rfl (fun w hS => r_extract hK rfl rfl) fun a hK => ?_
      refine spw (k := 7) rfl rfl (hS.pk2.pk2.trunc 2) ?_
      refine sl_storeA (vs := [.int .i64 y_64.1.Kind, .int .i64 y_64.1.N, .string y_64.1.S, .int .i64 y_64.1.H.a0, .int .i64 y_64.1.H.a1, .int .i64 y_64.1.H.a2, .int .i64 y_64.1.H.a3, .int .i64 y_64.1.H.a4, .int .i64 y_64.1.H.a5, .int .i64 y_64.1.H.a6, .int .i64 y_64.1.H.a7]) (c' := [.int .i64 y_64.1.Kind, .int .i64 y_64.1.N, .string y_64.1.S, .int .i64 y_64.1.H.a0, .int .i64 y_64.1.H.a1, .int .i64 y_64.1.H.a2, .int .i64 y_64.1.H.a3, .int .i64 y_64.1.H.a4, .int .i64 y_64.1.H.a5, .int .i64 y_64.1.H.a6, .int .i64 y_64.1.H.a7]) Tryd.sizeOf24 hS hK rfl rfl rfl rfl (all_cons rfl (all_cons rfl (all_cons rfl (all_cons rfl (all_cons rfl (all_cons rfl (all_cons rfl (all_cons rfl (all_cons rfl (all_cons rfl (all_cons rfl (all_nil)))))))))))) (Nat.le_of_ble_eq_true rfl) rfl fun a w hS hK => ?_
      refine parK_nil (hS.pk2.pk2.trunc 2) ?_
      refine thenL_nil ?_
      refine sl hK (by decide) rfl rfl (r_assign hK rfl) fun a hK => ?_
      refine wpList_nil (NoP_nil ?_)
      have hS := hS.pk1
      have hS := hS.pk2
      exact ⟨y_64.1.Kind, y_64.1.N, y_64.1.S, y_64.1.H, y_64.2, _, H, hK.sub (all_cons rfl (all_cons rfl (all_cons rfl (all_cons rfl (all_nil))))), hS⟩
  · rintro a w ⟨x_34, x_35, x_36, x_37, x_38, b_33, H, hK, hS⟩
    unfold law01_shown.j0 at H
    refine wp_seq ?_
    refine wp_region_lit ?_
    refine sl hK (by decide) rfl rfl (r_loadA (cs := [.int .i64 y_1.Kind, .int .i64 y_1.N, .string y_1.S, .int .i64 y_1.H.a0, .int .i64 y_1.H.a1, .int .i64 y_1.H.a2, .int .i64 y_1.H.a3, .int .i64 y_1.H.a4, .int .i64 y_1.H.a5, .int .i64 y_1.H.a6, .int .i64 y_1.H.a7]) Tryd.isAgg24 Tryd.sizeOf24 rfl hK rfl (hS.cells_of (m := 11) (.head _) rfl)) fun a hK => ?_
    refine sl hK (by decide) rfl rfl (r_loadA (cs := [.int .i64 y_4.Kind, .int .i64 y_4.N, .string y_4.S, .int .i64 y_4.H.a0, .int .i64 y_4.H.a1, .int .i64 y_4.H.a2, .int .i64 y_4.H.a3, .int .i64 y_4.H.a4, .int .i64 y_4.H.a5, .int .i64 y_4.H.a6, .int .i64 y_4.H.a7]) Tryd.isAgg24 Tryd.sizeOf24 rfl hK rfl (hS.cells_of (m := 11) (.tail _ (.head _)) rfl)) fun a hK => ?_
    obtain ⟨y_66, h_67, H⟩ := bind_some H
    refine sl_callV Tryd.call22 hS hK (by decide) rfl rfl rfl (value_Add.calls y_1 y_4 h_67 _) fun a w hS hK => ?_
    refine sl hK (by decide) rfl rfl (r_move hK rfl) fun a hK => ?_
    refine sl hK (by decide) rfl rfl (r_extract hK rfl rfl) fun a hK => ?_
    refine sl hK (by decide) rfl rfl (r_extract hK rfl rfl) fun a hK => ?_
    refine sl_alloc Tryd.zeroValue24 hS hK (by decide) rfl rfl fun a w b_68 hS hK => ?_
    refine sl_storeA (vs := [.int .i64 y_66.1.Kind, .int .i64 y_66.1.N, .string y_66.1.S, .int .i64 y_66.1.H.a0, .int .i64 y_66.1.H.a1, .int .i64 y_66.1.H.a2, .int .i64 y_66.1.H.a3, .int .i64 y_66.1.H.a4, .int .i64 y_66.1.H.a5, .int .i64 y_66.1.H.a6, .int .i64 y_66.1.H.a7]) (c' := [.int .i64 y_66.1.Kind, .int .i64 y_66.1.N, .string y_66.1.S, .int .i64 y_66.1.H.a0, .int .i64 y_66.1.H.a1, .int .i64 y_66.1.H.a2, .int .i64 y_66.1.H.a3, .int .i64 y_66.1.H.a4, .int .i64 y_66.1.H.a5, .int .i64 y_66.1.H.a6, .int .i64 y_66.1.H.a7]) Tryd.sizeOf24 hS hK rfl rfl rfl rfl (all_cons rfl (all_cons rfl (all_cons rfl (all_cons rfl (all_cons rfl (all_cons rfl (all_cons rfl (all_cons rfl (all_cons rfl (all_cons rfl (all_cons rfl (all_nil)))))))))))) (Nat.le_of_ble_eq_true rfl) rfl fun a w hS hK => ?_
    refine sl hK (by decide) rfl rfl (r_assign hK rfl) fun a hK => ?_
    refine wpList_nil ?_
    refine wp_seq ?_
    refine parT_region (C := fun w => St [] w0 w (fun _ => none) [.cells b_68 [.int .i64 y_66.1.Kind, .int .i64 y_66.1.N, .string y_66.1.S, .int .i64 y_66.1.H.a0, .int .i64 y_66.1.H.a1, .int .i64 y_66.1.H.a2, .int .i64 y_66.1.H.a3, .int .i64 y_66.1.H.a4, .int .i64 y_66.1.H.a5, .int .i64 y_66.1.H.a6, .int .i64 y_66.1.H.a7] 24, .cells b_3 [.int .i64 y_1.Kind, .int .i64 y_1.N, .string y_1.S, .int .i64 y_1.H.a0, .int .i64 y_1.H.a1, .int .i64 y_1.H.a2, .int .i64 y_1.H.a3, .int .i64 y_1.H.a4, .int .i64 y_1.H.a5, .int .i64 y_1.H.a6, .int .i64 y_1.H.a7] 24, .cells b_6 [.int .i64 y_4.Kind, .int .i64 y_4.N, .string y_4.S, .int .i64 y_4.H.a0, .int .i64 y_4.H.a1, .int .i64 y_4.H.a2, .int .i64 y_4.H.a3, .int .i64 y_4.H.a4, .int .i64 y_4.H.a5, .int .i64 y_4.H.a6, .int .i64 y_4.H.a7] 24, .cells b_33 [.int .i64 x_34, .int .i64 x_35, .string x_36, .int .i64 x_37.a0, .int .i64 x_37.a1, .int .i64 x_37.a2, .int .i64 x_37.a3, .int .i64 x_37.a4, .int .i64 x_37.a5, .int .i64 x_37.a6, .int .i64 x_37.a7] 24]) 59 [(0, true), (1, false), (2, false), (3, true), (4, true), (6, true), (5, false), (7, false), (8, true), (9, true), (10, true), (11, false), (12, false), (13, false), (14, true), (15, true), (16, true), (17, true), (18, false), (19, true), (20, true), (21, true), (22, true), (23, true), (24, true), (25, true), (26, true), (27, true), (28, true), (29, true), (32, true), (30, false), (31, true), (33, true), (34, true), (35, true), (36, false), (37, false), (38, true), (39, true), (40, true), (41, false), (42, false), (43, true), (44, true), (45, true), (46, true), (47, false), (48, false), (49, true), (50, true), (51, true), (52, true), (53, false), (54, true), (55, true), (56, true), (57, true), (58, true)] mixed (by kernel_rfl) hS (fun w hS => hS) fun w hS => ?_
    refine sp (k := 0) rfl hK (by decide) rfl rfl (fun w hS => r_loadA (cs := [.int .i64 y_1.Kind, .int .i64 y_1.N, .string y_1.S, .int .i64 y_1.H.a0, .int .i64 y_1.H.a1, .int .i64 y_1.H.a2, .int .i64 y_1.H.a3, .int .i64 y_1.H.a4, .int .i64 y_1.H.a5, .int .i64 y_1.H.a6, .int .i64 y_1.H.a7]) Tryd.isAgg24 Tryd.sizeOf24 rfl hK rfl (hS.cells_of (m := 11) (.tail _ (.head _)) rfl)) fun a hK => ?_
    refine spw (k := 1) rfl rfl hS ?_
    obtain ⟨y_117, h_118, H⟩ := bind_some H
    refine sl_callV Tryd.call24 hS hK (by decide) rfl rfl rfl (value_OfInt.calls 2 h_118 _) fun a w hS hK => ?_
    refine parK_nil hS ?_
    refine spw (k := 2) rfl rfl hS ?_
    obtain ⟨y_119, h_120, H⟩ := bind_some H
    refine sl_callV Tryd.call18 hS hK (by decide) rfl rfl rfl (value_Compare.calls y_1 y_117 h_120 _) fun a w hS hK => ?_
    refine parK_nil hS ?_
    refine sp (k := 3) rfl hK (by decide) rfl rfl (fun w hS => r_ibin hK rfl rfl rfl) fun a hK => ?_
    refine sp (k := 4) rfl hK (by decide) rfl rfl (fun w hS => r_move hK rfl) fun a hK => ?_
    rcases or_b (y_119 == (-1)) with hb_121 | hb_121
    · rw [ifb_t hb_121] at H
      refine sp (k := 6) rfl hK (by decide) (wtt hb_121) rfl (fun w hS => r_loadA (cs := [.int .i64 y_4.Kind, .int .i64 y_4.N, .string y_4.S, .int .i64 y_4.H.a0, .int .i64 y_4.H.a1, .int .i64 y_4.H.a2, .int .i64 y_4.H.a3, .int .i64 y_4.H.a4, .int .i64 y_4.H.a5, .int .i64 y_4.H.a6, .int .i64 y_4.H.a7]) Tryd.isAgg24 Tryd.sizeOf24 rfl hK rfl (hS.cells_of (m := 11) (.tail _ (.tail _ (.head _))) rfl)) fun a hK => ?_
      refine spw (k := 5) rfl rfl hS ?_
      obtain ⟨y_122, h_123, H⟩ := bind_some H
      refine sl_callV Tryd.call24 hS hK (by decide) (wtt hb_121) rfl rfl (value_OfInt.calls 5 h_123 _) fun a w hS hK => ?_
      refine parK_nil hS ?_
      refine spw (k := 7) rfl rfl hS ?_
      obtain ⟨y_124, h_125, H⟩ := bind_some H
      refine sl_callV Tryd.call18 hS hK (by decide) (wtt hb_121) rfl rfl (value_Compare.calls y_122 y_4 h_125 _) fun a w hS hK => ?_
      refine parK_nil hS ?_
      refine sp (k := 8) rfl hK (by decide) (wtt hb_121) rfl (fun w hS => r_ibin hK rfl rfl rfl) fun a hK => ?_
      refine sp (k := 9) rfl hK (by decide) rfl rfl (fun w hS => r_pick_t hb_121 hK rfl rfl) fun a hK => ?_
      refine sp (k := 10) rfl hK (by decide) rfl rfl (fun w hS => r_move hK rfl) fun a hK => ?_
      rcases or_b (y_124 == (-1)) with hb_126 | hb_126
      · rw [ifb_t hb_126] at H
        refine spw (k := 11) rfl rfl hS ?_
        obtain ⟨y_127, h_128, H⟩ := bind_some H
        refine sl_callV Tryd.call28 hS hK (by decide) (wtt hb_126) rfl rfl (value_OfBool.calls true h_128 _) fun a w hS hK => ?_
        refine parK_nil hS ?_
        refine spw (k := 12) rfl rfl hS ?_
        obtain ⟨y_129, h_130, H⟩ := bind_some H
        refine sl_callV Tryd.call28 hS hK (by decide) (wtt hb_126) rfl rfl (value_OfBool.calls false h_130 _) fun a w hS hK => ?_
        refine parK_nil hS ?_
        refine spw (k := 13) rfl rfl hS ?_
        obtain ⟨y_131, h_132, H⟩ := bind_some H
        refine sl_callV Tryd.call18 hS hK (by decide) (wtt hb_126) rfl rfl (value_Compare.calls y_127 y_129 h_132 _) fun a w hS hK => ?_
        refine parK_nil hS ?_
        refine sp (k := 14) rfl hK (by decide) (wtt hb_126) rfl (fun w hS => r_ibin hK rfl rfl rfl) fun a hK => ?_
        refine sp (k := 15) rfl hK (by decide) rfl rfl (fun w hS => r_pick_t hb_126 hK rfl rfl) fun a hK => ?_
        refine sp (k := 16) rfl hK (by decide) rfl rfl (fun w hS => r_move hK rfl) fun a hK => ?_
        rcases or_b (y_131 == 1) with hb_133 | hb_133
        · rw [ifb_t hb_133] at H
          refine sp (k := 17) rfl hK (by decide) (wtt hb_133) rfl (fun w hS => r_loadA (cs := [.int .i64 x_34, .int .i64 x_35, .string x_36, .int .i64 x_37.a0, .int .i64 x_37.a1, .int .i64 x_37.a2, .int .i64 x_37.a3, .int .i64 x_37.a4, .int .i64 x_37.a5, .int .i64 x_37.a6, .int .i64 x_37.a7]) Tryd.isAgg24 Tryd.sizeOf24 rfl hK rfl (hS.cells_of (m := 11) (.tail _ (.tail _ (.tail _ (.head _)))) rfl)) fun a hK => ?_
          refine spw (k := 18) rfl rfl hS ?_
          obtain ⟨y_134, h_135, H⟩ := bind_some H
          refine sl_callV Tryd.call24 hS hK (by decide) (wtt hb_133) rfl rfl (value_OfInt.calls (-9223372036854775808) h_135 _) fun a w hS hK => ?_
          refine parK_nil hS ?_
          refine sp (k := 19) rfl hK (by decide) (wtt hb_133) rfl (fun w hS => r_seq (by kernel_rfl) (eqs24 (⟨x_34, x_35, x_36, x_37⟩ : api_Value) y_134) hK rfl rfl) fun a hK => ?_
          refine sp (k := 20) rfl hK (by decide) rfl rfl (fun w hS => r_pick_t hb_133 hK rfl rfl) fun a hK => ?_
          refine sp (k := 21) rfl hK (by decide) rfl rfl (fun w hS => r_move hK rfl) fun a hK => ?_
          rcases or_b (decide ((⟨x_34, x_35, x_36, x_37⟩ : api_Value) = y_134)) with hb_136 | hb_136
          · rw [ifb_t hb_136] at H
            refine sp (k := 22) rfl hK (by decide) (wtt hb_136) rfl (fun w hS => r_move hK rfl) fun a hK => ?_
            refine sp (k := 23) rfl hK (by decide) (wtt hb_136) rfl (fun w hS => r_ibin hK rfl rfl rfl) fun a hK => ?_
            refine sp (k := 24) rfl hK (by decide) rfl rfl (fun w hS => r_pick_t hb_136 hK rfl rfl) fun a hK => ?_
            refine sp (k := 25) rfl hK (by decide) rfl rfl (fun w hS => r_move hK rfl) fun a hK => ?_
            rcases or_b (x_38 == 0) with hb_137 | hb_137
            · rw [ifb_t hb_137] at H
              refine sp (k := 26) rfl hK (by decide) (wtt hb_137) rfl (fun w hS => r_move hK rfl) fun a hK => ?_
              refine sp (k := 27) rfl hK (by decide) (wtt hb_137) rfl (fun w hS => r_ibin hK rfl rfl rfl) fun a hK => ?_
              refine sp (k := 28) rfl hK (by decide) rfl rfl (fun w hS => r_pick_t hb_137 hK rfl rfl) fun a hK => ?_
              refine sp (k := 29) rfl hK (by decide) rfl rfl (fun w hS => r_move hK rfl) fun a hK => ?_
              rcases or_b (y_66.2 == 10) with hb_138 | hb_138
              · rw [ifb_t hb_138] at H
                refine sp (k := 32) rfl hK (by decide) (wtt hb_138) rfl (fun w hS => r_buildAC (ps := [(0, .int .i64 0), (1, .int .i64 0), (2, .int .i64 1)]) (c := [.int .i64 0, .int .i64 0, .int .i64 1, .int .i64 0, .int .i64 0, .int .i64 0, .int .i64 0, .int .i64 0]) Tryd.underlying22 Tryd.zeroValue22 Tryd.sizeOf3 hK rfl (pc_cons rfl (pc_cons rfl (pc_cons rfl pc_nil))) rfl rfl) fun a hK => ?_
                refine spw (k := 30) rfl rfl hS ?_
                obtain ⟨y_139, h_140, H⟩ := bind_some H
                refine sl_callV Tryd.call25 hS hK (by decide) (wtt hb_138) rfl rfl (value_Bucket.calls 10 h_140 _) fun a w hS hK => ?_
                refine parK_nil hS ?_
                refine sp (k := 31) rfl hK (by decide) (wtt hb_138) rfl (fun w hS => r_fieldA (v := #[.int .i64 y_139.H.a0, .int .i64 y_139.H.a1, .int .i64 y_139.H.a2, .int .i64 y_139.H.a3, .int .i64 y_139.H.a4, .int .i64 y_139.H.a5, .int .i64 y_139.H.a6, .int .i64 y_139.H.a7]) Tryd.underlying24 rfl Tryd.isAgg22 Tryd.sizeOf22 hK rfl rfl) fun a hK => ?_
                refine sp (k := 33) rfl hK (by decide) (wtt hb_138) rfl (fun w hS => r_seq (by kernel_rfl) (eqs22 y_139.H (⟨0, 0, 1, 0, 0, 0, 0, 0⟩ : Arr8)) hK rfl rfl) fun a hK => ?_
                refine sp (k := 34) rfl hK (by decide) rfl rfl (fun w hS => r_pick_t hb_138 hK rfl rfl) fun a hK => ?_
                refine sp (k := 35) rfl hK (by decide) rfl rfl (fun w hS => r_move hK rfl) fun a hK => ?_
                rcases or_b (decide (y_139.H = (⟨0, 0, 1, 0, 0, 0, 0, 0⟩ : Arr8))) with hb_141 | hb_141
                · rw [ifb_t hb_141] at H
                  refine spw (k := 36) rfl rfl hS ?_
                  obtain ⟨y_142, h_143, H⟩ := bind_some H
                  refine sl_callV Tryd.call24 hS hK (by decide) (wtt hb_141) rfl rfl (value_OfInt.calls (-5) h_143 _) fun a w hS hK => ?_
                  refine parK_nil hS ?_
                  refine spw (k := 37) rfl rfl hS ?_
                  obtain ⟨y_144, h_145, H⟩ := bind_some H
                  refine sl_callV Tryd.call16 hS hK (by decide) (wtt hb_141) rfl rfl (value_Text.calls y_142 (lentOf_sub [] _) (GF.mono (hS.raLe0 hRA nil_not) hG) h_145) fun a w hS hK => ?_
                  refine parK_nil hS ?_
                  refine sp (k := 38) rfl hK (by decide) (wtt hb_141) rfl (fun w hS => r_sbin hK rfl rfl rfl) fun a hK => ?_
                  refine sp (k := 39) rfl hK (by decide) rfl rfl (fun w hS => r_pick_t hb_141 hK rfl rfl) fun a hK => ?_
                  refine sp (k := 40) rfl hK (by decide) rfl rfl (fun w hS => r_move hK rfl) fun a hK => ?_
                  rcases or_b (y_144.toList == (⟨#[45, 53]⟩ : ByteArray).toList) with hb_146 | hb_146
                  · rw [ifb_t hb_146] at H
                    refine spw (k := 41) rfl rfl hS ?_
                    obtain ⟨y_147, h_148, H⟩ := bind_some H
                    refine sl_callV Tryd.call27 hS hK (by decide) (wtt hb_146) rfl rfl (value_OfStr.calls (⟨#[97, 34, 98]⟩ : ByteArray) h_148 _) fun a w hS hK => ?_
                    refine parK_nil hS ?_
                    refine spw (k := 42) rfl rfl hS ?_
                    obtain ⟨y_149, h_150, H⟩ := bind_some H
                    refine sl_callV Tryd.call16 hS hK (by decide) (wtt hb_146) rfl rfl (value_Text.calls y_147 (lentOf_sub [] _) (GF.mono (hS.raLe0 hRA nil_not) hG) h_150) fun a w hS hK => ?_
                    refine parK_nil hS ?_
                    refine sp (k := 43) rfl hK (by decide) (wtt hb_146) rfl (fun w hS => r_sbin hK rfl rfl rfl) fun a hK => ?_
                    refine sp (k := 44) rfl hK (by decide) rfl rfl (fun w hS => r_pick_t hb_146 hK rfl rfl) fun a hK => ?_
                    refine sp (k := 45) rfl hK (by decide) rfl rfl (fun w hS => r_move hK rfl) fun a hK => ?_
                    rcases or_b (y_149.toList == (⟨#[34, 97, 92, 34, 98, 34]⟩ : ByteArray).toList) with hb_151 | hb_151
                    · rw [ifb_t hb_151] at H
                      refine sp (k := 46) rfl hK (by decide) (wtt hb_151) rfl (fun w hS => r_loadA (cs := [.int .i64 y_1.Kind, .int .i64 y_1.N, .string y_1.S, .int .i64 y_1.H.a0, .int .i64 y_1.H.a1, .int .i64 y_1.H.a2, .int .i64 y_1.H.a3, .int .i64 y_1.H.a4, .int .i64 y_1.H.a5, .int .i64 y_1.H.a6, .int .i64 y_1.H.a7]) Tryd.isAgg24 Tryd.sizeOf24 rfl hK rfl (hS.cells_of (m := 11) (.tail _ (.head _)) rfl)) fun a hK => ?_
                      refine spw (k := 47) rfl rfl hS ?_
                      obtain ⟨y_152, h_153, H⟩ := bind_some H
                      refine sl_callV Tryd.call24 hS hK (by decide) (wtt hb_151) rfl rfl (value_OfInt.calls 2 h_153 _) fun a w hS hK => ?_
                      refine parK_nil hS ?_
                      refine spw (k := 48) rfl rfl hS ?_
                      obtain ⟨y_154, h_155, H⟩ := bind_some H
                      refine sl_callV Tryd.call20 hS hK (by decide) (wtt hb_151) rfl rfl (value_Holds.calls 3 y_1 y_152 h_155 _) fun a w hS hK => ?_
                      refine parK_nil hS ?_
                      refine sp (k := 49) rfl hK (by decide) rfl rfl (fun w hS => r_pick_t hb_151 hK rfl rfl) fun a hK => ?_
                      refine sp (k := 50) rfl hK (by decide) rfl rfl (fun w hS => r_move hK rfl) fun a hK => ?_
                      rcases or_b y_154 with hb_156 | hb_156
                      · rw [ifb_t hb_156] at H
                        refine sp (k := 51) rfl hK (by decide) (wtt hb_156) rfl (fun w hS => r_loadA (cs := [.int .i64 y_1.Kind, .int .i64 y_1.N, .string y_1.S, .int .i64 y_1.H.a0, .int .i64 y_1.H.a1, .int .i64 y_1.H.a2, .int .i64 y_1.H.a3, .int .i64 y_1.H.a4, .int .i64 y_1.H.a5, .int .i64 y_1.H.a6, .int .i64 y_1.H.a7]) Tryd.isAgg24 Tryd.sizeOf24 rfl hK rfl (hS.cells_of (m := 11) (.tail _ (.head _)) rfl)) fun a hK => ?_
                        refine sp (k := 52) rfl hK (by decide) (wtt hb_156) rfl (fun w hS => r_loadA (cs := [.int .i64 y_4.Kind, .int .i64 y_4.N, .string y_4.S, .int .i64 y_4.H.a0, .int .i64 y_4.H.a1, .int .i64 y_4.H.a2, .int .i64 y_4.H.a3, .int .i64 y_4.H.a4, .int .i64 y_4.H.a5, .int .i64 y_4.H.a6, .int .i64 y_4.H.a7]) Tryd.isAgg24 Tryd.sizeOf24 rfl hK rfl (hS.cells_of (m := 11) (.tail _ (.tail _ (.head _))) rfl)) fun a hK => ?_
                        refine spw (k := 53) rfl rfl hS ?_
                        obtain ⟨y_157, h_158, H⟩ := bind_some H
                        refine sl_callV Tryd.call20 hS hK (by decide) (wtt hb_156) rfl rfl (value_Holds.calls 2 y_1 y_4 h_158 _) fun a w hS hK => ?_
                        refine parK_nil hS ?_
                        refine sp (k := 54) rfl hK (by decide) (wtt hb_156) rfl (fun w hS => r_un hK rfl (u_not _)) fun a hK => ?_
                        refine sp (k := 55) rfl hK (by decide) rfl rfl (fun w hS => r_pick_t hb_156 hK rfl rfl) fun a hK => ?_
                        refine sp (k := 56) rfl hK (by decide) rfl rfl (fun w hS => r_move hK rfl) fun a hK => ?_
                        rcases or_b (!y_157) with hb_159 | hb_159
                        · rw [ifb_t hb_159] at H
                          refine sp (k := 57) rfl hK (by decide) (wtt hb_159) rfl (fun w hS => r_loadA (cs := [.int .i64 y_1.Kind, .int .i64 y_1.N, .string y_1.S, .int .i64 y_1.H.a0, .int .i64 y_1.H.a1, .int .i64 y_1.H.a2, .int .i64 y_1.H.a3, .int .i64 y_1.H.a4, .int .i64 y_1.H.a5, .int .i64 y_1.H.a6, .int .i64 y_1.H.a7]) Tryd.isAgg24 Tryd.sizeOf24 rfl hK rfl (hS.cells_of (m := 11) (.tail _ (.head _)) rfl)) fun a hK => ?_
                          refine sp (k := 58) rfl hK (by decide) (wtt hb_159) rfl (fun w hS => r_loadA (cs := [.int .i64 y_1.Kind, .int .i64 y_1.N, .string y_1.S, .int .i64 y_1.H.a0, .int .i64 y_1.H.a1, .int .i64 y_1.H.a2, .int .i64 y_1.H.a3, .int .i64 y_1.H.a4, .int .i64 y_1.H.a5, .int .i64 y_1.H.a6, .int .i64 y_1.H.a7]) Tryd.isAgg24 Tryd.sizeOf24 rfl hK rfl (hS.cells_of (m := 11) (.tail _ (.head _)) rfl)) fun a hK => ?_
                          refine thenL_nil ?_
                          obtain ⟨y_160, h_161, H⟩ := bind_some H
                          refine sl_callV Tryd.call20 hS hK (by decide) (wtt hb_159) rfl rfl (value_Holds.calls 9 y_1 y_1 h_161 _) fun a w hS hK => ?_
                          refine sl hK (by decide) (wtt hb_159) rfl (r_un hK rfl (u_not _)) fun a hK => ?_
                          refine sl hK (by decide) rfl rfl (r_pick_t hb_159 hK rfl rfl) fun a hK => ?_
                          refine sl hK (by decide) rfl rfl (r_move hK rfl) fun a hK => ?_
                          rcases or_b (!y_160) with hb_162 | hb_162
                          · rw [ifb_t hb_162] at H
                            refine sl hK (by decide) (wtt hb_162) rfl (r_loadA (cs := [.int .i64 y_1.Kind, .int .i64 y_1.N, .string y_1.S, .int .i64 y_1.H.a0, .int .i64 y_1.H.a1, .int .i64 y_1.H.a2, .int .i64 y_1.H.a3, .int .i64 y_1.H.a4, .int .i64 y_1.H.a5, .int .i64 y_1.H.a6, .int .i64 y_1.H.a7]) Tryd.isAgg24 Tryd.sizeOf24 rfl hK rfl (hS.cells_of (m := 11) (.tail _ (.head _)) rfl)) fun a hK => ?_
                            obtain ⟨y_163, h_164, H⟩ := bind_some H
                            refine sl_callV Tryd.call14 hS hK (by decide) (wtt hb_162) rfl rfl (value_Valid.calls y_1 h_164 _) fun a w hS hK => ?_
                            refine sl hK (by decide) rfl rfl (r_pick_t hb_162 hK rfl rfl) fun a hK => ?_
                            refine sl hK (by decide) rfl rfl (r_assign hK rfl) fun a hK => ?_
                            refine wpList_nil (NoP_nil ?_)
                            obtain rfl := Option.some.inj H
                            refine wp_ret ?_
                            repeat (first | refine ret_then ?_ | refine ret_block ?_ | refine ret_scope ?_)
                            exact ret_1 Tryd.results13 hK (rv_tmp hK rfl) ⟨rfl, hS.bel⟩
                          · rw [ifb_f hb_162] at H
                            refine sl_skip hK (by decide) (wtf hb_162) rfl fun a hK => ?_
                            refine sl_skip hK (by decide) (wtf hb_162) rfl fun a hK => ?_
                            refine sl hK (by decide) rfl rfl (r_pick_f hb_162 hK rfl rfl) fun a hK => ?_
                            refine sl hK (by decide) rfl rfl (r_assign hK rfl) fun a hK => ?_
                            refine wpList_nil (NoP_nil ?_)
                            obtain rfl := Option.some.inj H
                            refine wp_ret ?_
                            repeat (first | refine ret_then ?_ | refine ret_block ?_ | refine ret_scope ?_)
                            exact ret_1 Tryd.results13 hK (rv_tmp hK rfl) ⟨rfl, hS.bel⟩
                        · rw [ifb_f hb_159] at H
                          refine sp_skip (k := 57) rfl hK (by decide) (wtf hb_159) rfl fun a hK => ?_
                          refine sp_skip (k := 58) rfl hK (by decide) (wtf hb_159) rfl fun a hK => ?_
                          refine thenL_nil ?_
                          refine sl_skip hK (by decide) (wtf hb_159) rfl fun a hK => ?_
                          refine sl_skip hK (by decide) (wtf hb_159) rfl fun a hK => ?_
                          refine sl hK (by decide) rfl rfl (r_pick_f hb_159 hK rfl rfl) fun a hK => ?_
                          refine sl hK (by decide) rfl rfl (r_move hK rfl) fun a hK => ?_
                          refine sl_skip hK (by decide) rfl rfl fun a hK => ?_
                          refine sl_skip hK (by decide) rfl rfl fun a hK => ?_
                          refine sl hK (by decide) rfl rfl (r_pick hK rfl rfl rfl) fun a hK => ?_
                          refine sl hK (by decide) rfl rfl (r_assign hK rfl) fun a hK => ?_
                          refine wpList_nil (NoP_nil ?_)
                          obtain rfl := Option.some.inj H
                          refine wp_ret ?_
                          repeat (first | refine ret_then ?_ | refine ret_block ?_ | refine ret_scope ?_)
                          exact ret_1 Tryd.results13 hK (rv_tmp hK rfl) ⟨rfl, hS.bel⟩
                      · rw [ifb_f hb_156] at H
                        refine sp_skip (k := 51) rfl hK (by decide) (wtf hb_156) rfl fun a hK => ?_
                        refine sp_skip (k := 52) rfl hK (by decide) (wtf hb_156) rfl fun a hK => ?_
                        refine spw (k := 53) rfl rfl hS ?_
                        refine sl_skip hK (by decide) (wtf hb_156) rfl fun a hK => ?_
                        refine parK_nil hS ?_
                        refine sp_skip (k := 54) rfl hK (by decide) (wtf hb_156) rfl fun a hK => ?_
                        refine sp (k := 55) rfl hK (by decide) rfl rfl (fun w hS => r_pick_f hb_156 hK rfl rfl) fun a hK => ?_
                        refine sp (k := 56) rfl hK (by decide) rfl rfl (fun w hS => r_move hK rfl) fun a hK => ?_
                        refine sp_skip (k := 57) rfl hK (by decide) rfl rfl fun a hK => ?_
                        refine sp_skip (k := 58) rfl hK (by decide) rfl rfl fun a hK => ?_
                        refine thenL_nil ?_
                        refine sl_skip hK (by decide) rfl rfl fun a hK => ?_
                        refine sl_skip hK (by decide) rfl rfl fun a hK => ?_
                        refine sl hK (by decide) rfl rfl (r_pick hK rfl rfl rfl) fun a hK => ?_
                        refine sl hK (by decide) rfl rfl (r_move hK rfl) fun a hK => ?_
                        refine sl_skip hK (by decide) rfl rfl fun a hK => ?_
                        refine sl_skip hK (by decide) rfl rfl fun a hK => ?_
                        refine sl hK (by decide) rfl rfl (r_pick hK rfl rfl rfl) fun a hK => ?_
                        refine sl hK (by decide) rfl rfl (r_assign hK rfl) fun a hK => ?_
                        refine wpList_nil (NoP_nil ?_)
                        obtain rfl := Option.some.inj H
                        refine wp_ret ?_
                        repeat (first | refine ret_then ?_ | refine ret_block ?_ | refine ret_scope ?_)
                        exact ret_1 Tryd.results13 hK (rv_tmp hK rfl) ⟨rfl, hS.bel⟩
                    · rw [ifb_f hb_151] at H
                      refine sp_skip (k := 46) rfl hK (by decide) (wtf hb_151) rfl fun a hK => ?_
                      refine spw (k := 47) rfl rfl hS ?_
                      refine sl_skip hK (by decide) (wtf hb_151) rfl fun a hK => ?_
                      refine parK_nil hS ?_
                      refine spw (k := 48) rfl rfl hS ?_
                      refine sl_skip hK (by decide) (wtf hb_151) rfl fun a hK => ?_
                      refine parK_nil hS ?_
                      refine sp (k := 49) rfl hK (by decide) rfl rfl (fun w hS => r_pick_f hb_151 hK rfl rfl) fun a hK => ?_
                      refine sp (k := 50) rfl hK (by decide) rfl rfl (fun w hS => r_move hK rfl) fun a hK => ?_
                      refine sp_skip (k := 51) rfl hK (by decide) rfl rfl fun a hK => ?_
                      refine sp_skip (k := 52) rfl hK (by decide) rfl rfl fun a hK => ?_
                      refine spw (k := 53) rfl rfl hS ?_
                      refine sl_skip hK (by decide) rfl rfl fun a hK => ?_
                      refine parK_nil hS ?_
                      refine sp_skip (k := 54) rfl hK (by decide) rfl rfl fun a hK => ?_
                      refine sp (k := 55) rfl hK (by decide) rfl rfl (fun w hS => r_pick hK rfl rfl rfl) fun a hK => ?_
                      refine sp (k := 56) rfl hK (by decide) rfl rfl (fun w hS => r_move hK rfl) fun a hK => ?_
                      refine sp_skip (k := 57) rfl hK (by decide) rfl rfl fun a hK => ?_
                      refine sp_skip (k := 58) rfl hK (by decide) rfl rfl fun a hK => ?_
                      refine thenL_nil ?_
                      refine sl_skip hK (by decide) rfl rfl fun a hK => ?_
                      refine sl_skip hK (by decide) rfl rfl fun a hK => ?_
                      refine sl hK (by decide) rfl rfl (r_pick hK rfl rfl rfl) fun a hK => ?_
                      refine sl hK (by decide) rfl rfl (r_move hK rfl) fun a hK => ?_
                      refine sl_skip hK (by decide) rfl rfl fun a hK => ?_
                      refine sl_skip hK (by decide) rfl rfl fun a hK => ?_
                      refine sl hK (by decide) rfl rfl (r_pick hK rfl rfl rfl) fun a hK => ?_
                      refine sl hK (by decide) rfl rfl (r_assign hK rfl) fun a hK => ?_
                      refine wpList_nil (NoP_nil ?_)
                      obtain rfl := Option.some.inj H
                      refine wp_ret ?_
                      repeat (first | refine ret_then ?_ | refine ret_block ?_ | refine ret_scope ?_)
                      exact ret_1 Tryd.results13 hK (rv_tmp hK rfl) ⟨rfl, hS.bel⟩
                  · rw [ifb_f hb_146] at H
                    refine spw (k := 41) rfl rfl hS ?_
                    refine sl_skip hK (by decide) (wtf hb_146) rfl fun a hK => ?_
                    refine parK_nil hS ?_
                    refine spw (k := 42) rfl rfl hS ?_
                    refine sl_skip hK (by decide) (wtf hb_146) rfl fun a hK => ?_
                    refine parK_nil hS ?_
                    refine sp_skip (k := 43) rfl hK (by decide) (wtf hb_146) rfl fun a hK => ?_
                    refine sp (k := 44) rfl hK (by decide) rfl rfl (fun w hS => r_pick_f hb_146 hK rfl rfl) fun a hK => ?_
                    refine sp (k := 45) rfl hK (by decide) rfl rfl (fun w hS => r_move hK rfl) fun a hK => ?_
                    refine sp_skip (k := 46) rfl hK (by decide) rfl rfl fun a hK => ?_
                    refine spw (k := 47) rfl rfl hS ?_
                    refine sl_skip hK (by decide) rfl rfl fun a hK => ?_
                    refine parK_nil hS ?_
                    refine spw (k := 48) rfl rfl hS ?_
                    refine sl_skip hK (by decide) rfl rfl fun a hK => ?_
                    refine parK_nil hS ?_
                    refine sp (k := 49) rfl hK (by decide) rfl rfl (fun w hS => r_pick hK rfl rfl rfl) fun a hK => ?_
                    refine sp (k := 50) rfl hK (by decide) rfl rfl (fun w hS => r_move hK rfl) fun a hK => ?_
                    refine sp_skip (k := 51) rfl hK (by decide) rfl rfl fun a hK => ?_
                    refine sp_skip (k := 52) rfl hK (by decide) rfl rfl fun a hK => ?_
                    refine spw (k := 53) rfl rfl hS ?_
                    refine sl_skip hK (by decide) rfl rfl fun a hK => ?_
                    refine parK_nil hS ?_
                    refine sp_skip (k := 54) rfl hK (by decide) rfl rfl fun a hK => ?_
                    refine sp (k := 55) rfl hK (by decide) rfl rfl (fun w hS => r_pick hK rfl rfl rfl) fun a hK => ?_
                    refine sp (k := 56) rfl hK (by decide) rfl rfl (fun w hS => r_move hK rfl) fun a hK => ?_
                    refine sp_skip (k := 57) rfl hK (by decide) rfl rfl fun a hK => ?_
                    refine sp_skip (k := 58) rfl hK (by decide) rfl rfl fun a hK => ?_
                    refine thenL_nil ?_
                    refine sl_skip hK (by decide) rfl rfl fun a hK => ?_
                    refine sl_skip hK (by decide) rfl rfl fun a hK => ?_
                    refine sl hK (by decide) rfl rfl (r_pick hK rfl rfl rfl) fun a hK => ?_
                    refine sl hK (by decide) rfl rfl (r_move hK rfl) fun a hK => ?_
                    refine sl_skip hK (by decide) rfl rfl fun a hK => ?_
                    refine sl_skip hK (by decide) rfl rfl fun a hK => ?_
                    refine sl hK (by decide) rfl rfl (r_pick hK rfl rfl rfl) fun a hK => ?_
                    refine sl hK (by decide) rfl rfl (r_assign hK rfl) fun a hK => ?_
                    refine wpList_nil (NoP_nil ?_)
                    obtain rfl := Option.some.inj H
                    refine wp_ret ?_
                    repeat (first | refine ret_then ?_ | refine ret_block ?_ | refine ret_scope ?_)
                    exact ret_1 Tryd.results13 hK (rv_tmp hK rfl) ⟨rfl, hS.bel⟩
                · rw [ifb_f hb_141] at H
                  refine spw (k := 36) rfl rfl hS ?_
                  refine sl_skip hK (by decide) (wtf hb_141) rfl fun a hK => ?_
                  refine parK_nil hS ?_
                  refine spw (k := 37) rfl rfl hS ?_
                  refine sl_skip hK (by decide) (wtf hb_141) rfl fun a hK => ?_
                  refine parK_nil hS ?_
                  refine sp_skip (k := 38) rfl hK (by decide) (wtf hb_141) rfl fun a hK => ?_
                  refine sp (k := 39) rfl hK (by decide) rfl rfl (fun w hS => r_pick_f hb_141 hK rfl rfl) fun a hK => ?_
                  refine sp (k := 40) rfl hK (by decide) rfl rfl (fun w hS => r_move hK rfl) fun a hK => ?_
                  refine spw (k := 41) rfl rfl hS ?_
                  refine sl_skip hK (by decide) rfl rfl fun a hK => ?_
                  refine parK_nil hS ?_
                  refine spw (k := 42) rfl rfl hS ?_
                  refine sl_skip hK (by decide) rfl rfl fun a hK => ?_
                  refine parK_nil hS ?_
                  refine sp_skip (k := 43) rfl hK (by decide) rfl rfl fun a hK => ?_
                  refine sp (k := 44) rfl hK (by decide) rfl rfl (fun w hS => r_pick hK rfl rfl rfl) fun a hK => ?_
                  refine sp (k := 45) rfl hK (by decide) rfl rfl (fun w hS => r_move hK rfl) fun a hK => ?_
                  refine sp_skip (k := 46) rfl hK (by decide) rfl rfl fun a hK => ?_
                  refine spw (k := 47) rfl rfl hS ?_
                  refine sl_skip hK (by decide) rfl rfl fun a hK => ?_
                  refine parK_nil hS ?_
                  refine spw (k := 48) rfl rfl hS ?_
                  refine sl_skip hK (by decide) rfl rfl fun a hK => ?_
                  refine parK_nil hS ?_
                  refine sp (k := 49) rfl hK (by decide) rfl rfl (fun w hS => r_pick hK rfl rfl rfl) fun a hK => ?_
                  refine sp (k := 50) rfl hK (by decide) rfl rfl (fun w hS => r_move hK rfl) fun a hK => ?_
                  refine sp_skip (k := 51) rfl hK (by decide) rfl rfl fun a hK => ?_
                  refine sp_skip (k := 52) rfl hK (by decide) rfl rfl fun a hK => ?_
                  refine spw (k := 53) rfl rfl hS ?_
                  refine sl_skip hK (by decide) rfl rfl fun a hK => ?_
                  refine parK_nil hS ?_
                  refine sp_skip (k := 54) rfl hK (by decide) rfl rfl fun a hK => ?_
                  refine sp (k := 55) rfl hK (by decide) rfl rfl (fun w hS => r_pick hK rfl rfl rfl) fun a hK => ?_
                  refine sp (k := 56) rfl hK (by decide) rfl rfl (fun w hS => r_move hK rfl) fun a hK => ?_
                  refine sp_skip (k := 57) rfl hK (by decide) rfl rfl fun a hK => ?_
                  refine sp_skip (k := 58) rfl hK (by decide) rfl rfl fun a hK => ?_
                  refine thenL_nil ?_
                  refine sl_skip hK (by decide) rfl rfl fun a hK => ?_
                  refine sl_skip hK (by decide) rfl rfl fun a hK => ?_
                  refine sl hK (by decide) rfl rfl (r_pick hK rfl rfl rfl) fun a hK => ?_
                  refine sl hK (by decide) rfl rfl (r_move hK rfl) fun a hK => ?_
                  refine sl_skip hK (by decide) rfl rfl fun a hK => ?_
                  refine sl_skip hK (by decide) rfl rfl fun a hK => ?_
                  refine sl hK (by decide) rfl rfl (r_pick hK rfl rfl rfl) fun a hK => ?_
                  refine sl hK (by decide) rfl rfl (r_assign hK rfl) fun a hK => ?_
                  refine wpList_nil (NoP_nil ?_)
                  obtain rfl := Option.some.inj H
                  refine wp_ret ?_
                  repeat (first | refine ret_then ?_ | refine ret_block ?_ | refine ret_scope ?_)
                  exact ret_1 Tryd.results13 hK (rv_tmp hK rfl) ⟨rfl, hS.bel⟩
              · rw [ifb_f hb_138] at H
                refine sp_skip (k := 32) rfl hK (by decide) (wtf hb_138) rfl fun a hK => ?_
                refine spw (k := 30) rfl rfl hS ?_
                refine sl_skip hK (by decide) (wtf hb_138) rfl fun a hK => ?_
                refine parK_nil hS ?_
                refine sp_skip (k := 31) rfl hK (by decide) (wtf hb_138) rfl fun a hK => ?_
                refine sp_skip (k := 33) rfl hK (by decide) (wtf hb_138) rfl fun a hK => ?_
                refine sp (k := 34) rfl hK (by decide) rfl rfl (fun w hS => r_pick_f hb_138 hK rfl rfl) fun a hK => ?_
                refine sp (k := 35) rfl hK (by decide) rfl rfl (fun w hS => r_move hK rfl) fun a hK => ?_
                refine spw (k := 36) rfl rfl hS ?_
                refine sl_skip hK (by decide) rfl rfl fun a hK => ?_
                refine parK_nil hS ?_
                refine spw (k := 37) rfl rfl hS ?_
                refine sl_skip hK (by decide) rfl rfl fun a hK => ?_
                refine parK_nil hS ?_
                refine sp_skip (k := 38) rfl hK (by decide) rfl rfl fun a hK => ?_
                refine sp (k := 39) rfl hK (by decide) rfl rfl (fun w hS => r_pick hK rfl rfl rfl) fun a hK => ?_
                refine sp (k := 40) rfl hK (by decide) rfl rfl (fun w hS => r_move hK rfl) fun a hK => ?_
                refine spw (k := 41) rfl rfl hS ?_
                refine sl_skip hK (by decide) rfl rfl fun a hK => ?_
                refine parK_nil hS ?_
                refine spw (k := 42) rfl rfl hS ?_
                refine sl_skip hK (by decide) rfl rfl fun a hK => ?_
                refine parK_nil hS ?_
                refine sp_skip (k := 43) rfl hK (by decide) rfl rfl fun a hK => ?_
                refine sp (k := 44) rfl hK (by decide) rfl rfl (fun w hS => r_pick hK rfl rfl rfl) fun a hK => ?_
                refine sp (k := 45) rfl hK (by decide) rfl rfl (fun w hS => r_move hK rfl) fun a hK => ?_
                refine sp_skip (k := 46) rfl hK (by decide) rfl rfl fun a hK => ?_
                refine spw (k := 47) rfl rfl hS ?_
                refine sl_skip hK (by decide) rfl rfl fun a hK => ?_
                refine parK_nil hS ?_
                refine spw (k := 48) rfl rfl hS ?_
                refine sl_skip hK (by decide) rfl rfl fun a hK => ?_
                refine parK_nil hS ?_
                refine sp (k := 49) rfl hK (by decide) rfl rfl (fun w hS => r_pick hK rfl rfl rfl) fun a hK => ?_
                refine sp (k := 50) rfl hK (by decide) rfl rfl (fun w hS => r_move hK rfl) fun a hK => ?_
                refine sp_skip (k := 51) rfl hK (by decide) rfl rfl fun a hK => ?_
                refine sp_skip (k := 52) rfl hK (by decide) rfl rfl fun a hK => ?_
                refine spw (k := 53) rfl rfl hS ?_
                refine sl_skip hK (by decide) rfl rfl fun a hK => ?_
                refine parK_nil hS ?_
                refine sp_skip (k := 54) rfl hK (by decide) rfl rfl fun a hK => ?_
                refine sp (k := 55) rfl hK (by decide) rfl rfl (fun w hS => r_pick hK rfl rfl rfl) fun a hK => ?_
                refine sp (k := 56) rfl hK (by decide) rfl rfl (fun w hS => r_move hK rfl) fun a hK => ?_
                refine sp_skip (k := 57) rfl hK (by decide) rfl rfl fun a hK => ?_
                refine sp_skip (k := 58) rfl hK (by decide) rfl rfl fun a hK => ?_
                refine thenL_nil ?_
                refine sl_skip hK (by decide) rfl rfl fun a hK => ?_
                refine sl_skip hK (by decide) rfl rfl fun a hK => ?_
                refine sl hK (by decide) rfl rfl (r_pick hK rfl rfl rfl) fun a hK => ?_
                refine sl hK (by decide) rfl rfl (r_move hK rfl) fun a hK => ?_
                refine sl_skip hK (by decide) rfl rfl fun a hK => ?_
                refine sl_skip hK (by decide) rfl rfl fun a hK => ?_
                refine sl hK (by decide) rfl rfl (r_pick hK rfl rfl rfl) fun a hK => ?_
                refine sl hK (by decide) rfl rfl (r_assign hK rfl) fun a hK => ?_
                refine wpList_nil (NoP_nil ?_)
                obtain rfl := Option.some.inj H
                refine wp_ret ?_
                repeat (first | refine ret_then ?_ | refine ret_block ?_ | refine ret_scope ?_)
                exact ret_1 Tryd.results13 hK (rv_tmp hK rfl) ⟨rfl, hS.bel⟩
            · rw [ifb_f hb_137] at H
              refine sp_skip (k := 26) rfl hK (by decide) (wtf hb_137) rfl fun a hK => ?_
              refine sp_skip (k := 27) rfl hK (by decide) (wtf hb_137) rfl fun a hK => ?_
              refine sp (k := 28) rfl hK (by decide) rfl rfl (fun w hS => r_pick_f hb_137 hK rfl rfl) fun a hK => ?_
              refine sp (k := 29) rfl hK (by decide) rfl rfl (fun w hS => r_move hK rfl) fun a hK => ?_
              refine sp_skip (k := 32) rfl hK (by decide) rfl rfl fun a hK => ?_
              refine spw (k := 30) rfl rfl hS ?_
              refine sl_skip hK (by decide) rfl rfl fun a hK => ?_
              refine parK_nil hS ?_
              refine sp_skip (k := 31) rfl hK (by decide) rfl rfl fun a hK => ?_
              refine sp_skip (k := 33) rfl hK (by decide) rfl rfl fun a hK => ?_
              refine sp (k := 34) rfl hK (by decide) rfl rfl (fun w hS => r_pick hK rfl rfl rfl) fun a hK => ?_
              refine sp (k := 35) rfl hK (by decide) rfl rfl (fun w hS => r_move hK rfl) fun a hK => ?_
              refine spw (k := 36) rfl rfl hS ?_
              refine sl_skip hK (by decide) rfl rfl fun a hK => ?_
              refine parK_nil hS ?_
              refine spw (k := 37) rfl rfl hS ?_
              refine sl_skip hK (by decide) rfl rfl fun a hK => ?_
              refine parK_nil hS ?_
              refine sp_skip (k := 38) rfl hK (by decide) rfl rfl fun a hK => ?_
              refine sp (k := 39) rfl hK (by decide) rfl rfl (fun w hS => r_pick hK rfl rfl rfl) fun a hK => ?_
              refine sp (k := 40) rfl hK (by decide) rfl rfl (fun w hS => r_move hK rfl) fun a hK => ?_
              refine spw (k := 41) rfl rfl hS ?_
              refine sl_skip hK (by decide) rfl rfl fun a hK => ?_
              refine parK_nil hS ?_
              refine spw (k := 42) rfl rfl hS ?_
              refine sl_skip hK (by decide) rfl rfl fun a hK => ?_
              refine parK_nil hS ?_
              refine sp_skip (k := 43) rfl hK (by decide) rfl rfl fun a hK => ?_
              refine sp (k := 44) rfl hK (by decide) rfl rfl (fun w hS => r_pick hK rfl rfl rfl) fun a hK => ?_
              refine sp (k := 45) rfl hK (by decide) rfl rfl (fun w hS => r_move hK rfl) fun a hK => ?_
              refine sp_skip (k := 46) rfl hK (by decide) rfl rfl fun a hK => ?_
              refine spw (k := 47) rfl rfl hS ?_
              refine sl_skip hK (by decide) rfl rfl fun a hK => ?_
              refine parK_nil hS ?_
              refine spw (k := 48) rfl rfl hS ?_
              refine sl_skip hK (by decide) rfl rfl fun a hK => ?_
              refine parK_nil hS ?_
              refine sp (k := 49) rfl hK (by decide) rfl rfl (fun w hS => r_pick hK rfl rfl rfl) fun a hK => ?_
              refine sp (k := 50) rfl hK (by decide) rfl rfl (fun w hS => r_move hK rfl) fun a hK => ?_
              refine sp_skip (k := 51) rfl hK (by decide) rfl rfl fun a hK => ?_
              refine sp_skip (k := 52) rfl hK (by decide) rfl rfl fun a hK => ?_
              refine spw (k := 53) rfl rfl hS ?_
              refine sl_skip hK (by decide) rfl rfl fun a hK => ?_
              refine parK_nil hS ?_
              refine sp_skip (k := 54) rfl hK (by decide) rfl rfl fun a hK => ?_
              refine sp (k := 55) rfl hK (by decide) rfl rfl (fun w hS => r_pick hK rfl rfl rfl) fun a hK => ?_
              refine sp (k := 56) rfl hK (by decide) rfl rfl (fun w hS => r_move hK rfl) fun a hK => ?_
              refine sp_skip (k := 57) rfl hK (by decide) rfl rfl fun a hK => ?_
              refine sp_skip (k := 58) rfl hK (by decide) rfl rfl fun a hK => ?_
              refine thenL_nil ?_
              refine sl_skip hK (by decide) rfl rfl fun a hK => ?_
              refine sl_skip hK (by decide) rfl rfl fun a hK => ?_
              refine sl hK (by decide) rfl rfl (r_pick hK rfl rfl rfl) fun a hK => ?_
              refine sl hK (by decide) rfl rfl (r_move hK rfl) fun a hK => ?_
              refine sl_skip hK (by decide) rfl rfl fun a hK => ?_
              refine sl_skip hK (by decide) rfl rfl fun a hK => ?_
              refine sl hK (by decide) rfl rfl (r_pick hK rfl rfl rfl) fun a hK => ?_
              refine sl hK (by decide) rfl rfl (r_assign hK rfl) fun a hK => ?_
              refine wpList_nil (NoP_nil ?_)
              obtain rfl := Option.some.inj H
              refine wp_ret ?_
              repeat (first | refine ret_then ?_ | refine ret_block ?_ | refine ret_scope ?_)
              exact ret_1 Tryd.results13 hK (rv_tmp hK rfl) ⟨rfl, hS.bel⟩
          · rw [ifb_f hb_136] at H
            refine sp_skip (k := 22) rfl hK (by decide) (wtf hb_136) rfl fun a hK => ?_
            refine sp_skip (k := 23) rfl hK (by decide) (wtf hb_136) rfl fun a hK => ?_
            refine sp (k := 24) rfl hK (by decide) rfl rfl (fun w hS => r_pick_f hb_136 hK rfl rfl) fun a hK => ?_
            refine sp (k := 25) rfl hK (by decide) rfl rfl (fun w hS => r_move hK rfl) fun a hK => ?_
            refine sp_skip (k := 26) rfl hK (by decide) rfl rfl fun a hK => ?_
            refine sp_skip (k := 27) rfl hK (by decide) rfl rfl fun a hK => ?_
            refine sp (k := 28) rfl hK (by decide) rfl rfl (fun w hS => r_pick hK rfl rfl rfl) fun a hK => ?_
            refine sp (k := 29) rfl hK (by decide) rfl rfl (fun w hS => r_move hK rfl) fun a hK => ?_
            refine sp_skip (k := 32) rfl hK (by decide) rfl rfl fun a hK => ?_
            refine spw (k := 30) rfl rfl hS ?_
            refine sl_skip hK (by decide) rfl rfl fun a hK => ?_
            refine parK_nil hS ?_
            refine sp_skip (k := 31) rfl hK (by decide) rfl rfl fun a hK => ?_
            refine sp_skip (k := 33) rfl hK (by decide) rfl rfl fun a hK => ?_
            refine sp (k := 34) rfl hK (by decide) rfl rfl (fun w hS => r_pick hK rfl rfl rfl) fun a hK => ?_
            refine sp (k := 35) rfl hK (by decide) rfl rfl (fun w hS => r_move hK rfl) fun a hK => ?_
            refine spw (k := 36) rfl rfl hS ?_
            refine sl_skip hK (by decide) rfl rfl fun a hK => ?_
            refine parK_nil hS ?_
            refine spw (k := 37) rfl rfl hS ?_
            refine sl_skip hK (by decide) rfl rfl fun a hK => ?_
            refine parK_nil hS ?_
            refine sp_skip (k := 38) rfl hK (by decide) rfl rfl fun a hK => ?_
            refine sp (k := 39) rfl hK (by decide) rfl rfl (fun w hS => r_pick hK rfl rfl rfl) fun a hK => ?_
            refine sp (k := 40) rfl hK (by decide) rfl rfl (fun w hS => r_move hK rfl) fun a hK => ?_
            refine spw (k := 41) rfl rfl hS ?_
            refine sl_skip hK (by decide) rfl rfl fun a hK => ?_
            refine parK_nil hS ?_
            refine spw (k := 42) rfl rfl hS ?_
            refine sl_skip hK (by decide) rfl rfl fun a hK => ?_
            refine parK_nil hS ?_
            refine sp_skip (k := 43) rfl hK (by decide) rfl rfl fun a hK => ?_
            refine sp (k := 44) rfl hK (by decide) rfl rfl (fun w hS => r_pick hK rfl rfl rfl) fun a hK => ?_
            refine sp (k := 45) rfl hK (by decide) rfl rfl (fun w hS => r_move hK rfl) fun a hK => ?_
            refine sp_skip (k := 46) rfl hK (by decide) rfl rfl fun a hK => ?_
            refine spw (k := 47) rfl rfl hS ?_
            refine sl_skip hK (by decide) rfl rfl fun a hK => ?_
            refine parK_nil hS ?_
            refine spw (k := 48) rfl rfl hS ?_
            refine sl_skip hK (by decide) rfl rfl fun a hK => ?_
            refine parK_nil hS ?_
            refine sp (k := 49) rfl hK (by decide) rfl rfl (fun w hS => r_pick hK rfl rfl rfl) fun a hK => ?_
            refine sp (k := 50) rfl hK (by decide) rfl rfl (fun w hS => r_move hK rfl) fun a hK => ?_
            refine sp_skip (k := 51) rfl hK (by decide) rfl rfl fun a hK => ?_
            refine sp_skip (k := 52) rfl hK (by decide) rfl rfl fun a hK => ?_
            refine spw (k := 53) rfl rfl hS ?_
            refine sl_skip hK (by decide) rfl rfl fun a hK => ?_
            refine parK_nil hS ?_
            refine sp_skip (k := 54) rfl hK (by decide) rfl rfl fun a hK => ?_
            refine sp (k := 55) rfl hK (by decide) rfl rfl (fun w hS => r_pick hK rfl rfl rfl) fun a hK => ?_
            refine sp (k := 56) rfl hK (by decide) rfl rfl (fun w hS => r_move hK rfl) fun a hK => ?_
            refine sp_skip (k := 57) rfl hK (by decide) rfl rfl fun a hK => ?_
            refine sp_skip (k := 58) rfl hK (by decide) rfl rfl fun a hK => ?_
            refine thenL_nil ?_
            refine sl_skip hK (by decide) rfl rfl fun a hK => ?_
            refine sl_skip hK (by decide) rfl rfl fun a hK => ?_
            refine sl hK (by decide) rfl rfl (r_pick hK rfl rfl rfl) fun a hK => ?_
            refine sl hK (by decide) rfl rfl (r_move hK rfl) fun a hK => ?_
            refine sl_skip hK (by decide) rfl rfl fun a hK => ?_
            refine sl_skip hK (by decide) rfl rfl fun a hK => ?_
            refine sl hK (by decide) rfl rfl (r_pick hK rfl rfl rfl) fun a hK => ?_
            refine sl hK (by decide) rfl rfl (r_assign hK rfl) fun a hK => ?_
            refine wpList_nil (NoP_nil ?_)
            obtain rfl := Option.some.inj H
            refine wp_ret ?_
            repeat (first | refine ret_then ?_ | refine ret_block ?_ | refine ret_scope ?_)
            exact ret_1 Tryd.results13 hK (rv_tmp hK rfl) ⟨rfl, hS.bel⟩
        · rw [ifb_f hb_133] at H
          refine sp_skip (k := 17) rfl hK (by decide) (wtf hb_133) rfl fun a hK => ?_
          refine spw (k := 18) rfl rfl hS ?_
          refine sl_skip hK (by decide) (wtf hb_133) rfl fun a hK => ?_
          refine parK_nil hS ?_
          refine sp_skip (k := 19) rfl hK (by decide) (wtf hb_133) rfl fun a hK => ?_
          refine sp (k := 20) rfl hK (by decide) rfl rfl (fun w hS => r_pick_f hb_133 hK rfl rfl) fun a hK => ?_
          refine sp (k := 21) rfl hK (by decide) rfl rfl (fun w hS => r_move hK rfl) fun a hK => ?_
          refine sp_skip (k := 22) rfl hK (by decide) rfl rfl fun a hK => ?_
          refine sp_skip (k := 23) rfl hK (by decide) rfl rfl fun a hK => ?_
          refine sp (k := 24) rfl hK (by decide) rfl rfl (fun w hS => r_pick hK rfl rfl rfl) fun a hK => ?_
          refine sp (k := 25) rfl hK (by decide) rfl rfl (fun w hS => r_move hK rfl) fun a hK => ?_
          refine sp_skip (k := 26) rfl hK (by decide) rfl rfl fun a hK => ?_
          refine sp_skip (k := 27) rfl hK (by decide) rfl rfl fun a hK => ?_
          refine sp (k := 28) rfl hK (by decide) rfl rfl (fun w hS => r_pick hK rfl rfl rfl) fun a hK => ?_
          refine sp (k := 29) rfl hK (by decide) rfl rfl (fun w hS => r_move hK rfl) fun a hK => ?_
          refine sp_skip (k := 32) rfl hK (by decide) rfl rfl fun a hK => ?_
          refine spw (k := 30) rfl rfl hS ?_
          refine sl_skip hK (by decide) rfl rfl fun a hK => ?_
          refine parK_nil hS ?_
          refine sp_skip (k := 31) rfl hK (by decide) rfl rfl fun a hK => ?_
          refine sp_skip (k := 33) rfl hK (by decide) rfl rfl fun a hK => ?_
          refine sp (k := 34) rfl hK (by decide) rfl rfl (fun w hS => r_pick hK rfl rfl rfl) fun a hK => ?_
          refine sp (k := 35) rfl hK (by decide) rfl rfl (fun w hS => r_move hK rfl) fun a hK => ?_
          refine spw (k := 36) rfl rfl hS ?_
          refine sl_skip hK (by decide) rfl rfl fun a hK => ?_
          refine parK_nil hS ?_
          refine spw (k := 37) rfl rfl hS ?_
          refine sl_skip hK (by decide) rfl rfl fun a hK => ?_
          refine parK_nil hS ?_
          refine sp_skip (k := 38) rfl hK (by decide) rfl rfl fun a hK => ?_
          refine sp (k := 39) rfl hK (by decide) rfl rfl (fun w hS => r_pick hK rfl rfl rfl) fun a hK => ?_
          refine sp (k := 40) rfl hK (by decide) rfl rfl (fun w hS => r_move hK rfl) fun a hK => ?_
          refine spw (k := 41) rfl rfl hS ?_
          refine sl_skip hK (by decide) rfl rfl fun a hK => ?_
          refine parK_nil hS ?_
          refine spw (k := 42) rfl rfl hS ?_
          refine sl_skip hK (by decide) rfl rfl fun a hK => ?_
          refine parK_nil hS ?_
          refine sp_skip (k := 43) rfl hK (by decide) rfl rfl fun a hK => ?_
          refine sp (k := 44) rfl hK (by decide) rfl rfl (fun w hS => r_pick hK rfl rfl rfl) fun a hK => ?_
          refine sp (k := 45) rfl hK (by decide) rfl rfl (fun w hS => r_move hK rfl) fun a hK => ?_
          refine sp_skip (k := 46) rfl hK (by decide) rfl rfl fun a hK => ?_
          refine spw (k := 47) rfl rfl hS ?_
          refine sl_skip hK (by decide) rfl rfl fun a hK => ?_
          refine parK_nil hS ?_
          refine spw (k := 48) rfl rfl hS ?_
          refine sl_skip hK (by decide) rfl rfl fun a hK => ?_
          refine parK_nil hS ?_
          refine sp (k := 49) rfl hK (by decide) rfl rfl (fun w hS => r_pick hK rfl rfl rfl) fun a hK => ?_
          refine sp (k := 50) rfl hK (by decide) rfl rfl (fun w hS => r_move hK rfl) fun a hK => ?_
          refine sp_skip (k := 51) rfl hK (by decide) rfl rfl fun a hK => ?_
          refine sp_skip (k := 52) rfl hK (by decide) rfl rfl fun a hK => ?_
          refine spw (k := 53) rfl rfl hS ?_
          refine sl_skip hK (by decide) rfl rfl fun a hK => ?_
          refine parK_nil hS ?_
          refine sp_skip (k := 54) rfl hK (by decide) rfl rfl fun a hK => ?_
          refine sp (k := 55) rfl hK (by decide) rfl rfl (fun w hS => r_pick hK rfl rfl rfl) fun a hK => ?_
          refine sp (k := 56) rfl hK (by decide) rfl rfl (fun w hS => r_move hK rfl) fun a hK => ?_
          refine sp_skip (k := 57) rfl hK (by decide) rfl rfl fun a hK => ?_
          refine sp_skip (k := 58) rfl hK (by decide) rfl rfl fun a hK => ?_
          refine thenL_nil ?_
          refine sl_skip hK (by decide) rfl rfl fun a hK => ?_
          refine sl_skip hK (by decide) rfl rfl fun a hK => ?_
          refine sl hK (by decide) rfl rfl (r_pick hK rfl rfl rfl) fun a hK => ?_
          refine sl hK (by decide) rfl rfl (r_move hK rfl) fun a hK => ?_
          refine sl_skip hK (by decide) rfl rfl fun a hK => ?_
          refine sl_skip hK (by decide) rfl rfl fun a hK => ?_
          refine sl hK (by decide) rfl rfl (r_pick hK rfl rfl rfl) fun a hK => ?_
          refine sl hK (by decide) rfl rfl (r_assign hK rfl) fun a hK => ?_
          refine wpList_nil (NoP_nil ?_)
          obtain rfl := Option.some.inj H
          refine wp_ret ?_
          repeat (first | refine ret_then ?_ | refine ret_block ?_ | refine ret_scope ?_)
          exact ret_1 Tryd.results13 hK (rv_tmp hK rfl) ⟨rfl, hS.bel⟩
      · rw [ifb_f hb_126] at H
        refine spw (k := 11) rfl rfl hS ?_
        refine sl_skip hK (by decide) (wtf hb_126) rfl fun a hK => ?_
        refine parK_nil hS ?_
        refine spw (k := 12) rfl rfl hS ?_
        refine sl_skip hK (by decide) (wtf hb_126) rfl fun a hK => ?_
        refine parK_nil hS ?_
        refine spw (k := 13) rfl rfl hS ?_
        refine sl_skip hK (by decide) (wtf hb_126) rfl fun a hK => ?_
        refine parK_nil hS ?_
        refine sp_skip (k := 14) rfl hK (by decide) (wtf hb_126) rfl fun a hK => ?_
        refine sp (k := 15) rfl hK (by decide) rfl rfl (fun w hS => r_pick_f hb_126 hK rfl rfl) fun a hK => ?_
        refine sp (k := 16) rfl hK (by decide) rfl rfl (fun w hS => r_move hK rfl) fun a hK => ?_
        refine sp_skip (k := 17) rfl hK (by decide) rfl rfl fun a hK => ?_
        refine spw (k := 18) rfl rfl hS ?_
        refine sl_skip hK (by decide) rfl rfl fun a hK => ?_
        refine parK_nil hS ?_
        refine sp_skip (k := 19) rfl hK (by decide) rfl rfl fun a hK => ?_
        refine sp (k := 20) rfl hK (by decide) rfl rfl (fun w hS => r_pick hK rfl rfl rfl) fun a hK => ?_
        refine sp (k := 21) rfl hK (by decide) rfl rfl (fun w hS => r_move hK rfl) fun a hK => ?_
        refine sp_skip (k := 22) rfl hK (by decide) rfl rfl fun a hK => ?_
        refine sp_skip (k := 23) rfl hK (by decide) rfl rfl fun a hK => ?_
        refine sp (k := 24) rfl hK (by decide) rfl rfl (fun w hS => r_pick hK rfl rfl rfl) fun a hK => ?_
        refine sp (k := 25) rfl hK (by decide) rfl rfl (fun w hS => r_move hK rfl) fun a hK => ?_
        refine sp_skip (k := 26) rfl hK (by decide) rfl rfl fun a hK => ?_
        refine sp_skip (k := 27) rfl hK (by decide) rfl rfl fun a hK => ?_
        refine sp (k := 28) rfl hK (by decide) rfl rfl (fun w hS => r_pick hK rfl rfl rfl) fun a hK => ?_
        refine sp (k := 29) rfl hK (by decide) rfl rfl (fun w hS => r_move hK rfl) fun a hK => ?_
        refine sp_skip (k := 32) rfl hK (by decide) rfl rfl fun a hK => ?_
        refine spw (k := 30) rfl rfl hS ?_
        refine sl_skip hK (by decide) rfl rfl fun a hK => ?_
        refine parK_nil hS ?_
        refine sp_skip (k := 31) rfl hK (by decide) rfl rfl fun a hK => ?_
        refine sp_skip (k := 33) rfl hK (by decide) rfl rfl fun a hK => ?_
        refine sp (k := 34) rfl hK (by decide) rfl rfl (fun w hS => r_pick hK rfl rfl rfl) fun a hK => ?_
        refine sp (k := 35) rfl hK (by decide) rfl rfl (fun w hS => r_move hK rfl) fun a hK => ?_
        refine spw (k := 36) rfl rfl hS ?_
        refine sl_skip hK (by decide) rfl rfl fun a hK => ?_
        refine parK_nil hS ?_
        refine spw (k := 37) rfl rfl hS ?_
        refine sl_skip hK (by decide) rfl rfl fun a hK => ?_
        refine parK_nil hS ?_
        refine sp_skip (k := 38) rfl hK (by decide) rfl rfl fun a hK => ?_
        refine sp (k := 39) rfl hK (by decide) rfl rfl (fun w hS => r_pick hK rfl rfl rfl) fun a hK => ?_
        refine sp (k := 40) rfl hK (by decide) rfl rfl (fun w hS => r_move hK rfl) fun a hK => ?_
        refine spw (k := 41) rfl rfl hS ?_
        refine sl_skip hK (by decide) rfl rfl fun a hK => ?_
        refine parK_nil hS ?_
        refine spw (k := 42) rfl rfl hS ?_
        refine sl_skip hK (by decide) rfl rfl fun a hK => ?_
        refine parK_nil hS ?_
        refine sp_skip (k := 43) rfl hK (by decide) rfl rfl fun a hK => ?_
        refine sp (k := 44) rfl hK (by decide) rfl rfl (fun w hS => r_pick hK rfl rfl rfl) fun a hK => ?_
        refine sp (k := 45) rfl hK (by decide) rfl rfl (fun w hS => r_move hK rfl) fun a hK => ?_
        refine sp_skip (k := 46) rfl hK (by decide) rfl rfl fun a hK => ?_
        refine spw (k := 47) rfl rfl hS ?_
        refine sl_skip hK (by decide) rfl rfl fun a hK => ?_
        refine parK_nil hS ?_
        refine spw (k := 48) rfl rfl hS ?_
        refine sl_skip hK (by decide) rfl rfl fun a hK => ?_
        refine parK_nil hS ?_
        refine sp (k := 49) rfl hK (by decide) rfl rfl (fun w hS => r_pick hK rfl rfl rfl) fun a hK => ?_
        refine sp (k := 50) rfl hK (by decide) rfl rfl (fun w hS => r_move hK rfl) fun a hK => ?_
        refine sp_skip (k := 51) rfl hK (by decide) rfl rfl fun a hK => ?_
        refine sp_skip (k := 52) rfl hK (by decide) rfl rfl fun a hK => ?_
        refine spw (k := 53) rfl rfl hS ?_
        refine sl_skip hK (by decide) rfl rfl fun a hK => ?_
        refine parK_nil hS ?_
        refine sp_skip (k := 54) rfl hK (by decide) rfl rfl fun a hK => ?_
        refine sp (k := 55) rfl hK (by decide) rfl rfl (fun w hS => r_pick hK rfl rfl rfl) fun a hK => ?_
        refine sp (k := 56) rfl hK (by decide) rfl rfl (fun w hS => r_move hK rfl) fun a hK => ?_
        refine sp_skip (k := 57) rfl hK (by decide) rfl rfl fun a hK => ?_
        refine sp_skip (k := 58) rfl hK (by decide) rfl rfl fun a hK => ?_
        refine thenL_nil ?_
        refine sl_skip hK (by decide) rfl rfl fun a hK => ?_
        refine sl_skip hK (by decide) rfl rfl fun a hK => ?_
        refine sl hK (by decide) rfl rfl (r_pick hK rfl rfl rfl) fun a hK => ?_
        refine sl hK (by decide) rfl rfl (r_move hK rfl) fun a hK => ?_
        refine sl_skip hK (by decide) rfl rfl fun a hK => ?_
        refine sl_skip hK (by decide) rfl rfl fun a hK => ?_
        refine sl hK (by decide) rfl rfl (r_pick hK rfl rfl rfl) fun a hK => ?_
        refine sl hK (by decide) rfl rfl (r_assign hK rfl) fun a hK => ?_
        refine wpList_nil (NoP_nil ?_)
        obtain rfl := Option.some.inj H
        refine wp_ret ?_
        repeat (first | refine ret_then ?_ | refine ret_block ?_ | refine ret_scope ?_)
        exact ret_1 Tryd.results13 hK (rv_tmp hK rfl) ⟨rfl, hS.bel⟩
    · rw [ifb_f hb_121] at H
      refine sp_skip (k := 6) rfl hK (by decide) (wtf hb_121) rfl fun a hK => ?_
      refine spw (k := 5) rfl rfl hS ?_
      refine sl_skip hK (by decide) (wtf hb_121) rfl fun a hK => ?_
      refine parK_nil hS ?_
      refine spw (k := 7) rfl rfl hS ?_
      refine sl_skip hK (by decide) (wtf hb_121) rfl fun a hK => ?_
      refine parK_nil hS ?_
      refine sp_skip (k := 8) rfl hK (by decide) (wtf hb_121) rfl fun a hK => ?_
      refine sp (k := 9) rfl hK (by decide) rfl rfl (fun w hS => r_pick_f hb_121 hK rfl rfl) fun a hK => ?_
      refine sp (k := 10) rfl hK (by decide) rfl rfl (fun w hS => r_move hK rfl) fun a hK => ?_
      refine spw (k := 11) rfl rfl hS ?_
      refine sl_skip hK (by decide) rfl rfl fun a hK => ?_
      refine parK_nil hS ?_
      refine spw (k := 12) rfl rfl hS ?_
      refine sl_skip hK (by decide) rfl rfl fun a hK => ?_
      refine parK_nil hS ?_
      refine spw (k := 13) rfl rfl hS ?_
      refine sl_skip hK (by decide) rfl rfl fun a hK => ?_
      refine parK_nil hS ?_
      refine sp_skip (k := 14) rfl hK (by decide) rfl rfl fun a hK => ?_
      refine sp (k := 15) rfl hK (by decide) rfl rfl (fun w hS => r_pick hK rfl rfl rfl) fun a hK => ?_
      refine sp (k := 16) rfl hK (by decide) rfl rfl (fun w hS => r_move hK rfl) fun a hK => ?_
      refine sp_skip (k := 17) rfl hK (by decide) rfl rfl fun a hK => ?_
      refine spw (k := 18) rfl rfl hS ?_
      refine sl_skip hK (by decide) rfl rfl fun a hK => ?_
      refine parK_nil hS ?_
      refine sp_skip (k := 19) rfl hK (by decide) rfl rfl fun a hK => ?_
      refine sp (k := 20) rfl hK (by decide) rfl rfl (fun w hS => r_pick hK rfl rfl rfl) fun a hK => ?_
      refine sp (k := 21) rfl hK (by decide) rfl rfl (fun w hS => r_move hK rfl) fun a hK => ?_
      refine sp_skip (k := 22) rfl hK (by decide) rfl rfl fun a hK => ?_
      refine sp_skip (k := 23) rfl hK (by decide) rfl rfl fun a hK => ?_
      refine sp (k := 24) rfl hK (by decide) rfl rfl (fun w hS => r_pick hK rfl rfl rfl) fun a hK => ?_
      refine sp (k := 25) rfl hK (by decide) rfl rfl (fun w hS => r_move hK rfl) fun a hK => ?_
      refine sp_skip (k := 26) rfl hK (by decide) rfl rfl fun a hK => ?_
      refine sp_skip (k := 27) rfl hK (by decide) rfl rfl fun a hK => ?_
      refine sp (k := 28) rfl hK (by decide) rfl rfl (fun w hS => r_pick hK rfl rfl rfl) fun a hK => ?_
      refine sp (k := 29) rfl hK (by decide) rfl rfl (fun w hS => r_move hK rfl) fun a hK => ?_
      refine sp_skip (k := 32) rfl hK (by decide) rfl rfl fun a hK => ?_
      refine spw (k := 30) rfl rfl hS ?_
      refine sl_skip hK (by decide) rfl rfl fun a hK => ?_
      refine parK_nil hS ?_
      refine sp_skip (k := 31) rfl hK (by decide) rfl rfl fun a hK => ?_
      refine sp_skip (k := 33) rfl hK (by decide) rfl rfl fun a hK => ?_
      refine sp (k := 34) rfl hK (by decide) rfl rfl (fun w hS => r_pick hK rfl rfl rfl) fun a hK => ?_
      refine sp (k := 35) rfl hK (by decide) rfl rfl (fun w hS => r_move hK rfl) fun a hK => ?_
      refine spw (k := 36) rfl rfl hS ?_
      refine sl_skip hK (by decide) rfl rfl fun a hK => ?_
      refine parK_nil hS ?_
      refine spw (k := 37) rfl rfl hS ?_
      refine sl_skip hK (by decide) rfl rfl fun a hK => ?_
      refine parK_nil hS ?_
      refine sp_skip (k := 38) rfl hK (by decide) rfl rfl fun a hK => ?_
      refine sp (k := 39) rfl hK (by decide) rfl rfl (fun w hS => r_pick hK rfl rfl rfl) fun a hK => ?_
      refine sp (k := 40) rfl hK (by decide) rfl rfl (fun w hS => r_move hK rfl) fun a hK => ?_
      refine spw (k := 41) rfl rfl hS ?_
      refine sl_skip hK (by decide) rfl rfl fun a hK => ?_
      refine parK_nil hS ?_
      refine spw (k := 42) rfl rfl hS ?_
      refine sl_skip hK (by decide) rfl rfl fun a hK => ?_
      refine parK_nil hS ?_
      refine sp_skip (k := 43) rfl hK (by decide) rfl rfl fun a hK => ?_
      refine sp (k := 44) rfl hK (by decide) rfl rfl (fun w hS => r_pick hK rfl rfl rfl) fun a hK => ?_
      refine sp (k := 45) rfl hK (by decide) rfl rfl (fun w hS => r_move hK rfl) fun a hK => ?_
      refine sp_skip (k := 46) rfl hK (by decide) rfl rfl fun a hK => ?_
      refine spw (k := 47) rfl rfl hS ?_
      refine sl_skip hK (by decide) rfl rfl fun a hK => ?_
      refine parK_nil hS ?_
      refine spw (k := 48) rfl rfl hS ?_
      refine sl_skip hK (by decide) rfl rfl fun a hK => ?_
      refine parK_nil hS ?_
      refine sp (k := 49) rfl hK (by decide) rfl rfl (fun w hS => r_pick hK rfl rfl rfl) fun a hK => ?_
      refine sp (k := 50) rfl hK (by decide) rfl rfl (fun w hS => r_move hK rfl) fun a hK => ?_
      refine sp_skip (k := 51) rfl hK (by decide) rfl rfl fun a hK => ?_
      refine sp_skip (k := 52) rfl hK (by decide) rfl rfl fun a hK => ?_
      refine spw (k := 53) rfl rfl hS ?_
      refine sl_skip hK (by decide) rfl rfl fun a hK => ?_
      refine parK_nil hS ?_
      refine sp_skip (k := 54) rfl hK (by decide) rfl rfl fun a hK => ?_
      refine sp (k := 55) rfl hK (by decide) rfl rfl (fun w hS => r_pick hK rfl rfl rfl) fun a hK => ?_
      refine sp (k := 56) rfl hK (by decide) rfl rfl (fun w hS => r_move hK rfl) fun a hK => ?_
      refine sp_skip (k := 57) rfl hK (by decide) rfl rfl fun a hK => ?_
      refine sp_skip (k := 58) rfl hK (by decide) rfl rfl fun a hK => ?_
      refine thenL_nil ?_
      refine sl_skip hK (by decide) rfl rfl fun a hK => ?_
      refine sl_skip hK (by decide) rfl rfl fun a hK => ?_
      refine sl hK (by decide) rfl rfl (r_pick hK rfl rfl rfl) fun a hK => ?_
      refine sl hK (by decide) rfl rfl (r_move hK rfl) fun a hK => ?_
      refine sl_skip hK (by decide) rfl rfl fun a hK => ?_
      refine sl_skip hK (by decide) rfl rfl fun a hK => ?_
      refine sl hK (by decide) rfl rfl (r_pick hK rfl rfl rfl) fun a hK => ?_
      refine sl hK (by decide) rfl rfl (r_assign hK rfl) fun a hK => ?_
      refine wpList_nil (NoP_nil ?_)
      obtain rfl := Option.some.inj H
      refine wp_ret ?_
      repeat (first | refine ret_then ?_ | refine ret_block ?_ | refine ret_scope ?_)
      exact ret_1 Tryd.results13 hK (rv_tmp hK rfl) ⟨rfl, hS.bel⟩

/-! ### catchment/catchmentref01.Valid: function 15 -/
set_option maxHeartbeats 4000000 in
set_option maxRecDepth 100000 in
theorem ref01_Valid.calls (a0 : api_Value) {r : Bool} (H : ref01_Valid a0 = some r) (w0 : World) : CallsV Tryd.prog 15 #[.agg #[.int .i64 a0.Kind, .int .i64 a0.N, .string a0.S, .int .i64 a0.H.a0, .int .i64 a0.H.a1, .int .i64 a0.H.a2, .int .i64 a0.H.a3, .int .i64 a0.H.a4, .int .i64 a0.H.a5, .int .i64 a0.H.a6, .int .i64 a0.H.a7]] w0 (.bool r) := by
  unfold ref01_Valid at H
  refine enter (args := [.agg #[.int .i64 a0.Kind, .int .i64 a0.N, .string a0.S, .int .i64 a0.H.a0, .int .i64 a0.H.a1, .int .i64 a0.H.a2, .int .i64 a0.H.a3, .int .i64 a0.H.a4, .int .i64 a0.H.a5, .int .i64 a0.H.a6, .int .i64 a0.H.a7]]) Tryd.func15 rfl Tryd.ntmps15 rfl fun a hK => ?_
  have hS := St.init (R := fun _ => none) (w := w0) (fun _ _ h => by cases h)
  have hRL := RLe.refl (M := []) w0 (fun _ => none)
  refine wp_seq ?_
  refine wp_region_lit ?_
  refine sl_box hS hK (by decide) rfl rfl (c := [.int .i64 a0.Kind, .int .i64 a0.N, .string a0.S, .int .i64 a0.H.a0, .int .i64 a0.H.a1, .int .i64 a0.H.a2, .int .i64 a0.H.a3, .int .i64 a0.H.a4, .int .i64 a0.H.a5, .int .i64 a0.H.a6, .int .i64 a0.H.a7]) rfl fun a w b_1 hS hK => ?_
  refine sl hK (by decide) rfl rfl (r_assign hK rfl) fun a hK => ?_
  refine wpList_nil ?_
  refine wp_seq ?_
  refine wp_region_lit ?_
  refine sl hK (by decide) rfl rfl (r_fieldAddr Tryd.underlying24 rfl Tryd.sizeOf22 hK rfl) fun a hK => ?_
  refine sl hK (by decide) rfl rfl (r_loadA (cs := [.int .i64 a0.H.a0, .int .i64 a0.H.a1, .int .i64 a0.H.a2, .int .i64 a0.H.a3, .int .i64 a0.H.a4, .int .i64 a0.H.a5, .int .i64 a0.H.a6, .int .i64 a0.H.a7]) Tryd.isAgg22 Tryd.sizeOf22 rfl hK rfl (hS.cells_of (m := 8) (.head _) rfl)) fun a hK => ?_
  refine sl hK (by decide) rfl rfl (r_buildAC (ps := []) (c := [.int .i64 0, .int .i64 0, .int .i64 0, .int .i64 0, .int .i64 0, .int .i64 0, .int .i64 0, .int .i64 0]) Tryd.underlying22 Tryd.zeroValue22 Tryd.sizeOf3 hK rfl pc_nil rfl rfl) fun a hK => ?_
  refine sl hK (by decide) rfl rfl (r_seq (by kernel_rfl) (eqs22 a0.H (⟨0, 0, 0, 0, 0, 0, 0, 0⟩ : Arr8)) hK rfl rfl) fun a hK => ?_
  refine sl hK (by decide) rfl rfl (r_assign hK rfl) fun a hK => ?_
  refine wpList_nil ?_
  refine wp_seq ?_
  refine wp_seq ?_
  refine wp_region_lit ?_
  refine sl hK (by decide) rfl rfl (r_fieldAddr Tryd.underlying24 rfl Tryd.sizeOf3 hK rfl) fun a hK => ?_
  refine sl hK (by decide) rfl rfl (r_load Tryd.isAgg3 hK rfl (hS.cell (.head _) rfl)) fun a hK => ?_
  refine wpList_nil ?_
  refine wp_block ?_
  refine wp_seq ?_
  refine wp_region_lit ?_
  refine sl hK (by decide) rfl rfl (r_ibin hK rfl rfl rfl) fun a hK => ?_
  refine sl hK (by decide) rfl rfl (r_assign hK rfl) fun a hK => ?_
  refine wpList_nil ?_
  refine wp_cond_split (hK.ev rfl) (fun (hb_2 : (a0.Kind == 1) = true) => ?_) (fun (hb_2 : (a0.Kind == 1) = false) => ?_)
  · rw [ifb_t hb_2] at H
    refine wp_seq ?_
    refine wp_region_lit ?_
    refine sl hK (by decide) rfl rfl (r_fieldAddr Tryd.underlying24 rfl Tryd.sizeOf9 hK rfl) fun a hK => ?_
    refine sl hK (by decide) rfl rfl (r_load Tryd.isAgg9 hK rfl (hS.cell (.head _) rfl)) fun a hK => ?_
    refine sl hK (by decide) rfl rfl (r_sbin hK rfl rfl rfl) fun a hK => ?_
    refine sl hK (by decide) rfl rfl (r_move hK rfl) fun a hK => ?_
    rcases or_b (a0.S.toList == (⟨#[]⟩ : ByteArray).toList) with hb_3 | hb_3
    · rw [ifb_t hb_3] at H
      refine sl hK (by decide) (wtt hb_3) rfl (r_move hK rfl) fun a hK => ?_
      refine sl hK (by decide) rfl rfl (r_pick_t hb_3 hK rfl rfl) fun a hK => ?_
      refine sl hK (by decide) rfl rfl (r_assign hK rfl) fun a hK => ?_
      refine wpList_nil ?_
      obtain rfl := Option.some.inj H
      refine wp_ret ?_
      repeat (first | refine ret_then ?_ | refine ret_block ?_ | refine ret_scope ?_)
      exact ret_1 Tryd.results15 hK (rv_tmp hK rfl) ⟨rfl, hS.bel⟩
    · rw [ifb_f hb_3] at H
      refine sl_skip hK (by decide) (wtf hb_3) rfl fun a hK => ?_
      refine sl hK (by decide) rfl rfl (r_pick_f hb_3 hK rfl rfl) fun a hK => ?_
      refine sl hK (by decide) rfl rfl (r_assign hK rfl) fun a hK => ?_
      refine wpList_nil ?_
      obtain rfl := Option.some.inj H
      refine wp_ret ?_
      repeat (first | refine ret_then ?_ | refine ret_block ?_ | refine ret_scope ?_)
      exact ret_1 Tryd.results15 hK (rv_tmp hK rfl) ⟨rfl, hS.bel⟩
  · rw [ifb_f hb_2] at H
    refine wp_seq ?_
    refine wp_region_lit ?_
    refine sl hK (by decide) rfl rfl (r_ibin hK rfl rfl rfl) fun a hK => ?_
    refine sl hK (by decide) rfl rfl (r_assign hK rfl) fun a hK => ?_
    refine wpList_nil ?_
    refine wp_cond_split (hK.ev rfl) (fun (hb_4 : (a0.Kind == 2) = true) => ?_) (fun (hb_4 : (a0.Kind == 2) = false) => ?_)
    · rw [ifb_t hb_4] at H
      refine wp_seq ?_
      refine wp_region_lit ?_
      refine sl hK (by decide) rfl rfl (r_fieldAddr Tryd.underlying24 rfl Tryd.sizeOf3 hK rfl) fun a hK => ?_
      refine sl hK (by decide) rfl rfl (r_load Tryd.isAgg3 hK rfl (hS.cell (.head _) rfl)) fun a hK => ?_
      refine sl hK (by decide) rfl rfl (r_ibin hK rfl rfl rfl) fun a hK => ?_
      refine sl hK (by decide) rfl rfl (r_move hK rfl) fun a hK => ?_
      rcases or_b (a0.N == 0) with hb_5 | hb_5
      · rw [ifb_t hb_5] at H
        refine sl hK (by decide) (wtt hb_5) rfl (r_move hK rfl) fun a hK => ?_
        refine sl hK (by decide) rfl rfl (r_pick_t hb_5 hK rfl rfl) fun a hK => ?_
        refine sl hK (by decide) rfl rfl (r_move hK rfl) fun a hK => ?_
        rcases or_b (decide (a0.H = (⟨0, 0, 0, 0, 0, 0, 0, 0⟩ : Arr8))) with hb_6 | hb_6
        · rw [ifb_t hb_6] at H
          refine sl hK (by decide) (wtt hb_6) rfl (r_fieldAddr Tryd.underlying24 rfl Tryd.sizeOf9 hK rfl) fun a hK => ?_
          refine sl hK (by decide) (wtt hb_6) rfl (r_load Tryd.isAgg9 hK rfl (hS.cell (.head _) rfl)) fun a hK => ?_
          refine sl hK (by decide) (wtt hb_6) rfl (r_len_str Tryd.underlying9 hK rfl) fun a hK => ?_
          refine sl hK (by decide) (wtt hb_6) rfl (r_ibin hK rfl rfl rfl) fun a hK => ?_
          refine sl hK (by decide) rfl rfl (r_pick_t hb_6 hK rfl rfl) fun a hK => ?_
          refine sl hK (by decide) rfl rfl (r_assign hK rfl) fun a hK => ?_
          refine wpList_nil ?_
          obtain rfl := Option.some.inj H
          refine wp_ret ?_
          repeat (first | refine ret_then ?_ | refine ret_block ?_ | refine ret_scope ?_)
          exact ret_1 Tryd.results15 hK (rv_tmp hK rfl) ⟨rfl, hS.bel⟩
        · rw [ifb_f hb_6] at H
          refine sl_skip hK (by decide) (wtf hb_6) rfl fun a hK => ?_
          refine sl_skip hK (by decide) (wtf hb_6) rfl fun a hK => ?_
          refine sl_skip hK (by decide) (wtf hb_6) rfl fun a hK => ?_
          refine sl_skip hK (by decide) (wtf hb_6) rfl fun a hK => ?_
          refine sl hK (by decide) rfl rfl (r_pick_f hb_6 hK rfl rfl) fun a hK => ?_
          refine sl hK (by decide) rfl rfl (r_assign hK rfl) fun a hK => ?_
          refine wpList_nil ?_
          obtain rfl := Option.some.inj H
          refine wp_ret ?_
          repeat (first | refine ret_then ?_ | refine ret_block ?_ | refine ret_scope ?_)
          exact ret_1 Tryd.results15 hK (rv_tmp hK rfl) ⟨rfl, hS.bel⟩
      · rw [ifb_f hb_5] at H
        refine sl_skip hK (by decide) (wtf hb_5) rfl fun a hK => ?_
        refine sl hK (by decide) rfl rfl (r_pick_f hb_5 hK rfl rfl) fun a hK => ?_
        refine sl hK (by decide) rfl rfl (r_move hK rfl) fun a hK => ?_
        refine sl_skip hK (by decide) rfl rfl fun a hK => ?_
        refine sl_skip hK (by decide) rfl rfl fun a hK => ?_
        refine sl_skip hK (by decide) rfl rfl fun a hK => ?_
        refine sl_skip hK (by decide) rfl rfl fun a hK => ?_
        refine sl hK (by decide) rfl rfl (r_pick hK rfl rfl rfl) fun a hK => ?_
        refine sl hK (by decide) rfl rfl (r_assign hK rfl) fun a hK => ?_
        refine wpList_nil ?_
        obtain rfl := Option.some.inj H
        refine wp_ret ?_
        repeat (first | refine ret_then ?_ | refine ret_block ?_ | refine ret_scope ?_)
        exact ret_1 Tryd.results15 hK (rv_tmp hK rfl) ⟨rfl, hS.bel⟩
    · rw [ifb_f hb_4] at H
      refine wp_seq ?_
      refine wp_region_lit ?_
      refine sl hK (by decide) rfl rfl (r_ibin hK rfl rfl rfl) fun a hK => ?_
      refine sl hK (by decide) rfl rfl (r_assign hK rfl) fun a hK => ?_
      refine wpList_nil ?_
      refine wp_cond_split (hK.ev rfl) (fun (hb_7 : (a0.Kind == 3) = true) => ?_) (fun (hb_7 : (a0.Kind == 3) = false) => ?_)
      · rw [ifb_t hb_7] at H
        refine wp_seq ?_
        refine wp_region_lit ?_
        refine sl hK (by decide) rfl rfl (r_fieldAddr Tryd.underlying24 rfl Tryd.sizeOf3 hK rfl) fun a hK => ?_
        refine sl hK (by decide) rfl rfl (r_load Tryd.isAgg3 hK rfl (hS.cell (.head _) rfl)) fun a hK => ?_
        refine sl hK (by decide) rfl rfl (r_ibin hK rfl rfl rfl) fun a hK => ?_
        refine sl hK (by decide) rfl rfl (r_move hK rfl) fun a hK => ?_
        rcases or_b (a0.N == 0) with hb_8 | hb_8
        · rw [ifb_t hb_8] at H
          refine sl_skip hK (by decide) (wft hb_8) rfl fun a hK => ?_
          refine sl_skip hK (by decide) (wft hb_8) rfl fun a hK => ?_
          refine sl_skip hK (by decide) (wft hb_8) rfl fun a hK => ?_
          refine sl hK (by decide) rfl rfl (r_pick_t hb_8 hK rfl rfl) fun a hK => ?_
          refine sl hK (by decide) rfl rfl (r_move hK rfl) fun a hK => ?_
          refine sl hK (by decide) rfl rfl (r_fieldAddr Tryd.underlying24 rfl Tryd.sizeOf9 hK rfl) fun a hK => ?_
          refine sl hK (by decide) rfl rfl (r_load Tryd.isAgg9 hK rfl (hS.cell (.head _) rfl)) fun a hK => ?_
          refine sl hK (by decide) rfl rfl (r_sbin hK rfl rfl rfl) fun a hK => ?_
          refine sl hK (by decide) rfl rfl (r_pick hK rfl rfl rfl) fun a hK => ?_
          refine sl hK (by decide) rfl rfl (r_move hK rfl) fun a hK => ?_
          rcases or_b (a0.S.toList == (⟨#[]⟩ : ByteArray).toList) with hb_9 | hb_9
          · rw [ifb_t hb_9] at H
            refine sl hK (by decide) (wtt hb_9) rfl (r_move hK rfl) fun a hK => ?_
            refine sl hK (by decide) rfl rfl (r_pick_t hb_9 hK rfl rfl) fun a hK => ?_
            refine sl hK (by decide) rfl rfl (r_assign hK rfl) fun a hK => ?_
            refine wpList_nil ?_
            obtain rfl := Option.some.inj H
            refine wp_ret ?_
            repeat (first | refine ret_then ?_ | refine ret_block ?_ | refine ret_scope ?_)
            exact ret_1 Tryd.results15 hK (rv_tmp hK rfl) ⟨rfl, hS.bel⟩
          · rw [ifb_f hb_9] at H
            refine sl_skip hK (by decide) (wtf hb_9) rfl fun a hK => ?_
            refine sl hK (by decide) rfl rfl (r_pick_f hb_9 hK rfl rfl) fun a hK => ?_
            refine sl hK (by decide) rfl rfl (r_assign hK rfl) fun a hK => ?_
            refine wpList_nil ?_
            obtain rfl := Option.some.inj H
            refine wp_ret ?_
            repeat (first | refine ret_then ?_ | refine ret_block ?_ | refine ret_scope ?_)
            exact ret_1 Tryd.results15 hK (rv_tmp hK rfl) ⟨rfl, hS.bel⟩
        · rw [ifb_f hb_8] at H
          refine sl hK (by decide) (wff hb_8) rfl (r_fieldAddr Tryd.underlying24 rfl Tryd.sizeOf3 hK rfl) fun a hK => ?_
          refine sl hK (by decide) (wff hb_8) rfl (r_load Tryd.isAgg3 hK rfl (hS.cell (.head _) rfl)) fun a hK => ?_
          refine sl hK (by decide) (wff hb_8) rfl (r_ibin hK rfl rfl rfl) fun a hK => ?_
          refine sl hK (by decide) rfl rfl (r_pick_f hb_8 hK rfl rfl) fun a hK => ?_
          refine sl hK (by decide) rfl rfl (r_move hK rfl) fun a hK => ?_
          rcases or_b (a0.N == 1) with hb_10 | hb_10
          · rw [ifb_t hb_10] at H
            refine sl hK (by decide) (wtt hb_10) rfl (r_fieldAddr Tryd.underlying24 rfl Tryd.sizeOf9 hK rfl) fun a hK => ?_
            refine sl hK (by decide) (wtt hb_10) rfl (r_load Tryd.isAgg9 hK rfl (hS.cell (.head _) rfl)) fun a hK => ?_
            refine sl hK (by decide) (wtt hb_10) rfl (r_sbin hK rfl rfl rfl) fun a hK => ?_
            refine sl hK (by decide) rfl rfl (r_pick_t hb_10 hK rfl rfl) fun a hK => ?_
            refine sl hK (by decide) rfl rfl (r_move hK rfl) fun a hK => ?_
            rcases or_b (a0.S.toList == (⟨#[]⟩ : ByteArray).toList) with hb_11 | hb_11
            · rw [ifb_t hb_11] at H
              refine sl hK (by decide) (wtt hb_11) rfl (r_move hK rfl) fun a hK => ?_
              refine sl hK (by decide) rfl rfl (r_pick_t hb_11 hK rfl rfl) fun a hK => ?_
              refine sl hK (by decide) rfl rfl (r_assign hK rfl) fun a hK => ?_
              refine wpList_nil ?_
              obtain rfl := Option.some.inj H
              refine wp_ret ?_
              repeat (first | refine ret_then ?_ | refine ret_block ?_ | refine ret_scope ?_)
              exact ret_1 Tryd.results15 hK (rv_tmp hK rfl) ⟨rfl, hS.bel⟩
            · rw [ifb_f hb_11] at H
              refine sl_skip hK (by decide) (wtf hb_11) rfl fun a hK => ?_
              refine sl hK (by decide) rfl rfl (r_pick_f hb_11 hK rfl rfl) fun a hK => ?_
              refine sl hK (by decide) rfl rfl (r_assign hK rfl) fun a hK => ?_
              refine wpList_nil ?_
              obtain rfl := Option.some.inj H
              refine wp_ret ?_
              repeat (first | refine ret_then ?_ | refine ret_block ?_ | refine ret_scope ?_)
              exact ret_1 Tryd.results15 hK (rv_tmp hK rfl) ⟨rfl, hS.bel⟩
          · rw [ifb_f hb_10] at H
            refine sl_skip hK (by decide) (wtf hb_10) rfl fun a hK => ?_
            refine sl_skip hK (by decide) (wtf hb_10) rfl fun a hK => ?_
            refine sl_skip hK (by decide) (wtf hb_10) rfl fun a hK => ?_
            refine sl hK (by decide) rfl rfl (r_pick_f hb_10 hK rfl rfl) fun a hK => ?_
            refine sl hK (by decide) rfl rfl (r_move hK rfl) fun a hK => ?_
            refine sl_skip hK (by decide) rfl rfl fun a hK => ?_
            refine sl hK (by decide) rfl rfl (r_pick hK rfl rfl rfl) fun a hK => ?_
            refine sl hK (by decide) rfl rfl (r_assign hK rfl) fun a hK => ?_
            refine wpList_nil ?_
            obtain rfl := Option.some.inj H
            refine wp_ret ?_
            repeat (first | refine ret_then ?_ | refine ret_block ?_ | refine ret_scope ?_)
            exact ret_1 Tryd.results15 hK (rv_tmp hK rfl) ⟨rfl, hS.bel⟩
      · rw [ifb_f hb_7] at H
        refine wp_seq ?_
        refine wp_region_lit ?_
        refine sl hK (by decide) rfl rfl (r_ibin hK rfl rfl rfl) fun a hK => ?_
        refine sl hK (by decide) rfl rfl (r_assign hK rfl) fun a hK => ?_
        refine wpList_nil ?_
        refine wp_cond_split (hK.ev rfl) (fun (hb_12 : (a0.Kind == 4) = true) => ?_) (fun (hb_12 : (a0.Kind == 4) = false) => ?_)
        · rw [ifb_t hb_12] at H
          refine wp_seq ?_
          refine wp_region_lit ?_
          refine sl hK (by decide) rfl rfl (r_fieldAddr Tryd.underlying24 rfl Tryd.sizeOf3 hK rfl) fun a hK => ?_
          refine sl hK (by decide) rfl rfl (r_load Tryd.isAgg3 hK rfl (hS.cell (.head _) rfl)) fun a hK => ?_
          refine sl hK (by decide) rfl rfl (r_ibin hK rfl rfl rfl) fun a hK => ?_
          refine sl hK (by decide) rfl rfl (r_move hK rfl) fun a hK => ?_
          rcases or_b (a0.N == 0) with hb_13 | hb_13
          · rw [ifb_t hb_13] at H
            refine sl hK (by decide) (wtt hb_13) rfl (r_fieldAddr Tryd.underlying24 rfl Tryd.sizeOf9 hK rfl) fun a hK => ?_
            refine sl hK (by decide) (wtt hb_13) rfl (r_load Tryd.isAgg9 hK rfl (hS.cell (.head _) rfl)) fun a hK => ?_
            refine sl hK (by decide) (wtt hb_13) rfl (r_sbin hK rfl rfl rfl) fun a hK => ?_
            refine sl hK (by decide) rfl rfl (r_pick_t hb_13 hK rfl rfl) fun a hK => ?_
            refine sl hK (by decide) rfl rfl (r_assign hK rfl) fun a hK => ?_
            refine wpList_nil ?_
            obtain rfl := Option.some.inj H
            refine wp_ret ?_
            repeat (first | refine ret_then ?_ | refine ret_block ?_ | refine ret_scope ?_)
            exact ret_1 Tryd.results15 hK (rv_tmp hK rfl) ⟨rfl, hS.bel⟩
          · rw [ifb_f hb_13] at H
            refine sl_skip hK (by decide) (wtf hb_13) rfl fun a hK => ?_
            refine sl_skip hK (by decide) (wtf hb_13) rfl fun a hK => ?_
            refine sl_skip hK (by decide) (wtf hb_13) rfl fun a hK => ?_
            refine sl hK (by decide) rfl rfl (r_pick_f hb_13 hK rfl rfl) fun a hK => ?_
            refine sl hK (by decide) rfl rfl (r_assign hK rfl) fun a hK => ?_
            refine wpList_nil ?_
            obtain rfl := Option.some.inj H
            refine wp_ret ?_
            repeat (first | refine ret_then ?_ | refine ret_block ?_ | refine ret_scope ?_)
            exact ret_1 Tryd.results15 hK (rv_tmp hK rfl) ⟨rfl, hS.bel⟩
        · rw [ifb_f hb_12] at H
          refine wp_skip ?_
          refine wp_seq ?_
          refine wp_region_lit ?_
          refine sl hK (by decide) rfl rfl (r_assign hK rfl) fun a hK => ?_
          refine wpList_nil ?_
          obtain rfl := Option.some.inj H
          refine wp_ret ?_
          repeat (first | refine ret_then ?_ | refine ret_block ?_ | refine ret_scope ?_)
          exact ret_1 Tryd.results15 hK (rv_tmp hK rfl) ⟨rfl, hS.bel⟩

end Go.Proofs.YtmohocmmelaeaaaDoor.M
