/- For the law LeafTimes: each Go function answers as its plain Lean function tells, wherever that tells something; without further condition. -/
import Derived.Test.YtchgiggipimigaaGreatDoorProg
import Derived.Shelf.Strconv.Itoa3
import Derived.Shelf.Strings.Search3
import Derived.Test.YtchgiggipimigaaGreatDoorLeafTimesP1
section
namespace Go.Proofs.YtchgiggipimigaaGreatDoor.M
open Go Go.Eng Go.Proofs Go.RowKit
set_option linter.unusedVariables false
set_option linter.unusedSimpArgs false
open Go.Proofs.Tryz
set_option maxHeartbeats 4000000
set_option maxRecDepth 100000
abbrev cV (x : api_Value) : List Value := [.int .i64 x.Kind, .int .i64 x.N, .string x.S, .int .i64 x.H.a0, .int .i64 x.H.a1, .int .i64 x.H.a2, .int .i64 x.H.a3, .int .i64 x.H.a4, .int .i64 x.H.a5, .int .i64 x.H.a6, .int .i64 x.H.a7]
theorem mixed : Tryz.prog.follows .mixedOrders = true := by kernel_rfl
def GF (RA : Hp) : Prop := (∀ w, RA.sub w → ∃ m, w.cell? ⟨0, 0, none⟩ = some (.int .i64 m)) ∧ (∀ w, RA.sub w → Lib.TabIs Tryz.prog w "internal/strconv.uint64pow10" .u64 Lib.pow10Tab)
theorem GF.mono {R R' : Hp} (h : R.le R') (g : GF R) : GF R' := ⟨fun w hw => g.1 w (fun k u hk => hw k u (h k u hk)), fun w hw => g.2 w (fun k u hk => hw k u (h k u hk))⟩
theorem GF_maxlen {RA : Hp} {w : World} (g : GF RA) (h : RA.sub w) : ∃ m, w.cell? ⟨0, 0, none⟩ = some (.int .i64 m) := g.1 w h
theorem GF_pow10 {RA : Hp} {w : World} (g : GF RA) (h : RA.sub w) : Lib.TabIs Tryz.prog w "internal/strconv.uint64pow10" .u64 Lib.pow10Tab := g.2 w h
set_option maxRecDepth 100000 in
theorem elT38 : ElT Tryz.prog 38 65 2 24 := ⟨Tryz.underlying38, ⟨Tryz.t65, _, Tryz.type65, rfl, rfl, rfl, rfl⟩, by decide⟩
set_option maxRecDepth 100000 in
theorem elT28 : ElT Tryz.prog 28 49 3 64 := ⟨Tryz.underlying28, ⟨Tryz.t49, _, Tryz.type49, rfl, rfl, rfl, rfl⟩, by decide⟩
set_option maxRecDepth 100000 in
theorem elT35 : ElT Tryz.prog 35 5 1 1 := ⟨Tryz.underlying35, ⟨Tryz.t5, _, Tryz.type5, rfl, rfl, rfl, rfl⟩, by decide⟩
set_option maxRecDepth 100000 in
theorem elT31 : ElT Tryz.prog 31 58 11 96 := ⟨Tryz.underlying31, ⟨Tryz.t58, _, Tryz.type58, rfl, rfl, rfl, rfl⟩, by decide⟩
set_option maxRecDepth 100000 in
theorem elT100 : ElT Tryz.prog 100 113 2 40 := ⟨Tryz.underlying100, ⟨Tryz.t113, _, Tryz.type113, rfl, rfl, rfl, rfl⟩, by decide⟩
set_option maxRecDepth 100000 in
theorem elT87 : ElT Tryz.prog 87 90 2 32 := ⟨Tryz.underlying87, ⟨Tryz.t90, _, Tryz.type90, rfl, rfl, rfl, rfl⟩, by decide⟩
set_option maxRecDepth 100000 in
theorem elT22 : ElT Tryz.prog 22 3 1 8 := ⟨Tryz.underlying22, ⟨Tryz.t3, _, Tryz.type3, rfl, rfl, rfl, rfl⟩, by decide⟩
set_option maxRecDepth 100000 in
theorem elT39 : ElT Tryz.prog 39 31 1 24 := ⟨Tryz.underlying39, ⟨Tryz.t31, _, Tryz.type31, rfl, rfl, rfl, rfl⟩, by decide⟩
theorem ext136 (a b : ByteArray) (w : World) : (callFunc 136 #[.string a, .string b]).run Tryz.prog w = .ok (.value (.int .i64 (Lib.compareBytes a.data.toList b.data.toList))) w := by
  rw [run_callFunc_extern Tryz.func136 (by kernel_rfl) (by kernel_rfl) (by kernel_rfl) (e := Extern.BytealgCompare.compare) (by kernel_rfl), Lib.run_compareString]
  rfl
theorem places65 (w : World) : (placesOf Tryz.prog 65).run Tryz.prog w = .ok #[(0, 1), (1, 1)] w := by
  unfold placesOf
  rw [Tryz.underlying65]
  simp [Tryz.sizeOf3, Tryz.sizeOf9]
theorem places49 (w : World) : (placesOf Tryz.prog 49).run Tryz.prog w = .ok #[(0, 1), (1, 1), (2, 1)] w := by
  unfold placesOf
  rw [Tryz.underlying49]
  simp [Tryz.sizeOf38, Tryz.sizeOf9]
def conL97_ren : Go.Shelf.Ren := ⟨fun | 144 => 97 | 143 => 117 | 219 => 128 | 217 => 137 | 225 => 138 | 224 => 139 | 267 => 140 | 266 => 145 | 314 => 146 | n => n, fun | 9 => 9 | 4 => 4 | 3 => 3 | 5 => 5 | 46 => 143 | 146 => 188 | 51 => 159 | n => n, fun | 1 => 0 | n => n⟩
theorem conL97 : Go.Proofs.Lays.n144 Tryz.prog conL97_ren := {
  mixed := by kernel_rfl
  f143 := Tryz.func117.trans (congrArg some (by kernel_rfl))
  f144 := Tryz.func97.trans (congrArg some (by kernel_rfl))
  f217 := Tryz.func137.trans (congrArg some (by kernel_rfl))
  f219 := Tryz.func128.trans (congrArg some (by kernel_rfl))
  f224 := Tryz.func139.trans (congrArg some (by kernel_rfl))
  f225 := Tryz.func138.trans (congrArg some (by kernel_rfl))
  f266 := Tryz.func145.trans (congrArg some (by kernel_rfl))
  f267 := Tryz.func140.trans (congrArg some (by kernel_rfl))
  f314 := Tryz.func146.trans (congrArg some (by kernel_rfl))
  t3 := Tryz.underlying3
  a3 := Tryz.isAgg3
  z3 := Tryz.sizeOf3
  v3 := Tryz.zeroValue3
  t4 := Tryz.underlying4
  a4 := Tryz.isAgg4
  z4 := Tryz.sizeOf4
  v4 := Tryz.zeroValue4
  t5 := Tryz.underlying5
  a5 := Tryz.isAgg5
  z5 := Tryz.sizeOf5
  v5 := Tryz.zeroValue5
  t9 := Tryz.underlying9
  a9 := Tryz.isAgg9
  z9 := Tryz.sizeOf9
  v9 := Tryz.zeroValue9
  t46 := Tryz.underlying143
  a46 := Tryz.isAgg143
  z46 := Tryz.sizeOf143
  v46 := Tryz.zeroValue143
  t51 := Tryz.underlying159
  a51 := Tryz.isAgg159
  z51 := Tryz.sizeOf159
  v51 := Tryz.zeroValue159
  t146 := Tryz.underlying188
  a146 := Tryz.isAgg188
  z146 := Tryz.sizeOf188
  v146 := Tryz.zeroValue188
  g1 := by kernel_rfl }
theorem places41 (w : World) : (placesOf Tryz.prog 41).run Tryz.prog w = .ok #[(0, 1), (1, 1)] w := by
  unfold placesOf
  rw [Tryz.underlying41]
  simp [Tryz.sizeOf38, Tryz.sizeOf39]
theorem places58 (w : World) : (placesOf Tryz.prog 58).run Tryz.prog w = .ok #[(0, 1), (1, 1), (2, 1), (3, 8)] w := by
  unfold placesOf
  rw [Tryz.underlying58]
  simp [Tryz.sizeOf3, Tryz.sizeOf56, Tryz.sizeOf9]
theorem eqs58 (x y : api_Value) : EqS Tryz.prog 58 #[.int .i64 x.Kind, .int .i64 x.N, .string x.S, .int .i64 x.H.a0, .int .i64 x.H.a1, .int .i64 x.H.a2, .int .i64 x.H.a3, .int .i64 x.H.a4, .int .i64 x.H.a5, .int .i64 x.H.a6, .int .i64 x.H.a7] #[.int .i64 y.Kind, .int .i64 y.N, .string y.S, .int .i64 y.H.a0, .int .i64 y.H.a1, .int .i64 y.H.a2, .int .i64 y.H.a3, .int .i64 y.H.a4, .int .i64 y.H.a5, .int .i64 y.H.a6, .int .i64 y.H.a7] (decide (x = y)) := by
  refine eqS_of (by kernel_rfl) (by kernel_rfl) (fun w => by
    simp only [Program.fieldsOf, Tryz.underlying58]
    exact eqF_cons (by decide) (run_part1 Tryz.isAgg3 rfl) (run_part1 Tryz.isAgg3 rfl) (run_equalIn_int w _ _ _ _ _ _ Tryz.underlying3) (eqF_cons (by decide) (run_part1 Tryz.isAgg3 rfl) (run_part1 Tryz.isAgg3 rfl) (run_equalIn_int w _ _ _ _ _ _ Tryz.underlying3) (eqF_cons (by decide) (run_part1 Tryz.isAgg9 rfl) (run_part1 Tryz.isAgg9 rfl) (run_equalIn_string w _ _ _ _ Tryz.underlying9) (eqF_cons (by decide) (run_partA (ys := (x.H.list.map (Value.int .i64)).toArray) Tryz.isAgg56 Tryz.sizeOf56 rfl) (run_partA (ys := (y.H.list.map (Value.int .i64)).toArray) Tryz.isAgg56 Tryz.sizeOf56 rfl) (eq_arr' (q := 9998) Tryz.underlying56 (fun a b w => run_equalIn_int w 9997 _ _ _ a b Tryz.underlying3) Tryz.isAgg3 Tryz.sizeOf3 x.H.list y.H.list rfl rfl w) (eqF_nil))))) ?_
  simp only [beq_bytes, Arr8.list_inj, Arr2.list_inj, Bool.and_true]
  cases x; cases y; simp <;> rfl
theorem places102 (w : World) : (placesOf Tryz.prog 102).run Tryz.prog w = .ok #[(0, 1), (1, 1), (2, 1)] w := by
  unfold placesOf
  rw [Tryz.underlying102]
  simp [Tryz.sizeOf100, Tryz.sizeOf3, Tryz.sizeOf99]
theorem places70 (w : World) : (placesOf Tryz.prog 70).run Tryz.prog w = .ok #[(0, 1), (1, 1), (2, 1), (3, 1), (4, 1)] w := by
  unfold placesOf
  rw [Tryz.underlying70]
  simp [Tryz.sizeOf28, Tryz.sizeOf3, Tryz.sizeOf66, Tryz.sizeOf68]
theorem places33 (w : World) : (placesOf Tryz.prog 33).run Tryz.prog w = .ok #[(0, 1), (1, 1), (2, 1), (3, 1)] w := by
  unfold placesOf
  rw [Tryz.underlying33]
  simp [Tryz.sizeOf3, Tryz.sizeOf31, Tryz.sizeOf9]
def itoL79_ren : Go.Shelf.Ren := ⟨fun | 171 => 79 | 243 => 99 | 246 => 119 | 283 => 131 | 284 => 132 | 285 => 133 | 286 => 134 | 129 => 113 | 317 => 141 | 318 => 142 | 319 => 143 | 320 => 144 | 337 => 147 | 338 => 148 | n => n, fun | 3 => 3 | 9 => 9 | 2 => 2 | 4 => 4 | 171 => 176 | 0 => 0 | 53 => 161 | 37 => 35 | 5 => 5 | 173 => 178 | 212 => 186 | 51 => 159 | 20 => 20 | 213 => 187 | 46 => 143 | 232 => 190 | 233 => 191 | n => n, fun | 17 => 1 | 18 => 2 | 19 => 3 | n => n⟩
theorem itoL79 : Go.Proofs.LaysM.n171 Tryz.prog itoL79_ren := {
  mixed := by kernel_rfl
  f129 := Tryz.func113.trans (congrArg some (by kernel_rfl))
  f171 := Tryz.func79.trans (congrArg some (by kernel_rfl))
  f243 := Tryz.func99.trans (congrArg some (by kernel_rfl))
  f246 := Tryz.func119.trans (congrArg some (by kernel_rfl))
  f283 := Tryz.func131.trans (congrArg some (by kernel_rfl))
  f284 := Tryz.func132.trans (congrArg some (by kernel_rfl))
  f285 := Tryz.func133.trans (congrArg some (by kernel_rfl))
  f286 := Tryz.func134.trans (congrArg some (by kernel_rfl))
  f317 := Tryz.func141.trans (congrArg some (by kernel_rfl))
  f318 := Tryz.func142.trans (congrArg some (by kernel_rfl))
  f319 := Tryz.func143.trans (congrArg some (by kernel_rfl))
  f320 := Tryz.func144.trans (congrArg some (by kernel_rfl))
  f337 := Tryz.func147.trans (congrArg some (by kernel_rfl))
  f338 := Tryz.func148.trans (congrArg some (by kernel_rfl))
  t0 := Tryz.underlying0
  a0 := Tryz.isAgg0
  z0 := Tryz.sizeOf0
  v0 := Tryz.zeroValue0
  t2 := Tryz.underlying2
  a2 := Tryz.isAgg2
  z2 := Tryz.sizeOf2
  v2 := Tryz.zeroValue2
  t3 := Tryz.underlying3
  a3 := Tryz.isAgg3
  z3 := Tryz.sizeOf3
  v3 := Tryz.zeroValue3
  t4 := Tryz.underlying4
  a4 := Tryz.isAgg4
  z4 := Tryz.sizeOf4
  v4 := Tryz.zeroValue4
  t5 := Tryz.underlying5
  a5 := Tryz.isAgg5
  z5 := Tryz.sizeOf5
  v5 := Tryz.zeroValue5
  t9 := Tryz.underlying9
  a9 := Tryz.isAgg9
  z9 := Tryz.sizeOf9
  v9 := Tryz.zeroValue9
  t20 := Tryz.underlying20
  a20 := Tryz.isAgg20
  z20 := Tryz.sizeOf20
  v20 := Tryz.zeroValue20
  t37 := Tryz.underlying35
  a37 := Tryz.isAgg35
  z37 := Tryz.sizeOf35
  v37 := Tryz.zeroValue35
  t46 := Tryz.underlying143
  a46 := Tryz.isAgg143
  z46 := Tryz.sizeOf143
  v46 := Tryz.zeroValue143
  t51 := Tryz.underlying159
  a51 := Tryz.isAgg159
  z51 := Tryz.sizeOf159
  v51 := Tryz.zeroValue159
  t53 := Tryz.underlying161
  a53 := Tryz.isAgg161
  z53 := Tryz.sizeOf161
  v53 := Tryz.zeroValue161
  t171 := Tryz.underlying176
  a171 := Tryz.isAgg176
  z171 := Tryz.sizeOf176
  v171 := Tryz.zeroValue176
  t173 := Tryz.underlying178
  a173 := Tryz.isAgg178
  z173 := Tryz.sizeOf178
  v173 := Tryz.zeroValue178
  t212 := Tryz.underlying186
  a212 := Tryz.isAgg186
  z212 := Tryz.sizeOf186
  v212 := Tryz.zeroValue186
  t213 := Tryz.underlying187
  a213 := Tryz.isAgg187
  z213 := Tryz.sizeOf187
  t232 := Tryz.underlying190
  a232 := Tryz.isAgg190
  z232 := Tryz.sizeOf190
  v232 := Tryz.zeroValue190
  t233 := Tryz.underlying191
  a233 := Tryz.isAgg191
  z233 := Tryz.sizeOf191
  v233 := Tryz.zeroValue191
  g17 := by kernel_rfl
  g18 := by kernel_rfl
  g19 := by kernel_rfl
  i0 := by kernel_rfl
  i2 := by kernel_rfl
  i3 := by kernel_rfl
  i4 := by kernel_rfl
  i5 := by kernel_rfl
  i9 := by kernel_rfl
  i20 := by kernel_rfl
  i37 := by kernel_rfl
  i46 := by kernel_rfl
  i51 := by kernel_rfl
  i53 := by kernel_rfl
  i171 := by kernel_rfl
  i173 := by kernel_rfl
  i212 := by kernel_rfl
  i232 := by kernel_rfl
  i233 := by kernel_rfl
  m17 := by kernel_rfl
  m18 := by kernel_rfl
  m19 := by kernel_rfl }
theorem places113 (w : World) : (placesOf Tryz.prog 113).run Tryz.prog w = .ok #[(0, 1), (1, 1)] w := by
  unfold placesOf
  rw [Tryz.underlying113]
  simp [Tryz.sizeOf31, Tryz.sizeOf9]
theorem places111 (w : World) : (placesOf Tryz.prog 111).run Tryz.prog w = .ok #[(0, 1)] w := by
  unfold placesOf
  rw [Tryz.underlying111]
  simp [Tryz.sizeOf87]
theorem places90 (w : World) : (placesOf Tryz.prog 90).run Tryz.prog w = .ok #[(0, 1), (1, 1)] w := by
  unfold placesOf
  rw [Tryz.underlying90]
  simp [Tryz.sizeOf3, Tryz.sizeOf31]
def sortL59_ren : Go.Shelf.Ren := ⟨fun | 6 => 59 | 15 => 88 | 14 => 87 | 28 => 112 | 29 => 113 | 20 => 104 | 21 => 105 | 22 => 106 | 23 => 107 | 24 => 108 | 25 => 109 | 26 => 110 | 27 => 111 | 46 => 122 | 47 => 123 | 48 => 124 | 49 => 125 | 50 => 126 | 57 => 135 | n => n, fun | 22 => 39 | 24 => 31 | 25 => 94 | 3 => 3 | 39 => 143 | 0 => 0 | 53 => 159 | 55 => 161 | 4 => 4 | 46 => 153 | 45 => 152 | 50 => 72 | 5 => 5 | 9 => 9 | 66 => 169 | 70 => 173 | 76 => 180 | 77 => 181 | n => n, fun | n => n⟩
theorem sortL59 : Go.Proofs.SlLaysF.n6 Tryz.prog sortL59_ren := {
  mixed := by kernel_rfl
  f6 := ⟨Tryz.f59.name, by decide, Tryz.func59.trans (congrArg some (by kernel_rfl))⟩
  f14 := ⟨Tryz.f87.name, by decide, Tryz.func87.trans (congrArg some (by kernel_rfl))⟩
  f15 := Tryz.func88.trans (congrArg some (by kernel_rfl))
  f20 := ⟨Tryz.f104.name, by decide, Tryz.func104.trans (congrArg some (by kernel_rfl))⟩
  f21 := ⟨Tryz.f105.name, by decide, Tryz.func105.trans (congrArg some (by kernel_rfl))⟩
  f22 := ⟨Tryz.f106.name, by decide, Tryz.func106.trans (congrArg some (by kernel_rfl))⟩
  f23 := ⟨Tryz.f107.name, by decide, Tryz.func107.trans (congrArg some (by kernel_rfl))⟩
  f24 := ⟨Tryz.f108.name, by decide, Tryz.func108.trans (congrArg some (by kernel_rfl))⟩
  f25 := ⟨Tryz.f109.name, by decide, Tryz.func109.trans (congrArg some (by kernel_rfl))⟩
  f26 := ⟨Tryz.f110.name, by decide, Tryz.func110.trans (congrArg some (by kernel_rfl))⟩
  f27 := ⟨Tryz.f111.name, by decide, Tryz.func111.trans (congrArg some (by kernel_rfl))⟩
  f28 := Tryz.func112.trans (congrArg some (by kernel_rfl))
  f29 := Tryz.func113.trans (congrArg some (by kernel_rfl))
  f46 := ⟨Tryz.f122.name, by decide, Tryz.func122.trans (congrArg some (by kernel_rfl))⟩
  f47 := Tryz.func123.trans (congrArg some (by kernel_rfl))
  f48 := Tryz.func124.trans (congrArg some (by kernel_rfl))
  f49 := ⟨Tryz.f125.name, by decide, Tryz.func125.trans (congrArg some (by kernel_rfl))⟩
  f50 := ⟨Tryz.f126.name, by decide, Tryz.func126.trans (congrArg some (by kernel_rfl))⟩
  f57 := ⟨Tryz.f135.name, by decide, Tryz.func135.trans (congrArg some (by kernel_rfl))⟩
  t0 := Tryz.underlying0
  a0 := Tryz.isAgg0
  z0 := Tryz.sizeOf0
  v0 := Tryz.zeroValue0
  t3 := Tryz.underlying3
  a3 := Tryz.isAgg3
  z3 := Tryz.sizeOf3
  v3 := Tryz.zeroValue3
  t4 := Tryz.underlying4
  a4 := Tryz.isAgg4
  z4 := Tryz.sizeOf4
  v4 := Tryz.zeroValue4
  t5 := Tryz.underlying5
  a5 := Tryz.isAgg5
  z5 := Tryz.sizeOf5
  v5 := Tryz.zeroValue5
  t9 := Tryz.underlying9
  a9 := Tryz.isAgg9
  z9 := Tryz.sizeOf9
  v9 := Tryz.zeroValue9
  t22 := Tryz.underlying39
  a22 := Tryz.isAgg39
  z22 := Tryz.sizeOf39
  v22 := Tryz.zeroValue39
  a24 := Tryz.isAgg31
  z24 := Tryz.sizeOf31
  t25 := Tryz.underlying94
  a25 := Tryz.isAgg94
  z25 := Tryz.sizeOf94
  v25 := Tryz.zeroValue94
  t39 := Tryz.underlying143
  a39 := Tryz.isAgg143
  z39 := Tryz.sizeOf143
  v39 := Tryz.zeroValue143
  t45 := Tryz.underlying152
  a45 := Tryz.isAgg152
  z45 := Tryz.sizeOf152
  v45 := Tryz.zeroValue152
  t46 := Tryz.underlying153
  a46 := Tryz.isAgg153
  z46 := Tryz.sizeOf153
  v46 := Tryz.zeroValue153
  t50 := Tryz.underlying72
  a50 := Tryz.isAgg72
  z50 := Tryz.sizeOf72
  v50 := Tryz.zeroValue72
  t53 := Tryz.underlying159
  a53 := Tryz.isAgg159
  z53 := Tryz.sizeOf159
  v53 := Tryz.zeroValue159
  t55 := Tryz.underlying161
  a55 := Tryz.isAgg161
  z55 := Tryz.sizeOf161
  v55 := Tryz.zeroValue161
  t66 := Tryz.underlying169
  a66 := Tryz.isAgg169
  z66 := Tryz.sizeOf169
  v66 := Tryz.zeroValue169
  t70 := Tryz.underlying173
  a70 := Tryz.isAgg173
  z70 := Tryz.sizeOf173
  v70 := Tryz.zeroValue173
  t76 := Tryz.underlying180
  a76 := Tryz.isAgg180
  z76 := Tryz.sizeOf180
  v76 := Tryz.zeroValue180
  t77 := Tryz.underlying181
  a77 := Tryz.isAgg181
  z77 := Tryz.sizeOf181
  v77 := Tryz.zeroValue181 }
theorem eqs56 (x y : Arr8) : EqS Tryz.prog 56 (x.list.map (Value.int .i64)).toArray (y.list.map (Value.int .i64)).toArray (decide (x = y)) := eqA_of Tryz.underlying56 Tryz.underlying3 Tryz.isAgg3 Tryz.sizeOf3 rfl rfl rfl rfl Arr8.list_inj
theorem eqs65 (x y : api_Col) : EqS Tryz.prog 65 #[.string x.Name, .int .i64 x.Kind] #[.string y.Name, .int .i64 y.Kind] (decide (x = y)) := by
  refine eqS_of (by kernel_rfl) (by kernel_rfl) (fun w => by
    simp only [Program.fieldsOf, Tryz.underlying65]
    exact eqF_cons (by decide) (run_part1 Tryz.isAgg9 rfl) (run_part1 Tryz.isAgg9 rfl) (run_equalIn_string w _ _ _ _ Tryz.underlying9) (eqF_cons (by decide) (run_part1 Tryz.isAgg3 rfl) (run_part1 Tryz.isAgg3 rfl) (run_equalIn_int w _ _ _ _ _ _ Tryz.underlying3) (eqF_nil))) ?_
  simp only [beq_bytes, Arr8.list_inj, Arr2.list_inj, Bool.and_true]
  cases x; cases y; simp <;> rfl
theorem law08_load.calls {w0 : World} {R : Hp} (hR : R.sub w0) {r : List api_Schema} (H : law08_load  = some r) : Calls prog 9 #[] w0 (Rets fun v w'=>∃ (R' : Hp) (u0 : Value) (cu0 : List Value),v = u0 ∧ St [] w0 w' R' [.row 49 3 u0 r.length cu0] ∧ RLe [] w0 R R' ∧ Reps ty_api_Schema R' cu0 r):=by
 unfold law08_load at H
 refine enter (args:=[]) func9 rfl ntmps9 rfl fun a q=>?_
 have s:=St.init hR
 have hRL:=RLe.refl (M:=[]) w0 R
 refine zq<|zr<|za q rfl fun a q=>zn<|zq<|zr<|zl q (r_buildC (ps:=[(0,.string (⟨#[104,111,115,116]⟩ : ByteArray)),(1,I6 2)]) (c:=[.string (⟨#[104,111,115,116]⟩ : ByteArray),I6 2]) underlying65 zeroValue65 places65 q rfl (pc_cons rfl (pc_cons rfl pc_nil)) rfl rfl) fun a q=>?_
 refine sl_buildSliceF (zc:=[.string (⟨#[]⟩ : ByteArray),I6 0]) (ps:=[(0,.agg #[.string (⟨#[104,111,115,116]⟩ : ByteArray),I6 2])]) (c:=[.string (⟨#[104,111,115,116]⟩ : ByteArray),I6 2]) [[.string (⟨#[104,111,115,116]⟩ : ByteArray),I6 2]] underlying38 sizeOf65 zeroValue65 rfl (pc_cons rfl pc_nil) rfl rfl (Nat.le_of_ble_eq_true rfl) rfl (zc zz) rfl s q (by decide) rfl fun a w b_1 s q=>?_
 refine zl q (r_buildC (ps:=[(0,.string (⟨#[110]⟩ : ByteArray)),(1,I6 1)]) (c:=[.string (⟨#[110]⟩ : ByteArray),I6 1]) underlying65 zeroValue65 places65 q rfl (pc_cons rfl (pc_cons rfl pc_nil)) rfl rfl) fun a q=>?_
 refine sl_buildSliceF (zc:=[.string (⟨#[]⟩ : ByteArray),I6 0]) (ps:=[(0,.agg #[.string (⟨#[110]⟩ : ByteArray),I6 1])]) (c:=[.string (⟨#[110]⟩ : ByteArray),I6 1]) [[.string (⟨#[110]⟩ : ByteArray),I6 1]] underlying38 sizeOf65 zeroValue65 rfl (pc_cons rfl pc_nil) rfl rfl (Nat.le_of_ble_eq_true rfl) rfl (zc zz) rfl s q (by decide) rfl fun a w b_2 s q=>?_
 refine zl q (r_buildC (ps:=[(0,.string (⟨#[108,111,97,100]⟩ : ByteArray)),(1,.slice (some ⟨b_1,0,none⟩) 1 1),(2,.slice (some ⟨b_2,0,none⟩) 1 1)]) (c:=[.string (⟨#[108,111,97,100]⟩ : ByteArray),.slice (some ⟨b_1,0,none⟩) 1 1,.slice (some ⟨b_2,0,none⟩) 1 1]) underlying49 zeroValue49 places49 q rfl (pc_cons rfl (pc_cons rfl (pc_cons rfl pc_nil))) rfl rfl) fun a q=>?_
 refine sl_buildSliceF (zc:=[.string (⟨#[]⟩ : ByteArray),.slice none 0 0,.slice none 0 0]) (ps:=[(0,.agg #[.string (⟨#[108,111,97,100]⟩ : ByteArray),.slice (some ⟨b_1,0,none⟩) 1 1,.slice (some ⟨b_2,0,none⟩) 1 1])]) (c:=[.string (⟨#[108,111,97,100]⟩ : ByteArray),.slice (some ⟨b_1,0,none⟩) 1 1,.slice (some ⟨b_2,0,none⟩) 1 1]) [[.string (⟨#[108,111,97,100]⟩ : ByteArray),.slice (some ⟨b_1,0,none⟩) 1 1,.slice (some ⟨b_2,0,none⟩) 1 1]] underlying28 sizeOf49 zeroValue49 rfl (pc_cons rfl pc_nil) rfl rfl (Nat.le_of_ble_eq_true rfl) rfl (zc zz) rfl s q (by decide) rfl fun a w b_3 s q=>?_
 refine za q rfl fun a q=>zn ?_
 have s:=s.pk2
 obtain ⟨R_4,s,hl_6,hs_5⟩:=s.fz_lit (ty:=ty_api_Col) (xs:=[(⟨(⟨#[104,111,115,116]⟩ : ByteArray),2⟩ : api_Col)]) (Reps.cons (show Ty.rep ty_api_Col _ [.string (⟨#[104,111,115,116]⟩ : ByteArray),I6 2] (⟨(⟨#[104,111,115,116]⟩ : ByteArray),2⟩ : api_Col) from rfl) (Reps.nil _ _)) rfl
 have hRL:=hRL.trans hl_6
 have s:=s.pk1
 obtain ⟨R_7,s,hl_9,hs_8⟩:=s.fz_lit (ty:=ty_api_Col) (xs:=[(⟨(⟨#[110]⟩ : ByteArray),1⟩ : api_Col)]) (Reps.cons (show Ty.rep ty_api_Col _ [.string (⟨#[110]⟩ : ByteArray),I6 1] (⟨(⟨#[110]⟩ : ByteArray),1⟩ : api_Col) from rfl) (Reps.nil _ _)) rfl
 have hRL:=hRL.trans hl_9
 have s:=s.row_lit (size:=3) (m:=1) rfl (by decide)
 have hq_11 : Reps ty_api_Schema R_7 [.string (⟨#[108,111,97,100]⟩ : ByteArray),(.slice (some ⟨b_1,0,none⟩) 1 1),(.slice (some ⟨b_2,0,none⟩) 1 1)] [(⟨(⟨#[108,111,97,100]⟩ : ByteArray),[(⟨(⟨#[104,111,115,116]⟩ : ByteArray),2⟩ : api_Col)],[(⟨(⟨#[110]⟩ : ByteArray),1⟩ : api_Col)]⟩ : api_Schema)]:=(Reps.cons (show Ty.rep ty_api_Schema _ [.string (⟨#[108,111,97,100]⟩ : ByteArray),(.slice (some ⟨b_1,0,none⟩) 1 1),(.slice (some ⟨b_2,0,none⟩) 1 1)] (⟨(⟨#[108,111,97,100]⟩ : ByteArray),[(⟨(⟨#[104,111,115,116]⟩ : ByteArray),2⟩ : api_Col)],[(⟨(⟨#[110]⟩ : ByteArray),1⟩ : api_Col)]⟩ : api_Schema) from ⟨_,_,rfl,(hs_5.mono hl_9.le),hs_8⟩) (Reps.nil _ _))
 obtain rfl:=Option.some.inj H
 refine wp_ret ?_
 repeat first | refine zt ?_ | refine zb ?_ | refine zo ?_
 exact ret_1 results9 q (rv_tmp q rfl) ⟨_,rfl,_,_,_,rfl,s,hRL,hq_11⟩
theorem table_Name.calls (a0 : ByteArray) {r : Bool} (H : table_Name a0 = some r) (w0 : World) : CallsV prog 96 #[.string a0] w0 (.bool r):=by
 unfold table_Name at H
 refine enter (args:=[.string a0]) func96 rfl ntmps96 rfl fun a q=>?_
 have s:=St.init (R:=fun _=>none) (w:=w0) (fun _ _ h=>by cases h)
 have hRL:=RLe.refl (M:=[]) w0 (fun _=>none)
 refine zq<|zr<|za q rfl fun a q=>zn<|zq<|zq<|zr<|zm q rfl fun a q=>zl q (r_len_str underlying9 q rfl) fun a q=>zm q rfl fun a q=>zn ?_
 refine wp_block ?_
 refine wp_loop_k (fun k_l0 a w=>∃ (x_11 : Int),table_Name.l0 a0 k_l0 x_11 = some r ∧ Kn 48 a [(0,.string a0),(6,I6 (a0.size : Int)),(7,I6 x_11)] ∧ St [] w0 w (fun _=>none) []) (((a0.size : Int) - 0).toNat + 1) ?_ ?_
 exact ⟨0,H,q.sub (zc (zc (zc zz))),s⟩
 rintro k_l0 a w ⟨x_11,H,q,s⟩
 rcases k_l0 with _ | k_l0
 cases H
 rw [table_Name.l0.eq_2] at H
 refine zq<|zr<|zl q (r_ibin q rfl rfl rfl) fun a q=>zn<|zq ?_
 refine wp_cond_split (q.ev rfl) (fun (hb_49 : (decide (x_11 < (a0.size : Int))) = true)=>?_) fun hb_49=>?_
 rw [ifb_t hb_49] at H
 refine wp_skip<|zq ?_
 refine wp_block ?_
 refine zq<|zr<|zm q rfl fun a q=>za q rfl fun a q=>zn<|zq<|zr<|zm q rfl fun a q=>zm q rfl fun a q=>?_
 obtain ⟨y_50,h_51,H⟩:=bs H
 refine zl q (r_index_str' underlying9 h_51 q rfl rfl) fun a q=>za q rfl fun a q=>zn ?_
 refine wp_block ?_
 refine zq ?_
 refine wp_mid (fun a w=>∃ (x_53 : Bool),table_Name.j1 (table_Name.l0 a0 k_l0) a0 x_11 y_50 x_53 = some r ∧ Kn 48 a [(0,.string a0),(3,I6 x_11),(4,.int .u8 y_50),(6,I6 (a0.size : Int)),(7,I6 x_11),(13,.bool x_53)] ∧ St [] w0 w (fun _=>none) []) ?_ ?_
 refine zr<|zm q rfl fun a q=>zl q (r_ibin q rfl rfl rfl) fun a q=>zm q rfl fun a q=>?_
 rcases or_b (decide (y_50 ≥ 97)) with hb_55 | hb_55
 rw [ifb_t hb_55] at H
 refine zw q (wtt hb_55) (r_move q rfl) fun a q=>zw q (wtt hb_55) (r_ibin q rfl rfl rfl) fun a q=>zl q (r_pick_t hb_55 q rfl rfl) fun a q=>za q rfl fun a q=>zn ?_
 exact ⟨(decide (y_50 ≤ 122)),H,q.sub (zc (zc (zc (zc (zc (zc zz)))))),s⟩
 rw [ifb_f hb_55] at H
 refine zsw q (wtf hb_55) fun a q=>zsw q (wtf hb_55) fun a q=>zl q (r_pick_f hb_55 q rfl rfl) fun a q=>za q rfl fun a q=>zn ?_
 exact ⟨false,H,q.sub (zc (zc (zc (zc (zc (zc zz)))))),s⟩
 rintro a w ⟨x_53,H,q,s⟩
 unfold table_Name.j1 at H
 refine wp_mid (fun a w=>table_Name.j2 (table_Name.l0 a0 k_l0) a0 x_11 = some r ∧ Kn 48 a [(0,.string a0),(6,I6 (a0.size : Int)),(7,I6 x_11)] ∧ St [] w0 w (fun _=>none) []) ?_ ?_
 refine wp_cond_split (q.ev rfl) (fun (hb_71 : x_53 = true)=>?_) fun hb_71=>?_
 rw [ifb_t hb_71] at H
 refine wp_skip ?_
 exact ⟨H,q.sub (zc (zc (zc zz))),s⟩
 rw [ifb_f hb_71] at H
 refine zq ?_
 refine wp_mid (fun a w=>∃ (x_77 : Bool),table_Name.j3 (table_Name.l0 a0 k_l0) a0 x_11 x_77 = some r ∧ Kn 48 a [(0,.string a0),(6,I6 (a0.size : Int)),(7,I6 x_11),(20,.bool x_77)] ∧ St [] w0 w (fun _=>none) []) ?_ ?_
 refine zr<|zm q rfl fun a q=>zl q (r_ibin q rfl rfl rfl) fun a q=>zm q rfl fun a q=>?_
 rcases or_b (decide (x_11 > 0)) with hb_79 | hb_79
 rw [ifb_t hb_79] at H
 refine zw q (wtt hb_79) (r_move q rfl) fun a q=>zw q (wtt hb_79) (r_ibin q rfl rfl rfl) fun a q=>zw q (wtt hb_79) (r_move q rfl) fun a q=>?_
 rcases or_b (decide (y_50 ≥ 48)) with hb_80 | hb_80
 rw [ifb_t hb_80] at H
 refine zw q (wtt hb_80) (r_move q rfl) fun a q=>zw q (wtt hb_80) (r_ibin q rfl rfl rfl) fun a q=>zw q (wtt hb_79) (r_pick_t hb_80 q rfl rfl) fun a q=>zw q (wtt hb_79) (r_move q rfl) fun a q=>?_
 rcases or_b (decide (y_50 ≤ 57)) with hb_81 | hb_81
 rw [ifb_t hb_81] at H
 refine zsw q (wft hb_81) fun a q=>zsw q (wft hb_81) fun a q=>zw q (wtt hb_79) (r_pick_t hb_81 q rfl rfl) fun a q=>zw q (wtt hb_79) (r_move q rfl) fun a q=>zs q fun a q=>zs q fun a q=>zw q (wtt hb_79) (r_pick q rfl rfl rfl) fun a q=>zl q (r_pick_t hb_79 q rfl rfl) fun a q=>za q rfl fun a q=>zn ?_
 exact ⟨true,H,q.sub (zc (zc (zc (zc zz)))),s⟩
 rw [ifb_f hb_81] at H
 refine zw q (wff hb_81) (r_move q rfl) fun a q=>zw q (wff hb_81) (r_ibin q rfl rfl rfl) fun a q=>zw q (wtt hb_79) (r_pick_f hb_81 q rfl rfl) fun a q=>zw q (wtt hb_79) (r_move q rfl) fun a q=>?_
 rcases or_b (y_50 == 95) with hb_82 | hb_82
 rw [ifb_t hb_82] at H
 refine zsw q (wft hb_82) fun a q=>zsw q (wft hb_82) fun a q=>zw q (wtt hb_79) (r_pick_t hb_82 q rfl rfl) fun a q=>zl q (r_pick_t hb_79 q rfl rfl) fun a q=>za q rfl fun a q=>zn ?_
 exact ⟨true,H,q.sub (zc (zc (zc (zc zz)))),s⟩
 rw [ifb_f hb_82] at H
 refine zw q (wff hb_82) (r_move q rfl) fun a q=>zw q (wff hb_82) (r_ibin q rfl rfl rfl) fun a q=>zw q (wtt hb_79) (r_pick_f hb_82 q rfl rfl) fun a q=>zl q (r_pick_t hb_79 q rfl rfl) fun a q=>za q rfl fun a q=>zn ?_
 exact ⟨(y_50 == 35),H,q.sub (zc (zc (zc (zc zz)))),s⟩
 rw [ifb_f hb_80] at H
 refine zsw q (wtf hb_80) fun a q=>zsw q (wtf hb_80) fun a q=>zw q (wtt hb_79) (r_pick_f hb_80 q rfl rfl) fun a q=>zw q (wtt hb_79) (r_move q rfl) fun a q=>zm q rfl fun a q=>zl q (r_ibin q rfl rfl rfl) fun a q=>zw q (wtt hb_79) (r_pick q rfl rfl rfl) fun a q=>zw q (wtt hb_79) (r_move q rfl) fun a q=>?_
 rcases or_b (y_50 == 95) with hb_83 | hb_83
 rw [ifb_t hb_83] at H
 refine zsw q (wft hb_83) fun a q=>zsw q (wft hb_83) fun a q=>zw q (wtt hb_79) (r_pick_t hb_83 q rfl rfl) fun a q=>zl q (r_pick_t hb_79 q rfl rfl) fun a q=>za q rfl fun a q=>zn ?_
 exact ⟨true,H,q.sub (zc (zc (zc (zc zz)))),s⟩
 rw [ifb_f hb_83] at H
 refine zw q (wff hb_83) (r_move q rfl) fun a q=>zw q (wff hb_83) (r_ibin q rfl rfl rfl) fun a q=>zw q (wtt hb_79) (r_pick_f hb_83 q rfl rfl) fun a q=>zl q (r_pick_t hb_79 q rfl rfl) fun a q=>za q rfl fun a q=>zn ?_
 exact ⟨(y_50 == 35),H,q.sub (zc (zc (zc (zc zz)))),s⟩
 rw [ifb_f hb_79] at H
 refine zsw q (wtf hb_79) fun a q=>zsw q (wtf hb_79) fun a q=>zsw q (wtf hb_79) fun a q=>zs q fun a q=>zs q fun a q=>zsw q (wtf hb_79) fun a q=>zsw q (wtf hb_79) fun a q=>zs q fun a q=>zs q fun a q=>zsw q (wtf hb_79) fun a q=>zsw q (wtf hb_79) fun a q=>zs q fun a q=>zs q fun a q=>zsw q (wtf hb_79) fun a q=>zl q (r_pick_f hb_79 q rfl rfl) fun a q=>za q rfl fun a q=>zn ?_
 exact ⟨false,H,q.sub (zc (zc (zc (zc zz)))),s⟩
 rintro a w ⟨x_77,H,q,s⟩
 unfold table_Name.j3 at H
 refine wp_cond_split (q.ev rfl) (fun (hb_84 : x_77 = true)=>?_) fun hb_84=>?_
 rw [ifb_t hb_84] at H
 refine wp_skip ?_
 exact ⟨H,q.sub (zc (zc (zc zz))),s⟩
 rw [ifb_f hb_84] at H
 refine zq<|zr<|za q rfl fun a q=>zn ?_
 obtain rfl:=Option.some.inj H
 refine wp_ret ?_
 repeat first | refine zt ?_ | refine zb ?_ | refine zo ?_
 exact ret_1 results96 q (rv_tmp q rfl) ⟨rfl,s.bel⟩
 rintro a w ⟨H,q,s⟩
 unfold table_Name.j2 at H
 refine zr<|zl q (r_ibin q rfl rfl rfl) fun a q=>zm q rfl fun a q=>zn ?_
 exact ⟨_,Nat.lt_succ_self _,(IntKind.i64.wrap (x_11 + 1)),H,q.sub (zc (zc (zc zz))),s⟩
 rw [ifb_f hb_49] at H
 refine wp_exit ?_
 refine zq<|zr<|zm q rfl fun a q=>zl q (r_len_str underlying9 q rfl) fun a q=>zl q (r_ibin q rfl rfl rfl) fun a q=>zm q rfl fun a q=>?_
 rcases or_b (decide ((a0.size : Int) ≥ 1)) with hb_85 | hb_85
 rw [ifb_t hb_85] at H
 refine zw q (wtt hb_85) (r_move q rfl) fun a q=>zw q (wtt hb_85) (r_len_str underlying9 q rfl) fun a q=>zw q (wtt hb_85) (r_ibin q rfl rfl rfl) fun a q=>zl q (r_pick_t hb_85 q rfl rfl) fun a q=>za q rfl fun a q=>zn ?_
 obtain rfl:=Option.some.inj H
 refine wp_ret ?_
 repeat first | refine zt ?_ | refine zb ?_ | refine zo ?_
 exact ret_1 results96 q (rv_tmp q rfl) ⟨rfl,s.bel⟩
 rw [ifb_f hb_85] at H
 refine zsw q (wtf hb_85) fun a q=>zsw q (wtf hb_85) fun a q=>zsw q (wtf hb_85) fun a q=>zl q (r_pick_f hb_85 q rfl rfl) fun a q=>za q rfl fun a q=>zn ?_
 obtain rfl:=Option.some.inj H
 refine wp_ret ?_
 repeat first | refine zt ?_ | refine zb ?_ | refine zo ?_
 exact ret_1 results96 q (rv_tmp q rfl) ⟨rfl,s.bel⟩
set_option maxHeartbeats 4000000 in
set_option maxRecDepth 100000 in
theorem strings_Contains.calls (a0 : ByteArray) (a1 : ByteArray) {w0 : World} {RA : Hp} (hRA : RA.sub w0) (hG : GF RA) {r : Bool} (H : strings_Contains a0 a1 = some r) : CallsV Tryz.prog 97 #[.string a0, .string a1] w0 (.bool r) := by
  unfold strings_Contains at H
  split at H
  · rename_i hs
    obtain rfl := Option.some.inj H
    obtain ⟨gm, hgm⟩ := GF_maxlen hG hRA
    exact (Any.strings_Contains conL97 a0 a1 gm w0 hs hgm).mono fun e w' ⟨he, hw⟩ => ⟨he, by rw [hw]; exact Bel.refl _ _⟩
  · cases H
theorem schema_Word.calls (a0 : ByteArray) {w0 : World} {RA : Hp} (hRA : RA.sub w0) (hG : GF RA) {r : Bool} (H : schema_Word a0 = some r) : CallsV prog 72 #[.string a0] w0 (.bool r):=by
 unfold schema_Word at H
 refine enter (args:=[.string a0]) func72 rfl ntmps72 rfl fun a q=>?_
 have s:=St.init (R:=fun _=>none) (w:=w0) (fun _ _ h=>by cases h)
 have hRL:=RLe.refl (M:=[]) w0 (fun _=>none)
 refine zq<|zr<|za q rfl fun a q=>zn<|zq<|zr<|zm q rfl fun a q=>?_
 obtain ⟨y_1,h_2,H⟩:=bs H
 refine sl_callV call96 s q (by decide) rfl rfl rfl (table_Name.calls a0 h_2 _) fun a w s q=>?_
 refine zm q rfl fun a q=>?_
 rcases or_b y_1 with hb_3 | hb_3
 rw [ifb_t hb_3] at H
 refine zw q (wtt hb_3) (r_move q rfl) fun a q=>?_
 obtain ⟨y_4,h_5,H⟩:=bs H
 refine sl_callV call97 s q (by decide) (wtt hb_3) rfl rfl (strings_Contains.calls a0 (⟨#[35]⟩ : ByteArray) (lentOf_sub [] _) (GF.mono (s.raLe0 hRA nil_not) hG) h_5) fun a w s q=>?_
 refine zw q (wtt hb_3) (r_un q rfl (u_not _)) fun a q=>zl q (r_pick_t hb_3 q rfl rfl) fun a q=>zm q rfl fun a q=>?_
 rcases or_b (!y_4) with hb_6 | hb_6
 rw [ifb_t hb_6] at H
 refine zw q (wtt hb_6) (r_move q rfl) fun a q=>?_
 rcases or_b (decide ((⟨#[32]⟩ : ByteArray).size + a0.size ≤ 9223372036854775807)) with hn_7 | hn_7
 rw [ifb_t hn_7] at H
 refine zw q (wtt hb_6) (r_sadd q rfl rfl (of_decide_eq_true hn_7)) fun a q=>?_
 rcases or_b (decide (((⟨#[32]⟩ : ByteArray) ++ a0).size + (⟨#[32]⟩ : ByteArray).size ≤ 9223372036854775807)) with hn_8 | hn_8
 rw [ifb_t hn_8] at H
 refine zw q (wtt hb_6) (r_sadd q rfl rfl (of_decide_eq_true hn_8)) fun a q=>?_
 obtain ⟨y_9,h_10,H⟩:=bs H
 refine sl_callV call97 s q (by decide) (wtt hb_6) rfl rfl (strings_Contains.calls (⟨#[32,102,101,116,99,104,32,102,114,111,109,32,116,111,32,119,104,101,114,101,32,107,101,101,112,32,97,108,105,103,110,32,103,114,111,117,112,32,116,111,112,32,98,121,32,106,111,105,110,32,117,110,105,111,110,32,97,110,100,32,111,114,32,110,111,116,32,104,97,115,32,116,114,117,101,32,102,97,108,115,101,32,99,111,117,110,116,32,115,117,109,32,109,105,110,32,109,97,120,32,109,101,97,110,32,109,101,114,103,101,32,116,105,109,101,32]⟩ : ByteArray) (((⟨#[32]⟩ : ByteArray) ++ a0) ++ (⟨#[32]⟩ : ByteArray)) (lentOf_sub [] _) (GF.mono (s.raLe0 hRA nil_not) hG) h_10) fun a w s q=>?_
 refine zw q (wtt hb_6) (r_un q rfl (u_not _)) fun a q=>zl q (r_pick_t hb_6 q rfl rfl) fun a q=>za q rfl fun a q=>zn ?_
 obtain rfl:=Option.some.inj H
 refine wp_ret ?_
 repeat first | refine zt ?_ | refine zb ?_ | refine zo ?_
 exact ret_1 results72 q (rv_tmp q rfl) ⟨rfl,s.bel⟩
 rw [ifb_f hn_8] at H
 cases H
 rw [ifb_f hn_7] at H
 cases H
 rw [ifb_f hb_6] at H
 refine zsw q (wtf hb_6) fun a q=>zsw q (wtf hb_6) fun a q=>zsw q (wtf hb_6) fun a q=>zsw q (wtf hb_6) fun a q=>zsw q (wtf hb_6) fun a q=>zl q (r_pick_f hb_6 q rfl rfl) fun a q=>za q rfl fun a q=>zn ?_
 obtain rfl:=Option.some.inj H
 refine wp_ret ?_
 repeat first | refine zt ?_ | refine zb ?_ | refine zo ?_
 exact ret_1 results72 q (rv_tmp q rfl) ⟨rfl,s.bel⟩
 rw [ifb_f hb_3] at H
 refine zsw q (wtf hb_3) fun a q=>zsw q (wtf hb_3) fun a q=>zsw q (wtf hb_3) fun a q=>zl q (r_pick_f hb_3 q rfl rfl) fun a q=>zm q rfl fun a q=>zs q fun a q=>zs q fun a q=>zs q fun a q=>zs q fun a q=>zs q fun a q=>zl q (r_pick q rfl rfl rfl) fun a q=>za q rfl fun a q=>zn ?_
 obtain rfl:=Option.some.inj H
 refine wp_ret ?_
 repeat first | refine zt ?_ | refine zb ?_ | refine zo ?_
 exact ret_1 results72 q (rv_tmp q rfl) ⟨rfl,s.bel⟩
theorem schema_one_1.calls (a0 : api_Col) {w0 : World} {RA : Hp} (hRA : RA.sub w0) (hG : GF RA) {r : Bool} (H : schema_one_1 a0 = some r) : CallsV prog 71 #[.agg #[.string a0.Name,I6 a0.Kind]] w0 (.bool r):=by
 unfold schema_one_1 at H
 refine enter (args:=[.agg #[.string a0.Name,I6 a0.Kind]]) func71 rfl ntmps71 rfl fun a q=>?_
 have s:=St.init (R:=fun _=>none) (w:=w0) (fun _ _ h=>by cases h)
 have hRL:=RLe.refl (M:=[]) w0 (fun _=>none)
 refine zq<|zr ?_
 refine sl_box s q (by decide) rfl rfl (c:=[.string a0.Name,I6 a0.Kind]) rfl fun a w b_1 s q=>?_
 refine za q rfl fun a q=>zn<|zq<|zr<|zl q (r_fieldAddr underlying65 rfl sizeOf9 q rfl) fun a q=>zl q (r_load isAgg9 q rfl (s.cell z0 rfl)) fun a q=>?_
 obtain ⟨y_2,h_3,H⟩:=bs H
 refine sl_callV call72 s q (by decide) rfl rfl rfl (schema_Word.calls a0.Name (lentOf_sub [] _) (GF.mono (s.raLe0 hRA nil_not) hG) h_3) fun a w s q=>?_
 refine za q rfl fun a q=>zn ?_
 obtain rfl:=Option.some.inj H
 refine wp_ret ?_
 repeat first | refine zt ?_ | refine zb ?_ | refine zo ?_
 exact ret_1 results71 q (rv_tmp q rfl) ⟨rfl,s.bel⟩
theorem schema_all_f_schema_one_1.calls (a1 : List (List api_Col)) {w0 : World} {RA : Hp} {v1_0 : Value} (hRA : RA.sub w0) (h1_0 : SlR (tySl ty_api_Col) RA v1_0 a1) (hG : GF RA) {r : Bool} (H : schema_all_f_schema_one_1 a1 = some r) : CallsV prog 70 #[.func (.func 71) #[] #[],v1_0] w0 (.bool r):=by
 unfold schema_all_f_schema_one_1 at H
 refine enter (args:=[.func (.func 71) #[] #[],v1_0]) func70 rfl ntmps70 rfl fun a q=>?_
 have s:=St.init (R:=fun _=>none) (w:=w0) (fun _ _ h=>by cases h)
 have hRL:=RLe.refl (M:=[]) w0 (fun _=>none)
 refine zq<|zr<|za q rfl fun a q=>zn<|zq<|zq<|zr<|zm q rfl fun a q=>zl q (r_len_R underlying139 h1_0 q rfl) fun a q=>zm q rfl fun a q=>zn ?_
 refine wp_block ?_
 refine wp_loop_k (fun k_l0 a w=>∃ (x_59 : Int),schema_all_f_schema_one_1.l0 a1 k_l0 x_59 = some r ∧ Kn 27 a [(0,.func (.func 71) #[] #[]),(9,v1_0),(10,I6 (a1.length : Int)),(11,I6 x_59)] ∧ St [] w0 w (fun _=>none) []) (((a1.length : Int) - 0).toNat + 1) ?_ ?_
 exact ⟨0,H,q.sub (zc (zc (zc (zc zz)))),s⟩
 rintro k_l0 a w ⟨x_59,H,q,s⟩
 rcases k_l0 with _ | k_l0
 cases H
 rw [schema_all_f_schema_one_1.l0.eq_2] at H
 refine zq<|zr<|zl q (r_ibin q rfl rfl rfl) fun a q=>zn<|zq ?_
 refine wp_cond_split (q.ev rfl) (fun (hb_118 : (decide (x_59 < (a1.length : Int))) = true)=>?_) fun hb_118=>?_
 rw [ifb_t hb_118] at H
 refine wp_skip<|zq ?_
 refine wp_block ?_
 refine zq<|zr ?_
 obtain ⟨y_119,h_120,H⟩:=bs H
 obtain ⟨b_121,o_122,c_123,cs_124,hv_125,hr_126,hc_127,h_1200,h_1201⟩:=h1_0.ix h_120
 obtain ⟨v_128,rfl,hs_129⟩:=hr_126
 refine zl q (r_indexAddr_R underlying139 sizeOf38 hv_125 h_1200 h_1201 q rfl rfl) fun a q=>zl q (r_load isAgg38 q rfl ((s.ra hRA nil_not).cell (hc_127 0 _ rfl))) fun a q=>za q rfl fun a q=>zn<|zq<|zr<|zm q rfl fun a q=>zl q (r_len_R underlying38 hs_129 q rfl) fun a q=>zm q rfl fun a q=>zn ?_
 refine wp_block ?_
 refine wp_loop_k (fun k_l1 a w=>∃ (x_145 : Int),schema_all_f_schema_one_1.l1 (schema_all_f_schema_one_1.l0 a1 k_l0) a1 x_59 y_119 k_l1 x_145 = some r ∧ Kn 27 a [(0,.func (.func 71) #[] #[]),(9,v1_0),(10,I6 (a1.length : Int)),(11,I6 x_59),(15,v_128),(16,I6 (y_119.length : Int)),(17,I6 x_145)] ∧ St [] w0 w (fun _=>none) []) (((y_119.length : Int) - 0).toNat + 1) ?_ ?_
 exact ⟨0,H,q.sub (zc (zc (zc (zc (zc (zc (zc zz))))))),s⟩
 rintro k_l1 a w ⟨x_145,H,q,s⟩
 rcases k_l1 with _ | k_l1
 cases H
 rw [schema_all_f_schema_one_1.l1.eq_2] at H
 refine zq<|zr<|zl q (r_ibin q rfl rfl rfl) fun a q=>zn<|zq ?_
 refine wp_cond_split (q.ev rfl) (fun (hb_161 : (decide (x_145 < (y_119.length : Int))) = true)=>?_) fun hb_161=>?_
 rw [ifb_t hb_161] at H
 refine wp_skip<|zq ?_
 refine wp_block ?_
 refine zq<|zr ?_
 obtain ⟨y_162,h_163,H⟩:=bs H
 obtain ⟨b_164,o_165,c_166,cs_167,hv_168,hr_169,hc_170,h_1630,h_1631⟩:=hs_129.ix h_163
 subst hr_169
 refine zl q (r_indexAddr_R underlying38 sizeOf65 hv_168 h_1630 h_1631 q rfl rfl) fun a q=>zl q (r_loadA (cs:=[.string y_162.Name,I6 y_162.Kind]) isAgg65 sizeOf65 rfl q rfl (fun j v hv=>(s.ra hRA nil_not).cell (hc_170 j v hv))) fun a q=>?_
 refine sl_alloc zeroValue65 s q (by decide) rfl rfl fun a w b_171 s q=>?_
 refine sl_storeA (vs:=[.string y_162.Name,I6 y_162.Kind]) (c':=[.string y_162.Name,I6 y_162.Kind]) sizeOf65 s q rfl rfl rfl rfl (zc (zc zz)) (Nat.le_of_ble_eq_true rfl) rfl fun a w s q=>?_
 refine zn<|zq<|zr<|zm q rfl fun a q=>zl q (r_loadA (cs:=[.string y_162.Name,I6 y_162.Kind]) isAgg65 sizeOf65 rfl q rfl (s.cells_of (m:=2) z0 rfl)) fun a q=>?_
 obtain ⟨y_172,h_173,H⟩:=bs H
 refine sl_callV call71 s q (by decide) rfl rfl rfl (schema_one_1.calls y_162 (lentOf_sub [] _) (GF.mono (s.raLe0 hRA nil_not) hG) h_173) fun a w s q=>?_
 refine zl q (r_un q rfl (u_not _)) fun a q=>zn ?_
 refine wp_cond_split (q.ev rfl) (fun (hb_174 : (!y_172) = true)=>?_) fun hb_174=>?_
 rw [ifb_t hb_174] at H
 refine zq<|zr<|za q rfl fun a q=>zn ?_
 obtain rfl:=Option.some.inj H
 refine wp_ret ?_
 repeat first | refine zt ?_ | refine zb ?_ | refine zo ?_
 exact ret_1 results70 q (rv_tmp q rfl) ⟨rfl,s.bel⟩
 rw [ifb_f hb_174] at H
 refine wp_skip<|zr<|zl q (r_ibin q rfl rfl rfl) fun a q=>zm q rfl fun a q=>zn ?_
 exact ⟨_,Nat.lt_succ_self _,(IntKind.i64.wrap (x_145 + 1)),H,q.sub (zc (zc (zc (zc (zc (zc (zc zz))))))),s.trunc 0⟩
 rw [ifb_f hb_161] at H
 refine wp_exit ?_
 refine zr<|zl q (r_ibin q rfl rfl rfl) fun a q=>zm q rfl fun a q=>zn ?_
 exact ⟨_,Nat.lt_succ_self _,(IntKind.i64.wrap (x_59 + 1)),H,q.sub (zc (zc (zc (zc zz)))),s⟩
 rw [ifb_f hb_118] at H
 refine wp_exit ?_
 refine zq<|zr<|za q rfl fun a q=>zn ?_
 obtain rfl:=Option.some.inj H
 refine wp_ret ?_
 repeat first | refine zt ?_ | refine zb ?_ | refine zo ?_
 exact ret_1 results70 q (rv_tmp q rfl) ⟨rfl,s.bel⟩
theorem schema_one_2.calls (a0 : api_Col) {r : Bool} (H : schema_one_2 a0 = some r) (w0 : World) : CallsV prog 73 #[.agg #[.string a0.Name,I6 a0.Kind]] w0 (.bool r):=by
 unfold schema_one_2 at H
 refine enter (args:=[.agg #[.string a0.Name,I6 a0.Kind]]) func73 rfl ntmps73 rfl fun a q=>?_
 have s:=St.init (R:=fun _=>none) (w:=w0) (fun _ _ h=>by cases h)
 have hRL:=RLe.refl (M:=[]) w0 (fun _=>none)
 refine zq<|zr ?_
 refine sl_box s q (by decide) rfl rfl (c:=[.string a0.Name,I6 a0.Kind]) rfl fun a w b_1 s q=>?_
 refine za q rfl fun a q=>zn<|zq<|zr<|zl q (r_fieldAddr underlying65 rfl sizeOf3 q rfl) fun a q=>zl q (r_load isAgg3 q rfl (s.cell z0 rfl)) fun a q=>zl q (r_ibin q rfl rfl rfl) fun a q=>za q rfl fun a q=>zn ?_
 obtain rfl:=Option.some.inj H
 refine wp_ret ?_
 repeat first | refine zt ?_ | refine zb ?_ | refine zo ?_
 exact ret_1 results73 q (rv_tmp q rfl) ⟨rfl,s.bel⟩
theorem schema_all_f_schema_one_2.calls (a1 : List (List api_Col)) {w0 : World} {RA : Hp} {v1_0 : Value} (hRA : RA.sub w0) (h1_0 : SlR (tySl ty_api_Col) RA v1_0 a1) {r : Bool} (H : schema_all_f_schema_one_2 a1 = some r) : CallsV prog 70 #[.func (.func 73) #[] #[],v1_0] w0 (.bool r):=by
 unfold schema_all_f_schema_one_2 at H
 refine enter (args:=[.func (.func 73) #[] #[],v1_0]) func70 rfl ntmps70 rfl fun a q=>?_
 have s:=St.init (R:=fun _=>none) (w:=w0) (fun _ _ h=>by cases h)
 have hRL:=RLe.refl (M:=[]) w0 (fun _=>none)
 refine zq<|zr<|za q rfl fun a q=>zn<|zq<|zq<|zr<|zm q rfl fun a q=>zl q (r_len_R underlying139 h1_0 q rfl) fun a q=>zm q rfl fun a q=>zn ?_
 refine wp_block ?_
 refine wp_loop_k (fun k_l0 a w=>∃ (x_59 : Int),schema_all_f_schema_one_2.l0 a1 k_l0 x_59 = some r ∧ Kn 27 a [(0,.func (.func 73) #[] #[]),(9,v1_0),(10,I6 (a1.length : Int)),(11,I6 x_59)] ∧ St [] w0 w (fun _=>none) []) (((a1.length : Int) - 0).toNat + 1) ?_ ?_
 exact ⟨0,H,q.sub (zc (zc (zc (zc zz)))),s⟩
 rintro k_l0 a w ⟨x_59,H,q,s⟩
 rcases k_l0 with _ | k_l0
 cases H
 rw [schema_all_f_schema_one_2.l0.eq_2] at H
 refine zq<|zr<|zl q (r_ibin q rfl rfl rfl) fun a q=>zn<|zq ?_
 refine wp_cond_split (q.ev rfl) (fun (hb_118 : (decide (x_59 < (a1.length : Int))) = true)=>?_) fun hb_118=>?_
 rw [ifb_t hb_118] at H
 refine wp_skip<|zq ?_
 refine wp_block ?_
 refine zq<|zr ?_
 obtain ⟨y_119,h_120,H⟩:=bs H
 obtain ⟨b_121,o_122,c_123,cs_124,hv_125,hr_126,hc_127,h_1200,h_1201⟩:=h1_0.ix h_120
 obtain ⟨v_128,rfl,hs_129⟩:=hr_126
 refine zl q (r_indexAddr_R underlying139 sizeOf38 hv_125 h_1200 h_1201 q rfl rfl) fun a q=>zl q (r_load isAgg38 q rfl ((s.ra hRA nil_not).cell (hc_127 0 _ rfl))) fun a q=>za q rfl fun a q=>zn<|zq<|zr<|zm q rfl fun a q=>zl q (r_len_R underlying38 hs_129 q rfl) fun a q=>zm q rfl fun a q=>zn ?_
 refine wp_block ?_
 refine wp_loop_k (fun k_l1 a w=>∃ (x_145 : Int),schema_all_f_schema_one_2.l1 (schema_all_f_schema_one_2.l0 a1 k_l0) a1 x_59 y_119 k_l1 x_145 = some r ∧ Kn 27 a [(0,.func (.func 73) #[] #[]),(9,v1_0),(10,I6 (a1.length : Int)),(11,I6 x_59),(15,v_128),(16,I6 (y_119.length : Int)),(17,I6 x_145)] ∧ St [] w0 w (fun _=>none) []) (((y_119.length : Int) - 0).toNat + 1) ?_ ?_
 exact ⟨0,H,q.sub (zc (zc (zc (zc (zc (zc (zc zz))))))),s⟩
 rintro k_l1 a w ⟨x_145,H,q,s⟩
 rcases k_l1 with _ | k_l1
 cases H
 rw [schema_all_f_schema_one_2.l1.eq_2] at H
 refine zq<|zr<|zl q (r_ibin q rfl rfl rfl) fun a q=>zn<|zq ?_
 refine wp_cond_split (q.ev rfl) (fun (hb_161 : (decide (x_145 < (y_119.length : Int))) = true)=>?_) fun hb_161=>?_
 rw [ifb_t hb_161] at H
 refine wp_skip<|zq ?_
 refine wp_block ?_
 refine zq<|zr ?_
 obtain ⟨y_162,h_163,H⟩:=bs H
 obtain ⟨b_164,o_165,c_166,cs_167,hv_168,hr_169,hc_170,h_1630,h_1631⟩:=hs_129.ix h_163
 subst hr_169
 refine zl q (r_indexAddr_R underlying38 sizeOf65 hv_168 h_1630 h_1631 q rfl rfl) fun a q=>zl q (r_loadA (cs:=[.string y_162.Name,I6 y_162.Kind]) isAgg65 sizeOf65 rfl q rfl (fun j v hv=>(s.ra hRA nil_not).cell (hc_170 j v hv))) fun a q=>?_
 refine sl_alloc zeroValue65 s q (by decide) rfl rfl fun a w b_171 s q=>?_
 refine sl_storeA (vs:=[.string y_162.Name,I6 y_162.Kind]) (c':=[.string y_162.Name,I6 y_162.Kind]) sizeOf65 s q rfl rfl rfl rfl (zc (zc zz)) (Nat.le_of_ble_eq_true rfl) rfl fun a w s q=>?_
 refine zn<|zq<|zr<|zm q rfl fun a q=>zl q (r_loadA (cs:=[.string y_162.Name,I6 y_162.Kind]) isAgg65 sizeOf65 rfl q rfl (s.cells_of (m:=2) z0 rfl)) fun a q=>?_
 obtain ⟨y_172,h_173,H⟩:=bs H
 refine sl_callV call73 s q (by decide) rfl rfl rfl (schema_one_2.calls y_162 h_173 _) fun a w s q=>?_
 refine zl q (r_un q rfl (u_not _)) fun a q=>zn ?_
 refine wp_cond_split (q.ev rfl) (fun (hb_174 : (!y_172) = true)=>?_) fun hb_174=>?_
 rw [ifb_t hb_174] at H
 refine zq<|zr<|za q rfl fun a q=>zn ?_
 obtain rfl:=Option.some.inj H
 refine wp_ret ?_
 repeat first | refine zt ?_ | refine zb ?_ | refine zo ?_
 exact ret_1 results70 q (rv_tmp q rfl) ⟨rfl,s.bel⟩
 rw [ifb_f hb_174] at H
 refine wp_skip<|zr<|zl q (r_ibin q rfl rfl rfl) fun a q=>zm q rfl fun a q=>zn ?_
 exact ⟨_,Nat.lt_succ_self _,(IntKind.i64.wrap (x_145 + 1)),H,q.sub (zc (zc (zc (zc (zc (zc (zc zz))))))),s.trunc 0⟩
 rw [ifb_f hb_161] at H
 refine wp_exit ?_
 refine zr<|zl q (r_ibin q rfl rfl rfl) fun a q=>zm q rfl fun a q=>zn ?_
 exact ⟨_,Nat.lt_succ_self _,(IntKind.i64.wrap (x_59 + 1)),H,q.sub (zc (zc (zc (zc zz)))),s⟩
 rw [ifb_f hb_118] at H
 refine wp_exit ?_
 refine zq<|zr<|za q rfl fun a q=>zn ?_
 obtain rfl:=Option.some.inj H
 refine wp_ret ?_
 repeat first | refine zt ?_ | refine zb ?_ | refine zo ?_
 exact ret_1 results70 q (rv_tmp q rfl) ⟨rfl,s.bel⟩
set_option maxHeartbeats 4000000 in
set_option maxRecDepth 100000 in
theorem slices_Grow_api_Col_api_Col.calls (a0 : List api_Col) (a1 : Int) {w0 : World} {R RA : Hp} (hRA : RA.sub w0) (hR : R.sub w0) (h0 : SlR ty_api_Col RA (.slice none 0 0) a0) {r : List api_Col} (H : slices_Grow_api_Col_api_Col a0 a1 = some r) :
    Calls Tryz.prog 86 #[.slice none 0 0, .int .i64 a1] w0 (Rets fun v w' => ∃ (R' : Hp) (u0 : Value) (cu0 : List Value), v = u0 ∧ St [] w0 w' R' [.row 65 2 u0 r.length cu0] ∧ RLe [] w0 R R' ∧ Reps ty_api_Col R' cu0 r) := by
  obtain ⟨k, rfl, hb, rfl⟩ := grow0_some H
  have hl0 : a0 = [] := by
    obtain ⟨ad, cap, h1, _⟩ := h0
    simp only [Value.slice.injEq] at h1
    exact List.eq_nil_of_length_eq_zero h1.2.1.symm
  subst hl0
  have hbig : k ≤ 140737488355328 := Nat.le_trans (Nat.le_mul_of_pos_right _ (by decide)) hb
  refine enter (args := [.slice none 0 0, .int .i64 (k : Int)]) Tryz.func86 rfl Tryz.ntmps86 rfl fun a hK => ?_
  have hS := St.init hR
  refine wp_seq ?_
  refine wp_region_lit ?_
  refine sl hK (by decide) rfl rfl (r_assign hK rfl) fun a hK => ?_
  refine wpList_nil ?_
  refine wp_seq ?_
  refine wp_seq ?_
  refine wp_region_lit ?_
  refine sl hK (by decide) rfl rfl (r_move hK rfl) fun a hK => ?_
  refine sl hK (by decide) rfl rfl (r_ibin hK rfl rfl rfl) fun a hK => ?_
  refine wpList_nil ?_
  refine wp_cond_false ((hK.ev rfl).trans (congrArg Value.bool (show decide ((k : Int) < 0) = false by simp))) ?_
  refine wp_skip ?_
  refine wp_seq ?_
  refine wp_seq ?_
  refine wp_region_lit ?_
  refine sl hK (by decide) rfl rfl (r_move hK rfl) fun a hK => ?_
  refine sl hK (by decide) rfl rfl (r_move hK rfl) fun a hK => ?_
  refine sl hK (by decide) rfl rfl (r_cap Tryz.underlying38 hK rfl) fun a hK => ?_
  refine sl hK (by decide) rfl rfl (r_move hK rfl) fun a hK => ?_
  refine sl hK (by decide) rfl rfl (r_len_sl Tryz.underlying38 hK rfl) fun a hK => ?_
  refine sl hK (by decide) rfl rfl (r_ibin (k := .i64) (v := .int .i64 0) hK rfl rfl rfl) fun a hK => ?_
  refine sl hK (by decide) rfl rfl (r_ibin (k := .i64) (v := .int .i64 (k : Int)) hK rfl rfl (by show some (Value.int .i64 (IntKind.i64.wrap ((k : Int) - 0))) = _; rw [Int.sub_zero, w64 (by omega) (by omega)])) fun a hK => ?_
  refine sl hK (by decide) rfl rfl (r_assign hK rfl) fun a hK => ?_
  refine wpList_nil ?_
  refine wp_seq ?_
  refine wp_region_lit ?_
  refine sl hK (by decide) rfl rfl (r_move hK rfl) fun a hK => ?_
  refine sl hK (by decide) rfl rfl (r_ibin hK rfl rfl rfl) fun a hK => ?_
  refine wpList_nil ?_
  by_cases hk : k = 0
  · refine wp_cond_false ((hK.ev rfl).trans (congrArg Value.bool (show decide ((k : Int) > 0) = false by simp; omega))) ?_
    refine wp_skip ?_
    refine wp_seq ?_
    refine wp_region_lit ?_
    refine sl hK (by decide) rfl rfl (r_move hK rfl) fun a hK => ?_
    refine sl hK (by decide) rfl rfl (r_assign hK rfl) fun a hK => ?_
    refine wpList_nil ?_
    refine wp_ret ?_
    repeat (first | refine ret_then ?_ | refine ret_block ?_)
    exact ret_1 Tryz.results86 hK (rv_tmp hK rfl) ⟨_, rfl, R, _, [], rfl, hS.row_nil 65 2, RLe.refl _ _, Reps.nil _ _⟩
  · refine wp_cond_true ((hK.ev rfl).trans (congrArg Value.bool (show decide ((k : Int) > 0) = true by simp; omega))) ?_
    refine wp_region_lit ?_
    refine sl hK (by decide) rfl rfl (r_move hK rfl) fun a hK => ?_
    refine sl hK (by decide) rfl rfl (r_move hK rfl) fun a hK => ?_
    refine sl hK (by decide) rfl rfl (r_cap Tryz.underlying38 hK rfl) fun a hK => ?_
    refine sl hK (by decide) rfl rfl (r_slice_H (l := 0) (h := 0) Tryz.underlying38 Tryz.sizeOf65 (Nat.le_refl _) (Nat.le_refl _) hK rfl rfl ⟨_, rfl⟩) fun a hK => ?_
    refine sl hK (by decide) rfl rfl (r_move hK rfl) fun a hK => ?_
    refine sl_append_zeros (i := 0) (k := k) (olds := []) (cap := 0) (ad := none) elT38 Tryz.underlying3 (by omega) (by omega) (by decide) (by simpa using hb) (by simp) (fun h => absurd rfl h) (fun h => absurd rfl h) hS hK (by decide) rfl rfl rfl fun a w b capn rest' hgn hcmn hln hS hK => ?_
    refine sl hK (by decide) rfl rfl (r_move hK rfl) fun a hK => ?_
    refine sl hK (by decide) rfl rfl (r_len_sl Tryz.underlying38 hK rfl) fun a hK => ?_
    refine sl hK (by decide) rfl rfl (r_slice_Hv (b := b) (o := 0) (m := 0 + k) (c := capn) (l := 0) (h := 0) (o' := 0) (m' := 0) (c' := capn) Tryz.underlying38 Tryz.sizeOf65 (by omega) (by omega) (Or.inr rfl) rfl rfl rfl hK rfl rfl ⟨_, rfl⟩) fun a hK => ?_
    refine sl hK (by decide) rfl rfl (r_assign hK rfl) fun a hK => ?_
    refine wpList_nil ?_
    refine wp_seq ?_
    refine wp_region_lit ?_
    refine sl hK (by decide) rfl rfl (r_move hK rfl) fun a hK => ?_
    refine sl hK (by decide) rfl rfl (r_assign hK rfl) fun a hK => ?_
    refine wpList_nil ?_
    refine wp_ret ?_
    repeat (first | refine ret_then ?_ | refine ret_block ?_)
    have hS := hS.raw_row (z := 2) (m := 0) (Nat.zero_le _) hcmn hln
    rw [Nat.zero_mul, List.take_zero] at hS
    exact ret_1 Tryz.results86 hK (rv_tmp hK rfl) ⟨_, rfl, R, _, [], rfl, hS, RLe.refl _ _, Reps.nil _ _⟩
theorem slices_Concat_api_Col_api_Col.calls (a0 : List (List api_Col)) {w0 : World} {R : Hp} {RA : Hp} {v0_0 : Value} (hRA : RA.sub w0) (hR : R.sub w0) (h0_0 : SlR (tySl ty_api_Col) RA v0_0 a0) {r : List api_Col} (H : slices_Concat_api_Col_api_Col a0 = some r) : Calls prog 57 #[v0_0] w0 (Rets fun v w'=>∃ (R' : Hp) (u0 : Value) (cu0 : List Value),v = u0 ∧ St [] w0 w' R' [.row 65 2 u0 r.length cu0] ∧ RLe [] w0 R R' ∧ Reps ty_api_Col R' cu0 r):=by
 unfold slices_Concat_api_Col_api_Col at H
 refine enter (args:=[v0_0]) func57 rfl ntmps57 rfl fun a q=>?_
 have s:=St.init hR
 have hRL:=RLe.refl (M:=[]) w0 R
 refine zq<|zr<|za q rfl fun a q=>zn<|zq<|zr<|za q rfl fun a q=>zn<|zq<|zq<|zr<|zm q rfl fun a q=>zl q (r_len_R underlying139 h0_0 q rfl) fun a q=>zm q rfl fun a q=>zn ?_
 refine wp_block ?_
 refine wp_loop_k (fun k_l0 a w=>∃ (x_16 : Int) (x_17 : Int),slices_Concat_api_Col_api_Col.l0 a0 k_l0 x_16 x_17 = some r ∧ Kn 36 a [(0,v0_0),(3,I6 x_16),(9,v0_0),(10,I6 (a0.length : Int)),(11,I6 x_17)] ∧ St [] w0 w R []) (((a0.length : Int) - 0).toNat + 1) ?_ ?_
 exact ⟨0,0,H,q.sub (zc (zc (zc (zc (zc zz))))),s⟩
 rintro k_l0 a w ⟨x_16,x_17,H,q,s⟩
 rcases k_l0 with _ | k_l0
 cases H
 rw [slices_Concat_api_Col_api_Col.l0.eq_2] at H
 refine zq<|zr<|zl q (r_ibin q rfl rfl rfl) fun a q=>zn<|zq ?_
 refine wp_cond_split (q.ev rfl) (fun (hb_33 : (decide (x_17 < (a0.length : Int))) = true)=>?_) fun hb_33=>?_
 rw [ifb_t hb_33] at H
 refine wp_skip<|zq ?_
 refine wp_block ?_
 refine zq<|zr ?_
 obtain ⟨y_34,h_35,H⟩:=bs H
 obtain ⟨b_36,o_37,c_38,cs_39,hv_40,hr_41,hc_42,h_350,h_351⟩:=h0_0.ix h_35
 obtain ⟨v_43,rfl,hs_44⟩:=hr_41
 refine zl q (r_indexAddr_R underlying139 sizeOf38 hv_40 h_350 h_351 q rfl rfl) fun a q=>zl q (r_load isAgg38 q rfl ((s.ra hRA nil_not).cell (hc_42 0 _ rfl))) fun a q=>za q rfl fun a q=>zn<|zq<|zr<|zm q rfl fun a q=>zm q rfl fun a q=>zl q (r_len_R underlying38 hs_44 q rfl) fun a q=>zl q (r_ibin q rfl rfl rfl) fun a q=>za q rfl fun a q=>zn<|zq<|zr<|zm q rfl fun a q=>zl q (r_ibin q rfl rfl rfl) fun a q=>zn ?_
 refine wp_cond_split (q.ev rfl) (fun (hb_46 : (decide ((IntKind.i64.wrap (x_16 + (y_34.length : Int))) < 0)) = true)=>?_) fun hb_46=>?_
 rw [ifb_t hb_46] at H
 refine zr ?_
 cases H
 rw [ifb_f hb_46] at H
 refine wp_skip<|zr<|zl q (r_ibin q rfl rfl rfl) fun a q=>zm q rfl fun a q=>zn ?_
 exact ⟨_,Nat.lt_succ_self _,(IntKind.i64.wrap (x_16 + (y_34.length : Int))),(IntKind.i64.wrap (x_17 + 1)),H,q.sub (zc (zc (zc (zc (zc zz))))),s⟩
 rw [ifb_f hb_33] at H
 refine wp_exit ?_
 refine zq<|zr<|zm q rfl fun a q=>?_
 obtain ⟨y_47,h_48,H⟩:=bs H
 refine sl_call call86 q (by decide) rfl rfl rfl (slices_Grow_api_Col_api_Col.calls ([] : List api_Col) x_16 (lentOf_sub [] _) s.sub (SlR.nil ty_api_Col _) h_48) fun a v_ w hv_ q=>?_
 obtain ⟨R_49,v_52,cs_53,hv_,hr_,hl_50,hq_54⟩:=hv_
 have hv_:=hv_.symm
 subst hv_
 obtain ⟨s,hl_50⟩:=s.sp0.back hr_ hl_50
 have s:=s.un1
 have hRL:=hRL.trans hl_50
 refine za q rfl fun a q=>zn<|zq<|zq<|zr<|zm q rfl fun a q=>zl q (r_len_R underlying139 h0_0 q rfl) fun a q=>zm q rfl fun a q=>zn ?_
 refine wp_block ?_
 refine wp_loop_k (fun k_l1 a w=>∃ (x_75 : List api_Col) (x_79 : Int) (v_76 : Value) (cs_77 : List Value),slices_Concat_api_Col_api_Col.l1 a0 k_l1 x_75 x_79 = some r ∧ Reps ty_api_Col R_49 cs_77 x_75 ∧ Kn 36 a [(6,v_76),(25,v0_0),(26,I6 (a0.length : Int)),(27,I6 x_79)] ∧ St [] w0 w R_49 [.row 65 2 v_76 x_75.length cs_77]) (((a0.length : Int) - 0).toNat + 1) ?_ ?_
 exact ⟨y_47,0,_,_,H,hq_54,q.sub (zc (zc (zc (zc zz)))),s⟩
 rintro k_l1 a w ⟨x_75,x_79,v_76,cs_77,H,hq_78,q,s⟩
 rcases k_l1 with _ | k_l1
 cases H
 rw [slices_Concat_api_Col_api_Col.l1.eq_2] at H
 refine zq<|zr<|zl q (r_ibin q rfl rfl rfl) fun a q=>zn<|zq ?_
 refine wp_cond_split (q.ev rfl) (fun (hb_99 : (decide (x_79 < (a0.length : Int))) = true)=>?_) fun hb_99=>?_
 rw [ifb_t hb_99] at H
 refine wp_skip<|zq ?_
 refine wp_block ?_
 refine zq<|zr ?_
 obtain ⟨y_100,h_101,H⟩:=bs H
 obtain ⟨b_102,o_103,c_104,cs_105,hv_106,hr_107,hc_108,h_1010,h_1011⟩:=h0_0.ix h_101
 obtain ⟨v_109,rfl,hs_110⟩:=hr_107
 refine zl q (r_indexAddr_R underlying139 sizeOf38 hv_106 h_1010 h_1011 q rfl rfl) fun a q=>zl q (r_load isAgg38 q rfl ((s.ra hRA nil_not).cell (hc_108 0 _ rfl))) fun a q=>za q rfl fun a q=>zn<|zr<|zm q rfl fun a q=>zm q rfl fun a q=>?_
 obtain ⟨y_111,h_112,H⟩:=bs H
 refine sl_append_A elT38 (by decide) rfl (fun _ _ _ _ h=>h) (s.ra hRA nil_not) hq_78 rfl hs_110 h_112 s q (by decide) rfl rfl rfl fun a w v_113 cs_114 hq_115 s q=>?_
 refine za q rfl fun a q=>zn<|zr<|zl q (r_ibin q rfl rfl rfl) fun a q=>zm q rfl fun a q=>zn ?_
 exact ⟨_,Nat.lt_succ_self _,y_111,(IntKind.i64.wrap (x_79 + 1)),_,_,H,hq_115,q.sub (zc (zc (zc (zc zz)))),s⟩
 rw [ifb_f hb_99] at H
 refine wp_exit ?_
 refine zq<|zr<|zm q rfl fun a q=>za q rfl fun a q=>zn ?_
 obtain rfl:=Option.some.inj H
 refine wp_ret ?_
 repeat first | refine zt ?_ | refine zb ?_ | refine zo ?_
 exact ret_1 results57 q (rv_tmp q rfl) ⟨_,rfl,_,_,_,rfl,s,hRL,hq_78⟩
theorem table_Find_1_cp.calls (a0 : api_Col) (a1 : ByteArray) {w0 : World} {RA : Hp} {b1 : Nat} {o1 : Nat} (hRA : RA.sub w0) (hc1 : ∀ j u,([.string a1] : List Value)[j]? = some u → RA.cell b1 (o1 + j) = some u) {r : Bool} (H : table_Find_1_cp a0 a1 = some r) : CallsV prog 130 #[.agg #[.string a0.Name,I6 a0.Kind],.pointer (some ⟨b1,o1,none⟩)] w0 (.bool r):=by
 unfold table_Find_1_cp at H
 refine enter (args:=[.agg #[.string a0.Name,I6 a0.Kind],.pointer (some ⟨b1,o1,none⟩)]) func130 rfl ntmps130 rfl fun a q=>?_
 have s:=St.init (R:=fun _=>none) (w:=w0) (fun _ _ h=>by cases h)
 have hRL:=RLe.refl (M:=[]) w0 (fun _=>none)
 refine zq<|zr ?_
 refine sl_box s q (by decide) rfl rfl (c:=[.string a0.Name,I6 a0.Kind]) rfl fun a w b_1 s q=>?_
 refine za q rfl fun a q=>zn<|zq<|zr<|zl q (r_fieldAddr underlying65 rfl sizeOf9 q rfl) fun a q=>zl q (r_load isAgg9 q rfl (s.cell z0 rfl)) fun a q=>zl q (r_load isAgg9 q rfl ((s.ra hRA nil_not).cell (hc1 0 _ rfl))) fun a q=>zl q (r_sbin q rfl rfl rfl) fun a q=>za q rfl fun a q=>zn ?_
 obtain rfl:=Option.some.inj H
 refine wp_ret ?_
 repeat first | refine zt ?_ | refine zb ?_ | refine zo ?_
 exact ret_1 results130 q (rv_tmp q rfl) ⟨rfl,s.bel⟩
theorem slices_IndexFunc_api_Col_api_Col_f_table_Find_1p.calls (a0 : List api_Col) (a1_0 : ByteArray) {w0 : World} {RA : Hp} {v0_0 : Value} {b1q0 : Nat} {o1q0 : Nat} (hRA : RA.sub w0) (h0_0 : SlR ty_api_Col RA v0_0 a0) (hc1q0 : ∀ j u,([.string a1_0] : List Value)[j]? = some u → RA.cell b1q0 (o1q0 + j) = some u) {r : Int} (H : slices_IndexFunc_api_Col_api_Col_f_table_Find_1p a0 a1_0 = some r) : CallsV prog 129 #[v0_0,.func (.func 130) #[] #[.pointer (some ⟨b1q0,o1q0,none⟩)]] w0 (I6 r):=by
 unfold slices_IndexFunc_api_Col_api_Col_f_table_Find_1p at H
 refine enter (args:=[v0_0,.func (.func 130) #[] #[.pointer (some ⟨b1q0,o1q0,none⟩)]]) func129 rfl ntmps129 rfl fun a q=>?_
 have s:=St.init (R:=fun _=>none) (w:=w0) (fun _ _ h=>by cases h)
 have hRL:=RLe.refl (M:=[]) w0 (fun _=>none)
 refine zq<|zr<|za q rfl fun a q=>zn<|zq<|zq<|zr<|zm q rfl fun a q=>zl q (r_len_R underlying38 h0_0 q rfl) fun a q=>zm q rfl fun a q=>zn ?_
 refine wp_block ?_
 refine wp_loop_k (fun k_l0 a w=>∃ (x_15 : Int),slices_IndexFunc_api_Col_api_Col_f_table_Find_1p.l0 a0 a1_0 k_l0 x_15 = some r ∧ Kn 19 a [(0,v0_0),(1,.func (.func 130) #[] #[.pointer (some ⟨b1q0,o1q0,none⟩)]),(7,I6 (a0.length : Int)),(8,I6 x_15)] ∧ St [] w0 w (fun _=>none) []) (((a0.length : Int) - 0).toNat + 1) ?_ ?_
 exact ⟨0,H,q.sub (zc (zc (zc (zc zz)))),s⟩
 rintro k_l0 a w ⟨x_15,H,q,s⟩
 rcases k_l0 with _ | k_l0
 cases H
 rw [slices_IndexFunc_api_Col_api_Col_f_table_Find_1p.l0.eq_2] at H
 refine zq<|zr<|zl q (r_ibin q rfl rfl rfl) fun a q=>zn<|zq ?_
 refine wp_cond_split (q.ev rfl) (fun (hb_30 : (decide (x_15 < (a0.length : Int))) = true)=>?_) fun hb_30=>?_
 rw [ifb_t hb_30] at H
 refine wp_skip<|zq ?_
 refine wp_block ?_
 refine zq<|zr<|zm q rfl fun a q=>za q rfl fun a q=>zn<|zq<|zr<|zm q rfl fun a q=>zm q rfl fun a q=>zm q rfl fun a q=>?_
 obtain ⟨y_31,h_32,H⟩:=bs H
 obtain ⟨b_33,o_34,c_35,cs_36,hv_37,hr_38,hc_39,h_320,h_321⟩:=h0_0.ix h_32
 subst hr_38
 refine zl q (r_indexAddr_R underlying38 sizeOf65 hv_37 h_320 h_321 q rfl rfl) fun a q=>zl q (r_loadA (cs:=[.string y_31.Name,I6 y_31.Kind]) isAgg65 sizeOf65 rfl q rfl (fun j v hv=>(s.ra hRA nil_not).cell (hc_39 j v hv))) fun a q=>?_
 obtain ⟨y_40,h_41,H⟩:=bs H
 refine sl_callV call130 s q (by decide) rfl rfl rfl (table_Find_1_cp.calls y_31 a1_0 (lentOf_sub [] _) (fun j u hu=>Hp.cell_le (s.raLe0 hRA nil_not) (hc1q0 j u hu)) h_41) fun a w s q=>?_
 refine zn ?_
 refine wp_cond_split (q.ev rfl) (fun (hb_42 : y_40 = true)=>?_) fun hb_42=>?_
 rw [ifb_t hb_42] at H
 refine zq<|zr<|zm q rfl fun a q=>za q rfl fun a q=>zn ?_
 obtain rfl:=Option.some.inj H
 refine wp_ret ?_
 repeat first | refine zt ?_ | refine zb ?_ | refine zo ?_
 exact ret_1 results129 q (rv_tmp q rfl) ⟨rfl,s.bel⟩
 rw [ifb_f hb_42] at H
 refine wp_skip<|zr<|zl q (r_ibin q rfl rfl rfl) fun a q=>zm q rfl fun a q=>zn ?_
 exact ⟨_,Nat.lt_succ_self _,(IntKind.i64.wrap (x_15 + 1)),H,q.sub (zc (zc (zc (zc zz)))),s⟩
 rw [ifb_f hb_30] at H
 refine wp_exit ?_
 refine zq<|zr<|za q rfl fun a q=>zn ?_
 obtain rfl:=Option.some.inj H
 refine wp_ret ?_
 repeat first | refine zt ?_ | refine zb ?_ | refine zo ?_
 exact ret_1 results129 q (rv_tmp q rfl) ⟨rfl,s.bel⟩
theorem table_Find.calls (a0 : List api_Col) (a1 : ByteArray) {w0 : World} {RA : Hp} {v0_0 : Value} (hRA : RA.sub w0) (h0_0 : SlR ty_api_Col RA v0_0 a0) {r : Int} (H : table_Find a0 a1 = some r) : CallsV prog 118 #[v0_0,.string a1] w0 (I6 r):=by
 unfold table_Find at H
 refine enter (args:=[v0_0,.string a1]) func118 rfl ntmps118 rfl fun a q=>?_
 have s:=St.init (R:=fun _=>none) (w:=w0) (fun _ _ h=>by cases h)
 have hRL:=RLe.refl (M:=[]) w0 (fun _=>none)
 refine zq<|zr ?_
 refine sl_box s q (by decide) rfl rfl (c:=[.string a1]) rfl fun a w b_1 s q=>?_
 refine za q rfl fun a q=>zn<|zq<|zr<|zm q rfl fun a q=>zl q (r_func (us:=[]) (vs:=[.pointer (some ⟨b_1,0,none⟩)]) rfl (q.evs rfl)) fun a q=>?_
 obtain ⟨y_2,h_3,H⟩:=bs H
 refine sl_callV call129 s q (by decide) rfl rfl rfl (slices_IndexFunc_api_Col_api_Col_f_table_Find_1p.calls a0 a1 (lentOf_sub [] _) (h0_0.mono (s.raLe0 hRA nil_not)) (s.lend_box0 z0) h_3) fun a w s q=>?_
 refine za q rfl fun a q=>zn ?_
 obtain rfl:=Option.some.inj H
 refine wp_ret ?_
 repeat first | refine zt ?_ | refine zb ?_ | refine zo ?_
 exact ret_1 results118 q (rv_tmp q rfl) ⟨rfl,s.bel⟩
theorem table_columns.calls (a0 : List api_Col) {w0 : World} {RA : Hp} {v0_0 : Value} (hRA : RA.sub w0) (h0_0 : SlR ty_api_Col RA v0_0 a0) {r : Bool} (H : table_columns a0 = some r) : CallsV prog 98 #[v0_0] w0 (.bool r):=by
 unfold table_columns at H
 refine enter (args:=[v0_0]) func98 rfl ntmps98 rfl fun a q=>?_
 have s:=St.init (R:=fun _=>none) (w:=w0) (fun _ _ h=>by cases h)
 have hRL:=RLe.refl (M:=[]) w0 (fun _=>none)
 refine zq<|zr<|za q rfl fun a q=>zn<|zq<|zq<|zr<|zm q rfl fun a q=>zl q (r_len_R underlying38 h0_0 q rfl) fun a q=>zm q rfl fun a q=>zn ?_
 refine wp_block ?_
 refine wp_loop_k (fun k_l0 a w=>∃ (x_30 : Int),table_columns.l0 a0 k_l0 x_30 = some r ∧ Kn 43 a [(0,v0_0),(5,v0_0),(6,I6 (a0.length : Int)),(7,I6 x_30)] ∧ St [] w0 w (fun _=>none) []) (((a0.length : Int) - 0).toNat + 1) ?_ ?_
 exact ⟨0,H,q.sub (zc (zc (zc (zc zz)))),s⟩
 rintro k_l0 a w ⟨x_30,H,q,s⟩
 rcases k_l0 with _ | k_l0
 cases H
 rw [table_columns.l0.eq_2] at H
 refine zq<|zr<|zl q (r_ibin q rfl rfl rfl) fun a q=>zn<|zq ?_
 refine wp_cond_split (q.ev rfl) (fun (hb_60 : (decide (x_30 < (a0.length : Int))) = true)=>?_) fun hb_60=>?_
 rw [ifb_t hb_60] at H
 refine wp_skip<|zq ?_
 refine wp_block ?_
 refine zq<|zr<|zm q rfl fun a q=>?_
 obtain ⟨y_61,h_62,H⟩:=bs H
 obtain ⟨b_63,o_64,c_65,cs_66,hv_67,hr_68,hc_69,h_620,h_621⟩:=h0_0.ix h_62
 subst hr_68
 refine zl q (r_indexAddr_R underlying38 sizeOf65 hv_67 h_620 h_621 q rfl rfl) fun a q=>zl q (r_loadA (cs:=[.string y_61.Name,I6 y_61.Kind]) isAgg65 sizeOf65 rfl q rfl (fun j v hv=>(s.ra hRA nil_not).cell (hc_69 j v hv))) fun a q=>?_
 refine sl_alloc zeroValue65 s q (by decide) rfl rfl fun a w b_70 s q=>?_
 refine za q rfl fun a q=>?_
 refine sl_storeA (vs:=[.string y_61.Name,I6 y_61.Kind]) (c':=[.string y_61.Name,I6 y_61.Kind]) sizeOf65 s q rfl rfl rfl rfl (zc (zc zz)) (Nat.le_of_ble_eq_true rfl) rfl fun a w s q=>?_
 refine zn<|zq ?_
 refine wp_mid (fun a w=>∃ (x_78 : Bool),table_columns.j1 (table_columns.l0 a0 k_l0) a0 x_30 x_78 = some r ∧ Kn 43 a [(0,v0_0),(5,v0_0),(6,I6 (a0.length : Int)),(7,I6 x_30),(33,.bool x_78)] ∧ St [] w0 w (fun _=>none) []) ?_ ?_
 refine zr<|zl q (r_fieldAddr underlying65 rfl sizeOf9 q rfl) fun a q=>zl q (r_load isAgg9 q rfl (s.cell z0 rfl)) fun a q=>?_
 obtain ⟨y_80,h_81,H⟩:=bs H
 refine sl_callV call96 s q (by decide) rfl rfl rfl (table_Name.calls y_61.Name h_81 _) fun a w s q=>?_
 refine zl q (r_un q rfl (u_not _)) fun a q=>zm q rfl fun a q=>?_
 rcases or_b (!y_80) with hb_82 | hb_82
 rw [ifb_t hb_82] at H
 refine zsw q (wft hb_82) fun a q=>zsw q (wft hb_82) fun a q=>zsw q (wft hb_82) fun a q=>zl q (r_pick_t hb_82 q rfl rfl) fun a q=>zm q rfl fun a q=>zs q fun a q=>zs q fun a q=>zs q fun a q=>zl q (r_pick q rfl rfl rfl) fun a q=>zm q rfl fun a q=>zs q fun a q=>zs q fun a q=>zs q fun a q=>zs q fun a q=>zs q fun a q=>zs q fun a q=>zl q (r_pick q rfl rfl rfl) fun a q=>zn ?_
 exact ⟨true,H,q.sub (zc (zc (zc (zc (zc zz))))),s.trunc 0⟩
 rw [ifb_f hb_82] at H
 refine zw q (wff hb_82) (r_fieldAddr underlying65 rfl sizeOf3 q rfl) fun a q=>zw q (wff hb_82) (r_load isAgg3 q rfl (s.cell z0 rfl)) fun a q=>zw q (wff hb_82) (r_ibin q rfl rfl rfl) fun a q=>zl q (r_pick_f hb_82 q rfl rfl) fun a q=>zm q rfl fun a q=>?_
 rcases or_b (decide (y_61.Kind < 1)) with hb_83 | hb_83
 rw [ifb_t hb_83] at H
 refine zsw q (wft hb_83) fun a q=>zsw q (wft hb_83) fun a q=>zsw q (wft hb_83) fun a q=>zl q (r_pick_t hb_83 q rfl rfl) fun a q=>zm q rfl fun a q=>zs q fun a q=>zs q fun a q=>zs q fun a q=>zs q fun a q=>zs q fun a q=>zs q fun a q=>zl q (r_pick q rfl rfl rfl) fun a q=>zn ?_
 exact ⟨true,H,q.sub (zc (zc (zc (zc (zc zz))))),s.trunc 0⟩
 rw [ifb_f hb_83] at H
 refine zw q (wff hb_83) (r_fieldAddr underlying65 rfl sizeOf3 q rfl) fun a q=>zw q (wff hb_83) (r_load isAgg3 q rfl (s.cell z0 rfl)) fun a q=>zw q (wff hb_83) (r_ibin q rfl rfl rfl) fun a q=>zl q (r_pick_f hb_83 q rfl rfl) fun a q=>zm q rfl fun a q=>?_
 rcases or_b (decide (y_61.Kind > 4)) with hb_84 | hb_84
 rw [ifb_t hb_84] at H
 refine zsw q (wft hb_84) fun a q=>zsw q (wft hb_84) fun a q=>zsw q (wft hb_84) fun a q=>zsw q (wft hb_84) fun a q=>zsw q (wft hb_84) fun a q=>zsw q (wft hb_84) fun a q=>zl q (r_pick_t hb_84 q rfl rfl) fun a q=>zn ?_
 exact ⟨true,H,q.sub (zc (zc (zc (zc (zc zz))))),s.trunc 0⟩
 rw [ifb_f hb_84] at H
 refine zw q (wff hb_84) (r_move q rfl) fun a q=>zw q (wff hb_84) (r_fieldAddr underlying65 rfl sizeOf9 q rfl) fun a q=>zw q (wff hb_84) (r_load isAgg9 q rfl (s.cell z0 rfl)) fun a q=>?_
 obtain ⟨y_85,h_86,H⟩:=bs H
 refine sl_callV call118 s q (by decide) (wff hb_84) rfl rfl (table_Find.calls a0 y_61.Name (lentOf_sub [] _) (h0_0.mono (s.raLe0 hRA nil_not)) h_86) fun a w s q=>?_
 refine zw q (wff hb_84) (r_move q rfl) fun a q=>zw q (wff hb_84) (r_ibin q rfl rfl rfl) fun a q=>zl q (r_pick_f hb_84 q rfl rfl) fun a q=>zn ?_
 exact ⟨(y_85 != x_30),H,q.sub (zc (zc (zc (zc (zc zz))))),s.trunc 0⟩
 rintro a w ⟨x_78,H,q,s⟩
 unfold table_columns.j1 at H
 refine wp_cond_split (q.ev rfl) (fun (hb_87 : x_78 = true)=>?_) fun hb_87=>?_
 rw [ifb_t hb_87] at H
 refine zq<|zr<|za q rfl fun a q=>zn ?_
 obtain rfl:=Option.some.inj H
 refine wp_ret ?_
 repeat first | refine zt ?_ | refine zb ?_ | refine zo ?_
 exact ret_1 results98 q (rv_tmp q rfl) ⟨rfl,s.bel⟩
 rw [ifb_f hb_87] at H
 refine wp_skip<|zr<|zl q (r_ibin q rfl rfl rfl) fun a q=>zm q rfl fun a q=>zn ?_
 exact ⟨_,Nat.lt_succ_self _,(IntKind.i64.wrap (x_30 + 1)),H,q.sub (zc (zc (zc (zc zz)))),s⟩
 rw [ifb_f hb_60] at H
 refine wp_exit ?_
 refine zq<|zr<|zm q rfl fun a q=>zl q (r_len_R underlying38 h0_0 q rfl) fun a q=>zl q (r_ibin q rfl rfl rfl) fun a q=>zm q rfl fun a q=>?_
 rcases or_b (decide ((a0.length : Int) ≥ 1)) with hb_88 | hb_88
 rw [ifb_t hb_88] at H
 refine zw q (wtt hb_88) (r_move q rfl) fun a q=>zw q (wtt hb_88) (r_len_R underlying38 h0_0 q rfl) fun a q=>zw q (wtt hb_88) (r_ibin q rfl rfl rfl) fun a q=>zl q (r_pick_t hb_88 q rfl rfl) fun a q=>za q rfl fun a q=>zn ?_
 obtain rfl:=Option.some.inj H
 refine wp_ret ?_
 repeat first | refine zt ?_ | refine zb ?_ | refine zo ?_
 exact ret_1 results98 q (rv_tmp q rfl) ⟨rfl,s.bel⟩
 rw [ifb_f hb_88] at H
 refine zsw q (wtf hb_88) fun a q=>zsw q (wtf hb_88) fun a q=>zsw q (wtf hb_88) fun a q=>zl q (r_pick_f hb_88 q rfl rfl) fun a q=>za q rfl fun a q=>zn ?_
 obtain rfl:=Option.some.inj H
 refine wp_ret ?_
 repeat first | refine zt ?_ | refine zb ?_ | refine zo ?_
 exact ret_1 results98 q (rv_tmp q rfl) ⟨rfl,s.bel⟩
theorem value_Valid.calls (a0 : api_Value) {r : Bool} (H : value_Valid a0 = some r) (w0 : World) : CallsV prog 52 #[.agg ⟨cV a0⟩] w0 (.bool r):=by
 unfold value_Valid at H
 refine enter (args:=[.agg ⟨cV a0⟩]) func52 rfl ntmps52 rfl fun a q=>?_
 have s:=St.init (R:=fun _=>none) (w:=w0) (fun _ _ h=>by cases h)
 have hRL:=RLe.refl (M:=[]) w0 (fun _=>none)
 refine zq<|zr ?_
 refine sl_box s q (by decide) rfl rfl (c:=(cV a0)) rfl fun a w b_1 s q=>?_
 refine za q rfl fun a q=>zn<|zq<|zr<|zl q (r_loadA (cs:=(cV a0)) isAgg58 sizeOf58 rfl q rfl (s.cells_of (m:=11) z0 rfl)) fun a q=>?_
 refine sl_alloc zeroValue58 s q (by decide) rfl rfl fun a w b_2 s q=>?_
 refine sl_storeA (vs:=(cV a0)) (c':=(cV a0)) sizeOf58 s q rfl rfl rfl rfl (zc (zc (zc (zc (zc (zc (zc (zc (zc (zc (zc zz))))))))))) (Nat.le_of_ble_eq_true rfl) rfl fun a w s q=>?_
 refine zn<|zq<|zr<|zl q (r_fieldAddr underlying58 rfl sizeOf3 q rfl) fun a q=>?_
 refine sl_store1 (c':=[I6 0,I6 a0.N,.string a0.S,I6 a0.H.a0,I6 a0.H.a1,I6 a0.H.a2,I6 a0.H.a3,I6 a0.H.a4,I6 a0.H.a5,I6 a0.H.a6,I6 a0.H.a7]) sizeOf3 s q rfl rfl rfl rfl (Nat.le_of_ble_eq_true rfl) rfl fun a w s q=>?_
 refine zn<|zq<|zr<|za q rfl fun a q=>zn<|zq<|zq<|zr<|zl q (r_fieldAddr underlying58 rfl sizeOf3 q rfl) fun a q=>zl q (r_load isAgg3 q rfl (s.cell z1 rfl)) fun a q=>zn ?_
 refine wp_block ?_
 refine zq<|zr<|zl q (r_ibin q rfl rfl rfl) fun a q=>za q rfl fun a q=>zn ?_
 refine wp_mid (fun a w=>∃ (x_59 : Int) (x_60 : ByteArray) (x_61 : Arr8) (x_62 : Bool),value_Valid.j0 x_59 x_60 x_61 x_62 = some r ∧ Kn 40 a [(3,.pointer (some ⟨b_2,0,none⟩)),(4,.bool x_62)] ∧ St [] w0 w (fun _=>none) [.cells b_2 [I6 0,I6 x_59,.string x_60,I6 x_61.a0,I6 x_61.a1,I6 x_61.a2,I6 x_61.a3,I6 x_61.a4,I6 x_61.a5,I6 x_61.a6,I6 x_61.a7] 58]) ?_ ?_
 refine wp_cond_split (q.ev rfl) (fun (hb_64 : (a0.Kind == 1) = true)=>?_) fun hb_64=>?_
 rw [ifb_t hb_64] at H
 refine zr<|zl q (r_fieldAddr underlying58 rfl sizeOf3 q rfl) fun a q=>?_
 refine sl_store1 (c':=[I6 0,I6 0,.string a0.S,I6 a0.H.a0,I6 a0.H.a1,I6 a0.H.a2,I6 a0.H.a3,I6 a0.H.a4,I6 a0.H.a5,I6 a0.H.a6,I6 a0.H.a7]) sizeOf3 s q rfl rfl rfl rfl (Nat.le_of_ble_eq_true rfl) rfl fun a w s q=>?_
 refine zn ?_
 exact ⟨0,a0.S,a0.H,true,H,q.sub (zc (zc zz)),s.trunc 1⟩
 rw [ifb_f hb_64] at H
 refine zq<|zr<|zl q (r_ibin q rfl rfl rfl) fun a q=>za q rfl fun a q=>zn ?_
 refine wp_mid (fun a w=>∃ (x_90 : Int) (x_91 : ByteArray) (x_92 : Arr8) (x_93 : Bool),value_Valid.j1 x_90 x_91 x_92 x_93 = some r ∧ Kn 40 a [(3,.pointer (some ⟨b_2,0,none⟩)),(4,.bool x_93)] ∧ St [] w0 w (fun _=>none) [.cells b_2 [I6 0,I6 x_90,.string x_91,I6 x_92.a0,I6 x_92.a1,I6 x_92.a2,I6 x_92.a3,I6 x_92.a4,I6 x_92.a5,I6 x_92.a6,I6 x_92.a7] 58]) ?_ ?_
 refine wp_cond_split (q.ev rfl) (fun (hb_95 : (a0.Kind == 2) = true)=>?_) fun hb_95=>?_
 rw [ifb_t hb_95] at H
 refine zq<|zr<|zl q (r_fieldAddr underlying58 rfl sizeOf9 q rfl) fun a q=>?_
 refine sl_store1 (c':=[I6 0,I6 a0.N,.string (⟨#[]⟩ : ByteArray),I6 a0.H.a0,I6 a0.H.a1,I6 a0.H.a2,I6 a0.H.a3,I6 a0.H.a4,I6 a0.H.a5,I6 a0.H.a6,I6 a0.H.a7]) sizeOf9 s q rfl rfl rfl rfl (Nat.le_of_ble_eq_true rfl) rfl fun a w s q=>?_
 refine zn<|zr<|zl q (r_fieldAddr underlying58 rfl sizeOf9 q rfl) fun a q=>zl q (r_load isAgg9 q rfl (s.cell z1 rfl)) fun a q=>zl q (r_len_str underlying9 q rfl) fun a q=>zl q (r_ibin q rfl rfl rfl) fun a q=>za q rfl fun a q=>zn ?_
 exact ⟨a0.N,(⟨#[]⟩ : ByteArray),a0.H,(decide ((a0.S.size : Int) ≤ 64)),H,q.sub (zc (zc zz)),s.trunc 1⟩
 rw [ifb_f hb_95] at H
 refine zq<|zr<|zl q (r_ibin q rfl rfl rfl) fun a q=>za q rfl fun a q=>zn ?_
 refine wp_mid (fun a w=>∃ (x_106 : Int) (x_107 : Arr8) (x_108 : Bool),value_Valid.j2 a0 x_106 x_107 x_108 = some r ∧ Kn 40 a [(3,.pointer (some ⟨b_2,0,none⟩)),(4,.bool x_108)] ∧ St [] w0 w (fun _=>none) [.cells b_2 [I6 0,I6 x_106,.string a0.S,I6 x_107.a0,I6 x_107.a1,I6 x_107.a2,I6 x_107.a3,I6 x_107.a4,I6 x_107.a5,I6 x_107.a6,I6 x_107.a7] 58]) ?_ ?_
 refine wp_cond_split (q.ev rfl) (fun (hb_110 : (a0.Kind == 3) = true)=>?_) fun hb_110=>?_
 rw [ifb_t hb_110] at H
 refine zq<|zr<|zl q (r_fieldAddr underlying58 rfl sizeOf3 q rfl) fun a q=>?_
 refine sl_store1 (c':=[I6 0,I6 0,.string a0.S,I6 a0.H.a0,I6 a0.H.a1,I6 a0.H.a2,I6 a0.H.a3,I6 a0.H.a4,I6 a0.H.a5,I6 a0.H.a6,I6 a0.H.a7]) sizeOf3 s q rfl rfl rfl rfl (Nat.le_of_ble_eq_true rfl) rfl fun a w s q=>?_
 refine zn ?_
 refine wp_mid (fun a w=>∃ (x_112 : Bool),value_Valid.j3 a0 x_112 = some r ∧ Kn 40 a [(3,.pointer (some ⟨b_2,0,none⟩)),(4,.bool x_112)] ∧ St [] w0 w (fun _=>none) [.cells b_2 [I6 0,I6 0,.string a0.S,I6 a0.H.a0,I6 a0.H.a1,I6 a0.H.a2,I6 a0.H.a3,I6 a0.H.a4,I6 a0.H.a5,I6 a0.H.a6,I6 a0.H.a7] 58]) ?_ ?_
 refine zr<|zl q (r_fieldAddr underlying58 rfl sizeOf3 q rfl) fun a q=>zl q (r_load isAgg3 q rfl (s.cell z1 rfl)) fun a q=>zl q (r_ibin q rfl rfl rfl) fun a q=>zm q rfl fun a q=>?_
 rcases or_b (a0.N == 0) with hb_114 | hb_114
 rw [ifb_t hb_114] at H
 refine zsw q (wft hb_114) fun a q=>zsw q (wft hb_114) fun a q=>zsw q (wft hb_114) fun a q=>zl q (r_pick_t hb_114 q rfl rfl) fun a q=>za q rfl fun a q=>zn ?_
 exact ⟨true,H,q.sub (zc (zc zz)),s.trunc 1⟩
 rw [ifb_f hb_114] at H
 refine zw q (wff hb_114) (r_fieldAddr underlying58 rfl sizeOf3 q rfl) fun a q=>zw q (wff hb_114) (r_load isAgg3 q rfl (s.cell z1 rfl)) fun a q=>zw q (wff hb_114) (r_ibin q rfl rfl rfl) fun a q=>zl q (r_pick_f hb_114 q rfl rfl) fun a q=>za q rfl fun a q=>zn ?_
 exact ⟨(a0.N == 1),H,q.sub (zc (zc zz)),s.trunc 1⟩
 rintro a w ⟨x_112,H,q,s⟩
 unfold value_Valid.j3 at H
 exact ⟨0,a0.H,x_112,H,q.sub (zc (zc zz)),s⟩
 rw [ifb_f hb_110] at H
 refine zq<|zr<|zl q (r_ibin q rfl rfl rfl) fun a q=>za q rfl fun a q=>zn ?_
 refine wp_mid (fun a w=>∃ (x_116 : Arr8) (x_117 : Bool),value_Valid.j4 a0 x_116 x_117 = some r ∧ Kn 40 a [(3,.pointer (some ⟨b_2,0,none⟩)),(4,.bool x_117)] ∧ St [] w0 w (fun _=>none) [.cells b_2 [I6 0,I6 a0.N,.string a0.S,I6 x_116.a0,I6 x_116.a1,I6 x_116.a2,I6 x_116.a3,I6 x_116.a4,I6 x_116.a5,I6 x_116.a6,I6 x_116.a7] 58]) ?_ ?_
 refine wp_cond_split (q.ev rfl) (fun (hb_119 : (a0.Kind == 4) = true)=>?_) fun hb_119=>?_
 rw [ifb_t hb_119] at H
 refine zr<|zl q (r_buildAC (ps:=[]) (c:=[I6 0,I6 0,I6 0,I6 0,I6 0,I6 0,I6 0,I6 0]) underlying56 zeroValue56 sizeOf3 q rfl pc_nil rfl rfl) fun a q=>zl q (r_fieldAddr underlying58 rfl sizeOf56 q rfl) fun a q=>?_
 refine sl_storeA (vs:=[I6 0,I6 0,I6 0,I6 0,I6 0,I6 0,I6 0,I6 0]) (c':=[I6 0,I6 a0.N,.string a0.S,I6 0,I6 0,I6 0,I6 0,I6 0,I6 0,I6 0,I6 0]) sizeOf56 s q rfl rfl rfl rfl (zc (zc (zc (zc (zc (zc (zc (zc zz)))))))) (Nat.le_of_ble_eq_true rfl) rfl fun a w s q=>?_
 refine zn ?_
 exact ⟨(⟨0,0,0,0,0,0,0,0⟩ : Arr8),true,H,q.sub (zc (zc zz)),s.trunc 1⟩
 rw [ifb_f hb_119] at H
 refine zr<|za q rfl fun a q=>zn ?_
 exact ⟨a0.H,false,H,q.sub (zc (zc zz)),s.trunc 1⟩
 rintro a w ⟨x_116,x_117,H,q,s⟩
 unfold value_Valid.j4 at H
 exact ⟨a0.N,x_116,x_117,H,q.sub (zc (zc zz)),s⟩
 rintro a w ⟨x_106,x_107,x_108,H,q,s⟩
 unfold value_Valid.j2 at H
 exact ⟨x_106,a0.S,x_107,x_108,H,q.sub (zc (zc zz)),s⟩
 rintro a w ⟨x_90,x_91,x_92,x_93,H,q,s⟩
 unfold value_Valid.j1 at H
 exact ⟨x_90,x_91,x_92,x_93,H,q.sub (zc (zc zz)),s⟩
 rintro a w ⟨x_59,x_60,x_61,x_62,H,q,s⟩
 unfold value_Valid.j0 at H
 refine zq<|zr<|zm q rfl fun a q=>zm q rfl fun a q=>?_
 rcases or_b x_62 with hb_120 | hb_120
 rw [ifb_t hb_120] at H
 refine zw q (wtt hb_120) (r_loadA (cs:=[I6 0,I6 x_59,.string x_60,I6 x_61.a0,I6 x_61.a1,I6 x_61.a2,I6 x_61.a3,I6 x_61.a4,I6 x_61.a5,I6 x_61.a6,I6 x_61.a7]) isAgg58 sizeOf58 rfl q rfl (s.cells_of (m:=11) z0 rfl)) fun a q=>zw q (wtt hb_120) (r_buildC (ps:=[]) (c:=[I6 0,I6 0,.string (⟨#[]⟩ : ByteArray),I6 0,I6 0,I6 0,I6 0,I6 0,I6 0,I6 0,I6 0]) underlying58 zeroValue58 places58 q rfl pc_nil rfl rfl) fun a q=>zw q (wtt hb_120) (r_seq (by kernel_rfl) (eqs58 (⟨0,x_59,x_60,x_61⟩ : api_Value) (⟨0,0,(⟨#[]⟩ : ByteArray),(⟨0,0,0,0,0,0,0,0⟩ : Arr8)⟩ : api_Value)) q rfl rfl) fun a q=>?_
 refine zl q (r_pick_t hb_120 q rfl rfl) fun a q=>za q rfl fun a q=>zn ?_
 obtain rfl:=Option.some.inj H
 refine wp_ret ?_
 repeat first | refine zt ?_ | refine zb ?_ | refine zo ?_
 exact ret_1 results52 q (rv_tmp q rfl) ⟨rfl,s.bel⟩
 rw [ifb_f hb_120] at H
 refine zsw q (wtf hb_120) fun a q=>zsw q (wtf hb_120) fun a q=>zsw q (wtf hb_120) fun a q=>zl q (r_pick_f hb_120 q rfl rfl) fun a q=>za q rfl fun a q=>zn ?_
 obtain rfl:=Option.some.inj H
 refine wp_ret ?_
 repeat first | refine zt ?_ | refine zb ?_ | refine zo ?_
 exact ret_1 results52 q (rv_tmp q rfl) ⟨rfl,s.bel⟩
theorem table_Check.calls (a0 : api_Table) {w0 : World} {RA : Hp} {v0_0 : Value} {v0_1 : Value} (hRA : RA.sub w0) (h0_0 : SlR ty_api_Col RA v0_0 a0.Cols) (h0_1 : SlR (tySl ty_api_Value) RA v0_1 a0.Rows) {r : Int} (H : table_Check a0 = some r) : CallsV prog 74 #[.agg #[v0_0,v0_1]] w0 (I6 r):=by
 unfold table_Check at H
 refine enter (args:=[.agg #[v0_0,v0_1]]) func74 rfl ntmps74 rfl fun a q=>?_
 have s:=St.init (R:=fun _=>none) (w:=w0) (fun _ _ h=>by cases h)
 have hRL:=RLe.refl (M:=[]) w0 (fun _=>none)
 refine zq<|zr ?_
 refine sl_box s q (by decide) rfl rfl (c:=[v0_0,v0_1]) rfl fun a w b_1 s q=>?_
 refine za q rfl fun a q=>zn<|zq<|zq<|zr<|zl q (r_fieldAddr underlying41 rfl sizeOf38 q rfl) fun a q=>zl q (r_load isAgg38 q rfl (s.cell z0 rfl)) fun a q=>?_
 obtain ⟨y_2,h_3,H⟩:=bs H
 refine sl_callV call98 s q (by decide) rfl rfl rfl (table_columns.calls a0.Cols (lentOf_sub [] _) (h0_0.mono (s.raLe0 hRA nil_not)) h_3) fun a w s q=>?_
 refine zl q (r_un q rfl (u_not _)) fun a q=>zn ?_
 refine wp_cond_split (q.ev rfl) (fun (hb_4 : (!y_2) = true)=>?_) fun hb_4=>?_
 rw [ifb_t hb_4] at H
 refine zq<|zr<|za q rfl fun a q=>zn ?_
 obtain rfl:=Option.some.inj H
 refine wp_ret ?_
 repeat first | refine zt ?_ | refine zb ?_ | refine zo ?_
 exact ret_1 results74 q (rv_tmp q rfl) ⟨rfl,s.bel⟩
 rw [ifb_f hb_4] at H
 refine wp_skip<|zq<|zq<|zr<|zl q (r_fieldAddr underlying41 rfl sizeOf39 q rfl) fun a q=>zl q (r_load isAgg39 q rfl (s.cell z0 rfl)) fun a q=>zl q (r_len_R underlying39 h0_1 q rfl) fun a q=>zm q rfl fun a q=>zn ?_
 refine wp_block ?_
 refine wp_loop_k (fun k_l0 a w=>∃ (x_208 : Int),table_Check.l0 a0 k_l0 x_208 = some r ∧ Kn 47 a [(1,.pointer (some ⟨b_1,0,none⟩)),(12,v0_1),(13,I6 (a0.Rows.length : Int)),(14,I6 x_208)] ∧ St [] w0 w (fun _=>none) [.cells b_1 [v0_0,v0_1] 41]) (((a0.Rows.length : Int) - 0).toNat + 1) ?_ ?_
 exact ⟨0,H,q.sub (zc (zc (zc (zc zz)))),s⟩
 rintro k_l0 a w ⟨x_208,H,q,s⟩
 rcases k_l0 with _ | k_l0
 cases H
 rw [table_Check.l0.eq_2] at H
 refine zq<|zr<|zl q (r_ibin q rfl rfl rfl) fun a q=>zn<|zq ?_
 refine wp_cond_split (q.ev rfl) (fun (hb_412 : (decide (x_208 < (a0.Rows.length : Int))) = true)=>?_) fun hb_412=>?_
 rw [ifb_t hb_412] at H
 refine wp_skip<|zq ?_
 refine wp_block ?_
 refine zq<|zr ?_
 obtain ⟨y_413,h_414,H⟩:=bs H
 obtain ⟨b_415,o_416,c_417,cs_418,hv_419,hr_420,hc_421,h_4140,h_4141⟩:=h0_1.ix h_414
 obtain ⟨v_422,rfl,hs_423⟩:=hr_420
 refine zl q (r_indexAddr_R underlying39 sizeOf31 hv_419 h_4140 h_4141 q rfl rfl) fun a q=>zl q (r_load isAgg31 q rfl ((s.ra hRA nil_not).cell (hc_421 0 _ rfl))) fun a q=>za q rfl fun a q=>zn<|zq<|zq<|zr<|zm q rfl fun a q=>zl q (r_len_R underlying31 hs_423 q rfl) fun a q=>zl q (r_fieldAddr underlying41 rfl sizeOf38 q rfl) fun a q=>zl q (r_load isAgg38 q rfl (s.cell z0 rfl)) fun a q=>zl q (r_len_R underlying38 h0_0 q rfl) fun a q=>zl q (r_ibin q rfl rfl rfl) fun a q=>zn ?_
 refine wp_cond_split (q.ev rfl) (fun (hb_424 : ((y_413.length : Int) != (a0.Cols.length : Int)) = true)=>?_) fun hb_424=>?_
 rw [ifb_t hb_424] at H
 refine zq<|zr<|za q rfl fun a q=>zn ?_
 obtain rfl:=Option.some.inj H
 refine wp_ret ?_
 repeat first | refine zt ?_ | refine zb ?_ | refine zo ?_
 exact ret_1 results74 q (rv_tmp q rfl) ⟨rfl,s.bel⟩
 rw [ifb_f hb_424] at H
 refine wp_skip<|zq<|zr<|zm q rfl fun a q=>zl q (r_len_R underlying31 hs_423 q rfl) fun a q=>zm q rfl fun a q=>zn ?_
 refine wp_block ?_
 refine wp_loop_k (fun k_l1 a w=>∃ (x_488 : Int),table_Check.l1 (table_Check.l0 a0 k_l0) a0 x_208 y_413 k_l1 x_488 = some r ∧ Kn 47 a [(1,.pointer (some ⟨b_1,0,none⟩)),(12,v0_1),(13,I6 (a0.Rows.length : Int)),(14,I6 x_208),(24,v_422),(25,I6 (y_413.length : Int)),(26,I6 x_488)] ∧ St [] w0 w (fun _=>none) [.cells b_1 [v0_0,v0_1] 41]) (((y_413.length : Int) - 0).toNat + 1) ?_ ?_
 exact ⟨0,H,q.sub (zc (zc (zc (zc (zc (zc (zc zz))))))),s⟩
 rintro k_l1 a w ⟨x_488,H,q,s⟩
 rcases k_l1 with _ | k_l1
 cases H
 rw [table_Check.l1.eq_2] at H
 refine zq<|zr<|zl q (r_ibin q rfl rfl rfl) fun a q=>zn<|zq ?_
 refine wp_cond_split (q.ev rfl) (fun (hb_552 : (decide (x_488 < (y_413.length : Int))) = true)=>?_) fun hb_552=>?_
 rw [ifb_t hb_552] at H
 refine wp_skip<|zq ?_
 refine wp_block ?_
 refine zq<|zr<|zm q rfl fun a q=>?_
 obtain ⟨y_553,h_554,H⟩:=bs H
 obtain ⟨b_555,o_556,c_557,cs_558,hv_559,hr_560,hc_561,h_5540,h_5541⟩:=hs_423.ix h_554
 subst hr_560
 refine zl q (r_indexAddr_R underlying31 sizeOf58 hv_559 h_5540 h_5541 q rfl rfl) fun a q=>zl q (r_loadA (cs:=(cV y_553)) isAgg58 sizeOf58 rfl q rfl (fun j v hv=>(s.ra hRA nil_not).cell (hc_561 j v hv))) fun a q=>?_
 refine sl_alloc zeroValue58 s q (by decide) rfl rfl fun a w b_562 s q=>?_
 refine za q rfl fun a q=>?_
 refine sl_storeA (vs:=(cV y_553)) (c':=(cV y_553)) sizeOf58 s q rfl rfl rfl rfl (zc (zc (zc (zc (zc (zc (zc (zc (zc (zc (zc zz))))))))))) (Nat.le_of_ble_eq_true rfl) rfl fun a w s q=>?_
 refine zn<|zq ?_
 refine wp_mid (fun a w=>∃ (x_587 : Bool),table_Check.j2 (table_Check.l1 (table_Check.l0 a0 k_l0) a0 x_208 y_413 k_l1) y_413 x_488 x_587 = some r ∧ Kn 47 a [(1,.pointer (some ⟨b_1,0,none⟩)),(12,v0_1),(13,I6 (a0.Rows.length : Int)),(14,I6 x_208),(24,v_422),(25,I6 (y_413.length : Int)),(26,I6 x_488),(44,.bool x_587)] ∧ St [] w0 w (fun _=>none) [.cells b_1 [v0_0,v0_1] 41]) ?_ ?_
 refine parT_region (C:=fun w=>St [] w0 w (fun _=>none) [.cells b_562 (cV y_553) 58,.cells b_1 [v0_0,v0_1] 41]) 8 [(0,true),(1,true),(2,true),(3,true),(4,true),(5,true),(6,true),(7,true)] mixed (by kernel_rfl) s (fun w s=>s) fun w s=>?_
 refine zp rfl q (fun w s=>r_fieldAddr underlying58 rfl sizeOf3 q rfl) fun a q=>zp rfl q (fun w s=>r_load isAgg3 q rfl (s.cell z0 rfl)) fun a q=>zp rfl q (fun w s=>r_fieldAddr underlying41 rfl sizeOf38 q rfl) fun a q=>zp rfl q (fun w s=>r_load isAgg38 q rfl (s.cell z1 rfl)) fun a q=>zp rfl q (fun w s=>r_move q rfl) fun a q=>?_
 obtain ⟨y_601,h_602,H⟩:=bs H
 obtain ⟨b_603,o_604,c_605,cs_606,hv_607,hr_608,hc_609,h_6020,h_6021⟩:=h0_0.ix h_602
 subst hr_608
 refine zp rfl q (fun w s=>r_indexAddr_R underlying38 sizeOf65 hv_607 h_6020 h_6021 q rfl rfl) fun a q=>zp rfl q (fun w s=>r_fieldAddr underlying65 rfl sizeOf3 q rfl) fun a q=>zp rfl q (fun w s=>r_load isAgg3 q rfl ((s.ra hRA nil_not).cell (hc_609 1 _ rfl))) fun a q=>?_
 refine thenL_nil ?_
 refine zl q (r_ibin q rfl rfl rfl) fun a q=>zm q rfl fun a q=>?_
 rcases or_b (y_553.Kind != y_601.Kind) with hb_610 | hb_610
 rw [ifb_t hb_610] at H
 refine zsw q (wft hb_610) fun a q=>zsw q (wft hb_610) fun a q=>zsw q (wft hb_610) fun a q=>zl q (r_pick_t hb_610 q rfl rfl) fun a q=>?_
 refine wpList_nil (NoP_nil ?_)
 have s:=s.pk1
 exact ⟨true,H,q.sub (zc (zc (zc (zc (zc (zc (zc (zc zz)))))))),s.trunc 1⟩
 rw [ifb_f hb_610] at H
 refine zw q (wff hb_610) (r_loadA (cs:=(cV y_553)) isAgg58 sizeOf58 rfl q rfl (s.cells_of (m:=11) z0 rfl)) fun a q=>?_
 obtain ⟨y_611,h_612,H⟩:=bs H
 refine sl_callV call52 s q (by decide) (wff hb_610) rfl rfl (value_Valid.calls y_553 h_612 _) fun a w s q=>?_
 refine zw q (wff hb_610) (r_un q rfl (u_not _)) fun a q=>zl q (r_pick_f hb_610 q rfl rfl) fun a q=>?_
 refine wpList_nil (NoP_nil ?_)
 have s:=s.pk1
 exact ⟨(!y_611),H,q.sub (zc (zc (zc (zc (zc (zc (zc (zc zz)))))))),s.trunc 1⟩
 rintro a w ⟨x_587,H,q,s⟩
 unfold table_Check.j2 at H
 refine wp_cond_split (q.ev rfl) (fun (hb_613 : x_587 = true)=>?_) fun hb_613=>?_
 rw [ifb_t hb_613] at H
 refine zq<|zr<|za q rfl fun a q=>zn ?_
 obtain rfl:=Option.some.inj H
 refine wp_ret ?_
 repeat first | refine zt ?_ | refine zb ?_ | refine zo ?_
 exact ret_1 results74 q (rv_tmp q rfl) ⟨rfl,s.bel⟩
 rw [ifb_f hb_613] at H
 refine wp_skip<|zr<|zl q (r_ibin q rfl rfl rfl) fun a q=>zm q rfl fun a q=>zn ?_
 exact ⟨_,Nat.lt_succ_self _,(IntKind.i64.wrap (x_488 + 1)),H,q.sub (zc (zc (zc (zc (zc (zc (zc zz))))))),s⟩
 rw [ifb_f hb_552] at H
 refine wp_exit ?_
 refine zr<|zl q (r_ibin q rfl rfl rfl) fun a q=>zm q rfl fun a q=>zn ?_
 exact ⟨_,Nat.lt_succ_self _,(IntKind.i64.wrap (x_208 + 1)),H,q.sub (zc (zc (zc (zc zz)))),s⟩
 rw [ifb_f hb_412] at H
 refine wp_exit ?_
 refine zq<|zr<|za q rfl fun a q=>zn ?_
 obtain rfl:=Option.some.inj H
 refine wp_ret ?_
 repeat first | refine zt ?_ | refine zb ?_ | refine zo ?_
 exact ret_1 results74 q (rv_tmp q rfl) ⟨rfl,s.bel⟩
theorem schema_one.calls (a0 : api_Schema) {w0 : World} {R : Hp} {RA : Hp} {v0_0 : Value} {v0_1 : Value} (hRA : RA.sub w0) (hR : R.sub w0) (h0_0 : SlR ty_api_Col R v0_0 a0.Keys) (h0_1 : SlR ty_api_Col R v0_1 a0.Vals) (hG : GF RA) {r : Bool} (H : schema_one a0 = some r) : CallsV prog 46 #[.agg #[.string a0.Name,v0_0,v0_1]] w0 (.bool r):=by
 unfold schema_one at H
 refine enter (args:=[.agg #[.string a0.Name,v0_0,v0_1]]) func46 rfl ntmps46 rfl fun a q=>?_
 have s:=St.init hR
 have hRL:=RLe.refl (M:=[]) w0 R
 refine zq<|zr ?_
 refine sl_box s q (by decide) rfl rfl (c:=[.string a0.Name,v0_0,v0_1]) rfl fun a w b_1 s q=>?_
 refine za q rfl fun a q=>zn<|zq<|zr<|zl q (r_fieldAddr underlying49 rfl sizeOf38 q rfl) fun a q=>zl q (r_load isAgg38 q rfl (s.cell z0 rfl)) fun a q=>zl q (r_fieldAddr underlying49 rfl sizeOf38 q rfl) fun a q=>zl q (r_load isAgg38 q rfl (s.cell z0 rfl)) fun a q=>zl q (r_fieldAddr underlying49 rfl sizeOf9 q rfl) fun a q=>zl q (r_load isAgg9 q rfl (s.cell z0 rfl)) fun a q=>zl q (r_buildC (ps:=[(0,.string a0.Name)]) (c:=[.string a0.Name,I6 0]) underlying65 zeroValue65 places65 q rfl (pc_cons rfl pc_nil) rfl rfl) fun a q=>?_
 refine sl_buildSliceF (zc:=[.string (⟨#[]⟩ : ByteArray),I6 0]) (ps:=[(0,.agg #[.string a0.Name,I6 0])]) (c:=[.string a0.Name,I6 0]) [[.string a0.Name,I6 0]] underlying38 sizeOf65 zeroValue65 rfl (pc_cons rfl pc_nil) rfl rfl (Nat.le_of_ble_eq_true rfl) rfl (zc zz) rfl s q (by decide) rfl fun a w b_2 s q=>?_
 refine sl_buildSliceF (zc:=[.slice none 0 0]) (ps:=[(0,v0_0),(1,v0_1),(2,.slice (some ⟨b_2,0,none⟩) 1 1)]) (c:=[v0_0,v0_1,.slice (some ⟨b_2,0,none⟩) 1 1]) [[v0_0],[v0_1],[.slice (some ⟨b_2,0,none⟩) 1 1]] underlying139 sizeOf38 zeroValue38 rfl (pc_cons (cells1 h0_0.one) (pc_cons (cells1 h0_1.one) (pc_cons rfl pc_nil))) rfl rfl (Nat.le_of_ble_eq_true rfl) rfl (zc (zc (zc zz))) rfl s q (by decide) rfl fun a w b_3 s q=>?_
 have s:=s.pk1
 obtain ⟨R_4,s,hl_6,hs_5⟩:=s.fz_lit (ty:=ty_api_Col) (xs:=[(⟨a0.Name,0⟩ : api_Col)]) (Reps.cons (show Ty.rep ty_api_Col _ [.string a0.Name,I6 0] (⟨a0.Name,0⟩ : api_Col) from rfl) (Reps.nil _ _)) rfl
 have hRL:=hRL.trans hl_6
 obtain ⟨y_7,h_8,H⟩:=bs H
 refine sl_callV call70 s q (by decide) rfl rfl rfl (schema_all_f_schema_one_1.calls [a0.Keys,a0.Vals,[(⟨a0.Name,0⟩ : api_Col)]] (lentOf_sub [] _) (s.lend_lit0 (ty:=(tySl ty_api_Col)) (xs:=[a0.Keys,a0.Vals,[(⟨a0.Name,0⟩ : api_Col)]]) z0 (Reps.cons (show Ty.rep (tySl ty_api_Col) _ [v0_0] a0.Keys from ⟨_,rfl,(h0_0.mono hl_6.le)⟩) (Reps.cons (show Ty.rep (tySl ty_api_Col) _ [v0_1] a0.Vals from ⟨_,rfl,(h0_1.mono hl_6.le)⟩) (Reps.cons (show Ty.rep (tySl ty_api_Col) _ [(.slice (some ⟨b_2,0,none⟩) 1 1)] [(⟨a0.Name,0⟩ : api_Col)] from ⟨_,rfl,hs_5⟩) (Reps.nil _ _)))) rfl) (GF.mono (s.raLe0 hRA nil_not) hG) h_8) fun a w s q=>?_
 refine za q rfl fun a q=>zn<|zq<|zr<|zl q (r_fieldAddr underlying49 rfl sizeOf38 q rfl) fun a q=>zl q (r_load isAgg38 q rfl (s.cell z1 rfl)) fun a q=>?_
 refine sl_buildSliceF (zc:=[.slice none 0 0]) (ps:=[(0,v0_0)]) (c:=[v0_0]) [[v0_0]] underlying139 sizeOf38 zeroValue38 rfl (pc_cons (cells1 h0_0.one) pc_nil) rfl rfl (Nat.le_of_ble_eq_true rfl) rfl (zc zz) rfl s q (by decide) rfl fun a w b_9 s q=>?_
 obtain ⟨y_10,h_11,H⟩:=bs H
 refine sl_callV call70 s q (by decide) rfl rfl rfl (schema_all_f_schema_one_2.calls [a0.Keys] (lentOf_sub [] _) (s.lend_lit0 (ty:=(tySl ty_api_Col)) (xs:=[a0.Keys]) z0 (Reps.cons (show Ty.rep (tySl ty_api_Col) _ [v0_0] a0.Keys from ⟨_,rfl,(h0_0.mono hl_6.le)⟩) (Reps.nil _ _)) rfl) h_11) fun a w s q=>?_
 refine za q rfl fun a q=>zn<|zq ?_
 refine wp_mid (fun a w=>∃ (x_15 : Bool),schema_one.j0 a0 y_7 y_10 x_15 = some r ∧ Kn 60 a [(1,.pointer (some ⟨b_1,0,none⟩)),(3,.bool y_7),(4,.bool y_10),(5,.bool x_15)] ∧ St [] w0 w R_4 [.cells b_1 [.string a0.Name,v0_0,v0_1] 49]) ?_ ?_
 refine zr<|zl q (r_fieldAddr underlying49 rfl sizeOf38 q rfl) fun a q=>zl q (r_load isAgg38 q rfl (s.cell z2 rfl)) fun a q=>zl q (r_len_R underlying38 h0_0 q rfl) fun a q=>zl q (r_ibin q rfl rfl rfl) fun a q=>zm q rfl fun a q=>?_
 rcases or_b (decide ((a0.Keys.length : Int) ≥ 1)) with hb_17 | hb_17
 rw [ifb_t hb_17] at H
 refine zw q (wtt hb_17) (r_fieldAddr underlying49 rfl sizeOf38 q rfl) fun a q=>zw q (wtt hb_17) (r_load isAgg38 q rfl (s.cell z2 rfl)) fun a q=>zw q (wtt hb_17) (r_len_R underlying38 h0_0 q rfl) fun a q=>zw q (wtt hb_17) (r_ibin q rfl rfl rfl) fun a q=>zl q (r_pick_t hb_17 q rfl rfl) fun a q=>zm q rfl fun a q=>?_
 rcases or_b (decide ((a0.Keys.length : Int) ≤ 4)) with hb_18 | hb_18
 rw [ifb_t hb_18] at H
 refine zw q (wtt hb_18) (r_fieldAddr underlying49 rfl sizeOf38 q rfl) fun a q=>zw q (wtt hb_18) (r_load isAgg38 q rfl (s.cell z2 rfl)) fun a q=>zw q (wtt hb_18) (r_len_R underlying38 h0_1 q rfl) fun a q=>zw q (wtt hb_18) (r_ibin q rfl rfl rfl) fun a q=>zl q (r_pick_t hb_18 q rfl rfl) fun a q=>zm q rfl fun a q=>?_
 rcases or_b (decide ((a0.Vals.length : Int) ≥ 1)) with hb_19 | hb_19
 rw [ifb_t hb_19] at H
 refine zw q (wtt hb_19) (r_fieldAddr underlying49 rfl sizeOf38 q rfl) fun a q=>zw q (wtt hb_19) (r_load isAgg38 q rfl (s.cell z2 rfl)) fun a q=>zw q (wtt hb_19) (r_len_R underlying38 h0_1 q rfl) fun a q=>zw q (wtt hb_19) (r_ibin q rfl rfl rfl) fun a q=>zl q (r_pick_t hb_19 q rfl rfl) fun a q=>za q rfl fun a q=>zn ?_
 have s:=s.pk2
 exact ⟨(decide ((a0.Vals.length : Int) ≤ 4)),H,q.sub (zc (zc (zc (zc zz)))),s.trunc 1⟩
 rw [ifb_f hb_19] at H
 refine zsw q (wtf hb_19) fun a q=>zsw q (wtf hb_19) fun a q=>zsw q (wtf hb_19) fun a q=>zsw q (wtf hb_19) fun a q=>zl q (r_pick_f hb_19 q rfl rfl) fun a q=>za q rfl fun a q=>zn ?_
 have s:=s.pk2
 exact ⟨false,H,q.sub (zc (zc (zc (zc zz)))),s.trunc 1⟩
 rw [ifb_f hb_18] at H
 refine zsw q (wtf hb_18) fun a q=>zsw q (wtf hb_18) fun a q=>zsw q (wtf hb_18) fun a q=>zsw q (wtf hb_18) fun a q=>zl q (r_pick_f hb_18 q rfl rfl) fun a q=>zm q rfl fun a q=>zs q fun a q=>zs q fun a q=>zs q fun a q=>zs q fun a q=>zl q (r_pick q rfl rfl rfl) fun a q=>za q rfl fun a q=>zn ?_
 have s:=s.pk2
 exact ⟨false,H,q.sub (zc (zc (zc (zc zz)))),s.trunc 1⟩
 rw [ifb_f hb_17] at H
 refine zsw q (wtf hb_17) fun a q=>zsw q (wtf hb_17) fun a q=>zsw q (wtf hb_17) fun a q=>zsw q (wtf hb_17) fun a q=>zl q (r_pick_f hb_17 q rfl rfl) fun a q=>zm q rfl fun a q=>zs q fun a q=>zs q fun a q=>zs q fun a q=>zs q fun a q=>zl q (r_pick q rfl rfl rfl) fun a q=>zm q rfl fun a q=>zs q fun a q=>zs q fun a q=>zs q fun a q=>zs q fun a q=>zl q (r_pick q rfl rfl rfl) fun a q=>za q rfl fun a q=>zn ?_
 have s:=s.pk2
 exact ⟨false,H,q.sub (zc (zc (zc (zc zz)))),s.trunc 1⟩
 rintro a w ⟨x_15,H,q,s⟩
 unfold schema_one.j0 at H
 refine zq<|zr<|zm q rfl fun a q=>zm q rfl fun a q=>?_
 rcases or_b x_15 with hb_20 | hb_20
 rw [ifb_t hb_20] at H
 refine zw q (wtt hb_20) (r_move q rfl) fun a q=>zl q (r_pick_t hb_20 q rfl rfl) fun a q=>zm q rfl fun a q=>?_
 rcases or_b y_7 with hb_21 | hb_21
 rw [ifb_t hb_21] at H
 refine zw q (wtt hb_21) (r_move q rfl) fun a q=>zl q (r_pick_t hb_21 q rfl rfl) fun a q=>zm q rfl fun a q=>?_
 rcases or_b y_10 with hb_22 | hb_22
 rw [ifb_t hb_22] at H
 refine zw q (wtt hb_22) (r_fieldAddr underlying49 rfl sizeOf38 q rfl) fun a q=>zw q (wtt hb_22) (r_load isAgg38 q rfl (s.cell z0 rfl)) fun a q=>zw q (wtt hb_22) (r_fieldAddr underlying49 rfl sizeOf38 q rfl) fun a q=>zw q (wtt hb_22) (r_load isAgg38 q rfl (s.cell z0 rfl)) fun a q=>?_
 refine sl_buildSliceF (zc:=[.slice none 0 0]) (ps:=[(0,v0_0),(1,v0_1)]) (c:=[v0_0,v0_1]) [[v0_0],[v0_1]] underlying139 sizeOf38 zeroValue38 rfl (pc_cons (cells1 h0_0.one) (pc_cons (cells1 h0_1.one) pc_nil)) rfl rfl (Nat.le_of_ble_eq_true rfl) rfl (zc (zc zz)) rfl s q (by decide) (wtt hb_22) fun a w b_23 s q=>?_
 obtain ⟨y_24,h_25,H⟩:=bs H
 refine sl_call call57 q (by decide) (wtt hb_22) rfl rfl (slices_Concat_api_Col_api_Col.calls [a0.Keys,a0.Vals] (lentOf_sub [] _) s.sub (s.lend_lit0 (ty:=(tySl ty_api_Col)) (xs:=[a0.Keys,a0.Vals]) z0 (Reps.cons (show Ty.rep (tySl ty_api_Col) _ [v0_0] a0.Keys from ⟨_,rfl,(h0_0.mono hl_6.le)⟩) (Reps.cons (show Ty.rep (tySl ty_api_Col) _ [v0_1] a0.Vals from ⟨_,rfl,(h0_1.mono hl_6.le)⟩) (Reps.nil _ _))) rfl) h_25) fun a v_ w hv_ q=>?_
 obtain ⟨R_26,v_29,cs_30,hv_,hr_,hl_27,hq_31⟩:=hv_
 have hv_:=hv_.symm
 subst hv_
 obtain ⟨s,hl_27⟩:=s.sp0.back hr_ hl_27
 have s:=s.un1
 have hRL:=hRL.trans hl_27
 have ho_32:=s.row_one z0
 refine zw q (wtt hb_22) (r_buildC (ps:=[(0,v_29)]) (c:=[v_29,.slice none 0 0]) underlying41 zeroValue41 places41 q rfl (pc_cons (cells1 ho_32) pc_nil) rfl rfl) fun a q=>?_
 obtain ⟨y_33,h_34,H⟩:=bs H
 refine sl_callV call74 s q (by decide) (wtt hb_22) rfl rfl (table_Check.calls (⟨y_24,[]⟩ : api_Table) (lentOf_sub [] _) (s.lend_row0 z0 hq_31 rfl rfl) (SlR.nil (tySl ty_api_Value) _) h_34) fun a w s q=>?_
 refine zw q (wtt hb_22) (r_ibin q rfl rfl rfl) fun a q=>zl q (r_pick_t hb_22 q rfl rfl) fun a q=>za q rfl fun a q=>zn ?_
 obtain rfl:=Option.some.inj H
 refine wp_ret ?_
 repeat first | refine zt ?_ | refine zb ?_ | refine zo ?_
 exact ret_1 results46 q (rv_tmp q rfl) ⟨rfl,s.bel⟩
 rw [ifb_f hb_22] at H
 refine zsw q (wtf hb_22) fun a q=>zsw q (wtf hb_22) fun a q=>zsw q (wtf hb_22) fun a q=>zsw q (wtf hb_22) fun a q=>zsw q (wtf hb_22) fun a q=>zsw q (wtf hb_22) fun a q=>zsw q (wtf hb_22) fun a q=>zsw q (wtf hb_22) fun a q=>zsw q (wtf hb_22) fun a q=>zl q (r_pick_f hb_22 q rfl rfl) fun a q=>za q rfl fun a q=>zn ?_
 obtain rfl:=Option.some.inj H
 refine wp_ret ?_
 repeat first | refine zt ?_ | refine zb ?_ | refine zo ?_
 exact ret_1 results46 q (rv_tmp q rfl) ⟨rfl,s.bel⟩
 rw [ifb_f hb_21] at H
 refine zsw q (wtf hb_21) fun a q=>zl q (r_pick_f hb_21 q rfl rfl) fun a q=>zm q rfl fun a q=>zs q fun a q=>zs q fun a q=>zs q fun a q=>zs q fun a q=>zs q fun a q=>zs q fun a q=>zs q fun a q=>zs q fun a q=>zs q fun a q=>zl q (r_pick q rfl rfl rfl) fun a q=>za q rfl fun a q=>zn ?_
 obtain rfl:=Option.some.inj H
 refine wp_ret ?_
 repeat first | refine zt ?_ | refine zb ?_ | refine zo ?_
 exact ret_1 results46 q (rv_tmp q rfl) ⟨rfl,s.bel⟩
 rw [ifb_f hb_20] at H
 refine zsw q (wtf hb_20) fun a q=>zl q (r_pick_f hb_20 q rfl rfl) fun a q=>zm q rfl fun a q=>zs q fun a q=>zl q (r_pick q rfl rfl rfl) fun a q=>zm q rfl fun a q=>zs q fun a q=>zs q fun a q=>zs q fun a q=>zs q fun a q=>zs q fun a q=>zs q fun a q=>zs q fun a q=>zs q fun a q=>zs q fun a q=>zl q (r_pick q rfl rfl rfl) fun a q=>za q rfl fun a q=>zn ?_
 obtain rfl:=Option.some.inj H
 refine wp_ret ?_
 repeat first | refine zt ?_ | refine zb ?_ | refine zo ?_
 exact ret_1 results46 q (rv_tmp q rfl) ⟨rfl,s.bel⟩
theorem schema_Check_1_cp.calls (a0 : api_Schema) (a1 : api_Schema) {w0 : World} {RA : Hp} {v0_0 : Value} {v0_1 : Value} {b1 : Nat} {o1 : Nat} {v1_0 : Value} {v1_1 : Value} (hRA : RA.sub w0) (h0_0 : SlR ty_api_Col RA v0_0 a0.Keys) (h0_1 : SlR ty_api_Col RA v0_1 a0.Vals) (hc1 : ∀ j u,([.string a1.Name,v1_0,v1_1] : List Value)[j]? = some u → RA.cell b1 (o1 + j) = some u) (h1_0 : SlR ty_api_Col RA v1_0 a1.Keys) (h1_1 : SlR ty_api_Col RA v1_1 a1.Vals) {r : Bool} (H : schema_Check_1_cp a0 a1 = some r) : CallsV prog 48 #[.agg #[.string a0.Name,v0_0,v0_1],.pointer (some ⟨b1,o1,none⟩)] w0 (.bool r):=by
 unfold schema_Check_1_cp at H
 refine enter (args:=[.agg #[.string a0.Name,v0_0,v0_1],.pointer (some ⟨b1,o1,none⟩)]) func48 rfl ntmps48 rfl fun a q=>?_
 have s:=St.init (R:=fun _=>none) (w:=w0) (fun _ _ h=>by cases h)
 have hRL:=RLe.refl (M:=[]) w0 (fun _=>none)
 refine zq<|zr ?_
 refine sl_box s q (by decide) rfl rfl (c:=[.string a0.Name,v0_0,v0_1]) rfl fun a w b_1 s q=>?_
 refine za q rfl fun a q=>zn<|zq<|zr<|zl q (r_fieldAddr underlying49 rfl sizeOf9 q rfl) fun a q=>zl q (r_load isAgg9 q rfl (s.cell z0 rfl)) fun a q=>zl q (r_fieldAddr underlying49 rfl sizeOf9 q rfl) fun a q=>zl q (r_load isAgg9 q rfl ((s.ra hRA nil_not).cell (hc1 0 _ rfl))) fun a q=>zl q (r_sbin q rfl rfl rfl) fun a q=>za q rfl fun a q=>zn ?_
 obtain rfl:=Option.some.inj H
 refine wp_ret ?_
 repeat first | refine zt ?_ | refine zb ?_ | refine zo ?_
 exact ret_1 results48 q (rv_tmp q rfl) ⟨rfl,s.bel⟩
theorem slices_IndexFunc_api_Schema_api_Schema_f_schema_Check_1p.calls (a0 : List api_Schema) (a1_0 : api_Schema) {w0 : World} {RA : Hp} {v0_0 : Value} {b1q0 : Nat} {o1q0 : Nat} {v1q0_0 : Value} {v1q0_1 : Value} (hRA : RA.sub w0) (h0_0 : SlR ty_api_Schema RA v0_0 a0) (hc1q0 : ∀ j u,([.string a1_0.Name,v1q0_0,v1q0_1] : List Value)[j]? = some u → RA.cell b1q0 (o1q0 + j) = some u) (h1q0_0 : SlR ty_api_Col RA v1q0_0 a1_0.Keys) (h1q0_1 : SlR ty_api_Col RA v1q0_1 a1_0.Vals) {r : Int} (H : slices_IndexFunc_api_Schema_api_Schema_f_schema_Check_1p a0 a1_0 = some r) : CallsV prog 75 #[v0_0,.func (.func 48) #[] #[.pointer (some ⟨b1q0,o1q0,none⟩)]] w0 (I6 r):=by
 unfold slices_IndexFunc_api_Schema_api_Schema_f_schema_Check_1p at H
 refine enter (args:=[v0_0,.func (.func 48) #[] #[.pointer (some ⟨b1q0,o1q0,none⟩)]]) func75 rfl ntmps75 rfl fun a q=>?_
 have s:=St.init (R:=fun _=>none) (w:=w0) (fun _ _ h=>by cases h)
 have hRL:=RLe.refl (M:=[]) w0 (fun _=>none)
 refine zq<|zr<|za q rfl fun a q=>zn<|zq<|zq<|zr<|zm q rfl fun a q=>zl q (r_len_R underlying28 h0_0 q rfl) fun a q=>zm q rfl fun a q=>zn ?_
 refine wp_block ?_
 refine wp_loop_k (fun k_l0 a w=>∃ (x_19 : Int),slices_IndexFunc_api_Schema_api_Schema_f_schema_Check_1p.l0 a0 a1_0 k_l0 x_19 = some r ∧ Kn 19 a [(0,v0_0),(1,.func (.func 48) #[] #[.pointer (some ⟨b1q0,o1q0,none⟩)]),(7,I6 (a0.length : Int)),(8,I6 x_19)] ∧ St [] w0 w (fun _=>none) []) (((a0.length : Int) - 0).toNat + 1) ?_ ?_
 exact ⟨0,H,q.sub (zc (zc (zc (zc zz)))),s⟩
 rintro k_l0 a w ⟨x_19,H,q,s⟩
 rcases k_l0 with _ | k_l0
 cases H
 rw [slices_IndexFunc_api_Schema_api_Schema_f_schema_Check_1p.l0.eq_2] at H
 refine zq<|zr<|zl q (r_ibin q rfl rfl rfl) fun a q=>zn<|zq ?_
 refine wp_cond_split (q.ev rfl) (fun (hb_38 : (decide (x_19 < (a0.length : Int))) = true)=>?_) fun hb_38=>?_
 rw [ifb_t hb_38] at H
 refine wp_skip<|zq ?_
 refine wp_block ?_
 refine zq<|zr<|zm q rfl fun a q=>za q rfl fun a q=>zn<|zq<|zr<|zm q rfl fun a q=>zm q rfl fun a q=>zm q rfl fun a q=>?_
 obtain ⟨y_39,h_40,H⟩:=bs H
 obtain ⟨b_41,o_42,c_43,cs_44,hv_45,hr_46,hc_47,h_400,h_401⟩:=h0_0.ix h_40
 obtain ⟨v_48,v_50,rfl,hs_49,hs_51⟩:=hr_46
 refine zl q (r_indexAddr_R underlying28 sizeOf49 hv_45 h_400 h_401 q rfl rfl) fun a q=>zl q (r_loadA (cs:=[.string y_39.Name,v_48,v_50]) isAgg49 sizeOf49 rfl q rfl (fun j v hv=>(s.ra hRA nil_not).cell (hc_47 j v hv))) fun a q=>?_
 obtain ⟨y_52,h_53,H⟩:=bs H
 refine sl_callV call48 s q (by decide) rfl rfl rfl (schema_Check_1_cp.calls y_39 a1_0 (lentOf_sub [] _) (hs_49.mono (s.raLe0 hRA nil_not)) (hs_51.mono (s.raLe0 hRA nil_not)) (fun j u hu=>Hp.cell_le (s.raLe0 hRA nil_not) (hc1q0 j u hu)) (h1q0_0.mono (s.raLe0 hRA nil_not)) (h1q0_1.mono (s.raLe0 hRA nil_not)) h_53) fun a w s q=>?_
 refine zn ?_
 refine wp_cond_split (q.ev rfl) (fun (hb_54 : y_52 = true)=>?_) fun hb_54=>?_
 rw [ifb_t hb_54] at H
 refine zq<|zr<|zm q rfl fun a q=>za q rfl fun a q=>zn ?_
 obtain rfl:=Option.some.inj H
 refine wp_ret ?_
 repeat first | refine zt ?_ | refine zb ?_ | refine zo ?_
 exact ret_1 results75 q (rv_tmp q rfl) ⟨rfl,s.bel⟩
 rw [ifb_f hb_54] at H
 refine wp_skip<|zr<|zl q (r_ibin q rfl rfl rfl) fun a q=>zm q rfl fun a q=>zn ?_
 exact ⟨_,Nat.lt_succ_self _,(IntKind.i64.wrap (x_19 + 1)),H,q.sub (zc (zc (zc (zc zz)))),s⟩
 rw [ifb_f hb_38] at H
 refine wp_exit ?_
 refine zq<|zr<|za q rfl fun a q=>zn ?_
 obtain rfl:=Option.some.inj H
 refine wp_ret ?_
 repeat first | refine zt ?_ | refine zb ?_ | refine zo ?_
 exact ret_1 results75 q (rv_tmp q rfl) ⟨rfl,s.bel⟩
theorem slices_ContainsFunc_api_Schema_api_Schema_f_schema_Check_1p.calls (a0 : List api_Schema) (a1_0 : api_Schema) {w0 : World} {RA : Hp} {v0_0 : Value} {b1q0 : Nat} {o1q0 : Nat} {v1q0_0 : Value} {v1q0_1 : Value} (hRA : RA.sub w0) (h0_0 : SlR ty_api_Schema RA v0_0 a0) (hc1q0 : ∀ j u,([.string a1_0.Name,v1q0_0,v1q0_1] : List Value)[j]? = some u → RA.cell b1q0 (o1q0 + j) = some u) (h1q0_0 : SlR ty_api_Col RA v1q0_0 a1_0.Keys) (h1q0_1 : SlR ty_api_Col RA v1q0_1 a1_0.Vals) {r : Bool} (H : slices_ContainsFunc_api_Schema_api_Schema_f_schema_Check_1p a0 a1_0 = some r) : CallsV prog 47 #[v0_0,.func (.func 48) #[] #[.pointer (some ⟨b1q0,o1q0,none⟩)]] w0 (.bool r):=by
 unfold slices_ContainsFunc_api_Schema_api_Schema_f_schema_Check_1p at H
 refine enter (args:=[v0_0,.func (.func 48) #[] #[.pointer (some ⟨b1q0,o1q0,none⟩)]]) func47 rfl ntmps47 rfl fun a q=>?_
 have s:=St.init (R:=fun _=>none) (w:=w0) (fun _ _ h=>by cases h)
 have hRL:=RLe.refl (M:=[]) w0 (fun _=>none)
 refine zq<|zr<|za q rfl fun a q=>zn<|zq<|zr<|zm q rfl fun a q=>zm q rfl fun a q=>?_
 obtain ⟨y_1,h_2,H⟩:=bs H
 refine sl_callV call75 s q (by decide) rfl rfl rfl (slices_IndexFunc_api_Schema_api_Schema_f_schema_Check_1p.calls a0 a1_0 (lentOf_sub [] _) (h0_0.mono (s.raLe0 hRA nil_not)) (fun j u hu=>Hp.cell_le (s.raLe0 hRA nil_not) (hc1q0 j u hu)) (h1q0_0.mono (s.raLe0 hRA nil_not)) (h1q0_1.mono (s.raLe0 hRA nil_not)) h_2) fun a w s q=>?_
 refine zl q (r_ibin q rfl rfl rfl) fun a q=>za q rfl fun a q=>zn ?_
 obtain rfl:=Option.some.inj H
 refine wp_ret ?_
 repeat first | refine zt ?_ | refine zb ?_ | refine zo ?_
 exact ret_1 results47 q (rv_tmp q rfl) ⟨rfl,s.bel⟩
theorem schema_Check.calls (a0 : List api_Schema) {w0 : World} {R : Hp} {RA : Hp} {v0_0 : Value} (hRA : RA.sub w0) (hR : R.sub w0) (h0_0 : SlR ty_api_Schema R v0_0 a0) (hG : GF RA) {r : Int} (H : schema_Check a0 = some r) : CallsV prog 20 #[v0_0] w0 (I6 r):=by
 unfold schema_Check at H
 refine enter (args:=[v0_0]) func20 rfl ntmps20 rfl fun a q=>?_
 have s:=St.init hR
 have hRL:=RLe.refl (M:=[]) w0 R
 refine zq<|zr<|za q rfl fun a q=>zn<|zq<|zq ?_
 refine wp_mid (fun a w=>∃ (x_2 : Bool),schema_Check.j0 a0 x_2 = some r ∧ Kn 31 a [(0,v0_0),(12,.bool x_2)] ∧ St [] w0 w R []) ?_ ?_
 refine zr<|zm q rfl fun a q=>zl q (r_len_R underlying28 h0_0 q rfl) fun a q=>zl q (r_ibin q rfl rfl rfl) fun a q=>zm q rfl fun a q=>?_
 rcases or_b (decide ((a0.length : Int) < 1)) with hb_4 | hb_4
 rw [ifb_t hb_4] at H
 refine zsw q (wft hb_4) fun a q=>zsw q (wft hb_4) fun a q=>zsw q (wft hb_4) fun a q=>zl q (r_pick_t hb_4 q rfl rfl) fun a q=>zn ?_
 exact ⟨true,H,q.sub (zc (zc zz)),s⟩
 rw [ifb_f hb_4] at H
 refine zw q (wff hb_4) (r_move q rfl) fun a q=>zw q (wff hb_4) (r_len_R underlying28 h0_0 q rfl) fun a q=>zw q (wff hb_4) (r_ibin q rfl rfl rfl) fun a q=>zl q (r_pick_f hb_4 q rfl rfl) fun a q=>zn ?_
 exact ⟨(decide ((a0.length : Int) > 8)),H,q.sub (zc (zc zz)),s⟩
 rintro a w ⟨x_2,H,q,s⟩
 unfold schema_Check.j0 at H
 refine wp_cond_split (q.ev rfl) (fun (hb_5 : x_2 = true)=>?_) fun hb_5=>?_
 rw [ifb_t hb_5] at H
 refine zq<|zr<|za q rfl fun a q=>zn ?_
 obtain rfl:=Option.some.inj H
 refine wp_ret ?_
 repeat first | refine zt ?_ | refine zb ?_ | refine zo ?_
 exact ret_1 results20 q (rv_tmp q rfl) ⟨rfl,s.bel⟩
 rw [ifb_f hb_5] at H
 refine wp_skip<|zq<|zq<|zr<|zm q rfl fun a q=>zl q (r_len_R underlying28 h0_0 q rfl) fun a q=>zm q rfl fun a q=>zn ?_
 refine wp_block ?_
 refine wp_loop_k (fun k_l1 a w=>∃ (x_45 : Int),schema_Check.l1 a0 k_l1 x_45 = some r ∧ Kn 31 a [(0,v0_0),(13,v0_0),(14,I6 (a0.length : Int)),(15,I6 x_45)] ∧ St [] w0 w R []) (((a0.length : Int) - 0).toNat + 1) ?_ ?_
 exact ⟨0,H,q.sub (zc (zc (zc (zc zz)))),s⟩
 rintro k_l1 a w ⟨x_45,H,q,s⟩
 rcases k_l1 with _ | k_l1
 cases H
 rw [schema_Check.l1.eq_2] at H
 refine zq<|zr<|zl q (r_ibin q rfl rfl rfl) fun a q=>zn<|zq ?_
 refine wp_cond_split (q.ev rfl) (fun (hb_85 : (decide (x_45 < (a0.length : Int))) = true)=>?_) fun hb_85=>?_
 rw [ifb_t hb_85] at H
 refine wp_skip<|zq ?_
 refine wp_block ?_
 refine zq<|zr<|zm q rfl fun a q=>?_
 obtain ⟨y_86,h_87,H⟩:=bs H
 obtain ⟨b_88,o_89,c_90,cs_91,hv_92,hr_93,hc_94,h_870,h_871⟩:=h0_0.ix h_87
 obtain ⟨v_95,v_97,rfl,hs_96,hs_98⟩:=hr_93
 refine zl q (r_indexAddr_R underlying28 sizeOf49 hv_92 h_870 h_871 q rfl rfl) fun a q=>zl q (r_loadA (cs:=[.string y_86.Name,v_95,v_97]) isAgg49 sizeOf49 rfl q rfl (fun j v hv=>s.sub.cell (hc_94 j v hv))) fun a q=>?_
 refine sl_alloc zeroValue49 s q (by decide) rfl rfl fun a w b_99 s q=>?_
 refine za q rfl fun a q=>?_
 refine sl_storeA (vs:=[.string y_86.Name,v_95,v_97]) (c':=[.string y_86.Name,v_95,v_97]) sizeOf49 s q rfl rfl rfl rfl (zc (all_cons hs_96.one (all_cons hs_98.one zz))) (Nat.le_of_ble_eq_true rfl) rfl fun a w s q=>?_
 refine zn<|zq ?_
 refine wp_mid (fun a w=>∃ (x_110 : Bool),schema_Check.j2 (schema_Check.l1 a0 k_l1) a0 x_45 x_110 = some r ∧ Kn 31 a [(0,v0_0),(13,v0_0),(14,I6 (a0.length : Int)),(15,I6 x_45),(29,.bool x_110)] ∧ St [] w0 w R []) ?_ ?_
 refine zr<|zl q (r_loadA (cs:=[.string y_86.Name,v_95,v_97]) isAgg49 sizeOf49 rfl q rfl (s.cells_of (m:=3) z0 rfl)) fun a q=>?_
 obtain ⟨y_112,h_113,H⟩:=bs H
 refine sl_callV call46 s q (by decide) rfl rfl rfl (schema_one.calls y_86 (lentOf_sub [] _) s.sub hs_96 hs_98 (GF.mono (s.raLe0 hRA nil_not) hG) h_113) fun a w s q=>?_
 refine zl q (r_un q rfl (u_not _)) fun a q=>zm q rfl fun a q=>?_
 rcases or_b (!y_112) with hb_114 | hb_114
 rw [ifb_t hb_114] at H
 refine zsw q (wft hb_114) fun a q=>zsw q (wft hb_114) fun a q=>zsw q (wft hb_114) fun a q=>zsw q (wft hb_114) fun a q=>zsw q (wft hb_114) fun a q=>zl q (r_pick_t hb_114 q rfl rfl) fun a q=>zn ?_
 exact ⟨true,H,q.sub (zc (zc (zc (zc (zc zz))))),s.trunc 0⟩
 rw [ifb_f hb_114] at H
 refine zw q (wff hb_114) (r_move q rfl) fun a q=>zw q (wff hb_114) (r_move q rfl) fun a q=>?_
 obtain ⟨y_115,h_116,H⟩:=bs H
 obtain ⟨v_117,hs_118,hr_119⟩:=r_slice_R (x:=.tmp 24) (lo:=none) (hi:=some (.tmp 25)) underlying28 sizeOf49 h0_0 h_116 q rfl rfl ⟨_,rfl⟩
 refine zw q (wff hb_114) (hr_119 _ _ _ _ _ _ _ q) fun a q=>zw q (wff hb_114) (r_func (us:=[]) (vs:=[.pointer (some ⟨b_99,0,none⟩)]) rfl (q.evs rfl)) fun a q=>?_
 obtain ⟨y_120,h_121,H⟩:=bs H
 refine sl_callV call47 s q (by decide) (wff hb_114) rfl rfl (slices_ContainsFunc_api_Schema_api_Schema_f_schema_Check_1p.calls y_115 y_86 (lentOf_sub [] _) (hs_118.mono s.rLe0) (s.lend_box0 z0) (hs_96.mono s.rLe0) (hs_98.mono s.rLe0) h_121) fun a w s q=>?_
 refine zl q (r_pick_f hb_114 q rfl rfl) fun a q=>zn ?_
 exact ⟨y_120,H,q.sub (zc (zc (zc (zc (zc zz))))),s.trunc 0⟩
 rintro a w ⟨x_110,H,q,s⟩
 unfold schema_Check.j2 at H
 refine wp_cond_split (q.ev rfl) (fun (hb_122 : x_110 = true)=>?_) fun hb_122=>?_
 rw [ifb_t hb_122] at H
 refine zq<|zr<|za q rfl fun a q=>zn ?_
 obtain rfl:=Option.some.inj H
 refine wp_ret ?_
 repeat first | refine zt ?_ | refine zb ?_ | refine zo ?_
 exact ret_1 results20 q (rv_tmp q rfl) ⟨rfl,s.bel⟩
 rw [ifb_f hb_122] at H
 refine wp_skip<|zr<|zl q (r_ibin q rfl rfl rfl) fun a q=>zm q rfl fun a q=>zn ?_
 exact ⟨_,Nat.lt_succ_self _,(IntKind.i64.wrap (x_45 + 1)),H,q.sub (zc (zc (zc (zc zz)))),s⟩
 rw [ifb_f hb_85] at H
 refine wp_exit ?_
 refine zq<|zr<|za q rfl fun a q=>zn ?_
 obtain rfl:=Option.some.inj H
 refine wp_ret ?_
 repeat first | refine zt ?_ | refine zb ?_ | refine zo ?_
 exact ret_1 results20 q (rv_tmp q rfl) ⟨rfl,s.bel⟩
theorem slices_Clone_api_Col_api_Col.calls (a0 : List api_Col) {w0 : World} {R : Hp} {RA : Hp} {v0_0 : Value} (hRA : RA.sub w0) (hR : R.sub w0) (h0_0 : SlR ty_api_Col RA v0_0 a0) {r : List api_Col} (H : slices_Clone_api_Col_api_Col a0 = some r) : Calls prog 21 #[v0_0] w0 (Rets fun v w'=>∃ (R' : Hp) (u0 : Value) (cu0 : List Value),v = u0 ∧ St [] w0 w' R' [.row 65 2 u0 r.length cu0] ∧ RLe [] w0 R R' ∧ Reps ty_api_Col R' cu0 r):=by
 unfold slices_Clone_api_Col_api_Col at H
 rcases SlR.nilcase h0_0 with ⟨hn,hx⟩ | ⟨ad_,m_,c_,hn⟩
 subst hx
 have H : some ([] : List api_Col) = some r:=by simpa [apd] using H
 refine enter (args:=[v0_0]) func21 rfl ntmps21 rfl fun a q=>?_
 have s:=St.init hR
 have hRL:=RLe.refl (M:=[]) w0 R
 refine zq<|zr<|za q rfl fun a q=>zn<|zq<|zq<|zr<|zm q rfl fun a q=>zl q (r_sleqN underlying38 hn q rfl rfl) fun a q=>zn ?_
 refine wp_cond_true (q.ev rfl) ?_
 refine zq<|zr<|za q rfl fun a q=>zn ?_
 have s:=s.row_nil 65 2
 have hq_11 : Reps ty_api_Col R [] ([] : List api_Col):=Reps.nil _ _
 obtain rfl:=Option.some.inj H
 refine wp_ret ?_
 repeat first | refine zt ?_ | refine zb ?_ | refine zo ?_
 exact ret_1 results21 q (rv_tmp q rfl) ⟨_,rfl,_,_,_,rfl,s,hRL,hq_11⟩
 refine enter (args:=[v0_0]) func21 rfl ntmps21 rfl fun a q=>?_
 have s:=St.init hR
 have hRL:=RLe.refl (M:=[]) w0 R
 refine zq<|zr<|za q rfl fun a q=>zn<|zq<|zq<|zr<|zm q rfl fun a q=>zl q (r_sleqS underlying38 hn q rfl rfl) fun a q=>zn ?_
 refine wp_cond_false (q.ev rfl) ?_
 refine wp_skip<|zq<|zr ?_
 refine sl_buildSliceC (zc:=[.string (⟨#[]⟩ : ByteArray),I6 0]) (zs:=[]) (ps:=[]) (c:=[]) underlying38 sizeOf65 zeroValue65 rfl pc_nil rfl rfl (by decide) (by kernel_rfl) rfl s q (by decide) rfl fun a w b_1 s q=>?_
 refine zm q rfl fun a q=>?_
 obtain ⟨y_4,h_5,H⟩:=bs H
 have s:=s.row_lit (size:=2) (m:=0) rfl (by decide)
 have hq_3 : Reps ty_api_Col R [] ([] : List api_Col):=(Reps.nil _ _)
 refine sl_append_A elT38 (by decide) rfl (fun _ _ _ _ h=>h) (s.ra hRA nil_not) hq_3 rfl h0_0 h_5 s q (by decide) rfl rfl rfl fun a w v_6 cs_7 hq_8 s q=>?_
 refine za q rfl fun a q=>zn ?_
 obtain rfl:=Option.some.inj H
 refine wp_ret ?_
 repeat first | refine zt ?_ | refine zb ?_ | refine zo ?_
 exact ret_1 results21 q (rv_tmp q rfl) ⟨_,rfl,_,_,_,rfl,s,hRL,hq_8⟩
theorem streams_New.calls (a0 : Int) {w0 : World} {R : Hp} (hR : R.sub w0) {r : streams_Dict} (H : streams_New a0 = some r) : Calls prog 22 #[I6 a0] w0 (Rets fun v w'=>∃ (R' : Hp) (B0 : Nat) (u1 : Value) (cu1 : List Value) (B2 : Nat),v = .pointer (some ⟨B0,0,none⟩) ∧ St [] w0 w' R' [.cells B0 [I6 r.most,u1,.map (some B2)] 102,.row 113 2 u1 r.l.length cu1,.mp B2 (kvs Value.string (Value.int .i64) r.ids)] ∧ RLe [] w0 R R' ∧ Reps ty_streams_stream R' cu1 r.l):=by
 unfold streams_New at H
 refine enter (args:=[I6 a0]) func22 rfl ntmps22 rfl fun a q=>?_
 have s:=St.init hR
 have hRL:=RLe.refl (M:=[]) w0 R
 refine zq<|zr<|za q rfl fun a q=>zn<|zq<|zr<|zm q rfl fun a q=>?_
 have s:=s
 refine sl_makeMap s q (by decide) rfl fun a w b_1 s q=>?_
 refine zl q (r_buildC (ps:=[(0,I6 a0),(2,.map (some b_1))]) (c:=[I6 a0,.slice none 0 0,.map (some b_1)]) underlying102 zeroValue102 places102 q rfl (pc_cons rfl (pc_cons rfl pc_nil)) rfl rfl) fun a q=>?_
 refine sl_box s q (by decide) rfl rfl (c:=[I6 a0,.slice none 0 0,.map (some b_1)]) rfl fun a w b_2 s q=>?_
 refine za q rfl fun a q=>zn ?_
 have s:=s.row_nil 113 2
 have hq_4 : Reps ty_streams_stream R [] ([] : List streams_stream):=Reps.nil _ _
 obtain rfl:=Option.some.inj H
 refine wp_ret ?_
 repeat first | refine zt ?_ | refine zb ?_ | refine zo ?_
 exact ret_1 results22 q (rv_tmp q rfl) ⟨_,rfl,_,_,_,_,_,rfl,s.pk2.pk1.pk2,hRL,hq_4⟩
theorem leaf_New.calls (a0 : List api_Schema) (a1 : Int) {w0 : World} {R : Hp} {RA : Hp} {v0_0 : Value} (hRA : RA.sub w0) (hR : R.sub w0) (h0_0 : SlR ty_api_Schema R v0_0 a0) (hG : GF RA) {r : (Option leaf_Leaf) × Int} (H : leaf_New a0 a1 = some r) : Calls prog 8 #[v0_0,I6 a1] w0 (Rets fun v w'=>(r.1 = none ∧ ∃ (R' : Hp),v = .tuple #[.pointer none,I6 r.2] ∧ St [] w0 w' R' [] ∧ RLe [] w0 R R') ∨ (∃ (x_ : leaf_Leaf),r.1 = some x_ ∧ ∃ (R' : Hp) (B0 : Nat) (u1 : Value) (B2 : Nat) (u3 : Value) (cu3 : List Value) (B4 : Nat) (B5 : Nat) (E5 : List (MB Int)),v = .tuple #[.pointer (some ⟨B0,0,none⟩),I6 r.2] ∧ St [] w0 w' R' [.cells B0 [u1,I6 x_.room,I6 x_.points,.pointer (some ⟨B2,0,none⟩),.map (some B5)] 70,.cells B2 [I6 x_.dict.most,u3,.map (some B4)] 102,.row 113 2 u3 x_.dict.l.length cu3,.mp B4 (kvs Value.string (Value.int .i64) x_.dict.ids),mbo B5 (kvs (Value.int .i64) id (mbp E5)) 111 90 2 E5] ∧ RLe [] w0 R R' ∧ SlR ty_api_Schema R' u1 x_.schemas ∧ Reps ty_streams_stream R' cu3 x_.dict.l ∧ MBel ty_api_Sample runs_Run.l R' E5 x_.runs)):=by
 unfold leaf_New at H
 refine enter (args:=[v0_0,I6 a1]) func8 rfl ntmps8 rfl fun a q=>?_
 have s:=St.init hR
 have hRL:=RLe.refl (M:=[]) w0 R
 refine zq<|zr<|za q rfl fun a q=>za q rfl fun a q=>zn<|zq<|zq<|zr<|zm q rfl fun a q=>?_
 obtain ⟨y_1,h_2,H⟩:=bs H
 refine sl_callV call20 s q (by decide) rfl rfl rfl (schema_Check.calls a0 (lentOf_sub [] _) s.sub h0_0 (GF.mono (s.raLe0 hRA nil_not) hG) h_2) fun a w s q=>?_
 refine za q rfl fun a q=>zn<|zq<|zr<|zm q rfl fun a q=>zl q (r_ibin q rfl rfl rfl) fun a q=>zn ?_
 refine wp_cond_split (q.ev rfl) (fun (hb_3 : (y_1 != 0) = true)=>?_) fun hb_3=>?_
 rw [ifb_t hb_3] at H
 refine zq<|zr<|zm q rfl fun a q=>za q rfl fun a q=>za q rfl fun a q=>zn ?_
 obtain rfl:=Option.some.inj H
 refine wp_ret ?_
 repeat first | refine zt ?_ | refine zb ?_ | refine zo ?_
 exact ret_2 results8 q (rv_tmp q rfl) (rv_tmp q rfl) ⟨_,rfl,Or.inl ⟨rfl,_,rfl,s,hRL⟩⟩
 rw [ifb_f hb_3] at H
 refine wp_skip<|zq<|zr<|za q rfl fun a q=>zn<|zq<|zq<|zr<|zm q rfl fun a q=>zl q (r_len_R underlying28 h0_0 q rfl) fun a q=>zm q rfl fun a q=>zn ?_
 refine wp_block ?_
 refine wp_loop_k (fun k_l0 a w=>∃ (x_95 : List api_Schema) (x_99 : Int) (R_100 : Hp) (v_96 : Value) (cs_97 : List Value),leaf_New.l0 a0 a1 k_l0 x_95 x_99 = some r ∧ RLe [] w0 R R_100 ∧ Reps ty_api_Schema R_100 cs_97 x_95 ∧ Kn 41 a [(1,I6 a1),(7,v_96),(15,v0_0),(16,I6 (a0.length : Int)),(17,I6 x_99)] ∧ St [] w0 w R_100 [.row 49 3 v_96 x_95.length cs_97]) (((a0.length : Int) - 0).toNat + 1) ?_ ?_
 have s:=s.row_nil 49 3
 have hq_180 : Reps ty_api_Schema R [] ([] : List api_Schema):=Reps.nil _ _
 exact ⟨[],0,_,_,_,H,(RLe.refl _ _),hq_180,q.sub (zc (zc (zc (zc (zc zz))))),s⟩
 rintro k_l0 a w ⟨x_95,x_99,R_100,v_96,cs_97,H,hl_101,hq_98,q,s⟩
 rcases k_l0 with _ | k_l0
 cases H
 rw [leaf_New.l0.eq_2] at H
 have hRL:=hRL.trans hl_101
 refine zq<|zr<|zl q (r_ibin q rfl rfl rfl) fun a q=>zn<|zq ?_
 refine wp_cond_split (q.ev rfl) (fun (hb_181 : (decide (x_99 < (a0.length : Int))) = true)=>?_) fun hb_181=>?_
 rw [ifb_t hb_181] at H
 refine wp_skip<|zq ?_
 refine wp_block ?_
 refine zq<|zr ?_
 obtain ⟨y_182,h_183,H⟩:=bs H
 obtain ⟨b_184,o_185,c_186,cs_187,hv_188,hr_189,hc_190,h_1830,h_1831⟩:=h0_0.ix h_183
 obtain ⟨v_191,v_193,rfl,hs_192,hs_194⟩:=hr_189
 refine zl q (r_indexAddr_R underlying28 sizeOf49 hv_188 h_1830 h_1831 q rfl rfl) fun a q=>zl q (r_loadA (cs:=[.string y_182.Name,v_191,v_193]) isAgg49 sizeOf49 rfl q rfl (fun j v hv=>(s.sub.le hl_101.le).cell (hc_190 j v hv))) fun a q=>?_
 refine sl_alloc zeroValue49 s q (by decide) rfl rfl fun a w b_195 s q=>?_
 refine sl_storeA (vs:=[.string y_182.Name,v_191,v_193]) (c':=[.string y_182.Name,v_191,v_193]) sizeOf49 s q rfl rfl rfl rfl (zc (all_cons hs_192.one (all_cons hs_194.one zz))) (Nat.le_of_ble_eq_true rfl) rfl fun a w s q=>?_
 refine zn ?_
 refine parT_region (C:=fun w=>St [] w0 w R_100 [.cells b_195 [.string y_182.Name,v_191,v_193] 49,.row 49 3 v_96 x_95.length cs_97]) 11 [(0,true),(1,true),(2,true),(3,true),(4,true),(6,true),(7,true),(5,false),(8,false),(9,true),(10,false)] mixed (by kernel_rfl) s (fun w s=>s) fun w s=>?_
 refine zp rfl q (fun w s=>r_move q rfl) fun a q=>zp rfl q (fun w s=>r_fieldAddr underlying49 rfl sizeOf9 q rfl) fun a q=>zp rfl q (fun w s=>r_load isAgg9 q rfl (s.cell z0 rfl)) fun a q=>zp rfl q (fun w s=>r_fieldAddr underlying49 rfl sizeOf38 q rfl) fun a q=>zp rfl q (fun w s=>r_load isAgg38 q rfl (s.cell z0 rfl)) fun a q=>zp rfl q (fun w s=>r_fieldAddr underlying49 rfl sizeOf38 q rfl) fun a q=>zp rfl q (fun w s=>r_load isAgg38 q rfl (s.cell z0 rfl)) fun a q=>?_
 refine spw (k:=5) rfl rfl s ?_
 obtain ⟨y_227,h_228,H⟩:=bs H
 refine sl_call call21 q (by decide) rfl rfl rfl (slices_Clone_api_Col_api_Col.calls y_182.Keys (lentOf_sub [] _) s.sub (hs_192.mono (hl_101.le.trans s.rLe0)) h_228) fun a v_ w hv_ q=>?_
 obtain ⟨R_229,v_232,cs_233,hv_,hr_,hl_230,hq_234⟩:=hv_
 have hv_:=hv_.symm
 subst hv_
 obtain ⟨s,hl_230⟩:=s.sp0.back hr_ hl_230
 have s:=s.un1
 have hRL:=hRL.trans hl_230
 refine parK_nil ((s.pk2.pk2.trunc 2).lower hl_230.le) ?_
 refine spw (k:=8) rfl rfl ((s.pk2.pk2.trunc 2).lower hl_230.le) ?_
 obtain ⟨y_235,h_236,H⟩:=bs H
 refine sl_call call21 q (by decide) rfl rfl rfl (slices_Clone_api_Col_api_Col.calls y_182.Vals (lentOf_sub [] _) s.sub (hs_194.mono ((hl_101.le.trans hl_230.le).trans s.rLe0)) h_236) fun a v_ w hv_ q=>?_
 obtain ⟨R_237,v_240,cs_241,hv_,hr_,hl_238,hq_242⟩:=hv_
 have hv_:=hv_.symm
 subst hv_
 obtain ⟨s,hl_238⟩:=s.sp0.back hr_ hl_238
 have s:=s.un1
 have hRL:=hRL.trans hl_238
 refine parK_nil ((s.pk3.pk3.trunc 2).lower (hl_230.le.trans hl_238.le)) ?_
 have ho_243:=s.row_one z1
 have ho_244:=s.row_one z0
 refine zp rfl q (fun w s=>r_buildC (ps:=[(0,.string y_182.Name),(1,v_232),(2,v_240)]) (c:=[.string y_182.Name,v_232,v_240]) underlying49 zeroValue49 places49 q rfl (pc_cons rfl (pc_cons (cells1 ho_243) (pc_cons (cells1 ho_244) pc_nil))) rfl rfl) fun a q=>?_
 refine spw (k:=10) rfl rfl ((s.pk3.pk3.trunc 2).lower (hl_230.le.trans hl_238.le)) ?_
 refine sl_buildSliceF (zc:=[.string (⟨#[]⟩ : ByteArray),.slice none 0 0,.slice none 0 0]) (ps:=[(0,.agg #[.string y_182.Name,v_232,v_240])]) (c:=[.string y_182.Name,v_232,v_240]) [[.string y_182.Name,v_232,v_240]] underlying28 sizeOf49 zeroValue49 rfl (pc_cons rfl pc_nil) rfl rfl (Nat.le_of_ble_eq_true rfl) rfl (zc zz) rfl s q (by decide) rfl fun a w b_245 s q=>?_
 refine parK_nil ((s.pk4.pk4.trunc 2).lower (hl_230.le.trans hl_238.le)) ?_
 refine thenL_nil ?_
 have s:=s.pk4
 have s:=s.pk3
 obtain ⟨R_246,s,hl_248,hs_247⟩:=s.fz_row (hq_234.mono hl_238.le) rfl rfl
 have hRL:=hRL.trans hl_248
 have s:=s.pk2
 obtain ⟨R_249,s,hl_251,hs_250⟩:=s.fz_row (hq_242.mono hl_248.le) rfl rfl
 have hRL:=hRL.trans hl_251
 obtain ⟨y_252,h_253,H⟩:=bs H
 refine sl_append_L (ty:=ty_api_Schema) (ys:=[(⟨y_182.Name,y_227,y_235⟩ : api_Schema)]) elT28 (by decide) rfl (hq_98.mono (hl_230.le.trans (hl_238.le.trans (hl_248.le.trans hl_251.le)))) rfl (Reps.cons (show Ty.rep ty_api_Schema _ [.string y_182.Name,v_232,v_240] (⟨y_182.Name,y_227,y_235⟩ : api_Schema) from ⟨_,_,rfl,(hs_247.mono hl_251.le),hs_250⟩) (Reps.nil _ _)) rfl h_253 s q (by decide) rfl rfl rfl fun a w v_254 cs_255 hq_256 s q=>?_
 refine za q rfl fun a q=>?_
 refine wpList_nil (NoP_nil ?_)
 refine zr<|zl q (r_ibin q rfl rfl rfl) fun a q=>zm q rfl fun a q=>zn ?_
 exact ⟨_,Nat.lt_succ_self _,y_252,(IntKind.i64.wrap (x_99 + 1)),_,_,_,H,(hl_101.trans (hl_230.trans (hl_238.trans (hl_248.trans hl_251)))),hq_256,q.sub (zc (zc (zc (zc (zc zz))))),s.trunc 1⟩
 rw [ifb_f hb_181] at H
 refine wp_exit ?_
 refine zq<|zr<|zm q rfl fun a q=>zm q rfl fun a q=>zm q rfl fun a q=>?_
 obtain ⟨y_258,h_259,H⟩:=bs H
 refine sl_call call22 q (by decide) rfl rfl rfl (streams_New.calls a1 s.sub h_259) fun a v_ w hv_ q=>?_
 obtain ⟨R_260,b_262,v_264,cs_265,mb_267,hv_,hr_,hl_261,hq_266⟩:=hv_
 have hv_:=hv_.symm
 subst hv_
 obtain ⟨s,hl_261⟩:=s.sp0.back hr_ hl_261
 have s:=s.un3
 have hRL:=hRL.trans hl_261
 refine sl_makeMap s q (by decide) rfl fun a w b_268 s q=>?_
 have s:=St.bmk (κ:=Int) (Value.int .i64) 111 90 2 s
 have hm_269 : MBel ty_api_Sample runs_Run.l R_260 ([] : List (MB Int)) ([] : List (Int × runs_Run)):=MBel.nil
 have ho_270:=s.row_one z4
 refine zl q (r_buildC (ps:=[(0,v_96),(1,I6 a1),(3,.pointer (some ⟨b_262,0,none⟩)),(4,.map (some b_268))]) (c:=[v_96,I6 a1,I6 0,.pointer (some ⟨b_262,0,none⟩),.map (some b_268)]) underlying70 zeroValue70 places70 q rfl (pc_cons (cells1 ho_270) (pc_cons rfl (pc_cons rfl (pc_cons rfl pc_nil)))) rfl rfl) fun a q=>?_
 refine sl_box s q (by decide) rfl rfl (c:=[v_96,I6 a1,I6 0,.pointer (some ⟨b_262,0,none⟩),.map (some b_268)]) rfl fun a w b_271 s q=>?_
 refine za q rfl fun a q=>za q rfl fun a q=>zn ?_
 have s:=s.pk5
 obtain ⟨R_272,s,hl_274,hs_273⟩:=s.fz_row (hq_98.mono hl_261.le) rfl rfl
 have hRL:=hRL.trans hl_274
 obtain rfl:=Option.some.inj H
 refine wp_ret ?_
 repeat first | refine zt ?_ | refine zb ?_ | refine zo ?_
 exact ret_2 results8 q (rv_tmp q rfl) (rv_tmp q rfl) ⟨_,rfl,Or.inr ⟨_,rfl,_,_,_,_,_,_,_,_,_,rfl,s.pk1.pk4.pk4.pk4.pk4,hRL,hs_273,(hq_266.mono hl_274.le),(hm_269.mono hl_274.le)⟩⟩
theorem law08_point.calls (a0 : ByteArray) (a1 : Int) (a2 : Int) {w0 : World} {R : Hp} (hR : R.sub w0) {r : api_Point} (H : law08_point a0 a1 a2 = some r) : Calls prog 10 #[.string a0,I6 a1,I6 a2] w0 (Rets fun v w'=>∃ (R' : Hp) (u0 : Value) (cu0 : List Value) (u1 : Value) (cu1 : List Value),v = .agg #[.string r.Schema,u0,I6 r.Time,u1] ∧ St [] w0 w' R' [.row 58 11 u0 r.Keys.length cu0,.row 58 11 u1 r.Vals.length cu1] ∧ RLe [] w0 R R' ∧ Reps ty_api_Value R' cu0 r.Keys ∧ Reps ty_api_Value R' cu1 r.Vals):=by
 unfold law08_point at H
 refine enter (args:=[.string a0,I6 a1,I6 a2]) func10 rfl ntmps10 rfl fun a q=>?_
 have s:=St.init hR
 have hRL:=RLe.refl (M:=[]) w0 R
 refine zq<|zr ?_
 refine sl_alloc zeroValue33 s q (by decide) rfl rfl fun a w b_1 s q=>?_
 refine zn<|zq<|zr<|zm q rfl fun a q=>zl q (r_buildC (ps:=[(0,I6 2),(2,.string a0)]) (c:=[I6 2,I6 0,.string a0,I6 0,I6 0,I6 0,I6 0,I6 0,I6 0,I6 0,I6 0]) underlying58 zeroValue58 places58 q rfl (pc_cons rfl (pc_cons rfl pc_nil)) rfl rfl) fun a q=>?_
 refine sl_buildSliceF (zc:=[I6 0,I6 0,.string (⟨#[]⟩ : ByteArray),I6 0,I6 0,I6 0,I6 0,I6 0,I6 0,I6 0,I6 0]) (ps:=[(0,.agg #[I6 2,I6 0,.string a0,I6 0,I6 0,I6 0,I6 0,I6 0,I6 0,I6 0,I6 0])]) (c:=[I6 2,I6 0,.string a0,I6 0,I6 0,I6 0,I6 0,I6 0,I6 0,I6 0,I6 0]) [[I6 2,I6 0,.string a0,I6 0,I6 0,I6 0,I6 0,I6 0,I6 0,I6 0,I6 0]] underlying31 sizeOf58 zeroValue58 rfl (pc_cons rfl pc_nil) rfl rfl (Nat.le_of_ble_eq_true rfl) rfl (zc zz) rfl s q (by decide) rfl fun a w b_2 s q=>?_
 refine zm q rfl fun a q=>zm q rfl fun a q=>zl q (r_buildC (ps:=[(0,I6 1),(1,I6 a2)]) (c:=[I6 1,I6 a2,.string (⟨#[]⟩ : ByteArray),I6 0,I6 0,I6 0,I6 0,I6 0,I6 0,I6 0,I6 0]) underlying58 zeroValue58 places58 q rfl (pc_cons rfl (pc_cons rfl pc_nil)) rfl rfl) fun a q=>?_
 refine sl_buildSliceF (zc:=[I6 0,I6 0,.string (⟨#[]⟩ : ByteArray),I6 0,I6 0,I6 0,I6 0,I6 0,I6 0,I6 0,I6 0]) (ps:=[(0,.agg #[I6 1,I6 a2,.string (⟨#[]⟩ : ByteArray),I6 0,I6 0,I6 0,I6 0,I6 0,I6 0,I6 0,I6 0])]) (c:=[I6 1,I6 a2,.string (⟨#[]⟩ : ByteArray),I6 0,I6 0,I6 0,I6 0,I6 0,I6 0,I6 0,I6 0]) [[I6 1,I6 a2,.string (⟨#[]⟩ : ByteArray),I6 0,I6 0,I6 0,I6 0,I6 0,I6 0,I6 0,I6 0]] underlying31 sizeOf58 zeroValue58 rfl (pc_cons rfl pc_nil) rfl rfl (Nat.le_of_ble_eq_true rfl) rfl (zc zz) rfl s q (by decide) rfl fun a w b_3 s q=>?_
 refine zl q (r_buildC (ps:=[(0,.string (⟨#[108,111,97,100]⟩ : ByteArray)),(1,.slice (some ⟨b_2,0,none⟩) 1 1),(2,I6 a1),(3,.slice (some ⟨b_3,0,none⟩) 1 1)]) (c:=[.string (⟨#[108,111,97,100]⟩ : ByteArray),.slice (some ⟨b_2,0,none⟩) 1 1,I6 a1,.slice (some ⟨b_3,0,none⟩) 1 1]) underlying33 zeroValue33 places33 q rfl (pc_cons rfl (pc_cons rfl (pc_cons rfl (pc_cons rfl pc_nil)))) rfl rfl) fun a q=>?_
 have s:=s.pk2
 refine sl_storeA (vs:=[.string (⟨#[108,111,97,100]⟩ : ByteArray),.slice (some ⟨b_2,0,none⟩) 1 1,I6 a1,.slice (some ⟨b_3,0,none⟩) 1 1]) (c':=[.string (⟨#[108,111,97,100]⟩ : ByteArray),.slice (some ⟨b_2,0,none⟩) 1 1,I6 a1,.slice (some ⟨b_3,0,none⟩) 1 1]) sizeOf33 s q rfl rfl rfl rfl (zc (zc (zc (zc zz)))) (Nat.le_of_ble_eq_true rfl) rfl fun a w s q=>?_
 refine zn ?_
 have s:=s.pk2
 have s:=s.row_lit (size:=11) (m:=1) rfl (by decide)
 have hq_5 : Reps ty_api_Value R [I6 2,I6 0,.string a0,I6 0,I6 0,I6 0,I6 0,I6 0,I6 0,I6 0,I6 0] [(⟨2,0,a0,(⟨0,0,0,0,0,0,0,0⟩ : Arr8)⟩ : api_Value)]:=(Reps.cons (show Ty.rep ty_api_Value _ [I6 2,I6 0,.string a0,I6 0,I6 0,I6 0,I6 0,I6 0,I6 0,I6 0,I6 0] (⟨2,0,a0,(⟨0,0,0,0,0,0,0,0⟩ : Arr8)⟩ : api_Value) from rfl) (Reps.nil _ _))
 have s:=s.pk2
 have s:=s.row_lit (size:=11) (m:=1) rfl (by decide)
 have hq_7 : Reps ty_api_Value R [I6 1,I6 a2,.string (⟨#[]⟩ : ByteArray),I6 0,I6 0,I6 0,I6 0,I6 0,I6 0,I6 0,I6 0] [(⟨1,a2,(⟨#[]⟩ : ByteArray),(⟨0,0,0,0,0,0,0,0⟩ : Arr8)⟩ : api_Value)]:=(Reps.cons (show Ty.rep ty_api_Value _ [I6 1,I6 a2,.string (⟨#[]⟩ : ByteArray),I6 0,I6 0,I6 0,I6 0,I6 0,I6 0,I6 0,I6 0] (⟨1,a2,(⟨#[]⟩ : ByteArray),(⟨0,0,0,0,0,0,0,0⟩ : Arr8)⟩ : api_Value) from rfl) (Reps.nil _ _))
 obtain rfl:=Option.some.inj H
 refine wp_ret ?_
 repeat first | refine zt ?_ | refine zb ?_ | refine zo ?_
 exact ret_1 results10 q (rv_cell (c:=[.string (⟨#[108,111,97,100]⟩ : ByteArray),(.slice (some ⟨b_2,0,none⟩) 1 1),I6 a1,(.slice (some ⟨b_3,0,none⟩) 1 1)]) isAgg33 sizeOf33 s z2 rfl q rfl) ⟨_,rfl,_,_,_,_,_,rfl,(s.pk1.trunc 2),hRL,hq_5,hq_7⟩
theorem schema_Find.calls (a0 : List api_Schema) (a1 : ByteArray) {w0 : World} {R : Hp} {v0_0 : Value} (hR : R.sub w0) (h0_0 : SlR ty_api_Schema R v0_0 a0) {r : api_Schema × Bool} (H : schema_Find a0 a1 = some r) : Calls prog 29 #[v0_0,.string a1] w0 (Rets fun v w'=>∃ (R' : Hp) (u0 : Value) (u1 : Value),v = .tuple #[.agg #[.string r.1.Name,u0,u1],.bool r.2] ∧ St [] w0 w' R' [] ∧ RLe [] w0 R R' ∧ SlR ty_api_Col R' u0 r.1.Keys ∧ SlR ty_api_Col R' u1 r.1.Vals):=by
 unfold schema_Find at H
 refine enter (args:=[v0_0,.string a1]) func29 rfl ntmps29 rfl fun a q=>?_
 have s:=St.init hR
 have hRL:=RLe.refl (M:=[]) w0 R
 refine zq<|zr ?_
 refine sl_alloc zeroValue49 s q (by decide) rfl rfl fun a w b_1 s q=>?_
 refine za q rfl fun a q=>zn<|zq<|zq<|zr<|zm q rfl fun a q=>zl q (r_len_R underlying28 h0_0 q rfl) fun a q=>zm q rfl fun a q=>zn ?_
 refine wp_block ?_
 refine wp_loop_k (fun k_l0 a w=>∃ (x_19 : Int),schema_Find.l0 a0 a1 k_l0 x_19 = some r ∧ Kn 21 a [(1,.string a1),(4,.pointer (some ⟨b_1,0,none⟩)),(8,v0_0),(9,I6 (a0.length : Int)),(10,I6 x_19)] ∧ St [] w0 w R [.cells b_1 [.string (⟨#[]⟩ : ByteArray),.slice none 0 0,.slice none 0 0] 49]) (((a0.length : Int) - 0).toNat + 1) ?_ ?_
 exact ⟨0,H,q.sub (zc (zc (zc (zc (zc zz))))),s⟩
 rintro k_l0 a w ⟨x_19,H,q,s⟩
 rcases k_l0 with _ | k_l0
 cases H
 rw [schema_Find.l0.eq_2] at H
 refine zq<|zr<|zl q (r_ibin q rfl rfl rfl) fun a q=>zn<|zq ?_
 refine wp_cond_split (q.ev rfl) (fun (hb_37 : (decide (x_19 < (a0.length : Int))) = true)=>?_) fun hb_37=>?_
 rw [ifb_t hb_37] at H
 refine wp_skip<|zq ?_
 refine wp_block ?_
 refine zq<|zr ?_
 obtain ⟨y_38,h_39,H⟩:=bs H
 obtain ⟨b_40,o_41,c_42,cs_43,hv_44,hr_45,hc_46,h_390,h_391⟩:=h0_0.ix h_39
 obtain ⟨v_47,v_49,rfl,hs_48,hs_50⟩:=hr_45
 refine zl q (r_indexAddr_R underlying28 sizeOf49 hv_44 h_390 h_391 q rfl rfl) fun a q=>zl q (r_loadA (cs:=[.string y_38.Name,v_47,v_49]) isAgg49 sizeOf49 rfl q rfl (fun j v hv=>s.sub.cell (hc_46 j v hv))) fun a q=>?_
 refine sl_alloc zeroValue49 s q (by decide) rfl rfl fun a w b_51 s q=>?_
 refine sl_storeA (vs:=[.string y_38.Name,v_47,v_49]) (c':=[.string y_38.Name,v_47,v_49]) sizeOf49 s q rfl rfl rfl rfl (zc (all_cons hs_48.one (all_cons hs_50.one zz))) (Nat.le_of_ble_eq_true rfl) rfl fun a w s q=>?_
 refine zn<|zq<|zr<|zl q (r_fieldAddr underlying49 rfl sizeOf9 q rfl) fun a q=>zl q (r_load isAgg9 q rfl (s.cell z0 rfl)) fun a q=>zm q rfl fun a q=>zl q (r_sbin q rfl rfl rfl) fun a q=>zn ?_
 refine wp_cond_split (q.ev rfl) (fun (hb_52 : (y_38.Name.toList == a1.toList) = true)=>?_) fun hb_52=>?_
 rw [ifb_t hb_52] at H
 refine zq<|zr<|zl q (r_loadA (cs:=[.string y_38.Name,v_47,v_49]) isAgg49 sizeOf49 rfl q rfl (s.cells_of (m:=3) z0 rfl)) fun a q=>?_
 have s:=s.pk1
 refine sl_storeA (vs:=[.string y_38.Name,v_47,v_49]) (c':=[.string y_38.Name,v_47,v_49]) sizeOf49 s q rfl rfl rfl rfl (zc (all_cons hs_48.one (all_cons hs_50.one zz))) (Nat.le_of_ble_eq_true rfl) rfl fun a w s q=>?_
 refine za q rfl fun a q=>zn ?_
 obtain rfl:=Option.some.inj H
 refine wp_ret ?_
 repeat first | refine zt ?_ | refine zb ?_ | refine zo ?_
 exact ret_2 results29 q (rv_cell (c:=[.string y_38.Name,v_47,v_49]) isAgg49 sizeOf49 s z0 rfl q rfl) (rv_tmp q rfl) ⟨_,rfl,_,_,_,rfl,(s.trunc 0),hRL,hs_48,hs_50⟩
 rw [ifb_f hb_52] at H
 refine wp_skip<|zr<|zl q (r_ibin q rfl rfl rfl) fun a q=>zm q rfl fun a q=>zn ?_
 have s:=s.pk1
 exact ⟨_,Nat.lt_succ_self _,(IntKind.i64.wrap (x_19 + 1)),H,q.sub (zc (zc (zc (zc (zc zz))))),s.trunc 1⟩
 rw [ifb_f hb_37] at H
 refine wp_exit ?_
 refine zq<|zr<|zl q (r_buildC (ps:=[]) (c:=[.string (⟨#[]⟩ : ByteArray),.slice none 0 0,.slice none 0 0]) underlying49 zeroValue49 places49 q rfl pc_nil rfl rfl) fun a q=>?_
 refine sl_storeA (vs:=[.string (⟨#[]⟩ : ByteArray),.slice none 0 0,.slice none 0 0]) (c':=[.string (⟨#[]⟩ : ByteArray),.slice none 0 0,.slice none 0 0]) sizeOf49 s q rfl rfl rfl rfl (zc (zc (zc zz))) (Nat.le_of_ble_eq_true rfl) rfl fun a w s q=>?_
 refine za q rfl fun a q=>zn ?_
 obtain rfl:=Option.some.inj H
 refine wp_ret ?_
 repeat first | refine zt ?_ | refine zb ?_ | refine zo ?_
 exact ret_2 results29 q (rv_cell (c:=[.string (⟨#[]⟩ : ByteArray),.slice none 0 0,.slice none 0 0]) isAgg49 sizeOf49 s z0 rfl q rfl) (rv_tmp q rfl) ⟨_,rfl,_,_,_,rfl,(s.trunc 0),hRL,SlR.nil _ _,SlR.nil _ _⟩
theorem schema_fit_1.calls (a0 : api_Value) (a1 : api_Col) {r : Bool} (H : schema_fit_1 a0 a1 = some r) (w0 : World) : CallsV prog 77 #[.agg ⟨cV a0⟩,.agg #[.string a1.Name,I6 a1.Kind]] w0 (.bool r):=by
 unfold schema_fit_1 at H
 refine enter (args:=[.agg ⟨cV a0⟩,.agg #[.string a1.Name,I6 a1.Kind]]) func77 rfl ntmps77 rfl fun a q=>?_
 have s:=St.init (R:=fun _=>none) (w:=w0) (fun _ _ h=>by cases h)
 have hRL:=RLe.refl (M:=[]) w0 (fun _=>none)
 refine zq<|zr ?_
 refine sl_box s q (by decide) rfl rfl (c:=(cV a0)) rfl fun a w b_1 s q=>?_
 refine sl_box s q (by decide) rfl rfl (c:=[.string a1.Name,I6 a1.Kind]) rfl fun a w b_2 s q=>?_
 refine za q rfl fun a q=>zn<|zq<|zr<|zl q (r_fieldAddr underlying58 rfl sizeOf3 q rfl) fun a q=>zl q (r_load isAgg3 q rfl (s.cell z1 rfl)) fun a q=>zl q (r_fieldAddr underlying65 rfl sizeOf3 q rfl) fun a q=>zl q (r_load isAgg3 q rfl (s.cell z0 rfl)) fun a q=>zl q (r_ibin q rfl rfl rfl) fun a q=>zm q rfl fun a q=>?_
 rcases or_b (a0.Kind == a1.Kind) with hb_3 | hb_3
 rw [ifb_t hb_3] at H
 refine zw q (wtt hb_3) (r_loadA (cs:=(cV a0)) isAgg58 sizeOf58 rfl q rfl (s.cells_of (m:=11) z1 rfl)) fun a q=>?_
 obtain ⟨y_4,h_5,H⟩:=bs H
 refine sl_callV call52 s q (by decide) (wtt hb_3) rfl rfl (value_Valid.calls a0 h_5 _) fun a w s q=>?_
 refine zl q (r_pick_t hb_3 q rfl rfl) fun a q=>za q rfl fun a q=>zn ?_
 obtain rfl:=Option.some.inj H
 refine wp_ret ?_
 repeat first | refine zt ?_ | refine zb ?_ | refine zo ?_
 exact ret_1 results77 q (rv_tmp q rfl) ⟨rfl,s.bel⟩
 rw [ifb_f hb_3] at H
 refine zsw q (wtf hb_3) fun a q=>zsw q (wtf hb_3) fun a q=>zl q (r_pick_f hb_3 q rfl rfl) fun a q=>za q rfl fun a q=>zn ?_
 obtain rfl:=Option.some.inj H
 refine wp_ret ?_
 repeat first | refine zt ?_ | refine zb ?_ | refine zo ?_
 exact ret_1 results77 q (rv_tmp q rfl) ⟨rfl,s.bel⟩
theorem slices_EqualFunc_api_Value_api_Col_api_Value_api_Col_f_schema_fit_1.calls (a0 : List api_Value) (a1 : List api_Col) {w0 : World} {RA : Hp} {v0_0 : Value} {v1_0 : Value} (hRA : RA.sub w0) (h0_0 : SlR ty_api_Value RA v0_0 a0) (h1_0 : SlR ty_api_Col RA v1_0 a1) {r : Bool} (H : slices_EqualFunc_api_Value_api_Col_api_Value_api_Col_f_schema_fit_1 a0 a1 = some r) : CallsV prog 76 #[v0_0,v1_0,.func (.func 77) #[] #[]] w0 (.bool r):=by
 unfold slices_EqualFunc_api_Value_api_Col_api_Value_api_Col_f_schema_fit_1 at H
 refine enter (args:=[v0_0,v1_0,.func (.func 77) #[] #[]]) func76 rfl ntmps76 rfl fun a q=>?_
 have s:=St.init (R:=fun _=>none) (w:=w0) (fun _ _ h=>by cases h)
 have hRL:=RLe.refl (M:=[]) w0 (fun _=>none)
 refine zq<|zr<|za q rfl fun a q=>zn<|zq<|zq<|zr<|zm q rfl fun a q=>zl q (r_len_R underlying31 h0_0 q rfl) fun a q=>zm q rfl fun a q=>zl q (r_len_R underlying38 h1_0 q rfl) fun a q=>zl q (r_ibin q rfl rfl rfl) fun a q=>zn ?_
 refine wp_cond_split (q.ev rfl) (fun (hb_1 : ((a0.length : Int) != (a1.length : Int)) = true)=>?_) fun hb_1=>?_
 rw [ifb_t hb_1] at H
 refine zq<|zr<|za q rfl fun a q=>zn ?_
 obtain rfl:=Option.some.inj H
 refine wp_ret ?_
 repeat first | refine zt ?_ | refine zb ?_ | refine zo ?_
 exact ret_1 results76 q (rv_tmp q rfl) ⟨rfl,s.bel⟩
 rw [ifb_f hb_1] at H
 refine wp_skip<|zq<|zq<|zr<|zm q rfl fun a q=>zl q (r_len_R underlying31 h0_0 q rfl) fun a q=>zm q rfl fun a q=>zn ?_
 refine wp_block ?_
 refine wp_loop_k (fun k_l0 a w=>∃ (x_27 : Int),slices_EqualFunc_api_Value_api_Col_api_Value_api_Col_f_schema_fit_1.l0 a0 a1 k_l0 x_27 = some r ∧ Kn 32 a [(1,v1_0),(2,.func (.func 77) #[] #[]),(15,v0_0),(16,I6 (a0.length : Int)),(17,I6 x_27)] ∧ St [] w0 w (fun _=>none) []) (((a0.length : Int) - 0).toNat + 1) ?_ ?_
 exact ⟨0,H,q.sub (zc (zc (zc (zc (zc zz))))),s⟩
 rintro k_l0 a w ⟨x_27,H,q,s⟩
 rcases k_l0 with _ | k_l0
 cases H
 rw [slices_EqualFunc_api_Value_api_Col_api_Value_api_Col_f_schema_fit_1.l0.eq_2] at H
 refine zq<|zr<|zl q (r_ibin q rfl rfl rfl) fun a q=>zn<|zq ?_
 refine wp_cond_split (q.ev rfl) (fun (hb_53 : (decide (x_27 < (a0.length : Int))) = true)=>?_) fun hb_53=>?_
 rw [ifb_t hb_53] at H
 refine wp_skip<|zq ?_
 refine wp_block ?_
 refine zq<|zr<|zm q rfl fun a q=>?_
 obtain ⟨y_54,h_55,H⟩:=bs H
 obtain ⟨b_56,o_57,c_58,cs_59,hv_60,hr_61,hc_62,h_550,h_551⟩:=h0_0.ix h_55
 subst hr_61
 refine zl q (r_indexAddr_R underlying31 sizeOf58 hv_60 h_550 h_551 q rfl rfl) fun a q=>zl q (r_loadA (cs:=(cV y_54)) isAgg58 sizeOf58 rfl q rfl (fun j v hv=>(s.ra hRA nil_not).cell (hc_62 j v hv))) fun a q=>?_
 refine sl_alloc zeroValue58 s q (by decide) rfl rfl fun a w b_63 s q=>?_
 refine za q rfl fun a q=>?_
 refine sl_storeA (vs:=(cV y_54)) (c':=(cV y_54)) sizeOf58 s q rfl rfl rfl rfl (zc (zc (zc (zc (zc (zc (zc (zc (zc (zc (zc zz))))))))))) (Nat.le_of_ble_eq_true rfl) rfl fun a w s q=>?_
 refine zn<|zq<|zr<|zm q rfl fun a q=>zm q rfl fun a q=>?_
 obtain ⟨y_64,h_65,H⟩:=bs H
 obtain ⟨b_66,o_67,c_68,cs_69,hv_70,hr_71,hc_72,h_650,h_651⟩:=h1_0.ix h_65
 subst hr_71
 refine zl q (r_indexAddr_R underlying38 sizeOf65 hv_70 h_650 h_651 q rfl rfl) fun a q=>zl q (r_loadA (cs:=[.string y_64.Name,I6 y_64.Kind]) isAgg65 sizeOf65 rfl q rfl (fun j v hv=>(s.ra hRA nil_not).cell (hc_72 j v hv))) fun a q=>?_
 refine sl_alloc zeroValue65 s q (by decide) rfl rfl fun a w b_73 s q=>?_
 refine sl_storeA (vs:=[.string y_64.Name,I6 y_64.Kind]) (c':=[.string y_64.Name,I6 y_64.Kind]) sizeOf65 s q rfl rfl rfl rfl (zc (zc zz)) (Nat.le_of_ble_eq_true rfl) rfl fun a w s q=>?_
 refine zn<|zq<|zr<|zm q rfl fun a q=>zl q (r_loadA (cs:=(cV y_54)) isAgg58 sizeOf58 rfl q rfl (s.cells_of (m:=11) z1 rfl)) fun a q=>zl q (r_loadA (cs:=[.string y_64.Name,I6 y_64.Kind]) isAgg65 sizeOf65 rfl q rfl (s.cells_of (m:=2) z0 rfl)) fun a q=>?_
 obtain ⟨y_74,h_75,H⟩:=bs H
 refine sl_callV call77 s q (by decide) rfl rfl rfl (schema_fit_1.calls y_54 y_64 h_75 _) fun a w s q=>?_
 refine zl q (r_un q rfl (u_not _)) fun a q=>zn ?_
 refine wp_cond_split (q.ev rfl) (fun (hb_76 : (!y_74) = true)=>?_) fun hb_76=>?_
 rw [ifb_t hb_76] at H
 refine zq<|zr<|za q rfl fun a q=>zn ?_
 obtain rfl:=Option.some.inj H
 refine wp_ret ?_
 repeat first | refine zt ?_ | refine zb ?_ | refine zo ?_
 exact ret_1 results76 q (rv_tmp q rfl) ⟨rfl,s.bel⟩
 rw [ifb_f hb_76] at H
 refine wp_skip<|zr<|zl q (r_ibin q rfl rfl rfl) fun a q=>zm q rfl fun a q=>zn ?_
 exact ⟨_,Nat.lt_succ_self _,(IntKind.i64.wrap (x_27 + 1)),H,q.sub (zc (zc (zc (zc (zc zz))))),s.trunc 0⟩
 rw [ifb_f hb_53] at H
 refine wp_exit ?_
 refine zq<|zr<|za q rfl fun a q=>zn ?_
 obtain rfl:=Option.some.inj H
 refine wp_ret ?_
 repeat first | refine zt ?_ | refine zb ?_ | refine zo ?_
 exact ret_1 results76 q (rv_tmp q rfl) ⟨rfl,s.bel⟩
theorem schema_fit.calls (a0 : List api_Value) (a1 : List api_Col) {w0 : World} {RA : Hp} {v0_0 : Value} {v1_0 : Value} (hRA : RA.sub w0) (h0_0 : SlR ty_api_Value RA v0_0 a0) (h1_0 : SlR ty_api_Col RA v1_0 a1) {r : Bool} (H : schema_fit a0 a1 = some r) : CallsV prog 49 #[v0_0,v1_0] w0 (.bool r):=by
 unfold schema_fit at H
 refine enter (args:=[v0_0,v1_0]) func49 rfl ntmps49 rfl fun a q=>?_
 have s:=St.init (R:=fun _=>none) (w:=w0) (fun _ _ h=>by cases h)
 have hRL:=RLe.refl (M:=[]) w0 (fun _=>none)
 refine zq<|zr<|za q rfl fun a q=>zn<|zq<|zr<|zm q rfl fun a q=>zm q rfl fun a q=>?_
 obtain ⟨y_1,h_2,H⟩:=bs H
 refine sl_callV call76 s q (by decide) rfl rfl rfl (slices_EqualFunc_api_Value_api_Col_api_Value_api_Col_f_schema_fit_1.calls a0 a1 (lentOf_sub [] _) (h0_0.mono (s.raLe0 hRA nil_not)) (h1_0.mono (s.raLe0 hRA nil_not)) h_2) fun a w s q=>?_
 refine za q rfl fun a q=>zn ?_
 obtain rfl:=Option.some.inj H
 refine wp_ret ?_
 repeat first | refine zt ?_ | refine zb ?_ | refine zo ?_
 exact ret_1 results49 q (rv_tmp q rfl) ⟨rfl,s.bel⟩
theorem schema_Fits.calls (a0 : List api_Schema) (a1 : api_Point) {w0 : World} {R : Hp} {RA : Hp} {v0_0 : Value} {v1_0 : Value} {v1_1 : Value} (hRA : RA.sub w0) (hR : R.sub w0) (h0_0 : SlR ty_api_Schema R v0_0 a0) (h1_0 : SlR ty_api_Value RA v1_0 a1.Keys) (h1_1 : SlR ty_api_Value RA v1_1 a1.Vals) {r : Int} (H : schema_Fits a0 a1 = some r) : CallsV prog 23 #[v0_0,.agg #[.string a1.Schema,v1_0,I6 a1.Time,v1_1]] w0 (I6 r):=by
 unfold schema_Fits at H
 refine enter (args:=[v0_0,.agg #[.string a1.Schema,v1_0,I6 a1.Time,v1_1]]) func23 rfl ntmps23 rfl fun a q=>?_
 have s:=St.init hR
 have hRL:=RLe.refl (M:=[]) w0 R
 refine zq<|zr ?_
 refine sl_box s q (by decide) rfl rfl (c:=[.string a1.Schema,v1_0,I6 a1.Time,v1_1]) rfl fun a w b_1 s q=>?_
 refine za q rfl fun a q=>zn<|zq<|zr<|zm q rfl fun a q=>zl q (r_fieldAddr underlying33 rfl sizeOf9 q rfl) fun a q=>zl q (r_load isAgg9 q rfl (s.cell z0 rfl)) fun a q=>?_
 obtain ⟨y_2,h_3,H⟩:=bs H
 refine sl_call call29 q (by decide) rfl rfl rfl (schema_Find.calls a0 a1.Schema s.sub h0_0 h_3) fun a v_ w hv_ q=>?_
 obtain ⟨R_4,v_6,v_8,hv_,hr_,hl_5,hs_7,hs_9⟩:=hv_
 have hv_:=hv_.symm
 subst hv_
 obtain ⟨s,hl_5⟩:=s.sp0.back hr_ hl_5
 have s:=s.un0
 have hRL:=hRL.trans hl_5
 refine zm q rfl fun a q=>zl q (r_extract q rfl rfl) fun a q=>zl q (r_extract q rfl rfl) fun a q=>?_
 refine sl_alloc zeroValue49 s q (by decide) rfl rfl fun a w b_10 s q=>?_
 refine sl_storeA (vs:=[.string y_2.1.Name,v_6,v_8]) (c':=[.string y_2.1.Name,v_6,v_8]) sizeOf49 s q rfl rfl rfl rfl (zc (all_cons hs_7.one (all_cons hs_9.one zz))) (Nat.le_of_ble_eq_true rfl) rfl fun a w s q=>?_
 refine za q rfl fun a q=>zn<|zq ?_
 refine wp_block ?_
 refine zq<|zr<|zm q rfl fun a q=>zl q (r_un q rfl (u_not _)) fun a q=>za q rfl fun a q=>zn ?_
 refine wp_cond_split (q.ev rfl) (fun (hb_11 : (!y_2.2) = true)=>?_) fun hb_11=>?_
 rw [ifb_t hb_11] at H
 refine zq<|zr<|za q rfl fun a q=>zn ?_
 obtain rfl:=Option.some.inj H
 refine wp_ret ?_
 repeat first | refine zt ?_ | refine zb ?_ | refine zo ?_
 exact ret_1 results23 q (rv_tmp q rfl) ⟨rfl,s.bel⟩
 rw [ifb_f hb_11] at H
 refine zq<|zq<|zr<|zl q (r_fieldAddr underlying33 rfl sizeOf31 q rfl) fun a q=>zl q (r_load isAgg31 q rfl (s.cell z1 rfl)) fun a q=>zl q (r_fieldAddr underlying49 rfl sizeOf38 q rfl) fun a q=>zl q (r_load isAgg38 q rfl (s.cell z0 rfl)) fun a q=>?_
 obtain ⟨y_12,h_13,H⟩:=bs H
 refine sl_callV call49 s q (by decide) rfl rfl rfl (schema_fit.calls a1.Keys y_2.1.Keys (lentOf_sub [] _) (h1_0.mono (s.raLe0 hRA nil_not)) (hs_7.mono s.rLe0) h_13) fun a w s q=>?_
 refine zl q (r_un q rfl (u_not _)) fun a q=>za q rfl fun a q=>zn ?_
 refine wp_mid (fun a w=>∃ (x_29 : Bool),schema_Fits.j0 x_29 = some r ∧ Kn 36 a [(17,.bool x_29)] ∧ St [] w0 w R_4 []) ?_ ?_
 refine wp_cond_split (q.ev rfl) (fun (hb_31 : (!y_12) = true)=>?_) fun hb_31=>?_
 rw [ifb_t hb_31] at H
 refine wp_skip ?_
 exact ⟨(!y_12),H,q.sub (zc zz),s.trunc 0⟩
 rw [ifb_f hb_31] at H
 refine zq<|zr<|zl q (r_fieldAddr underlying33 rfl sizeOf31 q rfl) fun a q=>zl q (r_load isAgg31 q rfl (s.cell z1 rfl)) fun a q=>zl q (r_fieldAddr underlying49 rfl sizeOf38 q rfl) fun a q=>zl q (r_load isAgg38 q rfl (s.cell z0 rfl)) fun a q=>?_
 obtain ⟨y_32,h_33,H⟩:=bs H
 refine sl_callV call49 s q (by decide) rfl rfl rfl (schema_fit.calls a1.Vals y_2.1.Vals (lentOf_sub [] _) (h1_1.mono (s.raLe0 hRA nil_not)) (hs_9.mono s.rLe0) h_33) fun a w s q=>?_
 refine zl q (r_un q rfl (u_not _)) fun a q=>za q rfl fun a q=>zn ?_
 refine wp_mid (fun a w=>∃ (x_39 : Bool),schema_Fits.j1 x_39 = some r ∧ Kn 36 a [(17,.bool x_39)] ∧ St [] w0 w R_4 []) ?_ ?_
 refine wp_cond_split (q.ev rfl) (fun (hb_41 : (!y_32) = true)=>?_) fun hb_41=>?_
 rw [ifb_t hb_41] at H
 refine wp_skip ?_
 exact ⟨(!y_32),H,q.sub (zc zz),s.trunc 0⟩
 rw [ifb_f hb_41] at H
 refine zq<|zr<|zl q (r_fieldAddr underlying33 rfl sizeOf3 q rfl) fun a q=>zl q (r_load isAgg3 q rfl (s.cell z1 rfl)) fun a q=>zl q (r_ibin q rfl rfl rfl) fun a q=>za q rfl fun a q=>zn ?_
 refine wp_mid (fun a w=>∃ (x_43 : Bool),schema_Fits.j2 x_43 = some r ∧ Kn 36 a [(17,.bool x_43)] ∧ St [] w0 w R_4 []) ?_ ?_
 refine wp_cond_split (q.ev rfl) (fun (hb_45 : (decide (a1.Time < 0)) = true)=>?_) fun hb_45=>?_
 rw [ifb_t hb_45] at H
 refine wp_skip ?_
 exact ⟨(decide (a1.Time < 0)),H,q.sub (zc zz),s.trunc 0⟩
 rw [ifb_f hb_45] at H
 refine zr<|zl q (r_fieldAddr underlying33 rfl sizeOf3 q rfl) fun a q=>zl q (r_load isAgg3 q rfl (s.cell z1 rfl)) fun a q=>zl q (r_ibin q rfl rfl rfl) fun a q=>za q rfl fun a q=>zn ?_
 exact ⟨(decide (a1.Time ≥ 1099511627776)),H,q.sub (zc zz),s.trunc 0⟩
 rintro a w ⟨x_43,H,q,s⟩
 unfold schema_Fits.j2 at H
 exact ⟨x_43,H,q.sub (zc zz),s⟩
 rintro a w ⟨x_39,H,q,s⟩
 unfold schema_Fits.j1 at H
 exact ⟨x_39,H,q.sub (zc zz),s⟩
 rintro a w ⟨x_29,H,q,s⟩
 unfold schema_Fits.j0 at H
 refine wp_cond_split (q.ev rfl) (fun (hb_46 : x_29 = true)=>?_) fun hb_46=>?_
 rw [ifb_t hb_46] at H
 refine zq<|zr<|za q rfl fun a q=>zn ?_
 obtain rfl:=Option.some.inj H
 refine wp_ret ?_
 repeat first | refine zt ?_ | refine zb ?_ | refine zo ?_
 exact ret_1 results23 q (rv_tmp q rfl) ⟨rfl,s.bel⟩
 rw [ifb_f hb_46] at H
 refine wp_skip<|zq<|zr<|za q rfl fun a q=>zn ?_
 obtain rfl:=Option.some.inj H
 refine wp_ret ?_
 repeat first | refine zt ?_ | refine zb ?_ | refine zo ?_
 exact ret_1 results23 q (rv_tmp q rfl) ⟨rfl,s.bel⟩
theorem streams_Dict_Find_1.calls (a0 : api_Value) {r : Bool} (H : streams_Dict_Find_1 a0 = some r) (w0 : World) : CallsV prog 51 #[.agg ⟨cV a0⟩] w0 (.bool r):=by
 unfold streams_Dict_Find_1 at H
 refine enter (args:=[.agg ⟨cV a0⟩]) func51 rfl ntmps51 rfl fun a q=>?_
 have s:=St.init (R:=fun _=>none) (w:=w0) (fun _ _ h=>by cases h)
 have hRL:=RLe.refl (M:=[]) w0 (fun _=>none)
 refine zq<|zr ?_
 refine sl_box s q (by decide) rfl rfl (c:=(cV a0)) rfl fun a w b_1 s q=>?_
 refine za q rfl fun a q=>zn<|zq<|zr<|zl q (r_loadA (cs:=(cV a0)) isAgg58 sizeOf58 rfl q rfl (s.cells_of (m:=11) z0 rfl)) fun a q=>?_
 obtain ⟨y_2,h_3,H⟩:=bs H
 refine sl_callV call52 s q (by decide) rfl rfl rfl (value_Valid.calls a0 h_3 _) fun a w s q=>?_
 refine zl q (r_un q rfl (u_not _)) fun a q=>za q rfl fun a q=>zn ?_
 obtain rfl:=Option.some.inj H
 refine wp_ret ?_
 repeat first | refine zt ?_ | refine zb ?_ | refine zo ?_
 exact ret_1 results51 q (rv_tmp q rfl) ⟨rfl,s.bel⟩
theorem slices_IndexFunc_api_Value_api_Value_f_streams_Dict_Find_1.calls (a0 : List api_Value) {w0 : World} {RA : Hp} {v0_0 : Value} (hRA : RA.sub w0) (h0_0 : SlR ty_api_Value RA v0_0 a0) {r : Int} (H : slices_IndexFunc_api_Value_api_Value_f_streams_Dict_Find_1 a0 = some r) : CallsV prog 78 #[v0_0,.func (.func 51) #[] #[]] w0 (I6 r):=by
 unfold slices_IndexFunc_api_Value_api_Value_f_streams_Dict_Find_1 at H
 refine enter (args:=[v0_0,.func (.func 51) #[] #[]]) func78 rfl ntmps78 rfl fun a q=>?_
 have s:=St.init (R:=fun _=>none) (w:=w0) (fun _ _ h=>by cases h)
 have hRL:=RLe.refl (M:=[]) w0 (fun _=>none)
 refine zq<|zr<|za q rfl fun a q=>zn<|zq<|zq<|zr<|zm q rfl fun a q=>zl q (r_len_R underlying31 h0_0 q rfl) fun a q=>zm q rfl fun a q=>zn ?_
 refine wp_block ?_
 refine wp_loop_k (fun k_l0 a w=>∃ (x_15 : Int),slices_IndexFunc_api_Value_api_Value_f_streams_Dict_Find_1.l0 a0 k_l0 x_15 = some r ∧ Kn 19 a [(0,v0_0),(1,.func (.func 51) #[] #[]),(7,I6 (a0.length : Int)),(8,I6 x_15)] ∧ St [] w0 w (fun _=>none) []) (((a0.length : Int) - 0).toNat + 1) ?_ ?_
 exact ⟨0,H,q.sub (zc (zc (zc (zc zz)))),s⟩
 rintro k_l0 a w ⟨x_15,H,q,s⟩
 rcases k_l0 with _ | k_l0
 cases H
 rw [slices_IndexFunc_api_Value_api_Value_f_streams_Dict_Find_1.l0.eq_2] at H
 refine zq<|zr<|zl q (r_ibin q rfl rfl rfl) fun a q=>zn<|zq ?_
 refine wp_cond_split (q.ev rfl) (fun (hb_30 : (decide (x_15 < (a0.length : Int))) = true)=>?_) fun hb_30=>?_
 rw [ifb_t hb_30] at H
 refine wp_skip<|zq ?_
 refine wp_block ?_
 refine zq<|zr<|zm q rfl fun a q=>za q rfl fun a q=>zn<|zq<|zr<|zm q rfl fun a q=>zm q rfl fun a q=>zm q rfl fun a q=>?_
 obtain ⟨y_31,h_32,H⟩:=bs H
 obtain ⟨b_33,o_34,c_35,cs_36,hv_37,hr_38,hc_39,h_320,h_321⟩:=h0_0.ix h_32
 subst hr_38
 refine zl q (r_indexAddr_R underlying31 sizeOf58 hv_37 h_320 h_321 q rfl rfl) fun a q=>zl q (r_loadA (cs:=(cV y_31)) isAgg58 sizeOf58 rfl q rfl (fun j v hv=>(s.ra hRA nil_not).cell (hc_39 j v hv))) fun a q=>?_
 obtain ⟨y_40,h_41,H⟩:=bs H
 refine sl_callV call51 s q (by decide) rfl rfl rfl (streams_Dict_Find_1.calls y_31 h_41 _) fun a w s q=>?_
 refine zn ?_
 refine wp_cond_split (q.ev rfl) (fun (hb_42 : y_40 = true)=>?_) fun hb_42=>?_
 rw [ifb_t hb_42] at H
 refine zq<|zr<|zm q rfl fun a q=>za q rfl fun a q=>zn ?_
 obtain rfl:=Option.some.inj H
 refine wp_ret ?_
 repeat first | refine zt ?_ | refine zb ?_ | refine zo ?_
 exact ret_1 results78 q (rv_tmp q rfl) ⟨rfl,s.bel⟩
 rw [ifb_f hb_42] at H
 refine wp_skip<|zr<|zl q (r_ibin q rfl rfl rfl) fun a q=>zm q rfl fun a q=>zn ?_
 exact ⟨_,Nat.lt_succ_self _,(IntKind.i64.wrap (x_15 + 1)),H,q.sub (zc (zc (zc (zc zz)))),s⟩
 rw [ifb_f hb_30] at H
 refine wp_exit ?_
 refine zq<|zr<|za q rfl fun a q=>zn ?_
 obtain rfl:=Option.some.inj H
 refine wp_ret ?_
 repeat first | refine zt ?_ | refine zb ?_ | refine zo ?_
 exact ret_1 results78 q (rv_tmp q rfl) ⟨rfl,s.bel⟩
theorem slices_ContainsFunc_api_Value_api_Value_f_streams_Dict_Find_1.calls (a0 : List api_Value) {w0 : World} {RA : Hp} {v0_0 : Value} (hRA : RA.sub w0) (h0_0 : SlR ty_api_Value RA v0_0 a0) {r : Bool} (H : slices_ContainsFunc_api_Value_api_Value_f_streams_Dict_Find_1 a0 = some r) : CallsV prog 50 #[v0_0,.func (.func 51) #[] #[]] w0 (.bool r):=by
 unfold slices_ContainsFunc_api_Value_api_Value_f_streams_Dict_Find_1 at H
 refine enter (args:=[v0_0,.func (.func 51) #[] #[]]) func50 rfl ntmps50 rfl fun a q=>?_
 have s:=St.init (R:=fun _=>none) (w:=w0) (fun _ _ h=>by cases h)
 have hRL:=RLe.refl (M:=[]) w0 (fun _=>none)
 refine zq<|zr<|za q rfl fun a q=>zn<|zq<|zr<|zm q rfl fun a q=>zm q rfl fun a q=>?_
 obtain ⟨y_1,h_2,H⟩:=bs H
 refine sl_callV call78 s q (by decide) rfl rfl rfl (slices_IndexFunc_api_Value_api_Value_f_streams_Dict_Find_1.calls a0 (lentOf_sub [] _) (h0_0.mono (s.raLe0 hRA nil_not)) h_2) fun a w s q=>?_
 refine zl q (r_ibin q rfl rfl rfl) fun a q=>za q rfl fun a q=>zn ?_
 obtain rfl:=Option.some.inj H
 refine wp_ret ?_
 repeat first | refine zt ?_ | refine zb ?_ | refine zo ?_
 exact ret_1 results50 q (rv_tmp q rfl) ⟨rfl,s.bel⟩
set_option maxHeartbeats 4000000 in
set_option maxRecDepth 100000 in
theorem strconv_Itoa.calls (a0 : Int) {w0 : World} {RA : Hp} (hRA : RA.sub w0) (hG : GF RA) {r : ByteArray} (H : strconv_Itoa a0 = some r) : CallsV Tryz.prog 79 #[.int .i64 a0] w0 (.string r) := by
  unfold strconv_Itoa at H
  split at H
  · rename_i hs
    obtain rfl := Option.some.inj H
    exact (Any.strconv_Itoa itoL79 a0 hs.1 hs.2 w0 (GF_pow10 hG hRA)).mono fun e w' ⟨he, k, os, hw⟩ => ⟨he, by subst hw; exact Bel.of_grow _ _ _⟩
  · cases H
theorem slices_Clone_byte_byte.calls (a0 : List Int) {w0 : World} {R : Hp} {RA : Hp} {v0_0 : Value} (hRA : RA.sub w0) (hR : R.sub w0) (h0_0 : SlR (tyInt .u8) RA v0_0 a0) {r : List Int} (H : slices_Clone_byte_byte a0 = some r) : Calls prog 101 #[v0_0] w0 (Rets fun v w'=>∃ (R' : Hp) (u0 : Value) (cu0 : List Value),v = u0 ∧ St [] w0 w' R' [.row 5 1 u0 r.length cu0] ∧ RLe [] w0 R R' ∧ Reps (tyInt .u8) R' cu0 r):=by
 unfold slices_Clone_byte_byte at H
 rcases SlR.nilcase h0_0 with ⟨hn,hx⟩ | ⟨ad_,m_,c_,hn⟩
 subst hx
 have H : some ([] : List Int) = some r:=by simpa [apd] using H
 refine enter (args:=[v0_0]) func101 rfl ntmps101 rfl fun a q=>?_
 have s:=St.init hR
 have hRL:=RLe.refl (M:=[]) w0 R
 refine zq<|zr<|za q rfl fun a q=>zn<|zq<|zq<|zr<|zm q rfl fun a q=>zl q (r_sleqN underlying35 hn q rfl rfl) fun a q=>zn ?_
 refine wp_cond_true (q.ev rfl) ?_
 refine zq<|zr<|za q rfl fun a q=>zn ?_
 have s:=s.row_nil 5 1
 have hq_11 : Reps (tyInt .u8) R [] ([] : List Int):=Reps.nil _ _
 obtain rfl:=Option.some.inj H
 refine wp_ret ?_
 repeat first | refine zt ?_ | refine zb ?_ | refine zo ?_
 exact ret_1 results101 q (rv_tmp q rfl) ⟨_,rfl,_,_,_,rfl,s,hRL,hq_11⟩
 refine enter (args:=[v0_0]) func101 rfl ntmps101 rfl fun a q=>?_
 have s:=St.init hR
 have hRL:=RLe.refl (M:=[]) w0 R
 refine zq<|zr<|za q rfl fun a q=>zn<|zq<|zq<|zr<|zm q rfl fun a q=>zl q (r_sleqS underlying35 hn q rfl rfl) fun a q=>zn ?_
 refine wp_cond_false (q.ev rfl) ?_
 refine wp_skip<|zq<|zr ?_
 refine sl_buildSliceC (zc:=[.int .u8 0]) (zs:=[]) (ps:=[]) (c:=[]) underlying35 sizeOf5 zeroValue5 rfl pc_nil rfl rfl (by decide) (by kernel_rfl) rfl s q (by decide) rfl fun a w b_1 s q=>?_
 refine zm q rfl fun a q=>?_
 obtain ⟨y_4,h_5,H⟩:=bs H
 have s:=s.row_lit (size:=1) (m:=0) rfl (by decide)
 have hq_3 : Reps (tyInt .u8) R [] ([] : List Int):=(Reps.nil _ _)
 refine sl_append_A elT35 (by decide) rfl (fun _ _ _ _ h=>h) (s.ra hRA nil_not) hq_3 rfl h0_0 h_5 s q (by decide) rfl rfl rfl fun a w v_6 cs_7 hq_8 s q=>?_
 refine za q rfl fun a q=>zn ?_
 obtain rfl:=Option.some.inj H
 refine wp_ret ?_
 repeat first | refine zt ?_ | refine zb ?_ | refine zo ?_
 exact ret_1 results101 q (rv_tmp q rfl) ⟨_,rfl,_,_,_,rfl,s,hRL,hq_8⟩
theorem wire_big.calls (a0 : List Int) (a1 : Int) (a2 : Int) {w0 : World} {R : Hp} {M : List Own} {v0_0 : Value} {cs0_0 : List Value} (hS0 : St M w0 w0 R [.row 5 1 v0_0 a0.length cs0_0]) (h0_0 : Reps (tyInt .u8) R cs0_0 a0) {r : List Int} (H : wire_big a0 a1 a2 = some r) : Calls prog 120 #[v0_0,I6 a1,I6 a2] w0 (Rets fun v w'=>∃ (R' : Hp) (u0 : Value) (cu0 : List Value),v = u0 ∧ St M w0 w' R' [.row 5 1 u0 r.length cu0] ∧ RLe M w0 R R' ∧ Reps (tyInt .u8) R' cu0 r):=by
 unfold wire_big at H
 refine enter (args:=[v0_0,I6 a1,I6 a2]) func120 rfl ntmps120 rfl fun a q=>?_
 have s:=hS0
 have hRL:=RLe.refl (M:=M) w0 R
 refine zq<|zr<|za q rfl fun a q=>zn<|zq<|zq<|zr<|zm q rfl fun a q=>zl q (r_ibin q rfl rfl rfl) fun a q=>za q rfl fun a q=>zn ?_
 refine wp_block ?_
 refine wp_loop_k (fun k_l0 a w=>∃ (x_12 : List Int) (x_16 : Int) (v_13 : Value) (cs_14 : List Value),wire_big.l0 a1 a2 k_l0 x_12 x_16 = some r ∧ Reps (tyInt .u8) R cs_14 x_12 ∧ Kn 23 a [(0,v_13),(1,I6 a1),(7,I6 x_16)] ∧ St M w0 w R [.row 5 1 v_13 x_12.length cs_14]) (((IntKind.i64.wrap (a2 - 1)) - 0).toNat + 2) ?_ ?_
 exact ⟨a0,(IntKind.i64.wrap (a2 - 1)),_,_,H,h0_0,q.sub (zc (zc (zc zz))),s⟩
 rintro k_l0 a w ⟨x_12,x_16,v_13,cs_14,H,hq_15,q,s⟩
 rcases k_l0 with _ | k_l0
 cases H
 rw [wire_big.l0.eq_2] at H
 refine zq<|zq<|zr<|zm q rfl fun a q=>zl q (r_ibin q rfl rfl rfl) fun a q=>zn ?_
 refine wp_cond_split (q.ev rfl) (fun (hb_27 : (decide (x_16 ≥ 0)) = true)=>?_) fun hb_27=>?_
 rw [ifb_t hb_27] at H
 refine wp_skip<|zq ?_
 refine wp_block ?_
 refine zr<|zm q rfl fun a q=>zm q rfl fun a q=>zm q rfl fun a q=>zl q (r_ibin q rfl rfl rfl) fun a q=>?_
 rcases or_b (decide (0 ≤ (IntKind.i64.wrap (8 * x_16)))) with hn_28 | hn_28
 rw [ifb_t hn_28] at H
 refine zl q (r_shr q rfl rfl (of_decide_eq_true hn_28)) fun a q=>zl q (r_conv underlying3 underlying5 q rfl) fun a q=>?_
 refine sl_buildSliceF (zc:=[.int .u8 0]) (ps:=[(0,.int .u8 (IntKind.u8.wrap (a1.fdiv (2 ^ (min (IntKind.i64.wrap (8 * x_16)).toNat 64)))))]) (c:=[.int .u8 (IntKind.u8.wrap (a1.fdiv (2 ^ (min (IntKind.i64.wrap (8 * x_16)).toNat 64))))]) [[.int .u8 (IntKind.u8.wrap (a1.fdiv (2 ^ (min (IntKind.i64.wrap (8 * x_16)).toNat 64))))]] underlying35 sizeOf5 zeroValue5 rfl (pc_cons rfl pc_nil) rfl rfl (Nat.le_of_ble_eq_true rfl) rfl (zc zz) rfl s q (by decide) rfl fun a w b_29 s q=>?_
 obtain ⟨y_30,h_31,H⟩:=bs H
 have s:=s.pk1
 refine sl_append_L (ty:=(tyInt .u8)) (ys:=[IntKind.u8.wrap (a1.fdiv (2 ^ (min (IntKind.i64.wrap (8 * x_16)).toNat 64)))]) elT35 (by decide) rfl hq_15 rfl (Reps.cons (show Ty.rep (tyInt .u8) _ [.int .u8 (IntKind.u8.wrap (a1.fdiv (2 ^ (min (IntKind.i64.wrap (8 * x_16)).toNat 64))))] (IntKind.u8.wrap (a1.fdiv (2 ^ (min (IntKind.i64.wrap (8 * x_16)).toNat 64)))) from rfl) (Reps.nil _ _)) rfl h_31 s q (by decide) rfl rfl rfl fun a w v_32 cs_33 hq_34 s q=>?_
 refine za q rfl fun a q=>zn<|zr<|zm q rfl fun a q=>zl q (r_ibin q rfl rfl rfl) fun a q=>za q rfl fun a q=>zn ?_
 exact ⟨_,Nat.lt_succ_self _,y_30,(IntKind.i64.wrap (x_16 - 1)),_,_,H,hq_34,q.sub (zc (zc (zc zz))),s⟩
 rw [ifb_f hn_28] at H
 cases H
 rw [ifb_f hb_27] at H
 refine wp_exit ?_
 refine zq<|zr<|zm q rfl fun a q=>za q rfl fun a q=>zn ?_
 obtain rfl:=Option.some.inj H
 refine wp_ret ?_
 repeat first | refine zt ?_ | refine zb ?_ | refine zo ?_
 exact ret_1 results120 q (rv_tmp q rfl) ⟨_,rfl,_,_,_,rfl,s,hRL,hq_15⟩
theorem wire_put.calls (a0 : List Int) (a1 : api_Value) {w0 : World} {R : Hp} {M : List Own} {v0_0 : Value} {cs0_0 : List Value} (hS0 : St M w0 w0 R [.row 5 1 v0_0 a0.length cs0_0]) (h0_0 : Reps (tyInt .u8) R cs0_0 a0) {r : List Int} (H : wire_put a0 a1 = some r) : Calls prog 100 #[v0_0,.agg ⟨cV a1⟩] w0 (Rets fun v w'=>∃ (R' : Hp) (u0 : Value) (cu0 : List Value),v = u0 ∧ St M w0 w' R' [.row 5 1 u0 r.length cu0] ∧ RLe M w0 R R' ∧ Reps (tyInt .u8) R' cu0 r):=by
 unfold wire_put at H
 refine enter (args:=[v0_0,.agg ⟨cV a1⟩]) func100 rfl ntmps100 rfl fun a q=>?_
 have s:=hS0
 have hRL:=RLe.refl (M:=M) w0 R
 refine zq<|zr ?_
 refine sl_box s q (by decide) rfl rfl (c:=(cV a1)) rfl fun a w b_1 s q=>?_
 refine za q rfl fun a q=>zn<|zq<|zq<|zr<|zl q (r_fieldAddr underlying58 rfl sizeOf3 q rfl) fun a q=>zl q (r_load isAgg3 q rfl (s.cell z0 rfl)) fun a q=>zn ?_
 refine wp_block ?_
 refine zq<|zr<|zl q (r_ibin q rfl rfl rfl) fun a q=>za q rfl fun a q=>zn ?_
 refine wp_cond_split (q.ev rfl) (fun (hb_2 : (a1.Kind == 1) = true)=>?_) fun hb_2=>?_
 rw [ifb_t hb_2] at H
 refine zq<|zr<|zm q rfl fun a q=>zl q (r_fieldAddr underlying58 rfl sizeOf3 q rfl) fun a q=>zl q (r_load isAgg3 q rfl (s.cell z0 rfl)) fun a q=>?_
 obtain ⟨y_3,h_4,H⟩:=bs H
 have s:=s.pk1
 have hS1:=s.sp1
 refine sl_call call120 q (by decide) rfl rfl rfl (wire_big.calls a0 a1.N 8 hS1.lend h0_0 h_4) fun a v_ w hv_ q=>?_
 obtain ⟨R_5,v_8,cs_9,hv_,hr_,hl_6,hq_10⟩:=hv_
 have hv_:=hv_.symm
 subst hv_
 obtain ⟨s,hl_6⟩:=hS1.back hr_ hl_6
 have s:=s.un1
 have hRL:=hRL.trans hl_6
 refine za q rfl fun a q=>zn ?_
 obtain rfl:=Option.some.inj H
 refine wp_ret ?_
 repeat first | refine zt ?_ | refine zb ?_ | refine zo ?_
 exact ret_1 results100 q (rv_tmp q rfl) ⟨_,rfl,_,_,_,rfl,(s.trunc 1),hRL,hq_10⟩
 rw [ifb_f hb_2] at H
 refine zq<|zr<|zl q (r_ibin q rfl rfl rfl) fun a q=>za q rfl fun a q=>zn ?_
 refine wp_cond_split (q.ev rfl) (fun (hb_11 : (a1.Kind == 2) = true)=>?_) fun hb_11=>?_
 rw [ifb_t hb_11] at H
 refine zq ?_
 refine parT_region (C:=fun w=>St M w0 w R [.cells b_1 (cV a1) 58]) 9 [(0,true),(1,true),(2,true),(3,true),(4,true),(7,true),(8,true),(5,false),(6,false)] mixed (by kernel_rfl) s (fun w s=>(s.trunc 1)) fun w s=>?_
 refine zp rfl q (fun w s=>r_move q rfl) fun a q=>zp rfl q (fun w s=>r_fieldAddr underlying58 rfl sizeOf9 q rfl) fun a q=>zp rfl q (fun w s=>r_load isAgg9 q rfl (s.cell z0 rfl)) fun a q=>zp rfl q (fun w s=>r_len_str underlying9 q rfl) fun a q=>zp rfl q (fun w s=>r_conv underlying3 underlying5 q rfl) fun a q=>zp rfl q (fun w s=>r_fieldAddr underlying58 rfl sizeOf9 q rfl) fun a q=>zp rfl q (fun w s=>r_load isAgg9 q rfl (s.cell z0 rfl)) fun a q=>?_
 refine spw (k:=5) rfl rfl (s.trunc 1) ?_
 refine sl_buildSliceF (zc:=[.int .u8 0]) (ps:=[(0,.int .u8 (IntKind.u8.wrap (a1.S.size : Int)))]) (c:=[.int .u8 (IntKind.u8.wrap (a1.S.size : Int))]) [[.int .u8 (IntKind.u8.wrap (a1.S.size : Int))]] underlying35 sizeOf5 zeroValue5 rfl (pc_cons rfl pc_nil) rfl rfl (Nat.le_of_ble_eq_true rfl) rfl (zc zz) rfl s q (by decide) rfl fun a w b_25 s q=>?_
 refine parK_nil (s.pk1.trunc 1) ?_
 refine spw (k:=6) rfl rfl (s.pk1.trunc 1) ?_
 obtain ⟨y_26,h_27,H⟩:=bs H
 have s:=s.pk2
 refine sl_append_L (ty:=(tyInt .u8)) (ys:=[IntKind.u8.wrap (a1.S.size : Int)]) elT35 (by decide) rfl h0_0 rfl (Reps.cons (show Ty.rep (tyInt .u8) _ [.int .u8 (IntKind.u8.wrap (a1.S.size : Int))] (IntKind.u8.wrap (a1.S.size : Int)) from rfl) (Reps.nil _ _)) rfl h_27 s q (by decide) rfl rfl rfl fun a w v_28 cs_29 hq_30 s q=>?_
 refine parK_nil (s.pk1.trunc 1) ?_
 refine thenL_nil ?_
 obtain ⟨y_32,h_33,H⟩:=bs H
 refine sl_append_S elT35 underlying9 zeroValue5 hq_30 rfl h_33 s q (by decide) rfl rfl rfl fun a w v_34 cs_35 hq_36 s q=>?_
 refine za q rfl fun a q=>?_
 refine wpList_nil (NoP_nil ?_)
 obtain rfl:=Option.some.inj H
 refine wp_ret ?_
 repeat first | refine zt ?_ | refine zb ?_ | refine zo ?_
 exact ret_1 results100 q (rv_tmp q rfl) ⟨_,rfl,_,_,_,rfl,(s.trunc 1),hRL,hq_36⟩
 rw [ifb_f hb_11] at H
 refine zq<|zr<|zl q (r_ibin q rfl rfl rfl) fun a q=>za q rfl fun a q=>zn ?_
 refine wp_cond_split (q.ev rfl) (fun (hb_38 : (a1.Kind == 3) = true)=>?_) fun hb_38=>?_
 rw [ifb_t hb_38] at H
 refine zq<|zr<|zm q rfl fun a q=>zl q (r_fieldAddr underlying58 rfl sizeOf3 q rfl) fun a q=>zl q (r_load isAgg3 q rfl (s.cell z0 rfl)) fun a q=>zl q (r_conv underlying3 underlying5 q rfl) fun a q=>?_
 refine sl_buildSliceF (zc:=[.int .u8 0]) (ps:=[(0,.int .u8 (IntKind.u8.wrap a1.N))]) (c:=[.int .u8 (IntKind.u8.wrap a1.N)]) [[.int .u8 (IntKind.u8.wrap a1.N)]] underlying35 sizeOf5 zeroValue5 rfl (pc_cons rfl pc_nil) rfl rfl (Nat.le_of_ble_eq_true rfl) rfl (zc zz) rfl s q (by decide) rfl fun a w b_39 s q=>?_
 obtain ⟨y_40,h_41,H⟩:=bs H
 have s:=s.pk2
 refine sl_append_L (ty:=(tyInt .u8)) (ys:=[IntKind.u8.wrap a1.N]) elT35 (by decide) rfl h0_0 rfl (Reps.cons (show Ty.rep (tyInt .u8) _ [.int .u8 (IntKind.u8.wrap a1.N)] (IntKind.u8.wrap a1.N) from rfl) (Reps.nil _ _)) rfl h_41 s q (by decide) rfl rfl rfl fun a w v_42 cs_43 hq_44 s q=>?_
 refine za q rfl fun a q=>zn ?_
 obtain rfl:=Option.some.inj H
 refine wp_ret ?_
 repeat first | refine zt ?_ | refine zb ?_ | refine zo ?_
 exact ret_1 results100 q (rv_tmp q rfl) ⟨_,rfl,_,_,_,rfl,(s.trunc 1),hRL,hq_44⟩
 rw [ifb_f hb_38] at H
 refine wp_skip<|zq<|zq<|zr<|zl q (r_fieldAddr underlying58 rfl sizeOf56 q rfl) fun a q=>zl q (r_loadA (cs:=[I6 a1.H.a0,I6 a1.H.a1,I6 a1.H.a2,I6 a1.H.a3,I6 a1.H.a4,I6 a1.H.a5,I6 a1.H.a6,I6 a1.H.a7]) isAgg56 sizeOf56 rfl q rfl (s.cells_of (m:=8) z0 rfl)) fun a q=>zm q rfl fun a q=>zn ?_
 refine wp_block ?_
 refine wp_loop_k (fun k_l0 a w=>∃ (x_56 : List Int) (x_60 : Int) (R_61 : Hp) (v_57 : Value) (cs_58 : List Value),wire_put.l0 a1 k_l0 x_56 x_60 = some r ∧ RLe M w0 R R_61 ∧ Reps (tyInt .u8) R_61 cs_58 x_56 ∧ Kn 45 a [(0,v_57),(36,.agg #[I6 a1.H.a0,I6 a1.H.a1,I6 a1.H.a2,I6 a1.H.a3,I6 a1.H.a4,I6 a1.H.a5,I6 a1.H.a6,I6 a1.H.a7]),(37,I6 x_60)] ∧ St M w0 w R_61 [.row 5 1 v_57 x_56.length cs_58]) (((8 : Int) - 0).toNat + 1) ?_ ?_
 have s:=s.pk1
 exact ⟨a0,0,_,_,_,H,(RLe.refl _ _),h0_0,q.sub (zc (zc (zc zz))),s.trunc 1⟩
 rintro k_l0 a w ⟨x_56,x_60,R_61,v_57,cs_58,H,hl_62,hq_59,q,s⟩
 rcases k_l0 with _ | k_l0
 cases H
 rw [wire_put.l0.eq_2] at H
 have hRL:=hRL.trans hl_62
 refine zq<|zr<|zl q (r_ibin q rfl rfl rfl) fun a q=>zn<|zq ?_
 refine wp_cond_split (q.ev rfl) (fun (hb_74 : (decide (x_60 < 8)) = true)=>?_) fun hb_74=>?_
 rw [ifb_t hb_74] at H
 refine wp_skip<|zq ?_
 refine wp_block ?_
 refine zq<|zr ?_
 obtain ⟨y_75,h_76,H⟩:=bs H
 refine zl q (r_index_arr underlying56 isAgg3 sizeOf3 (Arr8.ix_lt h_76).1 (Arr8.ix_lt h_76).2 (Arr8.ix_agg h_76) q rfl rfl) fun a q=>za q rfl fun a q=>zn<|zr<|zm q rfl fun a q=>zm q rfl fun a q=>?_
 obtain ⟨y_77,h_78,H⟩:=bs H
 have hS1:=s.sp1
 refine sl_call call120 q (by decide) rfl rfl rfl (wire_big.calls x_56 y_75 8 hS1.lend hq_59 h_78) fun a v_ w hv_ q=>?_
 obtain ⟨R_79,v_82,cs_83,hv_,hr_,hl_80,hq_84⟩:=hv_
 have hv_:=hv_.symm
 subst hv_
 obtain ⟨s,hl_80⟩:=hS1.back hr_ hl_80
 have s:=s.un1
 have hRL:=hRL.trans hl_80
 refine za q rfl fun a q=>zn<|zr<|zl q (r_ibin q rfl rfl rfl) fun a q=>zm q rfl fun a q=>zn ?_
 exact ⟨_,Nat.lt_succ_self _,y_77,(IntKind.i64.wrap (x_60 + 1)),_,_,_,H,(hl_62.trans hl_80),hq_84,q.sub (zc (zc (zc zz))),s⟩
 rw [ifb_f hb_74] at H
 refine wp_exit ?_
 refine zq<|zr<|zm q rfl fun a q=>za q rfl fun a q=>zn ?_
 obtain rfl:=Option.some.inj H
 refine wp_ret ?_
 repeat first | refine zt ?_ | refine zb ?_ | refine zo ?_
 exact ret_1 results100 q (rv_tmp q rfl) ⟨_,rfl,_,_,_,rfl,s,hRL,hq_59⟩
theorem wire_Put.calls (a0 : List Int) (a1 : api_Value) {w0 : World} {R : Hp} {RA : Hp} {v0_0 : Value} (hRA : RA.sub w0) (hR : R.sub w0) (h0_0 : SlR (tyInt .u8) RA v0_0 a0) {r : (List Int) × Int} (H : wire_Put a0 a1 = some r) : Calls prog 80 #[v0_0,.agg ⟨cV a1⟩] w0 (Rets fun v w'=>∃ (R' : Hp) (u0 : Value) (cu0 : List Value),v = .tuple #[u0,I6 r.2] ∧ St [] w0 w' R' [.row 5 1 u0 r.1.length cu0] ∧ RLe [] w0 R R' ∧ Reps (tyInt .u8) R' cu0 r.1):=by
 unfold wire_Put at H
 refine enter (args:=[v0_0,.agg ⟨cV a1⟩]) func80 rfl ntmps80 rfl fun a q=>?_
 have s:=St.init hR
 have hRL:=RLe.refl (M:=[]) w0 R
 refine zq<|zr ?_
 refine sl_box s q (by decide) rfl rfl (c:=(cV a1)) rfl fun a w b_1 s q=>?_
 refine za q rfl fun a q=>za q rfl fun a q=>zn<|zq<|zq<|zr<|zl q (r_loadA (cs:=(cV a1)) isAgg58 sizeOf58 rfl q rfl (s.cells_of (m:=11) z0 rfl)) fun a q=>?_
 obtain ⟨y_2,h_3,H⟩:=bs H
 refine sl_callV call52 s q (by decide) rfl rfl rfl (value_Valid.calls a1 h_3 _) fun a w s q=>?_
 refine zl q (r_un q rfl (u_not _)) fun a q=>zn ?_
 refine wp_cond_split (q.ev rfl) (fun (hb_4 : (!y_2) = true)=>?_) fun hb_4=>?_
 rw [ifb_t hb_4] at H
 refine zq<|zr<|za q rfl fun a q=>za q rfl fun a q=>zn ?_
 have s:=s.row_nil 5 1
 have hq_6 : Reps (tyInt .u8) R [] ([] : List Int):=Reps.nil _ _
 obtain rfl:=Option.some.inj H
 refine wp_ret ?_
 repeat first | refine zt ?_ | refine zb ?_ | refine zo ?_
 exact ret_2 results80 q (rv_tmp q rfl) (rv_tmp q rfl) ⟨_,rfl,_,_,_,rfl,(s.trunc 1),hRL,hq_6⟩
 rw [ifb_f hb_4] at H
 refine wp_skip<|zq ?_
 refine parT_region (C:=fun w=>St [] w0 w R [.cells b_1 (cV a1) 58]) 3 [(0,true),(2,true),(1,false)] mixed (by kernel_rfl) s (fun w s=>s) fun w s=>?_
 refine zp rfl q (fun w s=>r_move q rfl) fun a q=>zp rfl q (fun w s=>r_loadA (cs:=(cV a1)) isAgg58 sizeOf58 rfl q rfl (s.cells_of (m:=11) z0 rfl)) fun a q=>?_
 refine spw (k:=1) rfl rfl s ?_
 obtain ⟨y_23,h_24,H⟩:=bs H
 refine sl_call call101 q (by decide) rfl rfl rfl (slices_Clone_byte_byte.calls a0 (lentOf_sub [] _) s.sub (h0_0.mono (s.raLe0 hRA nil_not)) h_24) fun a v_ w hv_ q=>?_
 obtain ⟨R_25,v_28,cs_29,hv_,hr_,hl_26,hq_30⟩:=hv_
 have hv_:=hv_.symm
 subst hv_
 obtain ⟨s,hl_26⟩:=s.sp0.back hr_ hl_26
 have s:=s.un1
 have hRL:=hRL.trans hl_26
 refine parK_nil ((s.pk1.trunc 1).lower hl_26.le) ?_
 refine thenL_nil ?_
 obtain ⟨y_31,h_32,H⟩:=bs H
 have hS1:=s.sp1
 refine sl_call call100 q (by decide) rfl rfl rfl (wire_put.calls y_23 a1 hS1.lend hq_30 h_32) fun a v_ w hv_ q=>?_
 obtain ⟨R_33,v_36,cs_37,hv_,hr_,hl_34,hq_38⟩:=hv_
 have hv_:=hv_.symm
 subst hv_
 obtain ⟨s,hl_34⟩:=hS1.back hr_ hl_34
 have s:=s.un1
 have hRL:=hRL.trans hl_34
 refine za q rfl fun a q=>za q rfl fun a q=>?_
 refine wpList_nil (NoP_nil ?_)
 obtain rfl:=Option.some.inj H
 refine wp_ret ?_
 repeat first | refine zt ?_ | refine zb ?_ | refine zo ?_
 exact ret_2 results80 q (rv_tmp q rfl) (rv_tmp q rfl) ⟨_,rfl,_,_,_,rfl,(s.trunc 1),hRL,hq_38⟩
theorem streams_mark.calls (a0 : ByteArray) (a1 : List api_Value) {w0 : World} {RA : Hp} {v1_0 : Value} (hRA : RA.sub w0) (h1_0 : SlR ty_api_Value RA v1_0 a1) (hG : GF RA) {r : ByteArray × Bool} (H : streams_mark a0 a1 = some r) : CallsV prog 53 #[.string a0,v1_0] w0 (.tuple #[.string r.1,.bool r.2]):=by
 unfold streams_mark at H
 refine enter (args:=[.string a0,v1_0]) func53 rfl ntmps53 rfl fun a q=>?_
 have s:=St.init (R:=fun _=>none) (w:=w0) (fun _ _ h=>by cases h)
 have hRL:=RLe.refl (M:=[]) w0 (fun _=>none)
 refine zq<|zr<|za q rfl fun a q=>za q rfl fun a q=>zn<|zq<|zr<|zm q rfl fun a q=>zl q (r_len_str underlying9 q rfl) fun a q=>?_
 obtain ⟨y_1,h_2,H⟩:=bs H
 refine sl_callV call79 s q (by decide) rfl rfl rfl (strconv_Itoa.calls (a0.size : Int) (lentOf_sub [] _) (GF.mono (s.raLe0 hRA nil_not) hG) h_2) fun a w s q=>?_
 rcases or_b (decide (y_1.size + (⟨#[32]⟩ : ByteArray).size ≤ 9223372036854775807)) with hn_3 | hn_3
 rw [ifb_t hn_3] at H
 refine zl q (r_sadd q rfl rfl (of_decide_eq_true hn_3)) fun a q=>zm q rfl fun a q=>?_
 rcases or_b (decide ((y_1 ++ (⟨#[32]⟩ : ByteArray)).size + a0.size ≤ 9223372036854775807)) with hn_4 | hn_4
 rw [ifb_t hn_4] at H
 refine zl q (r_sadd q rfl rfl (of_decide_eq_true hn_4)) fun a q=>?_
 rcases or_b (decide ((sbytes ((y_1 ++ (⟨#[32]⟩ : ByteArray)) ++ a0)).length * 1 ≤ 140737488355328)) with hn_9 | hn_9
 rw [ifb_t hn_9] at H
 refine sl_conv_sbM underlying9 underlying35 underlying5 (of_decide_eq_true hn_9) s q (by decide) rfl rfl fun a w v_5 cs_6 hq_7 s q=>?_
 refine za q rfl fun a q=>zn<|zq<|zq<|zr<|zm q rfl fun a q=>zl q (r_len_R underlying31 h1_0 q rfl) fun a q=>zm q rfl fun a q=>zn ?_
 refine wp_block ?_
 refine wp_loop_k (fun k_l0 a w=>∃ (x_48 : List Int) (x_52 : Int) (R_53 : Hp) (v_49 : Value) (cs_50 : List Value),streams_mark.l0 a1 k_l0 x_48 x_52 = some r ∧ RLe [] w0 (fun _=>none) R_53 ∧ Reps (tyInt .u8) R_53 cs_50 x_48 ∧ Kn 42 a [(6,v_49),(18,v1_0),(19,I6 (a1.length : Int)),(20,I6 x_52)] ∧ St [] w0 w R_53 [.rowM 5 1 v_49 x_48.length cs_50]) (((a1.length : Int) - 0).toNat + 1) ?_ ?_
 exact ⟨(sbytes ((y_1 ++ (⟨#[32]⟩ : ByteArray)) ++ a0)),0,_,_,_,H,(RLe.refl _ _),hq_7,q.sub (zc (zc (zc (zc zz)))),s⟩
 rintro k_l0 a w ⟨x_48,x_52,R_53,v_49,cs_50,H,hl_54,hq_51,q,s⟩
 rcases k_l0 with _ | k_l0
 cases H
 rw [streams_mark.l0.eq_2] at H
 have hRL:=hRL.trans hl_54
 refine zq<|zr<|zl q (r_ibin q rfl rfl rfl) fun a q=>zn<|zq ?_
 refine wp_cond_split (q.ev rfl) (fun (hb_91 : (decide (x_52 < (a1.length : Int))) = true)=>?_) fun hb_91=>?_
 rw [ifb_t hb_91] at H
 refine wp_skip<|zq ?_
 refine wp_block ?_
 refine zq<|zr ?_
 obtain ⟨y_92,h_93,H⟩:=bs H
 obtain ⟨b_94,o_95,c_96,cs_97,hv_98,hr_99,hc_100,h_930,h_931⟩:=h1_0.ix h_93
 subst hr_99
 refine zl q (r_indexAddr_R underlying31 sizeOf58 hv_98 h_930 h_931 q rfl rfl) fun a q=>zl q (r_loadA (cs:=(cV y_92)) isAgg58 sizeOf58 rfl q rfl (fun j v hv=>(s.ra hRA nil_not).cell (hc_100 j v hv))) fun a q=>?_
 refine sl_alloc zeroValue58 s q (by decide) rfl rfl fun a w b_101 s q=>?_
 refine sl_storeA (vs:=(cV y_92)) (c':=(cV y_92)) sizeOf58 s q rfl rfl rfl rfl (zc (zc (zc (zc (zc (zc (zc (zc (zc (zc (zc zz))))))))))) (Nat.le_of_ble_eq_true rfl) rfl fun a w s q=>?_
 refine zn<|zq<|zr<|zl q (r_loadA (cs:=(cV y_92)) isAgg58 sizeOf58 rfl q rfl (s.cells_of (m:=11) z0 rfl)) fun a q=>?_
 obtain ⟨y_102,h_103,H⟩:=bs H
 refine sl_call call80 q (by decide) rfl rfl rfl (wire_Put.calls ([] : List Int) y_92 (lentOf_sub [] _) s.sub (SlR.nil (tyInt .u8) _) h_103) fun a v_ w hv_ q=>?_
 obtain ⟨R_104,v_107,cs_108,hv_,hr_,hl_105,hq_109⟩:=hv_
 have hv_:=hv_.symm
 subst hv_
 obtain ⟨s,hl_105⟩:=s.sp0.back hr_ hl_105
 have s:=s.un1
 have hRL:=hRL.trans hl_105
 refine zm q rfl fun a q=>zl q (r_extract q rfl rfl) fun a q=>zl q (r_extract q rfl rfl) fun a q=>za q rfl fun a q=>za q rfl fun a q=>zn<|zq<|zq<|zr<|zm q rfl fun a q=>zl q (r_ibin q rfl rfl rfl) fun a q=>zn ?_
 refine wp_cond_split (q.ev rfl) (fun (hb_110 : (y_102.2 != 0) = true)=>?_) fun hb_110=>?_
 rw [ifb_t hb_110] at H
 refine zq<|zr<|za q rfl fun a q=>za q rfl fun a q=>zn ?_
 obtain rfl:=Option.some.inj H
 refine wp_ret ?_
 repeat first | refine zt ?_ | refine zb ?_ | refine zo ?_
 exact ret_2 results53 q (rv_tmp q rfl) (rv_tmp q rfl) ⟨rfl,s.bel⟩
 rw [ifb_f hb_110] at H
 refine wp_skip<|zr<|zm q rfl fun a q=>zl q (r_fieldAddr underlying58 rfl sizeOf3 q rfl) fun a q=>zl q (r_load isAgg3 q rfl (s.cell z1 rfl)) fun a q=>zl q (r_conv underlying3 underlying5 q rfl) fun a q=>?_
 refine sl_buildSliceF (zc:=[.int .u8 0]) (ps:=[(0,.int .u8 (IntKind.u8.wrap y_92.Kind))]) (c:=[.int .u8 (IntKind.u8.wrap y_92.Kind)]) [[.int .u8 (IntKind.u8.wrap y_92.Kind)]] underlying35 sizeOf5 zeroValue5 rfl (pc_cons rfl pc_nil) rfl rfl (Nat.le_of_ble_eq_true rfl) rfl (zc zz) rfl s q (by decide) rfl fun a w b_111 s q=>?_
 obtain ⟨y_112,h_113,H⟩:=bs H
 have s:=s.pk3
 refine sl_append_ML (ty:=(tyInt .u8)) (ys:=[IntKind.u8.wrap y_92.Kind]) elT35 (by decide) rfl (hq_51.mono hl_105.le) rfl (Reps.cons (show Ty.rep (tyInt .u8) _ [.int .u8 (IntKind.u8.wrap y_92.Kind)] (IntKind.u8.wrap y_92.Kind) from rfl) (Reps.nil _ _)) rfl h_113 s q (by decide) rfl rfl rfl fun a w v_114 cs_115 hq_116 s q=>?_
 refine zm q rfl fun a q=>?_
 have s:=s.pk1
 obtain ⟨R_118,s,hl_120,hs_119⟩:=s.fz_row hq_109 rfl rfl
 have hRL:=hRL.trans hl_120
 obtain ⟨y_121,h_122,H⟩:=bs H
 refine sl_append_MR elT35 (by decide) rfl (hq_116.mono hl_120.le) rfl hs_119 h_122 s q (by decide) rfl rfl rfl fun a w v_123 cs_124 hq_125 s q=>?_
 refine za q rfl fun a q=>zn<|zr<|zl q (r_ibin q rfl rfl rfl) fun a q=>zm q rfl fun a q=>zn ?_
 exact ⟨_,Nat.lt_succ_self _,y_121,(IntKind.i64.wrap (x_52 + 1)),_,_,_,H,(hl_54.trans (hl_105.trans hl_120)),hq_125,q.sub (zc (zc (zc (zc zz)))),s.trunc 1⟩
 rw [ifb_f hb_91] at H
 refine wp_exit ?_
 refine zq<|zr<|zm q rfl fun a q=>zl q (r_conv_bM underlying35 underlying9 underlying5 hq_51 rfl s z0 q rfl) fun a q=>za q rfl fun a q=>za q rfl fun a q=>zn ?_
 obtain rfl:=Option.some.inj H
 refine wp_ret ?_
 repeat first | refine zt ?_ | refine zb ?_ | refine zo ?_
 exact ret_2 results53 q (rv_tmp q rfl) (rv_tmp q rfl) ⟨rfl,s.bel⟩
 rw [ifb_f hn_9] at H
 cases H
 rw [ifb_f hn_4] at H
 cases H
 rw [ifb_f hn_3] at H
 cases H
theorem streams_Dict_Find.calls (a0 : streams_Dict) (a1 : ByteArray) (a2 : List api_Value) {w0 : World} {RA : Hp} {b0 : Nat} {o0 : Nat} {v0_0 : Value} {mb0_1 : Nat} {v2_0 : Value} (hRA : RA.sub w0) (hc0 : ∀ j u,([I6 a0.most,v0_0,.map (some mb0_1)] : List Value)[j]? = some u → RA.cell b0 (o0 + j) = some u) (h0_0 : SlR ty_streams_stream RA v0_0 a0.l) (h0_1 : MpR RA mb0_1 (kvs Value.string (Value.int .i64) a0.ids)) (h2_0 : SlR ty_api_Value RA v2_0 a2) (hG : GF RA) {r : Int × Bool} (H : streams_Dict_Find a0 a1 a2 = some r) : CallsV prog 24 #[.pointer (some ⟨b0,o0,none⟩),.string a1,v2_0] w0 (.tuple #[I6 r.1,.bool r.2]):=by
 unfold streams_Dict_Find at H
 refine enter (args:=[.pointer (some ⟨b0,o0,none⟩),.string a1,v2_0]) func24 rfl ntmps24 rfl fun a q=>?_
 have s:=St.init (R:=fun _=>none) (w:=w0) (fun _ _ h=>by cases h)
 have hRL:=RLe.refl (M:=[]) w0 (fun _=>none)
 refine zq<|zr<|za q rfl fun a q=>za q rfl fun a q=>zn<|zq<|zq<|zr<|zm q rfl fun a q=>?_
 obtain ⟨y_1,h_2,H⟩:=bs H
 refine sl_callV call50 s q (by decide) rfl rfl rfl (slices_ContainsFunc_api_Value_api_Value_f_streams_Dict_Find_1.calls a2 (lentOf_sub [] _) (h2_0.mono (s.raLe0 hRA nil_not)) h_2) fun a w s q=>?_
 refine zn ?_
 refine wp_cond_split (q.ev rfl) (fun (hb_3 : y_1 = true)=>?_) fun hb_3=>?_
 rw [ifb_t hb_3] at H
 refine zq<|zr<|za q rfl fun a q=>za q rfl fun a q=>zn ?_
 obtain rfl:=Option.some.inj H
 refine wp_ret ?_
 repeat first | refine zt ?_ | refine zb ?_ | refine zo ?_
 exact ret_2 results24 q (rv_tmp q rfl) (rv_tmp q rfl) ⟨rfl,s.bel⟩
 rw [ifb_f hb_3] at H
 refine wp_skip<|zq<|zr<|zm q rfl fun a q=>zm q rfl fun a q=>?_
 obtain ⟨y_4,h_5,H⟩:=bs H
 refine sl_callV call53 s q (by decide) rfl rfl rfl (streams_mark.calls a1 a2 (lentOf_sub [] _) (h2_0.mono (s.raLe0 hRA nil_not)) (GF.mono (s.raLe0 hRA nil_not) hG) h_5) fun a w s q=>?_
 refine zm q rfl fun a q=>zl q (r_extract q rfl rfl) fun a q=>zl q (r_extract q rfl rfl) fun a q=>za q rfl fun a q=>za q rfl fun a q=>zn<|zq<|zr<|zm q rfl fun a q=>zl q (r_nilCheck q rfl) fun a q=>zl q (r_fieldAddr underlying102 rfl sizeOf99 q rfl) fun a q=>zl q (r_load isAgg99 q rfl ((s.ra hRA nil_not).cell (hc0 2 _ rfl))) fun a q=>zm q rfl fun a q=>zl q (r_lookup_R (m:=a0.ids) (x:=y_4.1) (z:=0) underlying99 underlying9 key_str zeroValue3 h0_1 (s.ra hRA nil_not) rfl q rfl rfl) fun a q=>zm q rfl fun a q=>zl q (r_extract q rfl rfl) fun a q=>zl q (r_extract q rfl rfl) fun a q=>za q rfl fun a q=>za q rfl fun a q=>zn<|zq<|zr<|zm q rfl fun a q=>zm q rfl fun a q=>za q rfl fun a q=>za q rfl fun a q=>zn ?_
 obtain rfl:=Option.some.inj H
 refine wp_ret ?_
 repeat first | refine zt ?_ | refine zb ?_ | refine zo ?_
 exact ret_2 results24 q (rv_tmp q rfl) (rv_tmp q rfl) ⟨rfl,s.bel⟩
theorem cmp_isNaN_int.calls (a0 : Int) {r : Bool} (H : cmp_isNaN_int a0 = some r) (w0 : World) : CallsV prog 102 #[I6 a0] w0 (.bool r):=by
 unfold cmp_isNaN_int at H
 refine enter (args:=[I6 a0]) func102 rfl ntmps102 rfl fun a q=>?_
 have s:=St.init (R:=fun _=>none) (w:=w0) (fun _ _ h=>by cases h)
 have hRL:=RLe.refl (M:=[]) w0 (fun _=>none)
 refine zq<|zr<|za q rfl fun a q=>zn<|zq<|zr<|zm q rfl fun a q=>zm q rfl fun a q=>zl q (r_ibin q rfl rfl rfl) fun a q=>za q rfl fun a q=>zn ?_
 obtain rfl:=Option.some.inj H
 refine wp_ret ?_
 repeat first | refine zt ?_ | refine zb ?_ | refine zo ?_
 exact ret_1 results102 q (rv_tmp q rfl) ⟨rfl,s.bel⟩
theorem cmp_Compare_int.calls (a0 : Int) (a1 : Int) {r : Int} (H : cmp_Compare_int a0 a1 = some r) (w0 : World) : CallsV prog 83 #[I6 a0,I6 a1] w0 (I6 r):=by
 unfold cmp_Compare_int at H
 refine enter (args:=[I6 a0,I6 a1]) func83 rfl ntmps83 rfl fun a q=>?_
 have s:=St.init (R:=fun _=>none) (w:=w0) (fun _ _ h=>by cases h)
 have hRL:=RLe.refl (M:=[]) w0 (fun _=>none)
 refine zq<|zr<|za q rfl fun a q=>zn<|zq<|zr<|zm q rfl fun a q=>?_
 obtain ⟨y_1,h_2,H⟩:=bs H
 refine sl_callV call102 s q (by decide) rfl rfl rfl (cmp_isNaN_int.calls a0 h_2 _) fun a w s q=>?_
 refine za q rfl fun a q=>zn<|zq<|zr<|zm q rfl fun a q=>?_
 obtain ⟨y_3,h_4,H⟩:=bs H
 refine sl_callV call102 s q (by decide) rfl rfl rfl (cmp_isNaN_int.calls a1 h_4 _) fun a w s q=>?_
 refine za q rfl fun a q=>zn<|zq<|zq<|zr<|zm q rfl fun a q=>zn ?_
 refine wp_cond_split (q.ev rfl) (fun (hb_5 : y_1 = true)=>?_) fun hb_5=>?_
 rw [ifb_t hb_5] at H
 refine zq<|zq<|zr<|zm q rfl fun a q=>zn ?_
 refine wp_cond_split (q.ev rfl) (fun (hb_6 : y_3 = true)=>?_) fun hb_6=>?_
 rw [ifb_t hb_6] at H
 refine zq<|zr<|za q rfl fun a q=>zn ?_
 obtain rfl:=Option.some.inj H
 refine wp_ret ?_
 repeat first | refine zt ?_ | refine zb ?_ | refine zo ?_
 exact ret_1 results83 q (rv_tmp q rfl) ⟨rfl,s.bel⟩
 rw [ifb_f hb_6] at H
 refine wp_skip<|zq<|zr<|za q rfl fun a q=>zn ?_
 obtain rfl:=Option.some.inj H
 refine wp_ret ?_
 repeat first | refine zt ?_ | refine zb ?_ | refine zo ?_
 exact ret_1 results83 q (rv_tmp q rfl) ⟨rfl,s.bel⟩
 rw [ifb_f hb_5] at H
 refine wp_skip<|zq<|zq<|zr<|zm q rfl fun a q=>zn ?_
 refine wp_cond_split (q.ev rfl) (fun (hb_7 : y_3 = true)=>?_) fun hb_7=>?_
 rw [ifb_t hb_7] at H
 refine zq<|zr<|za q rfl fun a q=>zn ?_
 obtain rfl:=Option.some.inj H
 refine wp_ret ?_
 repeat first | refine zt ?_ | refine zb ?_ | refine zo ?_
 exact ret_1 results83 q (rv_tmp q rfl) ⟨rfl,s.bel⟩
 rw [ifb_f hb_7] at H
 refine wp_skip<|zq<|zq<|zr<|zm q rfl fun a q=>zm q rfl fun a q=>zl q (r_ibin q rfl rfl rfl) fun a q=>zn ?_
 refine wp_cond_split (q.ev rfl) (fun (hb_8 : (decide (a0 < a1)) = true)=>?_) fun hb_8=>?_
 rw [ifb_t hb_8] at H
 refine zq<|zr<|za q rfl fun a q=>zn ?_
 obtain rfl:=Option.some.inj H
 refine wp_ret ?_
 repeat first | refine zt ?_ | refine zb ?_ | refine zo ?_
 exact ret_1 results83 q (rv_tmp q rfl) ⟨rfl,s.bel⟩
 rw [ifb_f hb_8] at H
 refine wp_skip<|zq<|zq<|zr<|zm q rfl fun a q=>zm q rfl fun a q=>zl q (r_ibin q rfl rfl rfl) fun a q=>zn ?_
 refine wp_cond_split (q.ev rfl) (fun (hb_9 : (decide (a0 > a1)) = true)=>?_) fun hb_9=>?_
 rw [ifb_t hb_9] at H
 refine zq<|zr<|za q rfl fun a q=>zn ?_
 obtain rfl:=Option.some.inj H
 refine wp_ret ?_
 repeat first | refine zt ?_ | refine zb ?_ | refine zo ?_
 exact ret_1 results83 q (rv_tmp q rfl) ⟨rfl,s.bel⟩
 rw [ifb_f hb_9] at H
 refine wp_skip<|zq<|zr<|za q rfl fun a q=>zn ?_
 obtain rfl:=Option.some.inj H
 refine wp_ret ?_
 repeat first | refine zt ?_ | refine zb ?_ | refine zo ?_
 exact ret_1 results83 q (rv_tmp q rfl) ⟨rfl,s.bel⟩
theorem runs_Run_place_1.calls (a0 : api_Sample) (a1 : Int) {w0 : World} {RA : Hp} {v0_0 : Value} (hRA : RA.sub w0) (h0_0 : SlR ty_api_Value RA v0_0 a0.Vals) {r : Int} (H : runs_Run_place_1 a0 a1 = some r) : CallsV prog 82 #[.agg #[I6 a0.Time,v0_0],I6 a1] w0 (I6 r):=by
 unfold runs_Run_place_1 at H
 refine enter (args:=[.agg #[I6 a0.Time,v0_0],I6 a1]) func82 rfl ntmps82 rfl fun a q=>?_
 have s:=St.init (R:=fun _=>none) (w:=w0) (fun _ _ h=>by cases h)
 have hRL:=RLe.refl (M:=[]) w0 (fun _=>none)
 refine zq<|zr ?_
 refine sl_box s q (by decide) rfl rfl (c:=[I6 a0.Time,v0_0]) rfl fun a w b_1 s q=>?_
 refine za q rfl fun a q=>zn<|zq<|zr<|zl q (r_fieldAddr underlying90 rfl sizeOf3 q rfl) fun a q=>zl q (r_load isAgg3 q rfl (s.cell z0 rfl)) fun a q=>zm q rfl fun a q=>?_
 obtain ⟨y_2,h_3,H⟩:=bs H
 refine sl_callV call83 s q (by decide) rfl rfl rfl (cmp_Compare_int.calls a0.Time a1 h_3 _) fun a w s q=>?_
 refine za q rfl fun a q=>zn ?_
 obtain rfl:=Option.some.inj H
 refine wp_ret ?_
 repeat first | refine zt ?_ | refine zb ?_ | refine zo ?_
 exact ret_1 results82 q (rv_tmp q rfl) ⟨rfl,s.bel⟩
theorem slices_BinarySearchFunc_api_Sample_api_Sample_int_f_runs_Run_place_1.calls (a0 : List api_Sample) (a1 : Int) {w0 : World} {RA : Hp} {v0_0 : Value} (hRA : RA.sub w0) (h0_0 : SlR ty_api_Sample RA v0_0 a0) {r : Int × Bool} (H : slices_BinarySearchFunc_api_Sample_api_Sample_int_f_runs_Run_place_1 a0 a1 = some r) : CallsV prog 81 #[v0_0,I6 a1,.func (.func 82) #[] #[]] w0 (.tuple #[I6 r.1,.bool r.2]):=by
 unfold slices_BinarySearchFunc_api_Sample_api_Sample_int_f_runs_Run_place_1 at H
 refine enter (args:=[v0_0,I6 a1,.func (.func 82) #[] #[]]) func81 rfl ntmps81 rfl fun a q=>?_
 have s:=St.init (R:=fun _=>none) (w:=w0) (fun _ _ h=>by cases h)
 have hRL:=RLe.refl (M:=[]) w0 (fun _=>none)
 refine zq<|zr<|za q rfl fun a q=>za q rfl fun a q=>zn<|zq<|zr<|zm q rfl fun a q=>zl q (r_len_R underlying87 h0_0 q rfl) fun a q=>za q rfl fun a q=>zn<|zq<|zr<|zm q rfl fun a q=>za q rfl fun a q=>za q rfl fun a q=>zn<|zq ?_
 refine wp_block ?_
 refine wp_loop_k (fun k_l0 a w=>∃ (x_21 : Int) (x_22 : Int),slices_BinarySearchFunc_api_Sample_api_Sample_int_f_runs_Run_place_1.l0 a0 a1 k_l0 x_21 x_22 = some r ∧ Kn 49 a [(0,v0_0),(1,I6 a1),(2,.func (.func 82) #[] #[]),(8,I6 (a0.length : Int)),(9,I6 x_21),(10,I6 x_22)] ∧ St [] w0 w (fun _=>none) []) (((a0.length : Int) - 0).toNat + 1) ?_ ?_
 exact ⟨0,(a0.length : Int),H,q.sub (zc (zc (zc (zc (zc (zc zz)))))),s⟩
 rintro k_l0 a w ⟨x_21,x_22,H,q,s⟩
 rcases k_l0 with _ | k_l0
 cases H
 rw [slices_BinarySearchFunc_api_Sample_api_Sample_int_f_runs_Run_place_1.l0.eq_2] at H
 refine zq<|zq<|zr<|zm q rfl fun a q=>zm q rfl fun a q=>zl q (r_ibin q rfl rfl rfl) fun a q=>zn ?_
 refine wp_cond_split (q.ev rfl) (fun (hb_43 : (decide (x_21 < x_22)) = true)=>?_) fun hb_43=>?_
 rw [ifb_t hb_43] at H
 refine wp_skip ?_
 refine wp_block ?_
 refine zq<|zr<|zm q rfl fun a q=>zm q rfl fun a q=>zl q (r_ibin q rfl rfl rfl) fun a q=>zl q (r_conv underlying3 underlying143 q rfl) fun a q=>zl q (r_shr q rfl rfl (by decide)) fun a q=>?_
 refine zl q (r_conv underlying143 underlying3 q rfl) fun a q=>za q rfl fun a q=>zn<|zq<|zr<|zm q rfl fun a q=>zm q rfl fun a q=>zm q rfl fun a q=>?_
 obtain ⟨y_44,h_45,H⟩:=bs H
 obtain ⟨b_46,o_47,c_48,cs_49,hv_50,hr_51,hc_52,h_450,h_451⟩:=h0_0.ix h_45
 obtain ⟨v_53,rfl,hs_54⟩:=hr_51
 refine zl q (r_indexAddr_R underlying87 sizeOf90 hv_50 h_450 h_451 q rfl rfl) fun a q=>zl q (r_loadA (cs:=[I6 y_44.Time,v_53]) isAgg90 sizeOf90 rfl q rfl (fun j v hv=>(s.ra hRA nil_not).cell (hc_52 j v hv))) fun a q=>zm q rfl fun a q=>?_
 obtain ⟨y_55,h_56,H⟩:=bs H
 refine sl_callV call82 s q (by decide) rfl rfl rfl (runs_Run_place_1.calls y_44 a1 (lentOf_sub [] _) (hs_54.mono (s.raLe0 hRA nil_not)) h_56) fun a w s q=>?_
 refine zl q (r_ibin q rfl rfl rfl) fun a q=>zn ?_
 refine wp_mid (fun a w=>∃ (x_58 : Int) (x_59 : Int),slices_BinarySearchFunc_api_Sample_api_Sample_int_f_runs_Run_place_1.j1 (slices_BinarySearchFunc_api_Sample_api_Sample_int_f_runs_Run_place_1.l0 a0 a1 k_l0) a0 x_58 x_59 = some r ∧ Kn 49 a [(0,v0_0),(1,I6 a1),(2,.func (.func 82) #[] #[]),(8,I6 (a0.length : Int)),(9,I6 x_58),(10,I6 x_59)] ∧ St [] w0 w (fun _=>none) []) ?_ ?_
 refine wp_cond_split (q.ev rfl) (fun (hb_61 : (decide (y_55 < 0)) = true)=>?_) fun hb_61=>?_
 rw [ifb_t hb_61] at H
 refine zr<|zm q rfl fun a q=>zl q (r_ibin q rfl rfl rfl) fun a q=>za q rfl fun a q=>zn ?_
 exact ⟨(IntKind.i64.wrap ((IntKind.i64.wrap ((IntKind.u64.wrap (IntKind.i64.wrap (x_21 + x_22))).fdiv (2 ^ (min (1 : Int).toNat 64)))) + 1)),x_22,H,q.sub (zc (zc (zc (zc (zc (zc zz)))))),s⟩
 rw [ifb_f hb_61] at H
 refine zr<|zm q rfl fun a q=>za q rfl fun a q=>zn ?_
 exact ⟨x_21,(IntKind.i64.wrap ((IntKind.u64.wrap (IntKind.i64.wrap (x_21 + x_22))).fdiv (2 ^ (min (1 : Int).toNat 64)))),H,q.sub (zc (zc (zc (zc (zc (zc zz)))))),s⟩
 rintro a w ⟨x_58,x_59,H,q,s⟩
 unfold slices_BinarySearchFunc_api_Sample_api_Sample_int_f_runs_Run_place_1.j1 at H
 exact ⟨_,Nat.lt_succ_self _,x_58,x_59,H,q.sub (zc (zc (zc (zc (zc (zc zz)))))),s⟩
 rw [ifb_f hb_43] at H
 refine wp_exit ?_
 refine zq<|zr<|zm q rfl fun a q=>zm q rfl fun a q=>zm q rfl fun a q=>zl q (r_ibin q rfl rfl rfl) fun a q=>zm q rfl fun a q=>?_
 rcases or_b (decide (x_21 < (a0.length : Int))) with hb_62 | hb_62
 rw [ifb_t hb_62] at H
 refine zw q (wtt hb_62) (r_move q rfl) fun a q=>zw q (wtt hb_62) (r_move q rfl) fun a q=>zw q (wtt hb_62) (r_move q rfl) fun a q=>?_
 obtain ⟨y_63,h_64,H⟩:=bs H
 obtain ⟨b_65,o_66,c_67,cs_68,hv_69,hr_70,hc_71,h_640,h_641⟩:=h0_0.ix h_64
 obtain ⟨v_72,rfl,hs_73⟩:=hr_70
 refine zw q (wtt hb_62) (r_indexAddr_R underlying87 sizeOf90 hv_69 h_640 h_641 q rfl rfl) fun a q=>zw q (wtt hb_62) (r_loadA (cs:=[I6 y_63.Time,v_72]) isAgg90 sizeOf90 rfl q rfl (fun j v hv=>(s.ra hRA nil_not).cell (hc_71 j v hv))) fun a q=>zw q (wtt hb_62) (r_move q rfl) fun a q=>?_
 obtain ⟨y_74,h_75,H⟩:=bs H
 refine sl_callV call82 s q (by decide) (wtt hb_62) rfl rfl (runs_Run_place_1.calls y_63 a1 (lentOf_sub [] _) (hs_73.mono (s.raLe0 hRA nil_not)) h_75) fun a w s q=>?_
 refine zw q (wtt hb_62) (r_ibin q rfl rfl rfl) fun a q=>zl q (r_pick_t hb_62 q rfl rfl) fun a q=>za q rfl fun a q=>za q rfl fun a q=>zn ?_
 obtain rfl:=Option.some.inj H
 refine wp_ret ?_
 repeat first | refine zt ?_ | refine zb ?_ | refine zo ?_
 exact ret_2 results81 q (rv_tmp q rfl) (rv_tmp q rfl) ⟨rfl,s.bel⟩
 rw [ifb_f hb_62] at H
 refine zsw q (wtf hb_62) fun a q=>zsw q (wtf hb_62) fun a q=>zsw q (wtf hb_62) fun a q=>zsw q (wtf hb_62) fun a q=>zsw q (wtf hb_62) fun a q=>zsw q (wtf hb_62) fun a q=>zsw q (wtf hb_62) fun a q=>zsw q (wtf hb_62) fun a q=>zl q (r_pick_f hb_62 q rfl rfl) fun a q=>za q rfl fun a q=>za q rfl fun a q=>zn ?_
 obtain rfl:=Option.some.inj H
 refine wp_ret ?_
 repeat first | refine zt ?_ | refine zb ?_ | refine zo ?_
 exact ret_2 results81 q (rv_tmp q rfl) (rv_tmp q rfl) ⟨rfl,s.bel⟩
theorem runs_Run_place.calls (a0 : runs_Run) (a1 : Int) {w0 : World} {RA : Hp} {b0 : Nat} {o0 : Nat} {v0_0 : Value} (hRA : RA.sub w0) (hc0 : ∀ j u,([v0_0] : List Value)[j]? = some u → RA.cell b0 (o0 + j) = some u) (h0_0 : SlR ty_api_Sample RA v0_0 a0.l) {r : Int × Bool} (H : runs_Run_place a0 a1 = some r) : CallsV prog 54 #[.pointer (some ⟨b0,o0,none⟩),I6 a1] w0 (.tuple #[I6 r.1,.bool r.2]):=by
 unfold runs_Run_place at H
 refine enter (args:=[.pointer (some ⟨b0,o0,none⟩),I6 a1]) func54 rfl ntmps54 rfl fun a q=>?_
 have s:=St.init (R:=fun _=>none) (w:=w0) (fun _ _ h=>by cases h)
 have hRL:=RLe.refl (M:=[]) w0 (fun _=>none)
 refine zq<|zr<|za q rfl fun a q=>za q rfl fun a q=>zn<|zq<|zr<|zm q rfl fun a q=>zl q (r_nilCheck q rfl) fun a q=>zl q (r_fieldAddr underlying111 rfl sizeOf87 q rfl) fun a q=>zl q (r_load isAgg87 q rfl ((s.ra hRA nil_not).cell (hc0 0 _ rfl))) fun a q=>zm q rfl fun a q=>?_
 obtain ⟨y_1,h_2,H⟩:=bs H
 refine sl_callV call81 s q (by decide) rfl rfl rfl (slices_BinarySearchFunc_api_Sample_api_Sample_int_f_runs_Run_place_1.calls a0.l a1 (lentOf_sub [] _) (h0_0.mono (s.raLe0 hRA nil_not)) h_2) fun a w s q=>?_
 refine zl q (r_extract q rfl rfl) fun a q=>zl q (r_extract q rfl rfl) fun a q=>za q rfl fun a q=>za q rfl fun a q=>zn ?_
 obtain rfl:=Option.some.inj H
 refine wp_ret ?_
 repeat first | refine zt ?_ | refine zb ?_ | refine zo ?_
 exact ret_2 results54 q (rv_tmp q rfl) (rv_tmp q rfl) ⟨rfl,s.bel⟩
theorem slices_Clone_api_Value_api_Value.calls (a0 : List api_Value) {w0 : World} {R : Hp} {RA : Hp} {v0_0 : Value} (hRA : RA.sub w0) (hR : R.sub w0) (h0_0 : SlR ty_api_Value RA v0_0 a0) {r : List api_Value} (H : slices_Clone_api_Value_api_Value a0 = some r) : Calls prog 55 #[v0_0] w0 (Rets fun v w'=>∃ (R' : Hp) (u0 : Value) (cu0 : List Value),v = u0 ∧ St [] w0 w' R' [.row 58 11 u0 r.length cu0] ∧ RLe [] w0 R R' ∧ Reps ty_api_Value R' cu0 r):=by
 unfold slices_Clone_api_Value_api_Value at H
 rcases SlR.nilcase h0_0 with ⟨hn,hx⟩ | ⟨ad_,m_,c_,hn⟩
 subst hx
 have H : some ([] : List api_Value) = some r:=by simpa [apd] using H
 refine enter (args:=[v0_0]) func55 rfl ntmps55 rfl fun a q=>?_
 have s:=St.init hR
 have hRL:=RLe.refl (M:=[]) w0 R
 refine zq<|zr<|za q rfl fun a q=>zn<|zq<|zq<|zr<|zm q rfl fun a q=>zl q (r_sleqN underlying31 hn q rfl rfl) fun a q=>zn ?_
 refine wp_cond_true (q.ev rfl) ?_
 refine zq<|zr<|za q rfl fun a q=>zn ?_
 have s:=s.row_nil 58 11
 have hq_11 : Reps ty_api_Value R [] ([] : List api_Value):=Reps.nil _ _
 obtain rfl:=Option.some.inj H
 refine wp_ret ?_
 repeat first | refine zt ?_ | refine zb ?_ | refine zo ?_
 exact ret_1 results55 q (rv_tmp q rfl) ⟨_,rfl,_,_,_,rfl,s,hRL,hq_11⟩
 refine enter (args:=[v0_0]) func55 rfl ntmps55 rfl fun a q=>?_
 have s:=St.init hR
 have hRL:=RLe.refl (M:=[]) w0 R
 refine zq<|zr<|za q rfl fun a q=>zn<|zq<|zq<|zr<|zm q rfl fun a q=>zl q (r_sleqS underlying31 hn q rfl rfl) fun a q=>zn ?_
 refine wp_cond_false (q.ev rfl) ?_
 refine wp_skip<|zq<|zr ?_
 refine sl_buildSliceC (zc:=[I6 0,I6 0,.string (⟨#[]⟩ : ByteArray),I6 0,I6 0,I6 0,I6 0,I6 0,I6 0,I6 0,I6 0]) (zs:=[]) (ps:=[]) (c:=[]) underlying31 sizeOf58 zeroValue58 rfl pc_nil rfl rfl (by decide) (by kernel_rfl) rfl s q (by decide) rfl fun a w b_1 s q=>?_
 refine zm q rfl fun a q=>?_
 obtain ⟨y_4,h_5,H⟩:=bs H
 have s:=s.row_lit (size:=11) (m:=0) rfl (by decide)
 have hq_3 : Reps ty_api_Value R [] ([] : List api_Value):=(Reps.nil _ _)
 refine sl_append_A elT31 (by decide) rfl (fun _ _ _ _ h=>h) (s.ra hRA nil_not) hq_3 rfl h0_0 h_5 s q (by decide) rfl rfl rfl fun a w v_6 cs_7 hq_8 s q=>?_
 refine za q rfl fun a q=>zn ?_
 obtain rfl:=Option.some.inj H
 refine wp_ret ?_
 repeat first | refine zt ?_ | refine zb ?_ | refine zo ?_
 exact ret_1 results55 q (rv_tmp q rfl) ⟨_,rfl,_,_,_,rfl,s,hRL,hq_8⟩
theorem runs_Run_Get.calls (a0 : runs_Run) (a1 : Int) {w0 : World} {R : Hp} {RA : Hp} {b0 : Nat} {o0 : Nat} {v0_0 : Value} (hRA : RA.sub w0) (hR : R.sub w0) (hc0 : ∀ j u,([v0_0] : List Value)[j]? = some u → RA.cell b0 (o0 + j) = some u) (h0_0 : SlR ty_api_Sample RA v0_0 a0.l) {r : (List api_Value) × Bool} (H : runs_Run_Get a0 a1 = some r) : Calls prog 25 #[.pointer (some ⟨b0,o0,none⟩),I6 a1] w0 (Rets fun v w'=>∃ (R' : Hp) (u0 : Value) (cu0 : List Value),v = .tuple #[u0,.bool r.2] ∧ St [] w0 w' R' [.row 58 11 u0 r.1.length cu0] ∧ RLe [] w0 R R' ∧ Reps ty_api_Value R' cu0 r.1):=by
 unfold runs_Run_Get at H
 refine enter (args:=[.pointer (some ⟨b0,o0,none⟩),I6 a1]) func25 rfl ntmps25 rfl fun a q=>?_
 have s:=St.init hR
 have hRL:=RLe.refl (M:=[]) w0 R
 refine zq<|zr<|za q rfl fun a q=>za q rfl fun a q=>zn<|zq<|zr<|zm q rfl fun a q=>zm q rfl fun a q=>?_
 obtain ⟨y_1,h_2,H⟩:=bs H
 refine sl_callV call54 s q (by decide) rfl rfl rfl (runs_Run_place.calls a0 a1 (lentOf_sub [] _) (fun j u hu=>Hp.cell_le (s.raLe0 hRA nil_not) (hc0 j u hu)) (h0_0.mono (s.raLe0 hRA nil_not)) h_2) fun a w s q=>?_
 refine zm q rfl fun a q=>zl q (r_extract q rfl rfl) fun a q=>zl q (r_extract q rfl rfl) fun a q=>za q rfl fun a q=>za q rfl fun a q=>zn<|zq<|zq<|zr<|zm q rfl fun a q=>zl q (r_un q rfl (u_not _)) fun a q=>zn ?_
 refine wp_cond_split (q.ev rfl) (fun (hb_3 : (!y_1.2) = true)=>?_) fun hb_3=>?_
 rw [ifb_t hb_3] at H
 refine zq<|zr<|za q rfl fun a q=>za q rfl fun a q=>zn ?_
 have s:=s.row_nil 58 11
 have hq_5 : Reps ty_api_Value R [] ([] : List api_Value):=Reps.nil _ _
 obtain rfl:=Option.some.inj H
 refine wp_ret ?_
 repeat first | refine zt ?_ | refine zb ?_ | refine zo ?_
 exact ret_2 results25 q (rv_tmp q rfl) (rv_tmp q rfl) ⟨_,rfl,_,_,_,rfl,s,hRL,hq_5⟩
 rw [ifb_f hb_3] at H
 refine wp_skip<|zq<|zr<|zm q rfl fun a q=>zl q (r_nilCheck q rfl) fun a q=>zl q (r_fieldAddr underlying111 rfl sizeOf87 q rfl) fun a q=>zl q (r_load isAgg87 q rfl ((s.ra hRA nil_not).cell (hc0 0 _ rfl))) fun a q=>zm q rfl fun a q=>?_
 obtain ⟨y_6,h_7,H⟩:=bs H
 obtain ⟨b_8,o_9,c_10,cs_11,hv_12,hr_13,hc_14,h_70,h_71⟩:=h0_0.ix h_7
 obtain ⟨v_15,rfl,hs_16⟩:=hr_13
 refine zl q (r_indexAddr_R underlying87 sizeOf90 hv_12 h_70 h_71 q rfl rfl) fun a q=>zl q (r_fieldAddr underlying90 rfl sizeOf31 q rfl) fun a q=>zl q (r_load isAgg31 q rfl ((s.ra hRA nil_not).cell (hc_14 1 _ rfl))) fun a q=>?_
 obtain ⟨y_17,h_18,H⟩:=bs H
 refine sl_call call55 q (by decide) rfl rfl rfl (slices_Clone_api_Value_api_Value.calls y_6.Vals (lentOf_sub [] _) s.sub (hs_16.mono (s.raLe0 hRA nil_not)) h_18) fun a v_ w hv_ q=>?_
 obtain ⟨R_19,v_22,cs_23,hv_,hr_,hl_20,hq_24⟩:=hv_
 have hv_:=hv_.symm
 subst hv_
 obtain ⟨s,hl_20⟩:=s.sp0.back hr_ hl_20
 have s:=s.un1
 have hRL:=hRL.trans hl_20
 refine za q rfl fun a q=>za q rfl fun a q=>zn ?_
 obtain rfl:=Option.some.inj H
 refine wp_ret ?_
 repeat first | refine zt ?_ | refine zb ?_ | refine zo ?_
 exact ret_2 results25 q (rv_tmp q rfl) (rv_tmp q rfl) ⟨_,rfl,_,_,_,rfl,s,hRL,hq_24⟩
theorem streams_Dict_Add.calls (a0 : streams_Dict) (a1 : ByteArray) (a2 : List api_Value) {w0 : World} {R : Hp} {RA : Hp} {M : List Own} {b0 : Nat} {v0_0 : Value} {cs0_0 : List Value} {mb0_1 : Nat} {v2_0 : Value} (hRA : RA.sub w0) (hRM : ∀ b,blks M b → RA b = none) (hS0 : St M w0 w0 R [.cells b0 [I6 a0.most,v0_0,.map (some mb0_1)] 102,.row 113 2 v0_0 a0.l.length cs0_0,.mp mb0_1 (kvs Value.string (Value.int .i64) a0.ids)]) (h0_0 : Reps ty_streams_stream R cs0_0 a0.l) (h2_0 : SlR ty_api_Value RA v2_0 a2) (hG : GF RA) {r : Int × Int × streams_Dict} (H : streams_Dict_Add a0 a1 a2 = some r) : Calls prog 26 #[.pointer (some ⟨b0,0,none⟩),.string a1,v2_0] w0 (Rets fun v w'=>∃ (R' : Hp) (u0 : Value) (cu0 : List Value) (B1 : Nat),v = .tuple #[I6 r.1,I6 r.2.1] ∧ St M w0 w' R' [.cells b0 [I6 r.2.2.most,u0,.map (some B1)] 102,.row 113 2 u0 r.2.2.l.length cu0,.mp B1 (kvs Value.string (Value.int .i64) r.2.2.ids)] ∧ RLe M w0 R R' ∧ Reps ty_streams_stream R' cu0 r.2.2.l):=by
 unfold streams_Dict_Add at H
 refine enter (args:=[.pointer (some ⟨b0,0,none⟩),.string a1,v2_0]) func26 rfl ntmps26 rfl fun a q=>?_
 have s:=hS0
 have hRL:=RLe.refl (M:=M) w0 R
 refine zq<|zr<|za q rfl fun a q=>za q rfl fun a q=>zn<|zq<|zr<|zm q rfl fun a q=>zm q rfl fun a q=>?_
 obtain ⟨y_1,h_2,H⟩:=bs H
 refine sl_callV call53 s q (by decide) rfl rfl rfl (streams_mark.calls a1 a2 (lentOf_sub [] _) (h2_0.mono (s.raLe0 hRA hRM)) (GF.mono (s.raLe0 hRA hRM) hG) h_2) fun a w s q=>?_
 refine zm q rfl fun a q=>zl q (r_extract q rfl rfl) fun a q=>zl q (r_extract q rfl rfl) fun a q=>za q rfl fun a q=>za q rfl fun a q=>zn<|zq<|zr<|zm q rfl fun a q=>zl q (r_nilCheck q rfl) fun a q=>zl q (r_fieldAddr underlying102 rfl sizeOf99 q rfl) fun a q=>zl q (r_load isAgg99 q rfl (s.cell z0 rfl)) fun a q=>zm q rfl fun a q=>zl q (r_lookup_O (m:=a0.ids) (x:=y_1.1) (z:=0) underlying99 underlying9 key_str zeroValue3 s z2 rfl q rfl rfl) fun a q=>zm q rfl fun a q=>zl q (r_extract q rfl rfl) fun a q=>zl q (r_extract q rfl rfl) fun a q=>za q rfl fun a q=>za q rfl fun a q=>zn<|zq ?_
 refine wp_block ?_
 refine zq<|zr<|zm q rfl fun a q=>zl q (r_un q rfl (u_not _)) fun a q=>za q rfl fun a q=>zn ?_
 refine wp_cond_split (q.ev rfl) (fun (hb_3 : (!y_1.2) = true)=>?_) fun hb_3=>?_
 rw [ifb_t hb_3] at H
 refine zq<|zr<|za q rfl fun a q=>za q rfl fun a q=>zn ?_
 obtain rfl:=Option.some.inj H
 refine wp_ret ?_
 repeat first | refine zt ?_ | refine zb ?_ | refine zo ?_
 exact ret_2 results26 q (rv_tmp q rfl) (rv_tmp q rfl) ⟨_,rfl,_,_,_,_,rfl,s,hRL,h0_0⟩
 rw [ifb_f hb_3] at H
 refine zq<|zr<|zm q rfl fun a q=>za q rfl fun a q=>zn ?_
 refine wp_cond_split (q.ev rfl) (fun (hb_4 : ((mget a0.ids y_1.1).isSome) = true)=>?_) fun hb_4=>?_
 rw [ifb_t hb_4] at H
 refine zq<|zr<|zm q rfl fun a q=>za q rfl fun a q=>za q rfl fun a q=>zn ?_
 obtain rfl:=Option.some.inj H
 refine wp_ret ?_
 repeat first | refine zt ?_ | refine zb ?_ | refine zo ?_
 exact ret_2 results26 q (rv_tmp q rfl) (rv_tmp q rfl) ⟨_,rfl,_,_,_,_,rfl,s,hRL,h0_0⟩
 rw [ifb_f hb_4] at H
 refine zq ?_
 refine par_region (C:=fun w=>St M w0 w R [.cells b0 [I6 a0.most,v0_0,.map (some mb0_1)] 102,.row 113 2 v0_0 a0.l.length cs0_0,.mp mb0_1 (kvs Value.string (Value.int .i64) a0.ids)]) [(0,true),(1,true),(2,true),(3,true),(4,true),(5,true),(6,true),(7,true),(8,true),(9,true),(10,true)] mixed (by kernel_rfl) s (fun w s=>s) fun w s=>?_
 refine zp rfl q (fun w s=>r_move q rfl) fun a q=>zp rfl q (fun w s=>r_nilCheck q rfl) fun a q=>zp rfl q (fun w s=>r_fieldAddr underlying102 rfl sizeOf100 q rfl) fun a q=>zp rfl q (fun w s=>r_load isAgg100 q rfl (s.cell z0 rfl)) fun a q=>zp rfl q (fun w s=>r_len_O underlying100 s z1 q rfl) fun a q=>zp rfl q (fun w s=>r_move q rfl) fun a q=>zp rfl q (fun w s=>r_nilCheck q rfl) fun a q=>zp rfl q (fun w s=>r_fieldAddr underlying102 rfl sizeOf3 q rfl) fun a q=>zp rfl q (fun w s=>r_load isAgg3 q rfl (s.cell z0 rfl)) fun a q=>zp rfl q (fun w s=>r_ibin q rfl rfl rfl) fun a q=>zp rfl q (fun w s=>r_assign q rfl) fun a q=>?_
 refine wpPar_nil (NoP_nil ?_)
 refine wp_cond_split (q.ev rfl) (fun (hb_5 : (decide ((a0.l.length : Int) ≥ a0.most)) = true)=>?_) fun hb_5=>?_
 rw [ifb_t hb_5] at H
 refine zq<|zr<|za q rfl fun a q=>za q rfl fun a q=>zn ?_
 obtain rfl:=Option.some.inj H
 refine wp_ret ?_
 repeat first | refine zt ?_ | refine zb ?_ | refine zo ?_
 exact ret_2 results26 q (rv_tmp q rfl) (rv_tmp q rfl) ⟨_,rfl,_,_,_,_,rfl,s,hRL,h0_0⟩
 rw [ifb_f hb_5] at H
 refine wp_skip<|zq<|zr<|zm q rfl fun a q=>zl q (r_len_R underlying31 h2_0 q rfl) fun a q=>?_
 obtain ⟨y_6,h_7,H⟩:=bs H
 refine sl_makeN (ty:=ty_api_Value) (zc:=[I6 0,I6 0,.string (⟨#[]⟩ : ByteArray),I6 0,I6 0,I6 0,I6 0,I6 0,I6 0,I6 0,I6 0]) (x0:=(⟨0,0,(⟨#[]⟩ : ByteArray),(⟨0,0,0,0,0,0,0,0⟩ : Arr8)⟩ : api_Value)) elT31 (by decide) rfl zeroValue58 rfl rfl h_7 s q (by decide) rfl rfl rfl fun a w v_8 cs_9 hq_10 s q=>?_
 refine za q rfl fun a q=>zn<|zq<|zr<|zm q rfl fun a q=>zm q rfl fun a q=>?_
 refine sl_copy_row elT31 rfl (s.ra hRA hRM) (fun _ h=>Reps.any (fun _ _ _ _ h=>h) h) h2_0 hq_10 rfl s q (by decide) rfl rfl rfl fun a w cs_12 hq_13 s q=>?_
 refine zn<|zq ?_
 refine parT_region (C:=fun w=>St M w0 w R [.row 58 11 v_8 (cpy y_6 a2).length cs_12,.cells b0 [I6 a0.most,v0_0,.map (some mb0_1)] 102,.row 113 2 v0_0 a0.l.length cs0_0,.mp mb0_1 (kvs Value.string (Value.int .i64) a0.ids)]) 10 [(0,true),(1,true),(2,true),(3,true),(4,true),(5,true),(6,true),(7,true),(8,true),(9,true)] mixed (by kernel_rfl) s (fun w s=>s) fun w s=>?_
 refine zp rfl q (fun w s=>r_move q rfl) fun a q=>zp rfl q (fun w s=>r_nilCheck q rfl) fun a q=>zp rfl q (fun w s=>r_fieldAddr underlying102 rfl sizeOf99 q rfl) fun a q=>zp rfl q (fun w s=>r_load isAgg99 q rfl (s.cell z1 rfl)) fun a q=>zp rfl q (fun w s=>r_move q rfl) fun a q=>zp rfl q (fun w s=>r_move q rfl) fun a q=>zp rfl q (fun w s=>r_nilCheck q rfl) fun a q=>zp rfl q (fun w s=>r_fieldAddr underlying102 rfl sizeOf100 q rfl) fun a q=>zp rfl q (fun w s=>r_load isAgg100 q rfl (s.cell z1 rfl)) fun a q=>zp rfl q (fun w s=>r_len_O underlying100 s z2 q rfl) fun a q=>?_
 refine thenL_nil ?_
 have s:=s.pk3
 refine sl_mapUpdate (m:=a0.ids) (x:=y_1.1) (y:=(a0.l.length : Int)) underlying99 underlying9 key_str s q rfl rfl rfl rfl fun a w s q=>?_
 refine wpList_nil (NoP_nil ?_)
 refine zq<|zr<|zm q rfl fun a q=>zm q rfl fun a q=>zl q (r_nilCheck q rfl) fun a q=>zl q (r_fieldAddr underlying102 rfl sizeOf100 q rfl) fun a q=>zl q (r_load isAgg100 q rfl (s.cell z2 rfl)) fun a q=>zm q rfl fun a q=>zm q rfl fun a q=>?_
 have ho_15:=s.row_one z1
 refine zl q (r_buildC (ps:=[(0,.string a1),(1,v_8)]) (c:=[.string a1,v_8]) underlying113 zeroValue113 places113 q rfl (pc_cons rfl (pc_cons (cells1 ho_15) pc_nil)) rfl rfl) fun a q=>?_
 refine sl_buildSliceF (zc:=[.string (⟨#[]⟩ : ByteArray),.slice none 0 0]) (ps:=[(0,.agg #[.string a1,v_8])]) (c:=[.string a1,v_8]) [[.string a1,v_8]] underlying100 sizeOf113 zeroValue113 rfl (pc_cons rfl pc_nil) rfl rfl (Nat.le_of_ble_eq_true rfl) rfl (zc zz) rfl s q (by decide) rfl fun a w b_16 s q=>?_
 have s:=s.pk4
 have s:=s.pk3
 obtain ⟨R_17,s,hl_19,hs_18⟩:=s.fz_row hq_13 rfl rfl
 have hRL:=hRL.trans hl_19
 obtain ⟨y_20,h_21,H⟩:=bs H
 refine sl_append_L (ty:=ty_streams_stream) (ys:=[(⟨a1,cpy y_6 a2⟩ : streams_stream)]) elT100 (by decide) rfl (h0_0.mono hl_19.le) rfl (Reps.cons (show Ty.rep ty_streams_stream _ [.string a1,v_8] (⟨a1,cpy y_6 a2⟩ : streams_stream) from ⟨_,rfl,hs_18⟩) (Reps.nil _ _)) rfl h_21 s q (by decide) rfl rfl rfl fun a w v_22 cs_23 hq_24 s q=>?_
 refine zl q (r_nilCheck q rfl) fun a q=>zl q (r_fieldAddr underlying102 rfl sizeOf100 q rfl) fun a q=>?_
 have s:=s.pk2
 refine sl_store1 (c':=[I6 a0.most,v_22,.map (some mb0_1)]) sizeOf100 s q rfl rfl rfl (s.row_one z1) (Nat.le_of_ble_eq_true rfl) rfl fun a w s q=>?_
 refine zn<|zq<|zr<|zm q rfl fun a q=>zl q (r_nilCheck q rfl) fun a q=>zl q (r_fieldAddr underlying102 rfl sizeOf100 q rfl) fun a q=>zl q (r_load isAgg100 q rfl (s.cell z0 rfl)) fun a q=>zl q (r_len_O underlying100 s z1 q rfl) fun a q=>zl q (r_ibin q rfl rfl rfl) fun a q=>za q rfl fun a q=>za q rfl fun a q=>zn ?_
 obtain rfl:=Option.some.inj H
 refine wp_ret ?_
 repeat first | refine zt ?_ | refine zb ?_ | refine zo ?_
 exact ret_2 results26 q (rv_tmp q rfl) (rv_tmp q rfl) ⟨_,rfl,_,_,_,_,rfl,s,hRL,hq_24⟩
theorem runs_New.calls {w0 : World} {R : Hp} (hR : R.sub w0) {r : runs_Run} (H : runs_New  = some r) : Calls prog 27 #[] w0 (Rets fun v w'=>∃ (R' : Hp) (B0 : Nat) (u1 : Value) (cu1 : List Value),v = .pointer (some ⟨B0,0,none⟩) ∧ St [] w0 w' R' [.cells B0 [u1] 111,.row 90 2 u1 r.l.length cu1] ∧ RLe [] w0 R R' ∧ Reps ty_api_Sample R' cu1 r.l):=by
 unfold runs_New at H
 refine enter (args:=[]) func27 rfl ntmps27 rfl fun a q=>?_
 have s:=St.init hR
 have hRL:=RLe.refl (M:=[]) w0 R
 refine zq<|zr<|za q rfl fun a q=>zn<|zq<|zr<|zl q (r_buildC (ps:=[]) (c:=[.slice none 0 0]) underlying111 zeroValue111 places111 q rfl pc_nil rfl rfl) fun a q=>?_
 refine sl_box s q (by decide) rfl rfl (c:=[.slice none 0 0]) rfl fun a w b_1 s q=>?_
 refine za q rfl fun a q=>zn ?_
 have s:=s.row_nil 90 2
 have hq_3 : Reps ty_api_Sample R [] ([] : List api_Sample):=Reps.nil _ _
 obtain rfl:=Option.some.inj H
 refine wp_ret ?_
 repeat first | refine zt ?_ | refine zb ?_ | refine zo ?_
 exact ret_1 results27 q (rv_tmp q rfl) ⟨_,rfl,_,_,_,_,rfl,s.pk1,hRL,hq_3⟩
set_option maxHeartbeats 4000000 in
set_option maxRecDepth 100000 in
theorem slices_Insert_api_Sample_api_Sample.calls (a0 : List api_Sample) (a1 : Int) (a2 : List api_Sample) {w0 : World} {R : Hp} {M : List Own} {v0 v2 : Value} {cs0 cs2 : List Value} (hS0 : St M w0 w0 R [.row 90 2 v0 a0.length cs0, .row 90 2 v2 a2.length cs2]) (h0 : Reps ty_api_Sample R cs0 a0) (h2 : Reps ty_api_Sample R cs2 a2) {r : List api_Sample} (H : ins 32 a0 a1 a2 = some r) :
    Calls Tryz.prog 56 #[v0, .int .i64 a1, v2] w0 (Rets fun v w' => ∃ (R' : Hp) (u0 : Value) (cu0 : List Value), v = u0 ∧ St M w0 w' R' [.row 90 2 u0 r.length cu0] ∧ RLe M w0 R R' ∧ Reps ty_api_Sample R' cu0 r) := by
  obtain ⟨k, rfl, hk, hb, rfl⟩ := ins_some H
  have hbig : a0.length + a2.length ≤ 140737488355328 := Nat.le_trans (Nat.le_mul_of_pos_right _ (by decide)) hb
  have hl0 := h0.length
  have hl2 := h2.length
  have hz : ty_api_Sample.n = 2 := rfl
  rw [hz] at hl0 hl2
  have hsp := h0.split k
  rw [hz] at hsp
  have hreps : Reps ty_api_Sample R (cs0.take (k * 2) ++ (cs2 ++ cs0.drop (k * 2))) (a0.take k ++ (a2 ++ a0.drop k)) := hsp.1.append (h2.append hsp.2)
  have hrl : (a0.take k ++ (a2 ++ a0.drop k)).length = a0.length + a2.length := by simp; omega
  rw [hrl]
  generalize hcr : cs0.take (k * 2) ++ (cs2 ++ cs0.drop (k * 2)) = cr at hreps
  generalize hr : a0.take k ++ (a2 ++ a0.drop k) = zs at hreps
  have hones2 := h2.one
  have hones0 := h0.one
  generalize hn : a0.length = n at *
  generalize hm : a2.length = m at *
  have hown0 : w0.ownsRow 0 90 2 v0 n cs0 := hS0.own (.row 90 2 v0 n cs0) (List.mem_cons_self ..)
  have hown2 : w0.ownsRow 0 90 2 v2 m cs2 := hS0.own (.row 90 2 v2 m cs2) (.tail _ (.head _))
  obtain ⟨ad0, c0, hv0, hnc0⟩ := ownsRow_cap hown0
  obtain ⟨ad2, c2, hv2, hnc2⟩ := ownsRow_cap hown2
  refine enter (args := [v0, .int .i64 (k : Int), v2]) Tryz.func56 rfl Tryz.ntmps56 rfl fun a hK => ?_
  have hS := hS0
  refine wp_seq ?_
  refine wp_region_lit ?_
  refine sl hK (by decide) rfl rfl (r_assign hK rfl) fun a hK => ?_
  refine wpList_nil ?_
  refine wp_seq ?_
  refine wp_region_lit ?_
  refine sl hK (by decide) rfl rfl (r_move hK rfl) fun a hK => ?_
  refine sl hK (by decide) rfl rfl (r_move hK rfl) fun a hK => ?_
  refine sl hK (by decide) rfl rfl (r_slice_H (l := k) (h := n) Tryz.underlying87 Tryz.sizeOf90 hk hnc0 hK (by rw [← hv0]; rfl) ⟨_, rfl⟩ rfl) fun a hK => ?_
  refine wpList_nil ?_
  refine wp_seq ?_
  refine wp_region_lit ?_
  refine sl hK (by decide) rfl rfl (r_move hK rfl) fun a hK => ?_
  refine sl hK (by decide) rfl rfl (r_len_sl Tryz.underlying87 hK (by rw [← hv2]; rfl)) fun a hK => ?_
  refine sl hK (by decide) rfl rfl (r_assign hK rfl) fun a hK => ?_
  refine wpList_nil ?_
  refine wp_seq ?_
  refine wp_seq ?_
  refine wp_region_lit ?_
  refine sl hK (by decide) rfl rfl (r_move hK rfl) fun a hK => ?_
  refine sl hK (by decide) rfl rfl (r_ibin hK rfl rfl rfl) fun a hK => ?_
  refine wpList_nil ?_
  by_cases hm0 : m = 0
  · refine wp_cond_true ((hK.ev rfl).trans (congrArg Value.bool (show ((m : Int) == 0) = true by simp [hm0]))) ?_
    refine wp_seq ?_
    refine wp_region_lit ?_
    refine sl hK (by decide) rfl rfl (r_move hK rfl) fun a hK => ?_
    refine sl hK (by decide) rfl rfl (r_assign hK rfl) fun a hK => ?_
    refine wpList_nil ?_
    refine wp_ret ?_
    repeat (first | refine ret_then ?_ | refine ret_block ?_)
    have e2 : cs2 = [] := List.eq_nil_of_length_eq_zero (by rw [hl2, hm0])
    have ecr : cr = cs0 := by rw [← hcr, e2]; simp
    refine ret_1 Tryz.results56 hK (rv_tmp hK rfl) ⟨_, rfl, R, v0, cs0, rfl, ?_, RLe.refl _ _, by rw [← ecr]; exact hreps⟩
    rw [hm0, Nat.add_zero]
    exact hS.trunc 1
  refine wp_cond_false ((hK.ev rfl).trans (congrArg Value.bool (show ((m : Int) == 0) = false by simp [hm0]))) ?_
  refine wp_skip ?_
  refine wp_seq ?_
  refine wp_region_lit ?_
  refine sl hK (by decide) rfl rfl (r_move hK rfl) fun a hK => ?_
  refine sl hK (by decide) rfl rfl (r_len_sl Tryz.underlying87 hK (by rw [← hv0]; rfl)) fun a hK => ?_
  refine sl hK (by decide) rfl rfl (r_assign hK rfl) fun a hK => ?_
  refine wpList_nil ?_
  refine wp_seq ?_
  refine wp_seq ?_
  refine wp_region_lit ?_
  refine sl hK (by decide) rfl rfl (r_move hK rfl) fun a hK => ?_
  refine sl hK (by decide) rfl rfl (r_move hK rfl) fun a hK => ?_
  refine sl hK (by decide) rfl rfl (r_ibin hK rfl rfl rfl) fun a hK => ?_
  refine wpList_nil ?_
 
  rcases hS.pk1.row_raw with ⟨_, hq, _⟩ | ⟨b2, cap2, cur2, hv2', hnc2', hcm2, hcl2, hct2, hS⟩
  · exact absurd hq hm0
  have hsrc2 : ∀ {w : World} {O : List Own}, St M w0 w R O → Own.cells b2 cur2 90 ∈ O → ∀ j u, cs2[j]? = some u → w.cell? ⟨b2, 0 + j, none⟩ = some u := fun hS hmem j u hu => by
    rw [← hct2, List.getElem?_take] at hu
    split at hu
    · rw [Nat.zero_add]; exact hS.cell hmem hu
    · cases hu
  by_cases hkn : k = n
  · refine wp_cond_true ((hK.ev rfl).trans (congrArg Value.bool (show ((k : Int) == (n : Int)) = true by simp [hkn]))) ?_
    refine wp_seq ?_
    refine wp_region_lit ?_
    refine sl hK (by decide) rfl rfl (r_move hK rfl) fun a hK => ?_
    refine sl hK (by decide) rfl rfl (r_move hK rfl) fun a hK => ?_
    have hS := hS.pk1
    refine sl_append_C (k := m) (ds := cs2) elT87 (by decide) hl2 hones2 hb hv2' (fun _ => ⟨b2, 0, rfl, hsrc2 hS (.tail _ (.head _))⟩) hS hK (by decide) rfl rfl rfl fun a w v' hS hK => ?_
    refine sl hK (by decide) rfl rfl (r_assign hK rfl) fun a hK => ?_
    refine wpList_nil ?_
    refine wp_ret ?_
    repeat (first | refine ret_then ?_ | refine ret_block ?_)
    have ecr : cr = cs0 ++ cs2 := by
      rw [← hcr, hkn, List.take_of_length_le (by omega), List.drop_of_length_le (by omega)]; simp
    exact ret_1 Tryz.results56 hK (rv_tmp hK rfl) ⟨_, rfl, R, v', cs0 ++ cs2, rfl, hS.trunc 1, RLe.refl _ _, by rw [← ecr]; exact hreps⟩
  refine wp_cond_false ((hK.ev rfl).trans (congrArg Value.bool (show ((k : Int) == (n : Int)) = false by simp; omega))) ?_
  refine wp_skip ?_
  rcases hS.pk1.row_raw with ⟨_, hq, _⟩ | ⟨b, cap, cur, hv0', hnc0', hcm, hcl, hct, hS⟩
  · omega
  have hcur : cs0.length ≤ cur.length := by rw [← hct, List.length_take]; omega
  have hcell0 : ∀ j u, cs0[j]? = some u → cur[j]? = some u := fun j u hu => by
    rw [← hct, List.getElem?_take] at hu
    split at hu
    · exact hu
    · cases hu
  clear hv0 hv2 hnc0 hnc2
  have hw1 : IntKind.i64.wrap ((n : Int) + (m : Int)) = ((n + m : Nat) : Int) := by rw [w64 (by omega) (by omega)]; omega
  have hw2 : IntKind.i64.wrap ((k : Int) + (m : Int)) = ((k + m : Nat) : Int) := by rw [w64 (by omega) (by omega)]; omega
  have hw3 : IntKind.i64.wrap (((n + m : Nat) : Int) - (k : Int)) = ((n + m - k : Nat) : Int) := by rw [w64 (by omega) (by omega)]; omega
  refine wp_seq ?_
  refine wp_seq ?_
  refine wp_region_lit ?_
  refine sl hK (by decide) rfl rfl (r_move hK rfl) fun a hK => ?_
  refine sl hK (by decide) rfl rfl (r_move hK rfl) fun a hK => ?_
  refine sl hK (by decide) rfl rfl (r_ibin hK rfl rfl rfl) fun a hK => ?_
  refine sl hK (by decide) rfl rfl (r_move hK rfl) fun a hK => ?_
  refine sl hK (by decide) rfl rfl (r_cap Tryz.underlying87 hK (by rw [← hv0']; rfl)) fun a hK => ?_
  refine sl hK (by decide) rfl rfl (r_ibin hK rfl rfl rfl) fun a hK => ?_
  refine wpList_nil ?_
  rw [hw1] at hK
  by_cases hg : cap < n + m
  · refine wp_cond_true ((hK.ev rfl).trans (congrArg Value.bool (show decide (((n + m : Nat) : Int) > (cap : Int)) = true by simp; omega))) ?_
    have hev0 : v0 = .slice (some ⟨b, 0, none⟩) n cap := hv0'
    refine wp_seq ?_
    refine wp_region_lit ?_
    refine sl hK (by decide) rfl rfl (r_move hK rfl) fun a hK => ?_
    refine sl hK (by decide) rfl rfl (r_move hK rfl) fun a hK => ?_
    refine sl hK (by decide) rfl rfl (r_slice_Hv (b := b) (o := 0) (m := n) (c := cap) (l := 0) (h := k) (o' := 0) (m' := k) (c' := cap) Tryz.underlying87 Tryz.sizeOf90 (by omega) (by omega) (Or.inr rfl) rfl rfl rfl hK (by rw [← hev0]; rfl) rfl ⟨_, rfl⟩) fun a hK => ?_
    refine sl hK (by decide) rfl rfl (r_move hK rfl) fun a hK => ?_
    refine sl hK (by decide) rfl rfl (r_move hK rfl) fun a hK => ?_
    refine sl hK (by decide) rfl rfl (r_ibin (k := .i64) (v := .int .i64 ((n + m : Nat) : Int)) hK rfl rfl (by rw [← hw1]; rfl)) fun a hK => ?_
    refine sl hK (by decide) rfl rfl (r_move hK rfl) fun a hK => ?_
    refine sl hK (by decide) rfl rfl (r_ibin (k := .i64) (v := .int .i64 ((n + m - k : Nat) : Int)) hK rfl rfl (by rw [← hw3]; rfl)) fun a hK => ?_
    refine sl_append_zeros (i := k) (k := n + m - k) (olds := cs0.take (k * 2)) elT87 Tryz.underlying3 (by omega) (by omega) (by decide) (by rw [show k + (n + m - k) = n + m by omega]; exact hb) (by rw [List.length_take]; omega) (fun _ => ⟨b, 0, rfl, fun j u hu => by
      rw [List.getElem?_take] at hu
      split at hu
      · rw [Nat.zero_add]; exact hS.cell (.head _) (hcell0 j u hu)
      · cases hu⟩) (fun _ h => by cases h) hS hK (by decide) rfl rfl rfl fun a w bn capn rest' hgn hcmn hln hS hK => ?_
    have hbn : b ≠ bn := fun e => (List.pairwise_cons.1 hS.sep).1 (.cells b cur 90) (List.mem_cons_self ..) bn rfl (by rw [Own.blk, e])
    rw [show k + (n + m - k) = n + m by omega] at hgn hK
    have htl : (cs0.take (k * 2)).length = k * 2 := by rw [List.length_take]; omega
    refine sl hK (by decide) rfl rfl (r_assign hK rfl) fun a hK => ?_
    refine wpList_nil ?_
    refine wp_seq ?_
    refine wp_region_lit ?_
    refine sl hK (by decide) rfl rfl (r_move hK rfl) fun a hK => ?_
    refine sl hK (by decide) rfl rfl (r_move hK rfl) fun a hK => ?_
    refine sl hK (by decide) rfl rfl (r_slice_Hv (l := k) (h := n + m) (o' := k * 2) (m' := n + m - k) (c' := capn - k) Tryz.underlying87 Tryz.sizeOf90 (by omega) (by omega) (Or.inl (by omega)) (by omega) rfl rfl hK rfl ⟨_, rfl⟩ rfl) fun a hK => ?_
    refine sl hK (by decide) rfl rfl (r_move hK rfl) fun a hK => ?_
    refine sl_copy (k := m) (news := cs2) Tryz.underlying87 Tryz.sizeOf90 (by simp only [Nat.min_def]; split <;> omega) hl2 hones2 (by rw [hln]; omega) (fun _ => ⟨b2, 0, rfl, hsrc2 hS (.tail _ (.tail _ (.head _)))⟩) hS hK (by decide) rfl rfl rfl rfl hv2' fun a w hS hK => ?_
    refine wpList_nil ?_
    have e1 : (cs0.take (k * 2) ++ rest').take (k * 2) = cs0.take (k * 2) := by rw [List.take_append_of_le_length (by omega), List.take_take, Nat.min_self]
    rw [e1] at hS
    have hdl : ((cs0.take (k * 2) ++ rest').drop (k * 2 + cs2.length)).length = capn * 2 - (k * 2 + m * 2) := by rw [List.length_drop, hln, hl2]
    generalize hdr : (cs0.take (k * 2) ++ rest').drop (k * 2 + cs2.length) = dr at hS hdl
    refine wp_seq ?_
    refine par_region (C := fun _ => True) [(0, true), (1, true), (2, true), (3, true), (4, true), (5, true), (6, true), (7, true), (8, false)] mixed (by kernel_rfl) hS (fun _ _ => trivial) fun w hS => ?_
    refine sp (k := 0) rfl hK (by decide) rfl rfl (fun w _ => r_move hK rfl) fun a hK => ?_
    refine sp (k := 1) rfl hK (by decide) rfl rfl (fun w _ => r_move hK rfl) fun a hK => ?_
    refine sp (k := 2) rfl hK (by decide) rfl rfl (fun w _ => r_move hK rfl) fun a hK => ?_
    refine sp (k := 3) rfl hK (by decide) rfl rfl (fun w _ => r_ibin (k := .i64) (v := .int .i64 ((k + m : Nat) : Int)) hK rfl rfl (by rw [← hw2]; rfl)) fun a hK => ?_
    refine sp (k := 4) rfl hK (by decide) rfl rfl (fun w _ => r_slice_Hv (l := k + m) (h := n + m) (o' := (k + m) * 2) (m' := n - k) (c' := capn - (k + m)) Tryz.underlying87 Tryz.sizeOf90 (by omega) (by omega) (Or.inl (by omega)) (by omega) (by omega) rfl hK rfl ⟨_, rfl⟩ rfl) fun a hK => ?_
    refine sp (k := 5) rfl hK (by decide) rfl rfl (fun w _ => r_move hK rfl) fun a hK => ?_
    refine sp (k := 6) rfl hK (by decide) rfl rfl (fun w _ => r_move hK rfl) fun a hK => ?_
    refine sp (k := 7) rfl hK (by decide) rfl rfl (fun w _ => r_slice_Hv (b := b) (o := 0) (m := n) (c := cap) (l := k) (h := n) (o' := k * 2) (m' := n - k) (c' := cap - k) Tryz.underlying87 Tryz.sizeOf90 (by omega) (by omega) (Or.inl (by omega)) (by omega) rfl rfl hK (by rw [← hev0]; rfl) ⟨_, rfl⟩ rfl) fun a hK => ?_
    refine spw (k := 8) rfl rfl trivial ?_
    refine sl_copy (k := n - k) (news := cs0.drop (k * 2)) Tryz.underlying87 Tryz.sizeOf90 (by simp) (by rw [List.length_drop]; omega) (fun u hu => hones0 u (List.mem_of_mem_drop hu)) (by simp only [List.length_append, htl, hl2, hdl]; omega) (fun _ => ⟨b, k * 2, rfl, fun j u hu => by
      rw [List.getElem?_drop] at hu
      exact hS.cell (.tail _ (.head _)) (hcell0 _ u hu)⟩) hS hK (by decide) rfl rfl rfl rfl rfl fun a w hS hK => ?_
    refine parK_nil trivial ?_
    refine wpPar_nil (NoP_nil ?_)
    refine wp_seq ?_
    refine wp_region_lit ?_
    refine sl hK (by decide) rfl rfl (r_move hK rfl) fun a hK => ?_
    refine sl hK (by decide) rfl rfl (r_assign hK rfl) fun a hK => ?_
    refine wpList_nil ?_
    refine wp_ret ?_
    repeat (first | refine ret_then ?_ | refine ret_block ?_)
    have hlen1 : (cs0.take (k * 2) ++ cs2).length = (k + m) * 2 := by rw [List.length_append, htl, hl2]; omega
    have e3 : (cs0.take (k * 2) ++ cs2 ++ dr).take ((k + m) * 2) = cs0.take (k * 2) ++ cs2 := by rw [← hlen1, List.take_left]
    rw [e3] at hS
    have hS := hS.raw_row (z := 2) (m := n + m) hgn hcmn (by simp only [List.length_append, List.length_drop, htl, hl2, hdl]; omega)
    have hlen2 : (cs0.take (k * 2) ++ cs2 ++ cs0.drop (k * 2)).length = (n + m) * 2 := by simp only [List.length_append, List.length_drop, htl, hl2]; omega
    have e4 : (cs0.take (k * 2) ++ cs2 ++ cs0.drop (k * 2) ++ (cs0.take (k * 2) ++ cs2 ++ dr).drop ((k + m) * 2 + (cs0.drop (k * 2)).length)).take ((n + m) * 2) = cr := by
      rw [← hlen2, List.take_left, ← hcr, List.append_assoc]
    rw [e4] at hS
    exact ret_1 Tryz.results56 hK (rv_tmp hK rfl) ⟨_, rfl, R, _, cr, rfl, hS.trunc 1, RLe.refl _ _, hreps⟩
  · refine wp_cond_false ((hK.ev rfl).trans (congrArg Value.bool (show decide (((n + m : Nat) : Int) > (cap : Int)) = false by simp; omega))) ?_
    have hev0 : v0 = .slice (some ⟨b, 0, none⟩) n cap := hv0'
    refine wp_skip ?_
    refine wp_seq ?_
    refine wp_region_lit ?_
    refine sl hK (by decide) rfl rfl (r_move hK rfl) fun a hK => ?_
    refine sl hK (by decide) rfl rfl (r_move hK rfl) fun a hK => ?_
    refine sl hK (by decide) rfl rfl (r_move hK rfl) fun a hK => ?_
    refine sl hK (by decide) rfl rfl (r_ibin (k := .i64) (v := .int .i64 ((n + m : Nat) : Int)) hK rfl rfl (by rw [← hw1]; rfl)) fun a hK => ?_
    refine sl hK (by decide) rfl rfl (r_slice_Hv (b := b) (o := 0) (m := n) (c := cap) (l := 0) (h := n + m) (o' := 0) (m' := n + m) (c' := cap) Tryz.underlying87 Tryz.sizeOf90 (by omega) (by omega) (Or.inr rfl) rfl rfl rfl hK (by rw [← hev0]; rfl) rfl ⟨_, rfl⟩) fun a hK => ?_
    refine sl hK (by decide) rfl rfl (r_assign hK rfl) fun a hK => ?_
    refine wpList_nil ?_
    refine wp_seq ?_
    refine wp_seq ?_
    refine wp_region_lit ?_
    refine sl hK (by decide) rfl rfl (r_move hK rfl) fun a hK => ?_
    refine sl hK (by decide) rfl rfl (r_move hK rfl) fun a hK => ?_
    refine sl hK (by decide) rfl rfl (r_move hK rfl) fun a hK => ?_
    refine sl hK (by decide) rfl rfl (r_move hK rfl) fun a hK => ?_
    refine sl hK (by decide) rfl rfl (r_ibin (k := .i64) (v := .int .i64 ((k + m : Nat) : Int)) hK rfl rfl (by rw [← hw2]; rfl)) fun a hK => ?_
    refine sl hK (by decide) rfl rfl (r_slice_Hv (l := k + m) (h := n + m) (o' := (k + m) * 2) (m' := n - k) (c' := cap - (k + m)) Tryz.underlying87 Tryz.sizeOf90 (by omega) (by omega) (Or.inl (by omega)) (by omega) (by omega) rfl hK rfl ⟨_, rfl⟩ rfl) fun a hK => ?_
    refine sl hK (by decide) rfl rfl (r_overlaps (tS := 87) (tR := 4) Tryz.func84 (by kernel_rfl) (by kernel_rfl) (by kernel_rfl) (by kernel_rfl) Tryz.underlying87 Tryz.sizeOf90 hS (fun e => by rw [e] at hcl; simp at hcl; omega) hK rfl (by rw [← hv2']; rfl) rfl) fun a hK => ?_
    refine sl hK (by decide) rfl rfl (r_un hK rfl (u_not _)) fun a hK => ?_
    refine wpList_nil ?_
    refine wp_cond_true (hK.ev rfl) ?_
    refine wp_seq ?_
    refine par_region (C := fun _ => True) [(0, true), (1, true), (2, true), (3, true), (4, true), (5, true), (6, true), (7, true), (8, false)] mixed (by kernel_rfl) hS (fun _ _ => trivial) fun w hS => ?_
    refine sp (k := 0) rfl hK (by decide) rfl rfl (fun w _ => r_move hK rfl) fun a hK => ?_
    refine sp (k := 1) rfl hK (by decide) rfl rfl (fun w _ => r_move hK rfl) fun a hK => ?_
    refine sp (k := 2) rfl hK (by decide) rfl rfl (fun w _ => r_move hK rfl) fun a hK => ?_
    refine sp (k := 3) rfl hK (by decide) rfl rfl (fun w _ => r_ibin (k := .i64) (v := .int .i64 ((k + m : Nat) : Int)) hK rfl rfl (by rw [← hw2]; rfl)) fun a hK => ?_
    refine sp (k := 4) rfl hK (by decide) rfl rfl (fun w _ => r_slice_Hv (l := k + m) (h := n + m) (o' := (k + m) * 2) (m' := n - k) (c' := cap - (k + m)) Tryz.underlying87 Tryz.sizeOf90 (by omega) (by omega) (Or.inl (by omega)) (by omega) (by omega) rfl hK rfl ⟨_, rfl⟩ rfl) fun a hK => ?_
    refine sp (k := 5) rfl hK (by decide) rfl rfl (fun w _ => r_move hK rfl) fun a hK => ?_
    refine sp (k := 6) rfl hK (by decide) rfl rfl (fun w _ => r_move hK rfl) fun a hK => ?_
    refine sp (k := 7) rfl hK (by decide) rfl rfl (fun w _ => r_slice_Hv (l := k) (h := n + m) (o' := k * 2) (m' := n + m - k) (c' := cap - k) Tryz.underlying87 Tryz.sizeOf90 (by omega) (by omega) (Or.inl (by omega)) (by omega) rfl rfl hK rfl ⟨_, rfl⟩ rfl) fun a hK => ?_
    refine spw (k := 8) rfl rfl trivial ?_
    refine sl_copy (k := n - k) (news := cs0.drop (k * 2)) Tryz.underlying87 Tryz.sizeOf90 (by simp only [Nat.min_def]; split <;> omega) (by rw [List.length_drop]; omega) (fun u hu => hones0 u (List.mem_of_mem_drop hu)) (by rw [hcl]; omega) (fun _ => ⟨b, k * 2, rfl, fun j u hu => by
      rw [List.getElem?_drop] at hu
      exact hS.cell (.head _) (hcell0 _ u hu)⟩) hS hK (by decide) rfl rfl rfl rfl rfl fun a w hS hK => ?_
    refine parK_nil trivial ?_
    refine wpPar_nil (NoP_nil ?_)
    refine wp_seq ?_
    refine wp_region_lit ?_
    refine sl hK (by decide) rfl rfl (r_move hK rfl) fun a hK => ?_
    refine sl hK (by decide) rfl rfl (r_move hK rfl) fun a hK => ?_
    refine sl hK (by decide) rfl rfl (r_slice_Hv (l := k) (h := n + m) (o' := k * 2) (m' := n + m - k) (c' := cap - k) Tryz.underlying87 Tryz.sizeOf90 (by omega) (by omega) (Or.inl (by omega)) (by omega) rfl rfl hK rfl ⟨_, rfl⟩ rfl) fun a hK => ?_
    refine sl hK (by decide) rfl rfl (r_move hK rfl) fun a hK => ?_
    have hcl1 : (cur.take ((k + m) * 2) ++ cs0.drop (k * 2) ++ cur.drop ((k + m) * 2 + (cs0.drop (k * 2)).length)).length = cap * 2 := by simp only [List.length_append, List.length_take, List.length_drop, hcl]; omega
    refine sl_copy (k := m) (news := cs2) Tryz.underlying87 Tryz.sizeOf90 (by simp only [Nat.min_def]; split <;> omega) hl2 hones2 (by rw [hcl1]; omega) (fun _ => ⟨b2, 0, rfl, hsrc2 hS (.tail _ (.head _))⟩) hS hK (by decide) rfl rfl rfl rfl hv2' fun a w hS hK => ?_
    refine wpList_nil ?_
    refine wp_seq ?_
    refine wp_region_lit ?_
    refine sl hK (by decide) rfl rfl (r_move hK rfl) fun a hK => ?_
    refine sl hK (by decide) rfl rfl (r_assign hK rfl) fun a hK => ?_
    refine wpList_nil ?_
    refine wp_ret ?_
    repeat (first | refine ret_then ?_ | refine ret_block ?_)
    have hS := hS.raw_row (z := 2) (m := n + m) (cap := cap) (by omega) hcm (by simp only [List.length_append, List.length_take, List.length_drop, hcl, hl2]; omega)
    have e5 : ((cur.take ((k + m) * 2) ++ cs0.drop (k * 2) ++ cur.drop ((k + m) * 2 + (cs0.drop (k * 2)).length)).take (k * 2) ++ cs2 ++ (cur.take ((k + m) * 2) ++ cs0.drop (k * 2) ++ cur.drop ((k + m) * 2 + (cs0.drop (k * 2)).length)).drop (k * 2 + cs2.length)).take ((n + m) * 2) = cr := by
      have htl : (cs0.take (k * 2)).length = k * 2 := by rw [List.length_take]; omega
      have hA : (cur.take ((k + m) * 2)).length = (k + m) * 2 := by rw [List.length_take]; omega
      have e6 : (cur.take ((k + m) * 2) ++ cs0.drop (k * 2) ++ cur.drop ((k + m) * 2 + (cs0.drop (k * 2)).length)).take (k * 2) = cs0.take (k * 2) := by
        rw [List.append_assoc, List.take_append_of_le_length (by omega), List.take_take, Nat.min_eq_left (by omega), ← hct, List.take_take, Nat.min_eq_left (by omega)]
      have e7 : (cur.take ((k + m) * 2) ++ cs0.drop (k * 2) ++ cur.drop ((k + m) * 2 + (cs0.drop (k * 2)).length)).drop (k * 2 + cs2.length) = cs0.drop (k * 2) ++ cur.drop ((k + m) * 2 + (cs0.drop (k * 2)).length) := by
        rw [show k * 2 + cs2.length = (cur.take ((k + m) * 2)).length by rw [hA, hl2]; omega, List.append_assoc, List.drop_left]
      rw [e6, e7, ← hcr, List.append_assoc, ← List.append_assoc cs2, ← List.append_assoc]
      have hlen : (cs0.take (k * 2) ++ (cs2 ++ cs0.drop (k * 2))).length = (n + m) * 2 := by simp only [List.length_append, List.length_drop, htl, hl2]; omega
      rw [← hlen, List.take_left]
    rw [e5] at hS
    exact ret_1 Tryz.results56 hK (rv_tmp hK rfl) ⟨_, rfl, R, _, cr, rfl, hS.trunc 1, RLe.refl _ _, hreps⟩
theorem runs_Run_Add.calls (a0 : runs_Run) (a1 : Int) (a2 : List api_Value) {w0 : World} {R : Hp} {RA : Hp} {M : List Own} {b0 : Nat} {v0_0 : Value} {cs0_0 : List Value} {v2_0 : Value} (hRA : RA.sub w0) (hRM : ∀ b,blks M b → RA b = none) (hS0 : St M w0 w0 R [.cells b0 [v0_0] 111,.row 90 2 v0_0 a0.l.length cs0_0]) (h0_0 : Reps ty_api_Sample R cs0_0 a0.l) (h2_0 : SlR ty_api_Value RA v2_0 a2) {r : Bool × runs_Run} (H : runs_Run_Add a0 a1 a2 = some r) : Calls prog 28 #[.pointer (some ⟨b0,0,none⟩),I6 a1,v2_0] w0 (Rets fun v w'=>∃ (R' : Hp) (u0 : Value) (cu0 : List Value),v = .bool r.1 ∧ St M w0 w' R' [.cells b0 [u0] 111,.row 90 2 u0 r.2.l.length cu0] ∧ RLe M w0 R R' ∧ Reps ty_api_Sample R' cu0 r.2.l):=by
 unfold runs_Run_Add at H
 refine enter (args:=[.pointer (some ⟨b0,0,none⟩),I6 a1,v2_0]) func28 rfl ntmps28 rfl fun a q=>?_
 have s:=hS0
 have hRL:=RLe.refl (M:=M) w0 R
 refine zq<|zr<|za q rfl fun a q=>zn<|zq<|zr<|zm q rfl fun a q=>zm q rfl fun a q=>?_
 obtain ⟨y_1,h_2,H⟩:=bs H
 refine sl_callV call54 s q (by decide) rfl rfl rfl (runs_Run_place.calls a0 a1 (lentOf_sub [] _) (s.lend_box0 z0) (s.lend_row0 z1 h0_0 rfl rfl) h_2) fun a w s q=>?_
 refine zm q rfl fun a q=>zl q (r_extract q rfl rfl) fun a q=>zl q (r_extract q rfl rfl) fun a q=>za q rfl fun a q=>za q rfl fun a q=>zn<|zq<|zq<|zr<|zm q rfl fun a q=>zn ?_
 refine wp_cond_split (q.ev rfl) (fun (hb_3 : y_1.2 = true)=>?_) fun hb_3=>?_
 rw [ifb_t hb_3] at H
 refine zq<|zr<|za q rfl fun a q=>zn ?_
 obtain rfl:=Option.some.inj H
 refine wp_ret ?_
 repeat first | refine zt ?_ | refine zb ?_ | refine zo ?_
 exact ret_1 results28 q (rv_tmp q rfl) ⟨_,rfl,_,_,_,rfl,s,hRL,h0_0⟩
 rw [ifb_f hb_3] at H
 refine wp_skip<|zq ?_
 refine parT_region (C:=fun w=>St M w0 w R [.cells b0 [v0_0] 111]) 12 [(0,true),(1,true),(2,true),(3,true),(4,true),(5,true),(6,true),(7,true),(8,false),(9,true),(10,false),(11,false)] mixed (by kernel_rfl) s (fun w s=>(s.trunc 1)) fun w s=>?_
 refine zp rfl q (fun w s=>r_move q rfl) fun a q=>zp rfl q (fun w s=>r_move q rfl) fun a q=>zp rfl q (fun w s=>r_nilCheck q rfl) fun a q=>zp rfl q (fun w s=>r_fieldAddr underlying111 rfl sizeOf87 q rfl) fun a q=>zp rfl q (fun w s=>r_load isAgg87 q rfl (s.cell z0 rfl)) fun a q=>zp rfl q (fun w s=>r_move q rfl) fun a q=>zp rfl q (fun w s=>r_move q rfl) fun a q=>zp rfl q (fun w s=>r_move q rfl) fun a q=>?_
 refine spw (k:=8) rfl rfl (s.trunc 1) ?_
 obtain ⟨y_27,h_28,H⟩:=bs H
 refine sl_call call55 q (by decide) rfl rfl rfl (slices_Clone_api_Value_api_Value.calls a2 (lentOf_sub [] _) s.sub (h2_0.mono (s.raLe0 hRA hRM)) h_28) fun a v_ w hv_ q=>?_
 obtain ⟨R_29,v_32,cs_33,hv_,hr_,hl_30,hq_34⟩:=hv_
 have hv_:=hv_.symm
 subst hv_
 obtain ⟨s,hl_30⟩:=s.sp0.back hr_ hl_30
 have s:=s.un1
 have hRL:=hRL.trans hl_30
 refine parK_nil ((s.pk1.trunc 1).lower hl_30.le) ?_
 have ho_35:=s.row_one z0
 refine zp rfl q (fun w s=>r_buildC (ps:=[(0,I6 a1),(1,v_32)]) (c:=[I6 a1,v_32]) underlying90 zeroValue90 places90 q rfl (pc_cons rfl (pc_cons (cells1 ho_35) pc_nil)) rfl rfl) fun a q=>?_
 refine spw (k:=10) rfl rfl ((s.pk1.trunc 1).lower hl_30.le) ?_
 refine sl_buildSliceF (zc:=[I6 0,.slice none 0 0]) (ps:=[(0,.agg #[I6 a1,v_32])]) (c:=[I6 a1,v_32]) [[I6 a1,v_32]] underlying87 sizeOf90 zeroValue90 rfl (pc_cons rfl pc_nil) rfl rfl (Nat.le_of_ble_eq_true rfl) rfl (zc zz) rfl s q (by decide) rfl fun a w b_36 s q=>?_
 refine parK_nil ((s.pk2.trunc 1).lower hl_30.le) ?_
 refine spw (k:=11) rfl rfl ((s.pk2.trunc 1).lower hl_30.le) ?_
 have s:=s.pk1
 obtain ⟨R_37,s,hl_39,hs_38⟩:=s.fz_row hq_34 rfl rfl
 have hRL:=hRL.trans hl_39
 have s:=s.row_lit (size:=2) (m:=1) rfl (by decide)
 have hq_41 : Reps ty_api_Sample R_37 [I6 a1,v_32] [(⟨a1,y_27⟩ : api_Sample)]:=(Reps.cons (show Ty.rep ty_api_Sample _ [I6 a1,v_32] (⟨a1,y_27⟩ : api_Sample) from ⟨_,rfl,hs_38⟩) (Reps.nil _ _))
 obtain ⟨y_42,h_43,H⟩:=bs H
 have s:=s.pk2
 have hS1:=s.sp2
 refine sl_call call56 q (by decide) rfl rfl rfl (slices_Insert_api_Sample_api_Sample.calls a0.l y_1.1 [(⟨a1,y_27⟩ : api_Sample)] hS1.lend (h0_0.mono (hl_30.le.trans hl_39.le)) hq_41 h_43) fun a v_ w hv_ q=>?_
 obtain ⟨R_44,v_47,cs_48,hv_,hr_,hl_45,hq_49⟩:=hv_
 have hv_:=hv_.symm
 subst hv_
 obtain ⟨s,hl_45⟩:=hS1.back hr_ hl_45
 have s:=s.un1
 have hRL:=hRL.trans hl_45
 refine parK_nil ((s.pk1.trunc 1).lower (hl_30.le.trans (hl_39.le.trans hl_45.le))) ?_
 refine thenL_nil ?_
 refine zl q (r_nilCheck q rfl) fun a q=>zl q (r_fieldAddr underlying111 rfl sizeOf87 q rfl) fun a q=>?_
 have s:=s.pk1
 refine sl_store1 (c':=[v_47]) sizeOf87 s q rfl rfl rfl (s.row_one z1) (Nat.le_of_ble_eq_true rfl) rfl fun a w s q=>?_
 refine wpList_nil (NoP_nil ?_)
 refine zq<|zr<|za q rfl fun a q=>zn ?_
 obtain rfl:=Option.some.inj H
 refine wp_ret ?_
 repeat first | refine zt ?_ | refine zb ?_ | refine zo ?_
 exact ret_1 results28 q (rv_tmp q rfl) ⟨_,rfl,_,_,_,rfl,s,hRL,hq_49⟩
theorem leaf_Leaf_Write.calls (a0 : leaf_Leaf) (a1 : api_Point) {w0 : World} {R : Hp} {RA : Hp} {M : List Own} {b0 : Nat} {v0_0 : Value} {nb0_1 : Nat} {v0p1_0 : Value} {cs0p1_0 : List Value} {mb0p1_1 : Nat} {mb0_2 : Nat} {E0_2 : List (MB Int)} {v1_0 : Value} {v1_1 : Value} (hRA : RA.sub w0) (hRM : ∀ b,blks M b → RA b = none) (hS0 : St M w0 w0 R [.cells b0 [v0_0,I6 a0.room,I6 a0.points,.pointer (some ⟨nb0_1,0,none⟩),.map (some mb0_2)] 70,.cells nb0_1 [I6 a0.dict.most,v0p1_0,.map (some mb0p1_1)] 102,.row 113 2 v0p1_0 a0.dict.l.length cs0p1_0,.mp mb0p1_1 (kvs Value.string (Value.int .i64) a0.dict.ids),mbo mb0_2 (kvs (Value.int .i64) id (mbp E0_2)) 111 90 2 E0_2]) (h0_0 : SlR ty_api_Schema R v0_0 a0.schemas) (h0p1_0 : Reps ty_streams_stream R cs0p1_0 a0.dict.l) (h0_2 : MBel ty_api_Sample runs_Run.l R E0_2 a0.runs) (h1_0 : SlR ty_api_Value RA v1_0 a1.Keys) (h1_1 : SlR ty_api_Value RA v1_1 a1.Vals) (hG : GF RA) {r : Bool × Int × leaf_Leaf} (H : leaf_Leaf_Write a0 a1 = some r) : Calls prog 11 #[.pointer (some ⟨b0,0,none⟩),.agg #[.string a1.Schema,v1_0,I6 a1.Time,v1_1]] w0 (Rets fun v w'=>∃ (R' : Hp) (u0 : Value) (B1 : Nat) (u2 : Value) (cu2 : List Value) (B3 : Nat) (B4 : Nat) (E4 : List (MB Int)),v = .tuple #[.bool r.1,I6 r.2.1] ∧ St M w0 w' R' [.cells b0 [u0,I6 r.2.2.room,I6 r.2.2.points,.pointer (some ⟨B1,0,none⟩),.map (some B4)] 70,.cells B1 [I6 r.2.2.dict.most,u2,.map (some B3)] 102,.row 113 2 u2 r.2.2.dict.l.length cu2,.mp B3 (kvs Value.string (Value.int .i64) r.2.2.dict.ids),mbo B4 (kvs (Value.int .i64) id (mbp E4)) 111 90 2 E4] ∧ RLe M w0 R R' ∧ SlR ty_api_Schema R' u0 r.2.2.schemas ∧ Reps ty_streams_stream R' cu2 r.2.2.dict.l ∧ MBel ty_api_Sample runs_Run.l R' E4 r.2.2.runs):=by
 unfold leaf_Leaf_Write at H
 refine enter (args:=[.pointer (some ⟨b0,0,none⟩),.agg #[.string a1.Schema,v1_0,I6 a1.Time,v1_1]]) func11 rfl ntmps11 rfl fun a q=>?_
 have s:=hS0
 have hRL:=RLe.refl (M:=M) w0 R
 refine zq<|zr ?_
 refine sl_box s q (by decide) rfl rfl (c:=[.string a1.Schema,v1_0,I6 a1.Time,v1_1]) rfl fun a w b_1 s q=>?_
 refine za q rfl fun a q=>za q rfl fun a q=>zn<|zq<|zq ?_
 refine parT_region (C:=fun w=>St M w0 w R [.cells b_1 [.string a1.Schema,v1_0,I6 a1.Time,v1_1] 33,.cells b0 [v0_0,I6 a0.room,I6 a0.points,.pointer (some ⟨nb0_1,0,none⟩),.map (some mb0_2)] 70,.cells nb0_1 [I6 a0.dict.most,v0p1_0,.map (some mb0p1_1)] 102,.row 113 2 v0p1_0 a0.dict.l.length cs0p1_0,.mp mb0p1_1 (kvs Value.string (Value.int .i64) a0.dict.ids),mbo mb0_2 (kvs (Value.int .i64) id (mbp E0_2)) 111 90 2 E0_2]) 5 [(0,true),(1,true),(2,true),(3,true),(4,true)] mixed (by kernel_rfl) s (fun w s=>s) fun w s=>?_
 refine zp rfl q (fun w s=>r_move q rfl) fun a q=>zp rfl q (fun w s=>r_nilCheck q rfl) fun a q=>zp rfl q (fun w s=>r_fieldAddr underlying70 rfl sizeOf28 q rfl) fun a q=>zp rfl q (fun w s=>r_load isAgg28 q rfl (s.cell z1 rfl)) fun a q=>zp rfl q (fun w s=>r_loadA (cs:=[.string a1.Schema,v1_0,I6 a1.Time,v1_1]) isAgg33 sizeOf33 rfl q rfl (s.cells_of (m:=4) z0 rfl)) fun a q=>?_
 refine thenL_nil ?_
 obtain ⟨y_4,h_5,H⟩:=bs H
 refine sl_callV call23 s q (by decide) rfl rfl rfl (schema_Fits.calls a0.schemas a1 (lentOf_sub [] _) s.sub h0_0 (h1_0.mono (s.raLe0 hRA hRM)) (h1_1.mono (s.raLe0 hRA hRM)) h_5) fun a w s q=>?_
 refine za q rfl fun a q=>?_
 refine wpList_nil (NoP_nil ?_)
 refine zq<|zr<|zm q rfl fun a q=>zl q (r_ibin q rfl rfl rfl) fun a q=>zn ?_
 refine wp_cond_split (q.ev rfl) (fun (hb_6 : (y_4 != 0) = true)=>?_) fun hb_6=>?_
 rw [ifb_t hb_6] at H
 refine zq<|zr<|zm q rfl fun a q=>za q rfl fun a q=>za q rfl fun a q=>zn ?_
 obtain rfl:=Option.some.inj H
 refine wp_ret ?_
 repeat first | refine zt ?_ | refine zb ?_ | refine zo ?_
 exact ret_2 results11 q (rv_tmp q rfl) (rv_tmp q rfl) ⟨_,rfl,_,_,_,_,_,_,_,_,rfl,(s.pk5.pk5.pk5.pk5.pk5.trunc 5),hRL,h0_0,h0p1_0,h0_2⟩
 rw [ifb_f hb_6] at H
 refine wp_skip<|zq<|zq ?_
 refine parT_region (C:=fun w=>St M w0 w R [.cells b_1 [.string a1.Schema,v1_0,I6 a1.Time,v1_1] 33,.cells b0 [v0_0,I6 a0.room,I6 a0.points,.pointer (some ⟨nb0_1,0,none⟩),.map (some mb0_2)] 70,.cells nb0_1 [I6 a0.dict.most,v0p1_0,.map (some mb0p1_1)] 102,.row 113 2 v0p1_0 a0.dict.l.length cs0p1_0,.mp mb0p1_1 (kvs Value.string (Value.int .i64) a0.dict.ids),mbo mb0_2 (kvs (Value.int .i64) id (mbp E0_2)) 111 90 2 E0_2]) 13 [(0,true),(1,true),(2,true),(3,true),(4,true),(5,true),(6,true),(7,true),(8,false),(9,true),(10,true),(11,true),(12,true)] mixed (by kernel_rfl) s (fun w s=>s) fun w s=>?_
 refine zp rfl q (fun w s=>r_move q rfl) fun a q=>zp rfl q (fun w s=>r_nilCheck q rfl) fun a q=>zp rfl q (fun w s=>r_fieldAddr underlying70 rfl sizeOf66 q rfl) fun a q=>zp rfl q (fun w s=>r_load isAgg66 q rfl (s.cell z1 rfl)) fun a q=>zp rfl q (fun w s=>r_fieldAddr underlying33 rfl sizeOf9 q rfl) fun a q=>zp rfl q (fun w s=>r_load isAgg9 q rfl (s.cell z0 rfl)) fun a q=>zp rfl q (fun w s=>r_fieldAddr underlying33 rfl sizeOf31 q rfl) fun a q=>zp rfl q (fun w s=>r_load isAgg31 q rfl (s.cell z0 rfl)) fun a q=>?_
 refine spw (k:=8) rfl rfl s ?_
 obtain ⟨y_9,h_10,H⟩:=bs H
 refine sl_callV call24 s q (by decide) rfl rfl rfl (streams_Dict_Find.calls a0.dict a1.Schema a1.Keys (lentOf_sub [] _) (s.lend_box0 z2) (s.lend_row0 z3 h0p1_0 rfl rfl) (s.lend_map0 z4) (h1_0.mono (s.raLe0 hRA hRM)) (GF.mono (s.raLe0 hRA hRM) hG) h_10) fun a w s q=>?_
 refine parK_nil s ?_
 refine zp rfl q (fun w s=>r_move q rfl) fun a q=>zp rfl q (fun w s=>r_extract q rfl rfl) fun a q=>zp rfl q (fun w s=>r_extract q rfl rfl) fun a q=>zp rfl q (fun w s=>r_assign q rfl) fun a q=>?_
 refine thenL_nil ?_
 refine za q rfl fun a q=>?_
 refine wpList_nil (NoP_nil ?_)
 refine zq<|zr<|zm q rfl fun a q=>zn ?_
 refine wp_mid (fun a w=>∃ (R_51 : Hp) (E_49 : List (MB Int)),leaf_Leaf_Write.j0 a0 a1 = some r ∧ RLe M w0 R R_51 ∧ MBel ty_api_Sample runs_Run.l R_51 E_49 a0.runs ∧ Kn 100 a [(0,.pointer (some ⟨b0,0,none⟩)),(3,.pointer (some ⟨b_1,0,none⟩))] ∧ St M w0 w R_51 [.row 113 2 v0p1_0 a0.dict.l.length cs0p1_0,.mp mb0p1_1 (kvs Value.string (Value.int .i64) a0.dict.ids),.cells nb0_1 [I6 a0.dict.most,v0p1_0,.map (some mb0p1_1)] 102,mbo mb0_2 (kvs (Value.int .i64) id (mbp E_49)) 111 90 2 E_49,.cells b0 [v0_0,I6 a0.room,I6 a0.points,.pointer (some ⟨nb0_1,0,none⟩),.map (some mb0_2)] 70,.cells b_1 [.string a1.Schema,v1_0,I6 a1.Time,v1_1] 33]) ?_ ?_
 refine wp_cond_split (q.ev rfl) (fun (hb_53 : y_9.2 = true)=>?_) fun hb_53=>?_
 rw [ifb_t hb_53] at H
 refine zq ?_
 refine treeTS_region (C0:=(fun w=>St M w0 w R [.cells b_1 [.string a1.Schema,v1_0,I6 a1.Time,v1_1] 33,.cells b0 [v0_0,I6 a0.room,I6 a0.points,.pointer (some ⟨nb0_1,0,none⟩),.map (some mb0_2)] 70,.cells nb0_1 [I6 a0.dict.most,v0p1_0,.map (some mb0p1_1)] 102,.row 113 2 v0p1_0 a0.dict.l.length cs0p1_0,.mp mb0p1_1 (kvs Value.string (Value.int .i64) a0.dict.ids),mbo mb0_2 (kvs (Value.int .i64) id (mbp E0_2)) 111 90 2 E0_2])) (C1:=(fun w=>St M w0 w R [.cells b_1 [.string a1.Schema,v1_0,I6 a1.Time,v1_1] 33,.cells b0 [v0_0,I6 a0.room,I6 a0.points,.pointer (some ⟨nb0_1,0,none⟩),.map (some mb0_2)] 70,.cells nb0_1 [I6 a0.dict.most,v0p1_0,.map (some mb0p1_1)] 102,.row 113 2 v0p1_0 a0.dict.l.length cs0p1_0,.mp mb0p1_1 (kvs Value.string (Value.int .i64) a0.dict.ids)])) 13 8 [(0,2),(1,2),(2,2),(3,2),(4,2),(5,2),(6,2),(7,2)] (.list [(9,true),(10,true),(11,true),(12,true)]) mixed (by kernel_rfl) (fun w s=>(s.trunc 5)) s (fun w s=>s) fun w s=>?_
 refine spS2 (k:=0) rfl q (by decide) rfl rfl (fun w s=>r_move q rfl) fun a q=>?_
 refine spS2 (k:=1) rfl q (by decide) rfl rfl (fun w s=>r_nilCheck q rfl) fun a q=>?_
 refine spS2 (k:=2) rfl q (by decide) rfl rfl (fun w s=>r_fieldAddr underlying70 rfl sizeOf68 q rfl) fun a q=>?_
 refine spS2 (k:=3) rfl q (by decide) rfl rfl (fun w s=>r_load isAgg68 q rfl (s.cell z1 rfl)) fun a q=>?_
 refine spS2 (k:=4) rfl q (by decide) rfl rfl (fun w s=>r_move q rfl) fun a q=>?_
 refine spS2 (k:=5) rfl q (by decide) rfl rfl (fun w s=>r_lookup_B (x:=y_9.1) underlying68 underlying3 (key_int .i64) zeroValue75 s z5 q rfl rfl) fun a q=>?_
 refine spS2 (k:=6) rfl q (by decide) rfl rfl (fun w s=>r_fieldAddr underlying33 rfl sizeOf3 q rfl) fun a q=>?_
 refine spS2 (k:=7) rfl q (by decide) rfl rfl (fun w s=>r_load isAgg3 q rfl (s.cell z0 rfl)) fun a q=>?_
 refine parS_nil (spwB (k:=8) rfl rfl (s.trunc 5) ?_)
 obtain ⟨y_72,h_73,H⟩:=bs H
 have s:=s.pk5
 obtain ⟨b_74,v_75,cs_76,s,hq_77,hk_78⟩:=St.btake h0_2 h_73 s
 rw [bhd_of hk_78] at q
 have s : St M w0 w R [.cells b_74 [v_75] 111,.row 90 2 v_75 y_72.l.length cs_76,mbo mb0_2 (kvs (Value.int .i64) id (mbp E0_2)) 111 90 2 (bdel E0_2 y_9.1),.cells b_1 [.string a1.Schema,v1_0,I6 a1.Time,v1_1] 33,.cells b0 [v0_0,I6 a0.room,I6 a0.points,.pointer (some ⟨nb0_1,0,none⟩),.map (some mb0_2)] 70,.cells nb0_1 [I6 a0.dict.most,v0p1_0,.map (some mb0p1_1)] 102,.row 113 2 v0p1_0 a0.dict.l.length cs0p1_0,.mp mb0p1_1 (kvs Value.string (Value.int .i64) a0.dict.ids)]:=s
 obtain ⟨y_80,h_81,H⟩:=bs H
 refine sl_call call25 q (by decide) rfl rfl rfl (runs_Run_Get.calls y_72 a1.Time (lentOf_sub [] _) s.sub (s.lend_box0 z0) (s.lend_row0 z1 hq_77 rfl rfl) h_81) fun a v_ w hv_ q=>?_
 obtain ⟨R_82,v_85,cs_86,hv_,hr_,hl_83,hq_87⟩:=hv_
 have hv_:=hv_.symm
 subst hv_
 obtain ⟨s,hl_83⟩:=s.sp0.back hr_ hl_83
 have s:=s.un1
 have hRL:=hRL.trans hl_83
 have s:=s.pk3
 have s:=s.pk3
 have s:=s.pk3
 obtain ⟨E_88,s,hm_89⟩:=St.bput (y:=y_72) (h0_2.mono hl_83.le) hk_78 (hq_77.mono hl_83.le) rfl s
 rw [mset_same h_73] at hm_89
 have s : St M w0 w R_82 [mbo mb0_2 (kvs (Value.int .i64) id (mbp E_88)) 111 90 2 E_88,.row 58 11 v_85 y_80.1.length cs_86,.cells b_1 [.string a1.Schema,v1_0,I6 a1.Time,v1_1] 33,.cells b0 [v0_0,I6 a0.room,I6 a0.points,.pointer (some ⟨nb0_1,0,none⟩),.map (some mb0_2)] 70,.cells nb0_1 [I6 a0.dict.most,v0p1_0,.map (some mb0p1_1)] 102,.row 113 2 v0p1_0 a0.dict.l.length cs0p1_0,.mp mb0p1_1 (kvs Value.string (Value.int .i64) a0.dict.ids)]:=s
 refine parKK_nil ((s.pk6.pk6.pk6.pk6.pk6.trunc 5).lower hl_83.le) ?_
 refine tree_list ?_
 refine zp rfl q (fun w s=>r_move q rfl) fun a q=>zp rfl q (fun w s=>r_extract q rfl rfl) fun a q=>zp rfl q (fun w s=>r_extract q rfl rfl) fun a q=>zp rfl q (fun w s=>r_assign q rfl) fun a q=>?_
 refine thenL_nil ?_
 refine za q rfl fun a q=>?_
 refine wpList_nil (NoP_nil ?_)
 refine zq<|zr<|zm q rfl fun a q=>zn ?_
 refine wp_cond_split (q.ev rfl) (fun (hb_90 : y_80.2 = true)=>?_) fun hb_90=>?_
 rw [ifb_t hb_90] at H
 refine zq<|zr<|za q rfl fun a q=>za q rfl fun a q=>zn ?_
 obtain rfl:=Option.some.inj H
 refine wp_ret ?_
 repeat first | refine zt ?_ | refine zb ?_ | refine zo ?_
 exact ret_2 results11 q (rv_tmp q rfl) (rv_tmp q rfl) ⟨_,rfl,_,_,_,_,_,_,_,_,rfl,(s.pk6.pk6.pk6.pk6.trunc 5),hRL,(h0_0.mono hl_83.le),(h0p1_0.mono hl_83.le),hm_89⟩
 rw [ifb_f hb_90] at H
 refine wp_skip ?_
 have s:=s.pk2
 have s:=s.pk3
 have s:=s.pk2
 have s:=s.pk4
 have s:=s.pk6
 have s:=s.pk6
 exact ⟨_,_,H,hl_83,hm_89,q.sub (zc (zc zz)),s.trunc 6⟩
 rw [ifb_f hb_53] at H
 refine wp_skip ?_
 have s:=s.pk1
 have s:=s.pk5
 have s:=s.pk3
 have s:=s.pk5
 have s:=s.pk5
 exact ⟨_,_,H,(RLe.refl _ _),h0_2,q.sub (zc (zc zz)),s⟩
 rintro a w ⟨R_51,E_49,H,hl_52,hm_50,q,s⟩
 unfold leaf_Leaf_Write.j0 at H
 have hRL:=hRL.trans hl_52
 refine zq<|zq ?_
 refine par_region (C:=fun w=>St M w0 w R_51 [.row 113 2 v0p1_0 a0.dict.l.length cs0p1_0,.mp mb0p1_1 (kvs Value.string (Value.int .i64) a0.dict.ids),.cells nb0_1 [I6 a0.dict.most,v0p1_0,.map (some mb0p1_1)] 102,mbo mb0_2 (kvs (Value.int .i64) id (mbp E_49)) 111 90 2 E_49,.cells b0 [v0_0,I6 a0.room,I6 a0.points,.pointer (some ⟨nb0_1,0,none⟩),.map (some mb0_2)] 70,.cells b_1 [.string a1.Schema,v1_0,I6 a1.Time,v1_1] 33]) [(0,true),(1,true),(2,true),(3,true),(4,true),(5,true),(6,true),(7,true),(8,true)] mixed (by kernel_rfl) s (fun w s=>s) fun w s=>?_
 refine zp rfl q (fun w s=>r_move q rfl) fun a q=>zp rfl q (fun w s=>r_nilCheck q rfl) fun a q=>zp rfl q (fun w s=>r_fieldAddr underlying70 rfl sizeOf3 q rfl) fun a q=>zp rfl q (fun w s=>r_load isAgg3 q rfl (s.cell z4 rfl)) fun a q=>zp rfl q (fun w s=>r_move q rfl) fun a q=>zp rfl q (fun w s=>r_nilCheck q rfl) fun a q=>zp rfl q (fun w s=>r_fieldAddr underlying70 rfl sizeOf3 q rfl) fun a q=>zp rfl q (fun w s=>r_load isAgg3 q rfl (s.cell z4 rfl)) fun a q=>zp rfl q (fun w s=>r_ibin q rfl rfl rfl) fun a q=>?_
 refine wpPar_nil (NoP_nil ?_)
 refine wp_cond_split (q.ev rfl) (fun (hb_91 : (decide (a0.points ≥ a0.room)) = true)=>?_) fun hb_91=>?_
 rw [ifb_t hb_91] at H
 refine zq<|zr<|za q rfl fun a q=>za q rfl fun a q=>zn ?_
 obtain rfl:=Option.some.inj H
 refine wp_ret ?_
 repeat first | refine zt ?_ | refine zb ?_ | refine zo ?_
 exact ret_2 results11 q (rv_tmp q rfl) (rv_tmp q rfl) ⟨_,rfl,_,_,_,_,_,_,_,_,rfl,(s.pk3.pk2.pk2.pk3.pk4.trunc 5),hRL,(h0_0.mono hl_52.le),(h0p1_0.mono hl_52.le),hm_50⟩
 rw [ifb_f hb_91] at H
 refine wp_skip<|zq ?_
 refine parT_region (C:=fun w=>St M w0 w R_51 [mbo mb0_2 (kvs (Value.int .i64) id (mbp E_49)) 111 90 2 E_49,.cells b0 [v0_0,I6 a0.room,I6 a0.points,.pointer (some ⟨nb0_1,0,none⟩),.map (some mb0_2)] 70,.cells b_1 [.string a1.Schema,v1_0,I6 a1.Time,v1_1] 33]) 13 [(0,true),(1,true),(2,true),(3,true),(4,true),(5,true),(6,true),(7,true),(8,false),(9,true),(10,true),(11,true),(12,true)] mixed (by kernel_rfl) s (fun w s=>(s.pk5.pk5.pk5.trunc 3)) fun w s=>?_
 refine zp rfl q (fun w s=>r_move q rfl) fun a q=>zp rfl q (fun w s=>r_nilCheck q rfl) fun a q=>zp rfl q (fun w s=>r_fieldAddr underlying70 rfl sizeOf66 q rfl) fun a q=>zp rfl q (fun w s=>r_load isAgg66 q rfl (s.cell z1 rfl)) fun a q=>zp rfl q (fun w s=>r_fieldAddr underlying33 rfl sizeOf9 q rfl) fun a q=>zp rfl q (fun w s=>r_load isAgg9 q rfl (s.cell z2 rfl)) fun a q=>zp rfl q (fun w s=>r_fieldAddr underlying33 rfl sizeOf31 q rfl) fun a q=>zp rfl q (fun w s=>r_load isAgg31 q rfl (s.cell z2 rfl)) fun a q=>?_
 refine spw (k:=8) rfl rfl (s.pk5.pk5.pk5.trunc 3) ?_
 obtain ⟨y_101,h_102,H⟩:=bs H
 have s:=s.pk1
 have s:=s.pk1
 have s:=s.pk2
 have hS1:=s.sp3
 refine sl_call call26 q (by decide) rfl rfl rfl (streams_Dict_Add.calls a0.dict a1.Schema a1.Keys (lentOf_sub _ _) lentOf_not hS1.lend (h0p1_0.mono hl_52.le) (h1_0.mono (hS1.raLe hRA hRM)) (GF.mono (hS1.raLe hRA hRM) hG) h_102) fun a v_ w hv_ q=>?_
 obtain ⟨R_103,v_106,cs_107,mb_109,hv_,hr_,hl_104,hq_108⟩:=hv_
 have hv_:=hv_.symm
 subst hv_
 obtain ⟨s,hl_104⟩:=hS1.back hr_ hl_104
 have s:=s.un3
 have hRL:=hRL.trans hl_104
 refine parK_nil ((s.pk5.pk5.pk5.trunc 3).lower hl_104.le) ?_
 refine zp rfl q (fun w s=>r_move q rfl) fun a q=>zp rfl q (fun w s=>r_extract q rfl rfl) fun a q=>zp rfl q (fun w s=>r_extract q rfl rfl) fun a q=>zp rfl q (fun w s=>r_assign q rfl) fun a q=>?_
 refine thenL_nil ?_
 refine za q rfl fun a q=>?_
 refine wpList_nil (NoP_nil ?_)
 refine zq<|zq<|zr<|zm q rfl fun a q=>zl q (r_nilCheck q rfl) fun a q=>zl q (r_fieldAddr underlying70 rfl sizeOf68 q rfl) fun a q=>zl q (r_load isAgg68 q rfl (s.cell z4 rfl)) fun a q=>zm q rfl fun a q=>zl q (r_lookup_B (x:=y_101.1) underlying68 underlying3 (key_int .i64) zeroValue75 s z3 q rfl rfl) fun a q=>zl q (r_bnil (hm_50.mono hl_104.le) underlying75 q rfl rfl) fun a q=>zn ?_
 refine wp_cond_split (q.ev rfl) (fun (hb_110 : (!(mget a0.runs y_101.1).isSome) = true)=>?_) fun hb_110=>?_
 rw [ifb_t hb_110] at H
 refine parT_region (C:=fun w=>St M w0 w R_103 [.cells nb0_1 [I6 y_101.2.2.most,v_106,.map (some mb_109)] 102,.row 113 2 v_106 y_101.2.2.l.length cs_107,.mp mb_109 (kvs Value.string (Value.int .i64) y_101.2.2.ids),mbo mb0_2 (kvs (Value.int .i64) id (mbp E_49)) 111 90 2 E_49,.cells b0 [v0_0,I6 a0.room,I6 a0.points,.pointer (some ⟨nb0_1,0,none⟩),.map (some mb0_2)] 70,.cells b_1 [.string a1.Schema,v1_0,I6 a1.Time,v1_1] 33]) 6 [(0,true),(1,true),(2,true),(3,true),(4,true),(5,false)] mixed (by kernel_rfl) s (fun w s=>s) fun w s=>?_
 refine zp rfl q (fun w s=>r_move q rfl) fun a q=>zp rfl q (fun w s=>r_nilCheck q rfl) fun a q=>zp rfl q (fun w s=>r_fieldAddr underlying70 rfl sizeOf68 q rfl) fun a q=>zp rfl q (fun w s=>r_load isAgg68 q rfl (s.cell z4 rfl)) fun a q=>zp rfl q (fun w s=>r_move q rfl) fun a q=>?_
 refine spw (k:=5) rfl rfl s ?_
 obtain ⟨y_122,h_123,H⟩:=bs H
 refine sl_call call27 q (by decide) rfl rfl rfl (runs_New.calls s.sub h_123) fun a v_ w hv_ q=>?_
 obtain ⟨R_124,b_126,v_128,cs_129,hv_,hr_,hl_125,hq_130⟩:=hv_
 have hv_:=hv_.symm
 subst hv_
 obtain ⟨s,hl_125⟩:=s.sp0.back hr_ hl_125
 have s:=s.un2
 have hRL:=hRL.trans hl_125
 refine parK_nil ((s.pk7.pk7.pk7.pk7.pk7.pk7.trunc 6).lower hl_125.le) ?_
 refine thenL_nil ?_
 have s:=s.pk1
 have s:=s.pk1
 have s:=s.pk5
 have s:=s.bopen
 refine sl_mapUpdate (fv:=id) (m:=mbp E_49) (x:=y_101.1) (y:=.pointer (some ⟨b_126,0,none⟩)) underlying68 underlying3 (key_int .i64) s q rfl rfl rfl rfl fun a w s q=>?_
 obtain ⟨E_131,s,hm_132⟩:=St.bnew rfl (hm_50.mono (hl_104.le.trans hl_125.le)) hq_130 rfl s
 have s : St M w0 w R_124 [mbo mb0_2 (kvs (Value.int .i64) id (mbp E_131)) 111 90 2 E_131,.cells nb0_1 [I6 y_101.2.2.most,v_106,.map (some mb_109)] 102,.row 113 2 v_106 y_101.2.2.l.length cs_107,.mp mb_109 (kvs Value.string (Value.int .i64) y_101.2.2.ids),.cells b0 [v0_0,I6 a0.room,I6 a0.points,.pointer (some ⟨nb0_1,0,none⟩),.map (some mb0_2)] 70,.cells b_1 [.string a1.Schema,v1_0,I6 a1.Time,v1_1] 33]:=s
 refine wpList_nil (NoP_nil ?_)
 refine zq ?_
 refine parT_region (C:=fun w=>St M w0 w R_124 [mbo mb0_2 (kvs (Value.int .i64) id (mbp E_131)) 111 90 2 E_131,.cells nb0_1 [I6 y_101.2.2.most,v_106,.map (some mb_109)] 102,.row 113 2 v_106 y_101.2.2.l.length cs_107,.mp mb_109 (kvs Value.string (Value.int .i64) y_101.2.2.ids),.cells b0 [v0_0,I6 a0.room,I6 a0.points,.pointer (some ⟨nb0_1,0,none⟩),.map (some mb0_2)] 70,.cells b_1 [.string a1.Schema,v1_0,I6 a1.Time,v1_1] 33]) 10 [(0,true),(1,true),(2,true),(3,true),(4,true),(5,true),(6,true),(7,true),(8,true),(9,true)] mixed (by kernel_rfl) s (fun w s=>s) fun w s=>?_
 refine zp rfl q (fun w s=>r_move q rfl) fun a q=>zp rfl q (fun w s=>r_nilCheck q rfl) fun a q=>zp rfl q (fun w s=>r_fieldAddr underlying70 rfl sizeOf68 q rfl) fun a q=>zp rfl q (fun w s=>r_load isAgg68 q rfl (s.cell z4 rfl)) fun a q=>zp rfl q (fun w s=>r_move q rfl) fun a q=>zp rfl q (fun w s=>r_lookup_B (x:=y_101.1) underlying68 underlying3 (key_int .i64) zeroValue75 s z0 q rfl rfl) fun a q=>zp rfl q (fun w s=>r_fieldAddr underlying33 rfl sizeOf3 q rfl) fun a q=>zp rfl q (fun w s=>r_load isAgg3 q rfl (s.cell z5 rfl)) fun a q=>zp rfl q (fun w s=>r_fieldAddr underlying33 rfl sizeOf31 q rfl) fun a q=>?_
 refine zp rfl q (fun w s=>r_load isAgg31 q rfl (s.cell z5 rfl)) fun a q=>?_
 refine thenL_nil ?_
 obtain ⟨y_151,h_152,H⟩:=bs H
 obtain ⟨b_153,v_154,cs_155,s,hq_156,hk_157⟩:=St.btake hm_132 h_152 s
 rw [bhd_of hk_157] at q
 have s : St M w0 w R_124 [.cells b_153 [v_154] 111,.row 90 2 v_154 y_151.l.length cs_155,mbo mb0_2 (kvs (Value.int .i64) id (mbp E_131)) 111 90 2 (bdel E_131 y_101.1),.cells nb0_1 [I6 y_101.2.2.most,v_106,.map (some mb_109)] 102,.row 113 2 v_106 y_101.2.2.l.length cs_107,.mp mb_109 (kvs Value.string (Value.int .i64) y_101.2.2.ids),.cells b0 [v0_0,I6 a0.room,I6 a0.points,.pointer (some ⟨nb0_1,0,none⟩),.map (some mb0_2)] 70,.cells b_1 [.string a1.Schema,v1_0,I6 a1.Time,v1_1] 33]:=s
 obtain ⟨y_159,h_160,H⟩:=bs H
 have s:=s.pk1
 have s:=s.pk1
 have hS1:=s.sp2
 refine sl_call call28 q (by decide) rfl rfl rfl (runs_Run_Add.calls y_151 a1.Time a1.Vals (lentOf_sub _ _) lentOf_not hS1.lend hq_156 (h1_1.mono (hS1.raLe hRA hRM)) h_160) fun a v_ w hv_ q=>?_
 obtain ⟨R_161,v_164,cs_165,hv_,hr_,hl_162,hq_166⟩:=hv_
 have hv_:=hv_.symm
 subst hv_
 obtain ⟨s,hl_162⟩:=hS1.back hr_ hl_162
 have s:=s.un2
 have hRL:=hRL.trans hl_162
 have s:=s.pk2
 have s:=s.pk2
 have s:=s.pk2
 obtain ⟨E_167,s,hm_168⟩:=St.bput (y:=y_159.2) (hm_132.mono hl_162.le) hk_157 hq_166 rfl s
 have s : St M w0 w R_161 [mbo mb0_2 (kvs (Value.int .i64) id (mbp E_167)) 111 90 2 E_167,.cells nb0_1 [I6 y_101.2.2.most,v_106,.map (some mb_109)] 102,.row 113 2 v_106 y_101.2.2.l.length cs_107,.mp mb_109 (kvs Value.string (Value.int .i64) y_101.2.2.ids),.cells b0 [v0_0,I6 a0.room,I6 a0.points,.pointer (some ⟨nb0_1,0,none⟩),.map (some mb0_2)] 70,.cells b_1 [.string a1.Schema,v1_0,I6 a1.Time,v1_1] 33]:=s
 refine wpList_nil (NoP_nil ?_)
 refine zq<|zr<|zm q rfl fun a q=>zl q (r_nilCheck q rfl) fun a q=>zl q (r_fieldAddr underlying70 rfl sizeOf3 q rfl) fun a q=>zl q (r_load isAgg3 q rfl (s.cell z4 rfl)) fun a q=>zl q (r_ibin q rfl rfl rfl) fun a q=>zl q (r_nilCheck q rfl) fun a q=>zl q (r_fieldAddr underlying70 rfl sizeOf3 q rfl) fun a q=>?_
 have s:=s.pk4
 refine sl_store1 (c':=[v0_0,I6 a0.room,I6 (IntKind.i64.wrap (a0.points + 1)),.pointer (some ⟨nb0_1,0,none⟩),.map (some mb0_2)]) sizeOf3 s q rfl rfl rfl rfl (Nat.le_of_ble_eq_true rfl) rfl fun a w s q=>?_
 refine zn<|zq<|zr<|za q rfl fun a q=>za q rfl fun a q=>zn ?_
 obtain rfl:=Option.some.inj H
 refine wp_ret ?_
 repeat first | refine zt ?_ | refine zb ?_ | refine zo ?_
 exact ret_2 results11 q (rv_tmp q rfl) (rv_tmp q rfl) ⟨_,rfl,_,_,_,_,_,_,_,_,rfl,(s.pk1.pk4.pk4.pk4.pk4.trunc 5),hRL,(h0_0.mono (hl_52.le.trans (hl_104.le.trans (hl_125.le.trans hl_162.le)))),(hq_108.mono (hl_125.le.trans hl_162.le)),hm_168⟩
 rw [ifb_f hb_110] at H
 refine wp_skip<|zq ?_
 refine parT_region (C:=fun w=>St M w0 w R_103 [.cells nb0_1 [I6 y_101.2.2.most,v_106,.map (some mb_109)] 102,.row 113 2 v_106 y_101.2.2.l.length cs_107,.mp mb_109 (kvs Value.string (Value.int .i64) y_101.2.2.ids),mbo mb0_2 (kvs (Value.int .i64) id (mbp E_49)) 111 90 2 E_49,.cells b0 [v0_0,I6 a0.room,I6 a0.points,.pointer (some ⟨nb0_1,0,none⟩),.map (some mb0_2)] 70,.cells b_1 [.string a1.Schema,v1_0,I6 a1.Time,v1_1] 33]) 10 [(0,true),(1,true),(2,true),(3,true),(4,true),(5,true),(6,true),(7,true),(8,true),(9,true)] mixed (by kernel_rfl) s (fun w s=>s) fun w s=>?_
 refine zp rfl q (fun w s=>r_move q rfl) fun a q=>zp rfl q (fun w s=>r_nilCheck q rfl) fun a q=>zp rfl q (fun w s=>r_fieldAddr underlying70 rfl sizeOf68 q rfl) fun a q=>zp rfl q (fun w s=>r_load isAgg68 q rfl (s.cell z4 rfl)) fun a q=>zp rfl q (fun w s=>r_move q rfl) fun a q=>zp rfl q (fun w s=>r_lookup_B (x:=y_101.1) underlying68 underlying3 (key_int .i64) zeroValue75 s z3 q rfl rfl) fun a q=>zp rfl q (fun w s=>r_fieldAddr underlying33 rfl sizeOf3 q rfl) fun a q=>zp rfl q (fun w s=>r_load isAgg3 q rfl (s.cell z5 rfl)) fun a q=>zp rfl q (fun w s=>r_fieldAddr underlying33 rfl sizeOf31 q rfl) fun a q=>?_
 refine zp rfl q (fun w s=>r_load isAgg31 q rfl (s.cell z5 rfl)) fun a q=>?_
 refine thenL_nil ?_
 obtain ⟨y_187,h_188,H⟩:=bs H
 have s:=s.pk3
 obtain ⟨b_189,v_190,cs_191,s,hq_192,hk_193⟩:=St.btake (hm_50.mono hl_104.le) h_188 s
 rw [bhd_of hk_193] at q
 have s : St M w0 w R_103 [.cells b_189 [v_190] 111,.row 90 2 v_190 y_187.l.length cs_191,mbo mb0_2 (kvs (Value.int .i64) id (mbp E_49)) 111 90 2 (bdel E_49 y_101.1),.cells nb0_1 [I6 y_101.2.2.most,v_106,.map (some mb_109)] 102,.row 113 2 v_106 y_101.2.2.l.length cs_107,.mp mb_109 (kvs Value.string (Value.int .i64) y_101.2.2.ids),.cells b0 [v0_0,I6 a0.room,I6 a0.points,.pointer (some ⟨nb0_1,0,none⟩),.map (some mb0_2)] 70,.cells b_1 [.string a1.Schema,v1_0,I6 a1.Time,v1_1] 33]:=s
 obtain ⟨y_195,h_196,H⟩:=bs H
 have s:=s.pk1
 have s:=s.pk1
 have hS1:=s.sp2
 refine sl_call call28 q (by decide) rfl rfl rfl (runs_Run_Add.calls y_187 a1.Time a1.Vals (lentOf_sub _ _) lentOf_not hS1.lend hq_192 (h1_1.mono (hS1.raLe hRA hRM)) h_196) fun a v_ w hv_ q=>?_
 obtain ⟨R_197,v_200,cs_201,hv_,hr_,hl_198,hq_202⟩:=hv_
 have hv_:=hv_.symm
 subst hv_
 obtain ⟨s,hl_198⟩:=hS1.back hr_ hl_198
 have s:=s.un2
 have hRL:=hRL.trans hl_198
 have s:=s.pk2
 have s:=s.pk2
 have s:=s.pk2
 obtain ⟨E_203,s,hm_204⟩:=St.bput (y:=y_195.2) (hm_50.mono (hl_104.le.trans hl_198.le)) hk_193 hq_202 rfl s
 have s : St M w0 w R_197 [mbo mb0_2 (kvs (Value.int .i64) id (mbp E_203)) 111 90 2 E_203,.cells nb0_1 [I6 y_101.2.2.most,v_106,.map (some mb_109)] 102,.row 113 2 v_106 y_101.2.2.l.length cs_107,.mp mb_109 (kvs Value.string (Value.int .i64) y_101.2.2.ids),.cells b0 [v0_0,I6 a0.room,I6 a0.points,.pointer (some ⟨nb0_1,0,none⟩),.map (some mb0_2)] 70,.cells b_1 [.string a1.Schema,v1_0,I6 a1.Time,v1_1] 33]:=s
 refine wpList_nil (NoP_nil ?_)
 refine zq<|zr<|zm q rfl fun a q=>zl q (r_nilCheck q rfl) fun a q=>zl q (r_fieldAddr underlying70 rfl sizeOf3 q rfl) fun a q=>zl q (r_load isAgg3 q rfl (s.cell z4 rfl)) fun a q=>zl q (r_ibin q rfl rfl rfl) fun a q=>zl q (r_nilCheck q rfl) fun a q=>zl q (r_fieldAddr underlying70 rfl sizeOf3 q rfl) fun a q=>?_
 have s:=s.pk4
 refine sl_store1 (c':=[v0_0,I6 a0.room,I6 (IntKind.i64.wrap (a0.points + 1)),.pointer (some ⟨nb0_1,0,none⟩),.map (some mb0_2)]) sizeOf3 s q rfl rfl rfl rfl (Nat.le_of_ble_eq_true rfl) rfl fun a w s q=>?_
 refine zn<|zq<|zr<|za q rfl fun a q=>za q rfl fun a q=>zn ?_
 obtain rfl:=Option.some.inj H
 refine wp_ret ?_
 repeat first | refine zt ?_ | refine zb ?_ | refine zo ?_
 exact ret_2 results11 q (rv_tmp q rfl) (rv_tmp q rfl) ⟨_,rfl,_,_,_,_,_,_,_,_,rfl,(s.pk1.pk4.pk4.pk4.pk4.trunc 5),hRL,(h0_0.mono (hl_52.le.trans (hl_104.le.trans hl_198.le))),(hq_108.mono hl_198.le),hm_204⟩
theorem schema_Cols.calls (a0 : api_Schema) {w0 : World} {R : Hp} {v0_0 : Value} {v0_1 : Value} (hR : R.sub w0) (h0_0 : SlR ty_api_Col R v0_0 a0.Keys) (h0_1 : SlR ty_api_Col R v0_1 a0.Vals) {r : List api_Col} (H : schema_Cols a0 = some r) : Calls prog 30 #[.agg #[.string a0.Name,v0_0,v0_1]] w0 (Rets fun v w'=>∃ (R' : Hp) (u0 : Value) (cu0 : List Value),v = u0 ∧ St [] w0 w' R' [.row 65 2 u0 r.length cu0] ∧ RLe [] w0 R R' ∧ Reps ty_api_Col R' cu0 r):=by
 unfold schema_Cols at H
 refine enter (args:=[.agg #[.string a0.Name,v0_0,v0_1]]) func30 rfl ntmps30 rfl fun a q=>?_
 have s:=St.init hR
 have hRL:=RLe.refl (M:=[]) w0 R
 refine zq<|zr ?_
 refine sl_box s q (by decide) rfl rfl (c:=[.string a0.Name,v0_0,v0_1]) rfl fun a w b_1 s q=>?_
 refine za q rfl fun a q=>zn<|zq<|zr<|zl q (r_buildC (ps:=[(0,.string (⟨#[116,105,109,101]⟩ : ByteArray)),(1,I6 1)]) (c:=[.string (⟨#[116,105,109,101]⟩ : ByteArray),I6 1]) underlying65 zeroValue65 places65 q rfl (pc_cons rfl (pc_cons rfl pc_nil)) rfl rfl) fun a q=>?_
 refine sl_buildSliceF (zc:=[.string (⟨#[]⟩ : ByteArray),I6 0]) (ps:=[(0,.agg #[.string (⟨#[116,105,109,101]⟩ : ByteArray),I6 1])]) (c:=[.string (⟨#[116,105,109,101]⟩ : ByteArray),I6 1]) [[.string (⟨#[116,105,109,101]⟩ : ByteArray),I6 1]] underlying38 sizeOf65 zeroValue65 rfl (pc_cons rfl pc_nil) rfl rfl (Nat.le_of_ble_eq_true rfl) rfl (zc zz) rfl s q (by decide) rfl fun a w b_2 s q=>?_
 refine zl q (r_fieldAddr underlying49 rfl sizeOf38 q rfl) fun a q=>zl q (r_load isAgg38 q rfl (s.cell z1 rfl)) fun a q=>zl q (r_fieldAddr underlying49 rfl sizeOf38 q rfl) fun a q=>zl q (r_load isAgg38 q rfl (s.cell z1 rfl)) fun a q=>?_
 refine sl_buildSliceF (zc:=[.slice none 0 0]) (ps:=[(0,.slice (some ⟨b_2,0,none⟩) 1 1),(1,v0_0),(2,v0_1)]) (c:=[.slice (some ⟨b_2,0,none⟩) 1 1,v0_0,v0_1]) [[.slice (some ⟨b_2,0,none⟩) 1 1],[v0_0],[v0_1]] underlying139 sizeOf38 zeroValue38 rfl (pc_cons rfl (pc_cons (cells1 h0_0.one) (pc_cons (cells1 h0_1.one) pc_nil))) rfl rfl (Nat.le_of_ble_eq_true rfl) rfl (zc (zc (zc zz))) rfl s q (by decide) rfl fun a w b_3 s q=>?_
 have s:=s.pk1
 obtain ⟨R_4,s,hl_6,hs_5⟩:=s.fz_lit (ty:=ty_api_Col) (xs:=[(⟨(⟨#[116,105,109,101]⟩ : ByteArray),1⟩ : api_Col)]) (Reps.cons (show Ty.rep ty_api_Col _ [.string (⟨#[116,105,109,101]⟩ : ByteArray),I6 1] (⟨(⟨#[116,105,109,101]⟩ : ByteArray),1⟩ : api_Col) from rfl) (Reps.nil _ _)) rfl
 have hRL:=hRL.trans hl_6
 obtain ⟨y_7,h_8,H⟩:=bs H
 refine sl_call call57 q (by decide) rfl rfl rfl (slices_Concat_api_Col_api_Col.calls [[(⟨(⟨#[116,105,109,101]⟩ : ByteArray),1⟩ : api_Col)],a0.Keys,a0.Vals] (lentOf_sub [] _) s.sub (s.lend_lit0 (ty:=(tySl ty_api_Col)) (xs:=[[(⟨(⟨#[116,105,109,101]⟩ : ByteArray),1⟩ : api_Col)],a0.Keys,a0.Vals]) z0 (Reps.cons (show Ty.rep (tySl ty_api_Col) _ [(.slice (some ⟨b_2,0,none⟩) 1 1)] [(⟨(⟨#[116,105,109,101]⟩ : ByteArray),1⟩ : api_Col)] from ⟨_,rfl,hs_5⟩) (Reps.cons (show Ty.rep (tySl ty_api_Col) _ [v0_0] a0.Keys from ⟨_,rfl,(h0_0.mono hl_6.le)⟩) (Reps.cons (show Ty.rep (tySl ty_api_Col) _ [v0_1] a0.Vals from ⟨_,rfl,(h0_1.mono hl_6.le)⟩) (Reps.nil _ _)))) rfl) h_8) fun a v_ w hv_ q=>?_
 obtain ⟨R_9,v_12,cs_13,hv_,hr_,hl_10,hq_14⟩:=hv_
 have hv_:=hv_.symm
 subst hv_
 obtain ⟨s,hl_10⟩:=s.sp0.back hr_ hl_10
 have s:=s.un1
 have hRL:=hRL.trans hl_10
 refine za q rfl fun a q=>zn ?_
 obtain rfl:=Option.some.inj H
 refine wp_ret ?_
 repeat first | refine zt ?_ | refine zb ?_ | refine zo ?_
 exact ret_1 results30 q (rv_tmp q rfl) ⟨_,rfl,_,_,_,rfl,(s.trunc 1),hRL,hq_14⟩
theorem streams_Dict_Of.calls (a0 : streams_Dict) (a1 : ByteArray) {w0 : World} {R : Hp} {RA : Hp} {b0 : Nat} {o0 : Nat} {v0_0 : Value} {mb0_1 : Nat} (hRA : RA.sub w0) (hR : R.sub w0) (hc0 : ∀ j u,([I6 a0.most,v0_0,.map (some mb0_1)] : List Value)[j]? = some u → RA.cell b0 (o0 + j) = some u) (h0_0 : SlR ty_streams_stream RA v0_0 a0.l) (h0_1 : MpR RA mb0_1 (kvs Value.string (Value.int .i64) a0.ids)) {r : List Int} (H : streams_Dict_Of a0 a1 = some r) : Calls prog 31 #[.pointer (some ⟨b0,o0,none⟩),.string a1] w0 (Rets fun v w'=>∃ (R' : Hp) (u0 : Value) (cu0 : List Value),v = u0 ∧ St [] w0 w' R' [.row 3 1 u0 r.length cu0] ∧ RLe [] w0 R R' ∧ Reps (tyInt .i64) R' cu0 r):=by
 unfold streams_Dict_Of at H
 refine enter (args:=[.pointer (some ⟨b0,o0,none⟩),.string a1]) func31 rfl ntmps31 rfl fun a q=>?_
 have s:=St.init hR
 have hRL:=RLe.refl (M:=[]) w0 R
 refine zq<|zr<|za q rfl fun a q=>zn<|zq<|zr<|za q rfl fun a q=>zn<|zq<|zq<|zr<|zm q rfl fun a q=>zl q (r_nilCheck q rfl) fun a q=>zl q (r_fieldAddr underlying102 rfl sizeOf100 q rfl) fun a q=>zl q (r_load isAgg100 q rfl ((s.ra hRA nil_not).cell (hc0 1 _ rfl))) fun a q=>zl q (r_len_R underlying100 h0_0 q rfl) fun a q=>zm q rfl fun a q=>zn ?_
 refine wp_block ?_
 refine wp_loop_k (fun k_l0 a w=>∃ (x_44 : List Int) (x_48 : Int) (v_45 : Value) (cs_46 : List Value),streams_Dict_Of.l0 a0 a1 k_l0 x_44 x_48 = some r ∧ Reps (tyInt .i64) R cs_46 x_44 ∧ Kn 28 a [(1,.string a1),(5,v_45),(11,v0_0),(12,I6 (a0.l.length : Int)),(13,I6 x_48)] ∧ St [] w0 w R [.row 3 1 v_45 x_44.length cs_46]) (((a0.l.length : Int) - 0).toNat + 1) ?_ ?_
 have s:=s.row_nil 3 1
 have hq_86 : Reps (tyInt .i64) R [] ([] : List Int):=Reps.nil _ _
 exact ⟨[],0,_,_,H,hq_86,q.sub (zc (zc (zc (zc (zc zz))))),s⟩
 rintro k_l0 a w ⟨x_44,x_48,v_45,cs_46,H,hq_47,q,s⟩
 rcases k_l0 with _ | k_l0
 cases H
 rw [streams_Dict_Of.l0.eq_2] at H
 refine zq<|zr<|zl q (r_ibin q rfl rfl rfl) fun a q=>zn<|zq ?_
 refine wp_cond_split (q.ev rfl) (fun (hb_87 : (decide (x_48 < (a0.l.length : Int))) = true)=>?_) fun hb_87=>?_
 rw [ifb_t hb_87] at H
 refine wp_skip<|zq ?_
 refine wp_block ?_
 refine zq<|zr<|zm q rfl fun a q=>?_
 obtain ⟨y_88,h_89,H⟩:=bs H
 obtain ⟨b_90,o_91,c_92,cs_93,hv_94,hr_95,hc_96,h_890,h_891⟩:=h0_0.ix h_89
 obtain ⟨v_97,rfl,hs_98⟩:=hr_95
 refine zl q (r_indexAddr_R underlying100 sizeOf113 hv_94 h_890 h_891 q rfl rfl) fun a q=>zl q (r_loadA (cs:=[.string y_88.name,v_97]) isAgg113 sizeOf113 rfl q rfl (fun j v hv=>(s.ra hRA nil_not).cell (hc_96 j v hv))) fun a q=>?_
 refine sl_alloc zeroValue113 s q (by decide) rfl rfl fun a w b_99 s q=>?_
 refine za q rfl fun a q=>?_
 refine sl_storeA (vs:=[.string y_88.name,v_97]) (c':=[.string y_88.name,v_97]) sizeOf113 s q rfl rfl rfl rfl (zc (all_cons hs_98.one zz)) (Nat.le_of_ble_eq_true rfl) rfl fun a w s q=>?_
 refine zn<|zq<|zr<|zl q (r_fieldAddr underlying113 rfl sizeOf9 q rfl) fun a q=>zl q (r_load isAgg9 q rfl (s.cell z0 rfl)) fun a q=>zm q rfl fun a q=>zl q (r_sbin q rfl rfl rfl) fun a q=>zn ?_
 refine wp_mid (fun a w=>∃ (x_109 : List Int) (v_110 : Value) (cs_111 : List Value),streams_Dict_Of.j1 (streams_Dict_Of.l0 a0 a1 k_l0) a0 x_48 x_109 = some r ∧ Reps (tyInt .i64) R cs_111 x_109 ∧ Kn 28 a [(1,.string a1),(5,v_110),(11,v0_0),(12,I6 (a0.l.length : Int)),(13,I6 x_48)] ∧ St [] w0 w R [.row 3 1 v_110 x_109.length cs_111]) ?_ ?_
 refine wp_cond_split (q.ev rfl) (fun (hb_114 : (y_88.name.toList == a1.toList) = true)=>?_) fun hb_114=>?_
 rw [ifb_t hb_114] at H
 refine zr<|zm q rfl fun a q=>zm q rfl fun a q=>?_
 refine sl_buildSliceF (zc:=[I6 0]) (ps:=[(0,I6 x_48)]) (c:=[I6 x_48]) [[I6 x_48]] underlying22 sizeOf3 zeroValue3 rfl (pc_cons rfl pc_nil) rfl rfl (Nat.le_of_ble_eq_true rfl) rfl (zc zz) rfl s q (by decide) rfl fun a w b_115 s q=>?_
 obtain ⟨y_116,h_117,H⟩:=bs H
 have s:=s.pk2
 refine sl_append_L (ty:=(tyInt .i64)) (ys:=[x_48]) elT22 (by decide) rfl hq_47 rfl (Reps.cons (show Ty.rep (tyInt .i64) _ [I6 x_48] x_48 from rfl) (Reps.nil _ _)) rfl h_117 s q (by decide) rfl rfl rfl fun a w v_118 cs_119 hq_120 s q=>?_
 refine za q rfl fun a q=>zn ?_
 exact ⟨y_116,_,_,H,hq_120,q.sub (zc (zc (zc (zc (zc zz))))),s.trunc 1⟩
 rw [ifb_f hb_114] at H
 refine wp_skip ?_
 have s:=s.pk1
 exact ⟨x_44,_,_,H,hq_47,q.sub (zc (zc (zc (zc (zc zz))))),s.trunc 1⟩
 rintro a w ⟨x_109,v_110,cs_111,H,hq_112,q,s⟩
 unfold streams_Dict_Of.j1 at H
 refine zr<|zl q (r_ibin q rfl rfl rfl) fun a q=>zm q rfl fun a q=>zn ?_
 exact ⟨_,Nat.lt_succ_self _,x_109,(IntKind.i64.wrap (x_48 + 1)),_,_,H,hq_112,q.sub (zc (zc (zc (zc (zc zz))))),s⟩
 rw [ifb_f hb_87] at H
 refine wp_exit ?_
 refine zq<|zr<|zm q rfl fun a q=>za q rfl fun a q=>zn ?_
 obtain rfl:=Option.some.inj H
 refine wp_ret ?_
 repeat first | refine zt ?_ | refine zb ?_ | refine zo ?_
 exact ret_1 results31 q (rv_tmp q rfl) ⟨_,rfl,_,_,_,rfl,s,hRL,hq_47⟩
theorem streams_Dict_Keys.calls (a0 : streams_Dict) (a1 : Int) {w0 : World} {R : Hp} {RA : Hp} {b0 : Nat} {o0 : Nat} {v0_0 : Value} {mb0_1 : Nat} (hRA : RA.sub w0) (hR : R.sub w0) (hc0 : ∀ j u,([I6 a0.most,v0_0,.map (some mb0_1)] : List Value)[j]? = some u → RA.cell b0 (o0 + j) = some u) (h0_0 : SlR ty_streams_stream RA v0_0 a0.l) (h0_1 : MpR RA mb0_1 (kvs Value.string (Value.int .i64) a0.ids)) {r : ByteArray × (List api_Value) × Bool} (H : streams_Dict_Keys a0 a1 = some r) : Calls prog 32 #[.pointer (some ⟨b0,o0,none⟩),I6 a1] w0 (Rets fun v w'=>∃ (R' : Hp) (u0 : Value) (cu0 : List Value),v = .tuple #[.string r.1,u0,.bool r.2.2] ∧ St [] w0 w' R' [.row 58 11 u0 r.2.1.length cu0] ∧ RLe [] w0 R R' ∧ Reps ty_api_Value R' cu0 r.2.1):=by
 unfold streams_Dict_Keys at H
 refine enter (args:=[.pointer (some ⟨b0,o0,none⟩),I6 a1]) func32 rfl ntmps32 rfl fun a q=>?_
 have s:=St.init hR
 have hRL:=RLe.refl (M:=[]) w0 R
 refine zq<|zr<|za q rfl fun a q=>za q rfl fun a q=>za q rfl fun a q=>zn<|zq<|zq ?_
 refine wp_mid (fun a w=>∃ (x_2 : Bool),streams_Dict_Keys.j0 a0 a1 x_2 = some r ∧ Kn 35 a [(0,.pointer (some ⟨b0,o0,none⟩)),(1,I6 a1),(17,.bool x_2)] ∧ St [] w0 w R []) ?_ ?_
 refine zr<|zm q rfl fun a q=>zl q (r_ibin q rfl rfl rfl) fun a q=>zm q rfl fun a q=>?_
 rcases or_b (decide (a1 < 0)) with hb_4 | hb_4
 rw [ifb_t hb_4] at H
 refine zsw q (wft hb_4) fun a q=>zsw q (wft hb_4) fun a q=>zsw q (wft hb_4) fun a q=>zsw q (wft hb_4) fun a q=>zsw q (wft hb_4) fun a q=>zsw q (wft hb_4) fun a q=>zsw q (wft hb_4) fun a q=>zl q (r_pick_t hb_4 q rfl rfl) fun a q=>zn ?_
 exact ⟨true,H,q.sub (zc (zc (zc zz))),s⟩
 rw [ifb_f hb_4] at H
 refine zw q (wff hb_4) (r_move q rfl) fun a q=>zw q (wff hb_4) (r_move q rfl) fun a q=>zw q (wff hb_4) (r_nilCheck q rfl) fun a q=>zw q (wff hb_4) (r_fieldAddr underlying102 rfl sizeOf100 q rfl) fun a q=>zw q (wff hb_4) (r_load isAgg100 q rfl ((s.ra hRA nil_not).cell (hc0 1 _ rfl))) fun a q=>zw q (wff hb_4) (r_len_R underlying100 h0_0 q rfl) fun a q=>zw q (wff hb_4) (r_ibin q rfl rfl rfl) fun a q=>zl q (r_pick_f hb_4 q rfl rfl) fun a q=>zn ?_
 exact ⟨(decide (a1 ≥ (a0.l.length : Int))),H,q.sub (zc (zc (zc zz))),s⟩
 rintro a w ⟨x_2,H,q,s⟩
 unfold streams_Dict_Keys.j0 at H
 refine wp_cond_split (q.ev rfl) (fun (hb_5 : x_2 = true)=>?_) fun hb_5=>?_
 rw [ifb_t hb_5] at H
 refine zq<|zr<|za q rfl fun a q=>za q rfl fun a q=>za q rfl fun a q=>zn ?_
 have s:=s.row_nil 58 11
 have hq_7 : Reps ty_api_Value R [] ([] : List api_Value):=Reps.nil _ _
 obtain rfl:=Option.some.inj H
 refine wp_ret ?_
 repeat first | refine zt ?_ | refine zb ?_ | refine zo ?_
 exact ret_3 results32 q (rv_tmp q rfl) (rv_tmp q rfl) (rv_tmp q rfl) ⟨_,rfl,_,_,_,rfl,s,hRL,hq_7⟩
 rw [ifb_f hb_5] at H
 refine wp_skip<|zq ?_
 refine parT_region (C:=fun w=>St [] w0 w R []) 17 [(0,true),(1,true),(2,true),(3,true),(4,true),(5,true),(6,true),(7,true),(8,true),(9,true),(10,true),(11,true),(12,true),(13,true),(14,true),(15,true),(16,false)] mixed (by kernel_rfl) s (fun w s=>s) fun w s=>?_
 refine zp rfl q (fun w s=>r_move q rfl) fun a q=>zp rfl q (fun w s=>r_nilCheck q rfl) fun a q=>zp rfl q (fun w s=>r_fieldAddr underlying102 rfl sizeOf100 q rfl) fun a q=>zp rfl q (fun w s=>r_load isAgg100 q rfl ((s.ra hRA nil_not).cell (hc0 1 _ rfl))) fun a q=>zp rfl q (fun w s=>r_move q rfl) fun a q=>?_
 obtain ⟨y_38,h_39,H⟩:=bs H
 obtain ⟨b_40,o_41,c_42,cs_43,hv_44,hr_45,hc_46,h_390,h_391⟩:=h0_0.ix h_39
 obtain ⟨v_47,rfl,hs_48⟩:=hr_45
 refine zp rfl q (fun w s=>r_indexAddr_R underlying100 sizeOf113 hv_44 h_390 h_391 q rfl rfl) fun a q=>zp rfl q (fun w s=>r_fieldAddr underlying113 rfl sizeOf9 q rfl) fun a q=>zp rfl q (fun w s=>r_load isAgg9 q rfl ((s.ra hRA nil_not).cell (hc_46 0 _ rfl))) fun a q=>zp rfl q (fun w s=>r_move q rfl) fun a q=>zp rfl q (fun w s=>r_nilCheck q rfl) fun a q=>zp rfl q (fun w s=>r_fieldAddr underlying102 rfl sizeOf100 q rfl) fun a q=>zp rfl q (fun w s=>r_load isAgg100 q rfl ((s.ra hRA nil_not).cell (hc0 1 _ rfl))) fun a q=>zp rfl q (fun w s=>r_move q rfl) fun a q=>?_
 obtain ⟨y_49,h_50,H⟩:=bs H
 obtain ⟨b_51,o_52,c_53,cs_54,hv_55,hr_56,hc_57,h_500,h_501⟩:=h0_0.ix h_50
 obtain ⟨v_58,rfl,hs_59⟩:=hr_56
 refine zp rfl q (fun w s=>r_indexAddr_R underlying100 sizeOf113 hv_55 h_500 h_501 q rfl rfl) fun a q=>zp rfl q (fun w s=>r_fieldAddr underlying113 rfl sizeOf31 q rfl) fun a q=>zp rfl q (fun w s=>r_load isAgg31 q rfl ((s.ra hRA nil_not).cell (hc_57 1 _ rfl))) fun a q=>?_
 refine spw (k:=16) rfl rfl s ?_
 obtain ⟨y_60,h_61,H⟩:=bs H
 refine sl_call call55 q (by decide) rfl rfl rfl (slices_Clone_api_Value_api_Value.calls y_49.keys (lentOf_sub [] _) s.sub (hs_59.mono (s.raLe0 hRA nil_not)) h_61) fun a v_ w hv_ q=>?_
 obtain ⟨R_62,v_65,cs_66,hv_,hr_,hl_63,hq_67⟩:=hv_
 have hv_:=hv_.symm
 subst hv_
 obtain ⟨s,hl_63⟩:=s.sp0.back hr_ hl_63
 have s:=s.un1
 have hRL:=hRL.trans hl_63
 refine parK_nil ((s.trunc 0).lower hl_63.le) ?_
 refine thenL_nil ?_
 refine za q rfl fun a q=>za q rfl fun a q=>za q rfl fun a q=>?_
 refine wpList_nil (NoP_nil ?_)
 obtain rfl:=Option.some.inj H
 refine wp_ret ?_
 repeat first | refine zt ?_ | refine zb ?_ | refine zo ?_
 exact ret_3 results32 q (rv_tmp q rfl) (rv_tmp q rfl) (rv_tmp q rfl) ⟨_,rfl,_,_,_,rfl,s,hRL,hq_67⟩
theorem runs_Run_Range.calls (a0 : runs_Run) (a1 : Int) (a2 : Int) {w0 : World} {R : Hp} {RA : Hp} {b0 : Nat} {o0 : Nat} {v0_0 : Value} (hRA : RA.sub w0) (hR : R.sub w0) (hc0 : ∀ j u,([v0_0] : List Value)[j]? = some u → RA.cell b0 (o0 + j) = some u) (h0_0 : SlR ty_api_Sample RA v0_0 a0.l) {r : List api_Sample} (H : runs_Run_Range a0 a1 a2 = some r) : Calls prog 33 #[.pointer (some ⟨b0,o0,none⟩),I6 a1,I6 a2] w0 (Rets fun v w'=>∃ (R' : Hp) (u0 : Value) (cu0 : List Value),v = u0 ∧ St [] w0 w' R' [.row 90 2 u0 r.length cu0] ∧ RLe [] w0 R R' ∧ Reps ty_api_Sample R' cu0 r ∧ Apart R R' cu0):=by
 unfold runs_Run_Range at H
 refine enter (args:=[.pointer (some ⟨b0,o0,none⟩),I6 a1,I6 a2]) func33 rfl ntmps33 rfl fun a q=>?_
 have s:=St.init hR
 have hRL:=RLe.refl (M:=[]) w0 R
 refine zq<|zr<|za q rfl fun a q=>zn ?_
 refine wp_scope_straight ?_
 refine zq<|zr<|zm q rfl fun a q=>zm q rfl fun a q=>?_
 obtain ⟨y_1,h_2,H⟩:=bs H
 refine sl_callV call54 s q (by decide) rfl rfl rfl (runs_Run_place.calls a0 a1 (lentOf_sub [] _) (fun j u hu=>Hp.cell_le (s.raLe0 hRA nil_not) (hc0 j u hu)) (h0_0.mono (s.raLe0 hRA nil_not)) h_2) fun a w s q=>?_
 refine zm q rfl fun a q=>zl q (r_extract q rfl rfl) fun a q=>zl q (r_extract q rfl rfl) fun a q=>za q rfl fun a q=>za q rfl fun a q=>zn<|zq<|zr<|za q rfl fun a q=>zn<|zq ?_
 refine wp_label ?_
 refine zq<|zq<|zr<|zm q rfl fun a q=>zl q (r_nilCheck q rfl) fun a q=>zl q (r_fieldAddr underlying111 rfl sizeOf87 q rfl) fun a q=>zl q (r_load isAgg87 q rfl ((s.ra hRA nil_not).cell (hc0 0 _ rfl))) fun a q=>zm q rfl fun a q=>?_
 obtain ⟨y_3,h_4,H⟩:=bs H
 obtain ⟨v_5,hs_6,hr_7⟩:=r_slice_R (x:=.tmp 21) (lo:=some (.tmp 22)) (hi:=none) underlying87 sizeOf90 h0_0 h_4 q rfl ⟨_,rfl⟩ rfl
 refine zl q (hr_7 _ _ _ _ _ _ _ q) fun a q=>zl q (r_len_R underlying87 hs_6 q rfl) fun a q=>zm q rfl fun a q=>zn ?_
 refine wp_block ?_
 refine wp_loop_k (fun k_l0 a w=>∃ (x_76 : List api_Sample) (x_81 : Int) (R_82 : Hp) (v_77 : Value) (cs_78 : List Value),runs_Run_Range.l0 a2 y_3 k_l0 x_76 x_81 = some r ∧ RLe [] w0 R R_82 ∧ Reps ty_api_Sample R_82 cs_78 x_76 ∧ Apart R R_82 cs_78 ∧ Kn 45 a [(2,I6 a2),(9,v_77),(23,v_5),(24,I6 (y_3.length : Int)),(25,I6 x_81)] ∧ St [] w0 w R_82 [.row 90 2 v_77 x_76.length cs_78]) (((y_3.length : Int) - 0).toNat + 1) ?_ ?_
 have s:=s.row_nil 90 2
 have hq_143 : Reps ty_api_Sample R [] ([] : List api_Sample):=Reps.nil _ _
 exact ⟨[],0,_,_,_,H,(RLe.refl _ _),hq_143,(Apart.nil _ _),q.sub (zc (zc (zc (zc (zc zz))))),s⟩
 rintro k_l0 a w ⟨x_76,x_81,R_82,v_77,cs_78,H,hl_83,hq_79,hap_80,q,s⟩
 rcases k_l0 with _ | k_l0
 cases H
 rw [runs_Run_Range.l0.eq_2] at H
 have hRL:=hRL.trans hl_83
 refine zq<|zr<|zl q (r_ibin q rfl rfl rfl) fun a q=>zn<|zq ?_
 refine wp_cond_split (q.ev rfl) (fun (hb_144 : (decide (x_81 < (y_3.length : Int))) = true)=>?_) fun hb_144=>?_
 rw [ifb_t hb_144] at H
 refine wp_skip<|zq ?_
 refine wp_block ?_
 refine zq<|zr ?_
 obtain ⟨y_145,h_146,H⟩:=bs H
 obtain ⟨b_147,o_148,c_149,cs_150,hv_151,hr_152,hc_153,h_1460,h_1461⟩:=hs_6.ix h_146
 obtain ⟨v_154,rfl,hs_155⟩:=hr_152
 refine zl q (r_indexAddr_R underlying87 sizeOf90 hv_151 h_1460 h_1461 q rfl rfl) fun a q=>zl q (r_loadA (cs:=[I6 y_145.Time,v_154]) isAgg90 sizeOf90 rfl q rfl (fun j v hv=>(s.ra hRA nil_not).cell (hc_153 j v hv))) fun a q=>?_
 refine sl_alloc zeroValue90 s q (by decide) rfl rfl fun a w b_156 s q=>?_
 refine sl_storeA (vs:=[I6 y_145.Time,v_154]) (c':=[I6 y_145.Time,v_154]) sizeOf90 s q rfl rfl rfl rfl (zc (all_cons hs_155.one zz)) (Nat.le_of_ble_eq_true rfl) rfl fun a w s q=>?_
 refine zn ?_
 refine wp_block ?_
 refine zq<|zr<|zl q (r_fieldAddr underlying90 rfl sizeOf3 q rfl) fun a q=>zl q (r_load isAgg3 q rfl (s.cell z0 rfl)) fun a q=>zm q rfl fun a q=>zl q (r_ibin q rfl rfl rfl) fun a q=>za q rfl fun a q=>zn ?_
 refine wp_cond_split (q.ev rfl) (fun (hb_157 : (decide (y_145.Time > a2)) = true)=>?_) fun hb_157=>?_
 rw [ifb_t hb_157] at H
 refine wp_exit ?_
 refine zq<|zr<|zm q rfl fun a q=>za q rfl fun a q=>zn ?_
 obtain rfl:=Option.some.inj H
 refine wp_ret ?_
 repeat first | refine zt ?_ | refine zb ?_ | refine zo ?_
 exact ret_1 results33 q (rv_tmp q rfl) ⟨_,rfl,_,_,_,rfl,(s.pk1.trunc 1),hRL,hq_79,hap_80⟩
 rw [ifb_f hb_157] at H
 refine parT_region (C:=fun w=>St [] w0 w R_82 [.cells b_156 [I6 y_145.Time,v_154] 90,.row 90 2 v_77 x_76.length cs_78]) 8 [(0,true),(1,true),(2,true),(3,true),(4,true),(5,false),(6,true),(7,false)] mixed (by kernel_rfl) s (fun w s=>s) fun w s=>?_
 refine zp rfl q (fun w s=>r_move q rfl) fun a q=>zp rfl q (fun w s=>r_fieldAddr underlying90 rfl sizeOf3 q rfl) fun a q=>zp rfl q (fun w s=>r_load isAgg3 q rfl (s.cell z0 rfl)) fun a q=>zp rfl q (fun w s=>r_fieldAddr underlying90 rfl sizeOf31 q rfl) fun a q=>zp rfl q (fun w s=>r_load isAgg31 q rfl (s.cell z0 rfl)) fun a q=>?_
 refine spw (k:=5) rfl rfl s ?_
 obtain ⟨y_180,h_181,H⟩:=bs H
 refine sl_call call55 q (by decide) rfl rfl rfl (slices_Clone_api_Value_api_Value.calls y_145.Vals (lentOf_sub [] _) s.sub (hs_155.mono (s.raLe0 hRA nil_not)) h_181) fun a v_ w hv_ q=>?_
 obtain ⟨R_182,v_185,cs_186,hv_,hr_,hl_183,hq_187⟩:=hv_
 have hv_:=hv_.symm
 subst hv_
 obtain ⟨s,hl_183⟩:=s.sp0.back hr_ hl_183
 have s:=s.un1
 have hRL:=hRL.trans hl_183
 refine parK_nil ((s.pk2.pk2.trunc 2).lower hl_183.le) ?_
 have ho_188:=s.row_one z0
 refine zp rfl q (fun w s=>r_buildC (ps:=[(0,I6 y_145.Time),(1,v_185)]) (c:=[I6 y_145.Time,v_185]) underlying90 zeroValue90 places90 q rfl (pc_cons rfl (pc_cons (cells1 ho_188) pc_nil)) rfl rfl) fun a q=>?_
 refine spw (k:=7) rfl rfl ((s.pk2.pk2.trunc 2).lower hl_183.le) ?_
 refine sl_buildSliceF (zc:=[I6 0,.slice none 0 0]) (ps:=[(0,.agg #[I6 y_145.Time,v_185])]) (c:=[I6 y_145.Time,v_185]) [[I6 y_145.Time,v_185]] underlying87 sizeOf90 zeroValue90 rfl (pc_cons rfl pc_nil) rfl rfl (Nat.le_of_ble_eq_true rfl) rfl (zc zz) rfl s q (by decide) rfl fun a w b_189 s q=>?_
 refine parK_nil ((s.pk3.pk3.trunc 2).lower hl_183.le) ?_
 refine thenL_nil ?_
 have s:=s.pk3
 have s:=s.pk2
 obtain ⟨R_190,s,hl_192,hs_191,hn_193⟩:=s.fz_rowN hq_187 rfl rfl
 have hRL:=hRL.trans hl_192
 obtain ⟨y_194,h_195,H⟩:=bs H
 refine sl_append_LA (ty:=ty_api_Sample) (ys:=[(⟨y_145.Time,y_180⟩ : api_Sample)]) elT87 (by decide) rfl (hq_79.mono (hl_183.le.trans hl_192.le)) rfl (Reps.cons (show Ty.rep ty_api_Sample _ [I6 y_145.Time,v_185] (⟨y_145.Time,y_180⟩ : api_Sample) from ⟨_,rfl,hs_191⟩) (Reps.nil _ _)) rfl h_195 s q (by decide) rfl rfl rfl fun a w v_196 cs_197 hcq_200 hq_198 s q=>?_
 have hap_201 : Apart R R_190 cs_197:=by rw [hcq_200]; have h_:=(Apart.app ((Apart.skip (v:=I6 y_145.Time) hap_80 rfl).mono hl_183.le) (hl_83.le.trans hl_183.le) hl_192.le hn_193); simpa only [List.append_assoc,List.cons_append,List.nil_append] using h_
 refine za q rfl fun a q=>?_
 refine wpList_nil (NoP_nil ?_)
 refine zr<|zl q (r_ibin q rfl rfl rfl) fun a q=>zm q rfl fun a q=>zn ?_
 exact ⟨_,Nat.lt_succ_self _,y_194,(IntKind.i64.wrap (x_81 + 1)),_,_,_,H,(hl_83.trans (hl_183.trans hl_192)),hq_198,hap_201,q.sub (zc (zc (zc (zc (zc zz))))),s.trunc 1⟩
 rw [ifb_f hb_144] at H
 refine wp_exit ?_
 refine zq<|zr<|zm q rfl fun a q=>za q rfl fun a q=>zn ?_
 obtain rfl:=Option.some.inj H
 refine wp_ret ?_
 repeat first | refine zt ?_ | refine zb ?_ | refine zo ?_
 exact ret_1 results33 q (rv_tmp q rfl) ⟨_,rfl,_,_,_,rfl,s,hRL,hq_79,hap_80⟩
set_option maxHeartbeats 4000000 in
set_option maxRecDepth 100000 in
theorem slices_Grow_api_Value_api_Value.calls (a0 : List api_Value) (a1 : Int) {w0 : World} {R RA : Hp} (hRA : RA.sub w0) (hR : R.sub w0) (h0 : SlR ty_api_Value RA (.slice none 0 0) a0) {r : List api_Value} (H : slices_Grow_api_Value_api_Value a0 a1 = some r) :
    Calls Tryz.prog 58 #[.slice none 0 0, .int .i64 a1] w0 (Rets fun v w' => ∃ (R' : Hp) (u0 : Value) (cu0 : List Value), v = u0 ∧ St [] w0 w' R' [.row 58 11 u0 r.length cu0] ∧ RLe [] w0 R R' ∧ Reps ty_api_Value R' cu0 r) := by
  obtain ⟨k, rfl, hb, rfl⟩ := grow0_some H
  have hl0 : a0 = [] := by
    obtain ⟨ad, cap, h1, _⟩ := h0
    simp only [Value.slice.injEq] at h1
    exact List.eq_nil_of_length_eq_zero h1.2.1.symm
  subst hl0
  have hbig : k ≤ 140737488355328 := Nat.le_trans (Nat.le_mul_of_pos_right _ (by decide)) hb
  refine enter (args := [.slice none 0 0, .int .i64 (k : Int)]) Tryz.func58 rfl Tryz.ntmps58 rfl fun a hK => ?_
  have hS := St.init hR
  refine wp_seq ?_
  refine wp_region_lit ?_
  refine sl hK (by decide) rfl rfl (r_assign hK rfl) fun a hK => ?_
  refine wpList_nil ?_
  refine wp_seq ?_
  refine wp_seq ?_
  refine wp_region_lit ?_
  refine sl hK (by decide) rfl rfl (r_move hK rfl) fun a hK => ?_
  refine sl hK (by decide) rfl rfl (r_ibin hK rfl rfl rfl) fun a hK => ?_
  refine wpList_nil ?_
  refine wp_cond_false ((hK.ev rfl).trans (congrArg Value.bool (show decide ((k : Int) < 0) = false by simp))) ?_
  refine wp_skip ?_
  refine wp_seq ?_
  refine wp_seq ?_
  refine wp_region_lit ?_
  refine sl hK (by decide) rfl rfl (r_move hK rfl) fun a hK => ?_
  refine sl hK (by decide) rfl rfl (r_move hK rfl) fun a hK => ?_
  refine sl hK (by decide) rfl rfl (r_cap Tryz.underlying31 hK rfl) fun a hK => ?_
  refine sl hK (by decide) rfl rfl (r_move hK rfl) fun a hK => ?_
  refine sl hK (by decide) rfl rfl (r_len_sl Tryz.underlying31 hK rfl) fun a hK => ?_
  refine sl hK (by decide) rfl rfl (r_ibin (k := .i64) (v := .int .i64 0) hK rfl rfl rfl) fun a hK => ?_
  refine sl hK (by decide) rfl rfl (r_ibin (k := .i64) (v := .int .i64 (k : Int)) hK rfl rfl (by show some (Value.int .i64 (IntKind.i64.wrap ((k : Int) - 0))) = _; rw [Int.sub_zero, w64 (by omega) (by omega)])) fun a hK => ?_
  refine sl hK (by decide) rfl rfl (r_assign hK rfl) fun a hK => ?_
  refine wpList_nil ?_
  refine wp_seq ?_
  refine wp_region_lit ?_
  refine sl hK (by decide) rfl rfl (r_move hK rfl) fun a hK => ?_
  refine sl hK (by decide) rfl rfl (r_ibin hK rfl rfl rfl) fun a hK => ?_
  refine wpList_nil ?_
  by_cases hk : k = 0
  · refine wp_cond_false ((hK.ev rfl).trans (congrArg Value.bool (show decide ((k : Int) > 0) = false by simp; omega))) ?_
    refine wp_skip ?_
    refine wp_seq ?_
    refine wp_region_lit ?_
    refine sl hK (by decide) rfl rfl (r_move hK rfl) fun a hK => ?_
    refine sl hK (by decide) rfl rfl (r_assign hK rfl) fun a hK => ?_
    refine wpList_nil ?_
    refine wp_ret ?_
    repeat (first | refine ret_then ?_ | refine ret_block ?_)
    exact ret_1 Tryz.results58 hK (rv_tmp hK rfl) ⟨_, rfl, R, _, [], rfl, hS.row_nil 58 11, RLe.refl _ _, Reps.nil _ _⟩
  · refine wp_cond_true ((hK.ev rfl).trans (congrArg Value.bool (show decide ((k : Int) > 0) = true by simp; omega))) ?_
    refine wp_region_lit ?_
    refine sl hK (by decide) rfl rfl (r_move hK rfl) fun a hK => ?_
    refine sl hK (by decide) rfl rfl (r_move hK rfl) fun a hK => ?_
    refine sl hK (by decide) rfl rfl (r_cap Tryz.underlying31 hK rfl) fun a hK => ?_
    refine sl hK (by decide) rfl rfl (r_slice_H (l := 0) (h := 0) Tryz.underlying31 Tryz.sizeOf58 (Nat.le_refl _) (Nat.le_refl _) hK rfl rfl ⟨_, rfl⟩) fun a hK => ?_
    refine sl hK (by decide) rfl rfl (r_move hK rfl) fun a hK => ?_
    refine sl_append_zeros (i := 0) (k := k) (olds := []) (cap := 0) (ad := none) elT31 Tryz.underlying3 (by omega) (by omega) (by decide) (by simpa using hb) (by simp) (fun h => absurd rfl h) (fun h => absurd rfl h) hS hK (by decide) rfl rfl rfl fun a w b capn rest' hgn hcmn hln hS hK => ?_
    refine sl hK (by decide) rfl rfl (r_move hK rfl) fun a hK => ?_
    refine sl hK (by decide) rfl rfl (r_len_sl Tryz.underlying31 hK rfl) fun a hK => ?_
    refine sl hK (by decide) rfl rfl (r_slice_Hv (b := b) (o := 0) (m := 0 + k) (c := capn) (l := 0) (h := 0) (o' := 0) (m' := 0) (c' := capn) Tryz.underlying31 Tryz.sizeOf58 (by omega) (by omega) (Or.inr rfl) rfl rfl rfl hK rfl rfl ⟨_, rfl⟩) fun a hK => ?_
    refine sl hK (by decide) rfl rfl (r_assign hK rfl) fun a hK => ?_
    refine wpList_nil ?_
    refine wp_seq ?_
    refine wp_region_lit ?_
    refine sl hK (by decide) rfl rfl (r_move hK rfl) fun a hK => ?_
    refine sl hK (by decide) rfl rfl (r_assign hK rfl) fun a hK => ?_
    refine wpList_nil ?_
    refine wp_ret ?_
    repeat (first | refine ret_then ?_ | refine ret_block ?_)
    have hS := hS.raw_row (z := 11) (m := 0) (Nat.zero_le _) hcmn hln
    rw [Nat.zero_mul, List.take_zero] at hS
    exact ret_1 Tryz.results58 hK (rv_tmp hK rfl) ⟨_, rfl, R, _, [], rfl, hS, RLe.refl _ _, Reps.nil _ _⟩
end Go.Proofs.YtchgiggipimigaaGreatDoor.M
end
section
namespace Go.Proofs.YtchgiggipimigaaGreatDoor.M
open Go Go.Eng Go.Proofs Go.RowKit
set_option linter.unusedVariables false
set_option linter.unusedSimpArgs false
open Go.Proofs.Tryz
set_option maxHeartbeats 4000000
set_option maxRecDepth 100000
theorem slices_Concat_api_Value_api_Value.calls (a0 : List (List api_Value)) {w0 : World} {R : Hp} {RA : Hp} {v0_0 : Value} (hRA : RA.sub w0) (hR : R.sub w0) (h0_0 : SlR (tySl ty_api_Value) RA v0_0 a0) {r : List api_Value} (H : slices_Concat_api_Value_api_Value a0 = some r) : Calls prog 34 #[v0_0] w0 (Rets fun v w'=>∃ (R' : Hp) (u0 : Value) (cu0 : List Value),v = u0 ∧ St [] w0 w' R' [.row 58 11 u0 r.length cu0] ∧ RLe [] w0 R R' ∧ Reps ty_api_Value R' cu0 r):=by
 unfold slices_Concat_api_Value_api_Value at H
 refine enter (args:=[v0_0]) func34 rfl ntmps34 rfl fun a q=>?_
 have s:=St.init hR
 have hRL:=RLe.refl (M:=[]) w0 R
 refine zq<|zr<|za q rfl fun a q=>zn<|zq<|zr<|za q rfl fun a q=>zn<|zq<|zq<|zr<|zm q rfl fun a q=>zl q (r_len_R underlying39 h0_0 q rfl) fun a q=>zm q rfl fun a q=>zn ?_
 refine wp_block ?_
 refine wp_loop_k (fun k_l0 a w=>∃ (x_16 : Int) (x_17 : Int),slices_Concat_api_Value_api_Value.l0 a0 k_l0 x_16 x_17 = some r ∧ Kn 36 a [(0,v0_0),(3,I6 x_16),(9,v0_0),(10,I6 (a0.length : Int)),(11,I6 x_17)] ∧ St [] w0 w R []) (((a0.length : Int) - 0).toNat + 1) ?_ ?_
 exact ⟨0,0,H,q.sub (zc (zc (zc (zc (zc zz))))),s⟩
 rintro k_l0 a w ⟨x_16,x_17,H,q,s⟩
 rcases k_l0 with _ | k_l0
 cases H
 rw [slices_Concat_api_Value_api_Value.l0.eq_2] at H
 refine zq<|zr<|zl q (r_ibin q rfl rfl rfl) fun a q=>zn<|zq ?_
 refine wp_cond_split (q.ev rfl) (fun (hb_33 : (decide (x_17 < (a0.length : Int))) = true)=>?_) fun hb_33=>?_
 rw [ifb_t hb_33] at H
 refine wp_skip<|zq ?_
 refine wp_block ?_
 refine zq<|zr ?_
 obtain ⟨y_34,h_35,H⟩:=bs H
 obtain ⟨b_36,o_37,c_38,cs_39,hv_40,hr_41,hc_42,h_350,h_351⟩:=h0_0.ix h_35
 obtain ⟨v_43,rfl,hs_44⟩:=hr_41
 refine zl q (r_indexAddr_R underlying39 sizeOf31 hv_40 h_350 h_351 q rfl rfl) fun a q=>zl q (r_load isAgg31 q rfl ((s.ra hRA nil_not).cell (hc_42 0 _ rfl))) fun a q=>za q rfl fun a q=>zn<|zq<|zr<|zm q rfl fun a q=>zm q rfl fun a q=>zl q (r_len_R underlying31 hs_44 q rfl) fun a q=>zl q (r_ibin q rfl rfl rfl) fun a q=>za q rfl fun a q=>zn<|zq<|zr<|zm q rfl fun a q=>zl q (r_ibin q rfl rfl rfl) fun a q=>zn ?_
 refine wp_cond_split (q.ev rfl) (fun (hb_46 : (decide ((IntKind.i64.wrap (x_16 + (y_34.length : Int))) < 0)) = true)=>?_) fun hb_46=>?_
 rw [ifb_t hb_46] at H
 refine zr ?_
 cases H
 rw [ifb_f hb_46] at H
 refine wp_skip<|zr<|zl q (r_ibin q rfl rfl rfl) fun a q=>zm q rfl fun a q=>zn ?_
 exact ⟨_,Nat.lt_succ_self _,(IntKind.i64.wrap (x_16 + (y_34.length : Int))),(IntKind.i64.wrap (x_17 + 1)),H,q.sub (zc (zc (zc (zc (zc zz))))),s⟩
 rw [ifb_f hb_33] at H
 refine wp_exit ?_
 refine zq<|zr<|zm q rfl fun a q=>?_
 obtain ⟨y_47,h_48,H⟩:=bs H
 refine sl_call call58 q (by decide) rfl rfl rfl (slices_Grow_api_Value_api_Value.calls ([] : List api_Value) x_16 (lentOf_sub [] _) s.sub (SlR.nil ty_api_Value _) h_48) fun a v_ w hv_ q=>?_
 obtain ⟨R_49,v_52,cs_53,hv_,hr_,hl_50,hq_54⟩:=hv_
 have hv_:=hv_.symm
 subst hv_
 obtain ⟨s,hl_50⟩:=s.sp0.back hr_ hl_50
 have s:=s.un1
 have hRL:=hRL.trans hl_50
 refine za q rfl fun a q=>zn<|zq<|zq<|zr<|zm q rfl fun a q=>zl q (r_len_R underlying39 h0_0 q rfl) fun a q=>zm q rfl fun a q=>zn ?_
 refine wp_block ?_
 refine wp_loop_k (fun k_l1 a w=>∃ (x_75 : List api_Value) (x_79 : Int) (v_76 : Value) (cs_77 : List Value),slices_Concat_api_Value_api_Value.l1 a0 k_l1 x_75 x_79 = some r ∧ Reps ty_api_Value R_49 cs_77 x_75 ∧ Kn 36 a [(6,v_76),(25,v0_0),(26,I6 (a0.length : Int)),(27,I6 x_79)] ∧ St [] w0 w R_49 [.row 58 11 v_76 x_75.length cs_77]) (((a0.length : Int) - 0).toNat + 1) ?_ ?_
 exact ⟨y_47,0,_,_,H,hq_54,q.sub (zc (zc (zc (zc zz)))),s⟩
 rintro k_l1 a w ⟨x_75,x_79,v_76,cs_77,H,hq_78,q,s⟩
 rcases k_l1 with _ | k_l1
 cases H
 rw [slices_Concat_api_Value_api_Value.l1.eq_2] at H
 refine zq<|zr<|zl q (r_ibin q rfl rfl rfl) fun a q=>zn<|zq ?_
 refine wp_cond_split (q.ev rfl) (fun (hb_99 : (decide (x_79 < (a0.length : Int))) = true)=>?_) fun hb_99=>?_
 rw [ifb_t hb_99] at H
 refine wp_skip<|zq ?_
 refine wp_block ?_
 refine zq<|zr ?_
 obtain ⟨y_100,h_101,H⟩:=bs H
 obtain ⟨b_102,o_103,c_104,cs_105,hv_106,hr_107,hc_108,h_1010,h_1011⟩:=h0_0.ix h_101
 obtain ⟨v_109,rfl,hs_110⟩:=hr_107
 refine zl q (r_indexAddr_R underlying39 sizeOf31 hv_106 h_1010 h_1011 q rfl rfl) fun a q=>zl q (r_load isAgg31 q rfl ((s.ra hRA nil_not).cell (hc_108 0 _ rfl))) fun a q=>za q rfl fun a q=>zn<|zr<|zm q rfl fun a q=>zm q rfl fun a q=>?_
 obtain ⟨y_111,h_112,H⟩:=bs H
 refine sl_append_A elT31 (by decide) rfl (fun _ _ _ _ h=>h) (s.ra hRA nil_not) hq_78 rfl hs_110 h_112 s q (by decide) rfl rfl rfl fun a w v_113 cs_114 hq_115 s q=>?_
 refine za q rfl fun a q=>zn<|zr<|zl q (r_ibin q rfl rfl rfl) fun a q=>zm q rfl fun a q=>zn ?_
 exact ⟨_,Nat.lt_succ_self _,y_111,(IntKind.i64.wrap (x_79 + 1)),_,_,H,hq_115,q.sub (zc (zc (zc (zc zz)))),s⟩
 rw [ifb_f hb_99] at H
 refine wp_exit ?_
 refine zq<|zr<|zm q rfl fun a q=>za q rfl fun a q=>zn ?_
 obtain rfl:=Option.some.inj H
 refine wp_ret ?_
 repeat first | refine zt ?_ | refine zb ?_ | refine zo ?_
 exact ret_1 results34 q (rv_tmp q rfl) ⟨_,rfl,_,_,_,rfl,s,hRL,hq_78⟩
theorem internal_bytealg_CompareString.calls (a0 : ByteArray) (a1 : ByteArray) {r : Int} (H : internal_bytealg_CompareString a0 a1 = some r) (w0 : World) : CallsV prog 127 #[.string a0,.string a1] w0 (I6 r):=by
 unfold internal_bytealg_CompareString at H
 refine enter (args:=[.string a0,.string a1]) func127 rfl ntmps127 rfl fun a q=>?_
 have s:=St.init (R:=fun _=>none) (w:=w0) (fun _ _ h=>by cases h)
 have hRL:=RLe.refl (M:=[]) w0 (fun _=>none)
 refine zq<|zr<|za q rfl fun a q=>zn<|zq<|zr<|zm q rfl fun a q=>zm q rfl fun a q=>zl q (r_ext (ext136 a0 a1 _) q rfl rfl) fun a q=>za q rfl fun a q=>zn ?_
 obtain rfl:=Option.some.inj H
 refine wp_ret ?_
 repeat first | refine zt ?_ | refine zb ?_ | refine zo ?_
 exact ret_1 results127 q (rv_tmp q rfl) ⟨rfl,s.bel⟩
theorem strings_Compare.calls (a0 : ByteArray) (a1 : ByteArray) {r : Int} (H : strings_Compare a0 a1 = some r) (w0 : World) : CallsV prog 115 #[.string a0,.string a1] w0 (I6 r):=by
 unfold strings_Compare at H
 refine enter (args:=[.string a0,.string a1]) func115 rfl ntmps115 rfl fun a q=>?_
 have s:=St.init (R:=fun _=>none) (w:=w0) (fun _ _ h=>by cases h)
 have hRL:=RLe.refl (M:=[]) w0 (fun _=>none)
 refine zq<|zr<|za q rfl fun a q=>zn<|zq<|zr<|zm q rfl fun a q=>zm q rfl fun a q=>?_
 obtain ⟨y_1,h_2,H⟩:=bs H
 refine sl_callV call127 s q (by decide) rfl rfl rfl (internal_bytealg_CompareString.calls a0 a1 h_2 _) fun a w s q=>?_
 refine za q rfl fun a q=>zn ?_
 obtain rfl:=Option.some.inj H
 refine wp_ret ?_
 repeat first | refine zt ?_ | refine zb ?_ | refine zo ?_
 exact ret_1 results115 q (rv_tmp q rfl) ⟨rfl,s.bel⟩
end Go.Proofs.YtchgiggipimigaaGreatDoor.M
end
